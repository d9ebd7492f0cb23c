/- Walks that show what functions of the program compute; printed by a program of ours. No condition. -/
import Derived.Test.YtaoclefkknloiaaGreatZvD
import Derived.Test.YtaoclefkknloiaaGreatZvB3
set_option maxRecDepth 100000
namespace Go.Proofs.YtaoclefkknloiaaGreat
open Go.Aw
set_option linter.unusedVariables false
set_option linter.unusedSimpArgs false
set_option maxHeartbeats 4000000
abbrev qX : PL := .act 7 (.still 8 (.act 11 (sl 3 12 (.act 15 (.act 16 (.still 17 (.drop 18 .nil)))))))
theorem Uy (a : Sg) (b : Int) (r : Int × Int) (h : Bn a b = r) : ACalls Ak 135 [.agg (Ar a), .V b] [] (RV (.tup [.V r.1, .V r.2])) := by
 refine Ag Tryz.func135 I I I fun C hC => ?_
 refine Ab fun e c => tX (tZ [] I (Cf (Ar a) 7 fun f => Af 2 I (tY ?_)))
 subst c
 refine uD (Ai I (Ao h I ?_ ?_))
 intro d h
 refine Me (pd 6 0 []) [0] [_] [.o 1 0, .o 3 0] I I J2 (uF g0 ?_)
 obtain rfl := h
 exact uE ⟨.inr I, [_, _], [], J2, B0, I2⟩
 intro d h
 refine uA (Me (pd 6 0 []) [0] [_] [.o 1 0, .o 3 0] I I J2 (uF g0 ?_))
 obtain rfl := h
 exact uE ⟨.inr I, [_, _], [], J2, B0, I2⟩
theorem Vc (a : Int) (b : Int) (r : Bool) (h : Nv a b = r) : ACalls Ak 132 [.V a, .V b] [] (RB r) := by
 refine Ag Tryz.func132 I I I fun C hC => ?_
 unfold Nv at h
 refine Ai I (Aj (fun s ob => s = [(4, .v (.bool (decide (a ≥ (wr (0 - b))) && decide (a ≤ b))))] ∧ ob = []) [] J ?_ ?_)
 refine tX (Af 5 I ?_)
 rcases bt (decide (a ≥ (wr (0 - b)))) with c | c
 refine Ah 9 I c (Af 5 I (tY ?_))
 exact lf I2 ⟨(Dn (by simp only [c, bz])), J⟩ [] I
 refine Ah 9 I c (Af 5 I (tY ?_))
 exact lf I2 ⟨(Dn (by simp only [c, bz])), J⟩ [] I
 rintro s ob ⟨rfl, rfl⟩
 obtain rfl := h
 exact uE pr
theorem Vw (e : Int) (b : Int) (r : Int) (h : R1 e b = some r) : ACalls Ak 44 [.V e, .V b] [] (RV (.V r)) := by
 refine Ag Tryz.func44 I I I fun C hC => ?_
 refine Ai I (Ab fun m g => Ai I (Ao h I ?_ ?_))
 intro i h
 refine Ai I ?_
 cases io h
 exact uE pr
 intro i h
 refine uA ?_
 subst g
 refine Ab fun n j => ?_
 obtain ⟨a, k, h⟩ := Ac h
 refine Gd [.f 2 (.V a)] I ⟨uS (Ga (c := a) I I (Yn k)), J⟩ ?_
 subst j
 refine Aj (fun s ob => ∃ (d : Int), R1.J1 d = some r ∧ s = [(0, .V d)] ∧ ob = []) [] J ?_ ?_
 refine Ai I (Ao h I ?_ ?_)
 intro l h
 exact Lj I (lg ⟨wr (a + b), h, I2⟩ [])
 intro l h
 exact uA (lg ⟨a, h, I2⟩ [])
 rintro s ob ⟨d, h, rfl, rfl⟩
 unfold R1.J1 at h
 refine Ai I ?_
 cases io h
 exact uE pr
theorem Dt (a : Int) (c : Int) (d : Int) (r : Bool) (h : Dl a c d = r) : ACalls Ak 117 [.V a, .V c, .V d] [] (RB r) := by
 refine Ag Tryz.func117 I I I fun C hC => ?_
 unfold Dl at h
 refine Ai I (Aj (fun s ob => s = [(6, .v (.bool (decide (a ≥ c) && decide (a ≤ d))))] ∧ ob = []) [] J ?_ ?_)
 refine tX (Af 4 I ?_)
 rcases bt (decide (a ≥ c)) with b | b
 refine Ah 10 I b (Af 5 I (tY ?_))
 exact lf I2 ⟨(Dn (by simp only [b, bz])), J⟩ [] I
 refine Ah 10 I b (Af 5 I (tY ?_))
 exact lf I2 ⟨(Dn (by simp only [b, bz])), J⟩ [] I
 rintro s ob ⟨rfl, rfl⟩
 obtain rfl := h
 exact uE pr
theorem Pb (a : Int) (r : Int) (h : Gp a = r) : ACalls Ak 59 [.V a] [] (RV (.V r)) := by
 refine Ag Tryz.func59 I I I fun C hC => ?_
 unfold Gp at h
 refine Ai I (Ai I ?_)
 obtain rfl := h
 exact uE pr
theorem gD (a : List Bt) (d : Bt) (r : Int) (h : Qw a d = some r) : ACalls Ak 109 [Q1 a, .v (.string d)] [] (RV (.V r)) := by
 refine Ag Tryz.func109 I I I fun C hC => ?_
 unfold Qw at h
 refine Ai I (Aj (fun s ob => ∃ (e : Unit), Qw.J1 e = some r ∧ s = [] ∧ ob = []) [] J ?_ ?_)
 refine Bg [.l 1 (a.length : Int)] I ⟨A4, J⟩ (uB (Cg 6 I fun m => ?_))
 obtain ⟨A, n, f⟩ := Ac h
 refine Cj n (K3 0 1 7) J3 (fun (b : Nat) (g : Unit) s ob => s = [(8, .V (b : Int))] ∧ ob = []) ⟨I, I⟩ ⟨I, J⟩ (pk []) ?_ ?_
 rintro b i g B s ob o j ⟨rfl, rfl⟩ h q
 have t := Cr j
 refine Ai I (Ab fun D u => Bq I t (uA ?_))
 subst u
 refine uD (uB (Ai I (uD (tX (Am 5 [.x 3 b (rS i)] I ⟨⟨I, Ae o⟩, J⟩ (uK (Yp.cmpS (c := Xz d i) I I I) I (tY (Ao h I ?_ ?_))))))))
 intro w h
 refine Ai I ?_
 obtain rfl := q _ (oi h).symm
 have h := f
 have h := Dj h
 cases io h
 exact uE pr
 intro w h
 refine uA (tX (Am 2 [.k 0 (b + 1 : Nat)] I ⟨A6 j m, J⟩ ?_))
 cases io h
 exact tY ⟨_, _, _, I, I2, J4, pk []⟩
 rintro g s ob ⟨rfl, rfl⟩ he
 subst he
 have h := Dk f
 have y := Cs a.length
 exact Ai I (Ab fun E F => Br I y (uG (lg ⟨(), h, I2⟩ [])))
 rintro s ob ⟨e, h, rfl, rfl⟩
 unfold Qw.J1 at h
 refine Ai I ?_
 cases io h
 exact uE pr
theorem jI (a : Li) (F1 : T) {c : FuncId} {d e : List T} (o : Kw F1 = some (c, d, e)) (f : Int → Option Bool) (p : ∀ (g : Int) r, f g = some r → ACalls Ak c (d ++ [.V g] ++ e) [] (RB r)) (r : Int) (h : R7 a f = some r) : ACalls Ak 122 [Q0 a, F1] [] (RV (.V r)) := by
 refine Ag Tryz.func122 I I I fun C hC => ?_
 unfold R7 at h
 refine Ai I (Aj (fun s ob => ∃ (i : Unit), R7.J1 i = some r ∧ s = [] ∧ ob = []) [] J ?_ ?_)
 refine Bg [.l 1 (a.length : Int)] I ⟨A4, J⟩ (uB (Cg 6 I fun q => ?_))
 obtain ⟨G, t, j⟩ := Ac h
 refine Cj t (K3 0 1 7) J3 (fun (b : Nat) (m : Unit) s ob => s = [(8, .V (b : Int))] ∧ ob = []) ⟨I, I⟩ ⟨I, J⟩ (pk []) ?_ ?_
 rintro b u m H s ob w n ⟨rfl, rfl⟩ h y
 have A := Cr n
 refine Ai I (Ab fun K B => Bq I A (uA ?_))
 subst B
 refine uD (uB (Ai I (uD ?_)))
 obtain ⟨M, D, h⟩ := Ac h
 refine tX (Am 5 [.x 3 b (rI u)] I ⟨⟨I, Ae w⟩, J⟩ (tZ [] I (Dv I (.refl _) o I (.rest _) I (p _ _ D) dS (by rintro _ _ ⟨rfl, _⟩; rfl) ?_)))
 rintro _ ⟨_, rfl, -⟩
 refine tY (Ao h I ?_ ?_)
 intro E h
 refine Ai I ?_
 obtain rfl := y _ (oi h).symm
 have h := j
 have h := Dj h
 cases io h
 exact uE pr
 intro E h
 refine uA (tX (Am 2 [.k 0 (b + 1 : Nat)] I ⟨A6 n q, J⟩ ?_))
 cases io h
 exact tY ⟨_, _, _, I, I2, J4, pk []⟩
 rintro m s ob ⟨rfl, rfl⟩ he
 subst he
 have h := Dk j
 have F := Cs a.length
 exact Ai I (Ab fun N O => Br I F (uG (lg ⟨(), h, I2⟩ [])))
 rintro s ob ⟨i, h, rfl, rfl⟩
 unfold R7.J1 at h
 refine Ai I ?_
 cases io h
 exact uE pr
theorem Pa (b : Li) (F1 : T) {d : FuncId} {e f : List T} (i : Kw F1 = some (d, e, f)) (a : Int → Option Bool) (j : ∀ (g : Int) r, a g = some r → ACalls Ak d (e ++ [.V g] ++ f) [] (RB r)) (r : Bool) (h : Jk b a = some r) : ACalls Ak 93 [Q0 b, F1] [] (RB r) := by
 refine Ag Tryz.func93 I I I fun C hC => ?_
 refine Ai I (uD ?_)
 obtain ⟨l, k, h⟩ := Ac h
 refine tX (Af 2 I (uJ (jI _ F1 i a j _ k) (Af 2 I (tY ?_))))
 cases io h
 exact uE pr
theorem gG (a : List Bt) (F1 : T) {c : FuncId} {d e : List T} (o : Kw F1 = some (c, d, e)) (f : Bt → Option Bool) (p : ∀ (g : Bt) r, f g = some r → ACalls Ak c (d ++ [.v (.string g)] ++ e) [] (RB r)) (r : Int) (h : Qx a f = some r) : ACalls Ak 107 [Q1 a, F1] [] (RV (.V r)) := by
 refine Ag Tryz.func107 I I I fun C hC => ?_
 unfold Qx at h
 refine Ai I (Aj (fun s ob => ∃ (i : Unit), Qx.J1 i = some r ∧ s = [] ∧ ob = []) [] J ?_ ?_)
 refine Bg [.l 1 (a.length : Int)] I ⟨A4, J⟩ (uB (Cg 6 I fun q => ?_))
 obtain ⟨G, t, j⟩ := Ac h
 refine Cj t (K3 0 1 7) J3 (fun (b : Nat) (m : Unit) s ob => s = [(8, .V (b : Int))] ∧ ob = []) ⟨I, I⟩ ⟨I, J⟩ (pk []) ?_ ?_
 rintro b u m H s ob w n ⟨rfl, rfl⟩ h y
 have A := Cr n
 refine Ai I (Ab fun K B => Bq I A (uA ?_))
 subst B
 refine uD (uB (Ai I (uD ?_)))
 obtain ⟨M, D, h⟩ := Ac h
 refine tX (Am 5 [.x 3 b (rS u)] I ⟨⟨I, Ae w⟩, J⟩ (tZ [] I (Dv I (.refl _) o I (.rest _) I (p _ _ D) dS (by rintro _ _ ⟨rfl, _⟩; rfl) ?_)))
 rintro _ ⟨_, rfl, -⟩
 refine tY (Ao h I ?_ ?_)
 intro E h
 refine Ai I ?_
 obtain rfl := y _ (oi h).symm
 have h := j
 have h := Dj h
 cases io h
 exact uE pr
 intro E h
 refine uA (tX (Am 2 [.k 0 (b + 1 : Nat)] I ⟨A6 n q, J⟩ ?_))
 cases io h
 exact tY ⟨_, _, _, I, I2, J4, pk []⟩
 rintro m s ob ⟨rfl, rfl⟩ he
 subst he
 have h := Dk j
 have F := Cs a.length
 exact Ai I (Ab fun N O => Br I F (uG (lg ⟨(), h, I2⟩ [])))
 rintro s ob ⟨i, h, rfl, rfl⟩
 unfold Qx.J1 at h
 refine Ai I ?_
 cases io h
 exact uE pr
theorem gU (b : List Bt) (F1 : T) {d : FuncId} {e f : List T} (i : Kw F1 = some (d, e, f)) (a : Bt → Option Bool) (j : ∀ (g : Bt) r, a g = some r → ACalls Ak d (e ++ [.v (.string g)] ++ f) [] (RB r)) (r : Bool) (h : Rf b a = some r) : ACalls Ak 77 [Q1 b, F1] [] (RB r) := by
 refine Ag Tryz.func77 I I I fun C hC => ?_
 refine Ai I (uD ?_)
 obtain ⟨l, k, h⟩ := Ac h
 refine tX (Af 2 I (uJ (gG _ F1 i a j _ k) (Af 2 I (tY ?_))))
 cases io h
 exact uE pr
theorem jD (a : List Sg) (F1 : T) {c : FuncId} {d e : List T} (o : Kw F1 = some (c, d, e)) (f : Sg → Option Bool) (p : ∀ (g : Sg) r, f g = some r → ACalls Ak c (d ++ [.agg (Ar g)] ++ e) [] (RB r)) (r : Int) (h : Rz a f = some r) : ACalls Ak 130 [Q6 a, F1] [] (RV (.V r)) := by
 refine Ag Tryz.func130 I I I fun C hC => ?_
 unfold Rz at h
 refine Ai I (Aj (fun s ob => ∃ (i : Unit), Rz.J1 i = some r ∧ s = [] ∧ ob = []) [] J ?_ ?_)
 refine Bg [.l 1 (a.length : Int)] I ⟨A4, J⟩ (uB (Cg 6 I fun q => ?_))
 obtain ⟨G, t, j⟩ := Ac h
 refine Cj t (K3 0 1 7) J3 (fun (b : Nat) (m : Unit) s ob => s = [(8, .V (b : Int))] ∧ ob = []) ⟨I, I⟩ ⟨I, J⟩ (pk []) ?_ ?_
 rintro b u m H s ob w n ⟨rfl, rfl⟩ h y
 have A := Cr n
 refine Ai I (Ab fun K B => Bq I A (uA ?_))
 subst B
 refine uD (uB (Ai I (uD ?_)))
 obtain ⟨M, D, h⟩ := Ac h
 refine tX (Am 5 [.x 3 b (Ar u)] I ⟨⟨I, Ae w⟩, J⟩ (tZ [] I (Dv I (.refl _) o I (.rest _) I (p _ _ D) dS (by rintro _ _ ⟨rfl, _⟩; rfl) ?_)))
 rintro _ ⟨_, rfl, -⟩
 refine tY (Ao h I ?_ ?_)
 intro E h
 refine Ai I ?_
 obtain rfl := y _ (oi h).symm
 have h := j
 have h := Dj h
 cases io h
 exact uE pr
 intro E h
 refine uA (tX (Am 2 [.k 0 (b + 1 : Nat)] I ⟨A6 n q, J⟩ ?_))
 cases io h
 exact tY ⟨_, _, _, I, I2, J4, pk []⟩
 rintro m s ob ⟨rfl, rfl⟩ he
 subst he
 have h := Dk j
 have F := Cs a.length
 exact Ai I (Ab fun N O => Br I F (uG (lg ⟨(), h, I2⟩ [])))
 rintro s ob ⟨i, h, rfl, rfl⟩
 unfold Rz.J1 at h
 refine Ai I ?_
 cases io h
 exact uE pr
theorem Ut (b : List Sg) (F1 : T) {d : FuncId} {e f : List T} (i : Kw F1 = some (d, e, f)) (a : Sg → Option Bool) (j : ∀ (g : Sg) r, a g = some r → ACalls Ak d (e ++ [.agg (Ar g)] ++ f) [] (RB r)) (r : Bool) (h : Nn b a = some r) : ACalls Ak 105 [Q6 b, F1] [] (RB r) := by
 refine Ag Tryz.func105 I I I fun C hC => ?_
 refine Ai I (uD ?_)
 obtain ⟨l, k, h⟩ := Ac h
 refine tX (Af 2 I (uJ (jD _ F1 i a j _ k) (Af 2 I (tY ?_))))
 cases io h
 exact uE pr
theorem gM (a : List Port) (F1 : T) {c : FuncId} {d e : List T} (o : Kw F1 = some (c, d, e)) (f : Port → Option Bool) (p : ∀ (g : Port) r, f g = some r → ACalls Ak c (d ++ [.agg (Ca g)] ++ e) [] (RB r)) (r : Int) (h : Q9 a f = some r) : ACalls Ak 131 [Q4 a, F1] [] (RV (.V r)) := by
 refine Ag Tryz.func131 I I I fun C hC => ?_
 unfold Q9 at h
 refine Ai I (Aj (fun s ob => ∃ (i : Unit), Q9.J1 i = some r ∧ s = [] ∧ ob = []) [] J ?_ ?_)
 refine Bg [.l 1 (a.length : Int)] I ⟨A4, J⟩ (uB (Cg 6 I fun q => ?_))
 obtain ⟨G, t, j⟩ := Ac h
 refine Cj t (K3 0 1 7) J3 (fun (b : Nat) (m : Unit) s ob => s = [(8, .V (b : Int))] ∧ ob = []) ⟨I, I⟩ ⟨I, J⟩ (pk []) ?_ ?_
 rintro b u m H s ob w n ⟨rfl, rfl⟩ h y
 have A := Cr n
 refine Ai I (Ab fun K B => Bq I A (uA ?_))
 subst B
 refine uD (uB (Ai I (uD ?_)))
 obtain ⟨M, D, h⟩ := Ac h
 refine tX (Am 5 [.x 3 b (Ca u)] I ⟨⟨I, Ae w⟩, J⟩ (tZ [] I (Dv I (.refl _) o I (.rest _) I (p _ _ D) dS (by rintro _ _ ⟨rfl, _⟩; rfl) ?_)))
 rintro _ ⟨_, rfl, -⟩
 refine tY (Ao h I ?_ ?_)
 intro E h
 refine Ai I ?_
 obtain rfl := y _ (oi h).symm
 have h := j
 have h := Dj h
 cases io h
 exact uE pr
 intro E h
 refine uA (tX (Am 2 [.k 0 (b + 1 : Nat)] I ⟨A6 n q, J⟩ ?_))
 cases io h
 exact tY ⟨_, _, _, I, I2, J4, pk []⟩
 rintro m s ob ⟨rfl, rfl⟩ he
 subst he
 have h := Dk j
 have F := Cs a.length
 exact Ai I (Ab fun N O => Br I F (uG (lg ⟨(), h, I2⟩ [])))
 rintro s ob ⟨i, h, rfl, rfl⟩
 unfold Q9.J1 at h
 refine Ai I ?_
 cases io h
 exact uE pr
theorem iS (b : List Port) (F1 : T) {d : FuncId} {e f : List T} (i : Kw F1 = some (d, e, f)) (a : Port → Option Bool) (j : ∀ (g : Port) r, a g = some r → ACalls Ak d (e ++ [.agg (Ca g)] ++ f) [] (RB r)) (r : Bool) (h : Ru b a = some r) : ACalls Ak 115 [Q4 b, F1] [] (RB r) := by
 refine Ag Tryz.func115 I I I fun C hC => ?_
 refine Ai I (uD ?_)
 obtain ⟨l, k, h⟩ := Ac h
 refine tX (Af 2 I (uJ (gM _ F1 i a j _ k) (Af 2 I (tY ?_))))
 cases io h
 exact uE pr
theorem Ur (a : List Sn) (F1 : T) {c : FuncId} {d e : List T} (o : Kw F1 = some (c, d, e)) (f : Sn → Option Bool) (p : ∀ (g : Sn) r, f g = some r → ACalls Ak c (d ++ [.agg (Bu g)] ++ e) [] (RB r)) (r : Int) (h : Nl a f = some r) : ACalls Ak 110 [Q5 a, F1] [] (RV (.V r)) := by
 refine Ag Tryz.func110 I I I fun C hC => ?_
 unfold Nl at h
 refine Ai I (Aj (fun s ob => ∃ (i : Unit), Nl.J1 i = some r ∧ s = [] ∧ ob = []) [] J ?_ ?_)
 refine Bg [.l 1 (a.length : Int)] I ⟨A4, J⟩ (uB (Cg 6 I fun q => ?_))
 obtain ⟨G, t, j⟩ := Ac h
 refine Cj t (K3 0 1 7) J3 (fun (b : Nat) (m : Unit) s ob => s = [(8, .V (b : Int))] ∧ ob = []) ⟨I, I⟩ ⟨I, J⟩ (pk []) ?_ ?_
 rintro b u m H s ob w n ⟨rfl, rfl⟩ h y
 have A := Cr n
 refine Ai I (Ab fun K B => Bq I A (uA ?_))
 subst B
 refine uD (uB (Ai I (uD ?_)))
 obtain ⟨M, D, h⟩ := Ac h
 refine tX (Am 5 [.x 3 b (Bu u)] I ⟨⟨I, Ae w⟩, J⟩ (tZ [] I (Dv I (.refl _) o I (.rest _) I (p _ _ D) dS (by rintro _ _ ⟨rfl, _⟩; rfl) ?_)))
 rintro _ ⟨_, rfl, -⟩
 refine tY (Ao h I ?_ ?_)
 intro E h
 refine Ai I ?_
 obtain rfl := y _ (oi h).symm
 have h := j
 have h := Dj h
 cases io h
 exact uE pr
 intro E h
 refine uA (tX (Am 2 [.k 0 (b + 1 : Nat)] I ⟨A6 n q, J⟩ ?_))
 cases io h
 exact tY ⟨_, _, _, I, I2, J4, pk []⟩
 rintro m s ob ⟨rfl, rfl⟩ he
 subst he
 have h := Dk j
 have F := Cs a.length
 exact Ai I (Ab fun N O => Br I F (uG (lg ⟨(), h, I2⟩ [])))
 rintro s ob ⟨i, h, rfl, rfl⟩
 unfold Nl.J1 at h
 refine Ai I ?_
 cases io h
 exact uE pr
theorem gA (b : List Sn) (F1 : T) {d : FuncId} {e f : List T} (i : Kw F1 = some (d, e, f)) (a : Sn → Option Bool) (j : ∀ (g : Sn) r, a g = some r → ACalls Ak d (e ++ [.agg (Bu g)] ++ f) [] (RB r)) (r : Bool) (h : Qv b a = some r) : ACalls Ak 118 [Q5 b, F1] [] (RB r) := by
 refine Ag Tryz.func118 I I I fun C hC => ?_
 refine Ai I (uD ?_)
 obtain ⟨l, k, h⟩ := Ac h
 refine tX (Af 2 I (uJ (Ur _ F1 i a j _ k) (Af 2 I (tY ?_))))
 cases io h
 exact uE pr
theorem fN (a : Sg) (r : Bool) (h : Ll a = r) : ACalls Ak 106 [.agg (Ar a)] [] (RB r) := by
 refine Ag Tryz.func106 I I I fun C hC => ?_
 unfold Ll at h
 refine Ab fun d c => tX (tZ [] I (Cf (Ar a) 7 fun e => Af 1 I (tY ?_)))
 subst c
 refine Aj (fun s ob => s = [(2, .v (.bool (decide ((a.Points.length : Int) < 2) || decide ((a.Points.length : Int) > 8))))] ∧ ob = []) [] J ?_ ?_
 refine tX (Am 5 [.o 1 0, .l 2 (a.Points.length : Int)] I ⟨A4, I, J⟩ ?_)
 rcases bt (decide ((a.Points.length : Int) < 2)) with b | b
 refine Ah 7 I b (Af 6 I (tY ?_))
 exact lf I2 ⟨(Dn (by simp only [b, bz])), J⟩ [] I
 refine Ah 7 I b (Am 6 [.o 1 0, .l 2 (a.Points.length : Int)] I ⟨A4, I, J⟩ (tY ?_))
 exact lf I2 ⟨(Dn (by simp only [b, bz])), J⟩ [] I
 rintro s ob ⟨rfl, rfl⟩
 obtain rfl := h
 exact uE pr
theorem gO (a : Nw) (r : Bool) (h : Rb a = some r) : ACalls Ak 75 [.agg (Ad a)] [] (RB r) := by
 refine Ag Tryz.func75 I I I fun C hC => ?_
 unfold Rb at h
 refine Ab fun k g => tX (tZ [] I (Cf (Ad a) 6 fun n => Af 1 I (tY ?_)))
 subst g
 refine uD (Ea 30 (decide ((a.Nodes.length : Int) < 1) || (decide ((a.Nodes.length : Int) > 24) || (decide ((a.Segments.length : Int) > 32) || (decide ((a.Ports.length : Int) > 24) || decide ((a.Stations.length : Int) > 12))))) ?_ ?_)
 refine tX (Am 5 [.o 1 0, .l 2 (a.Nodes.length : Int)] I ⟨A4, I, J⟩ ?_)
 rcases bt (decide ((a.Nodes.length : Int) < 1)) with b | b
 exact Ah 7 I b (Af 23 I (tY (jf (by simp only [b, bz]) I I I2)))
 refine Ah 7 I b (Am 6 [.o 1 0, .l 2 (a.Nodes.length : Int)] I ⟨A4, I, J⟩ ?_)
 rcases bt (decide ((a.Nodes.length : Int) > 24)) with d | d
 exact Ah 13 I d (Af 17 I (tY (jf (by simp only [b, d, bz]) I I I2)))
 refine Ah 13 I d (Am 6 [.o 1 0, .l 2 (a.Segments.length : Int)] I ⟨A4, I, J⟩ ?_)
 rcases bt (decide ((a.Segments.length : Int) > 32)) with e | e
 exact Ah 19 I e (Af 11 I (tY (jf (by simp only [b, d, e, bz]) I I I2)))
 refine Ah 19 I e (Am 6 [.o 1 0, .l 2 (a.Ports.length : Int)] I ⟨A4, I, J⟩ ?_)
 rcases bt (decide ((a.Ports.length : Int) > 24)) with f | f
 exact Ah 25 I f (Af 5 I (tY (jf (by simp only [b, d, e, f, bz]) I I I2)))
 exact Ah 25 I f (Am 5 [.o 1 0, .l 2 (a.Stations.length : Int)] I ⟨A4, I, J⟩ (tY (jf (by simp only [b, d, e, f, bz]) I I I2)))
 refine Ao h I ?_ ?_
 intro i h
 refine Ai I (uF g0 ?_)
 cases io h
 exact uE pr
 intro i h
 refine uA (uD ?_)
 obtain ⟨p, j, h⟩ := Ac h
 refine tX (Am 2 [.o 1 0] I J1 (uJ (Ut _ (.v (.func (.func 106) #[] #[])) I (fun x => some (Ll x)) (fun x r h => by obtain I := oi h; exact fN x _ I) _ j) (Af 2 I (tY (uF g0 ?_)))))
 cases io h
 exact uE pr
theorem Uz (b : Nw) (g : Plan) (r : Li) (h : Hm b g = some r) : ACalls Ak 121 [.agg (Ad b), .agg (Aq g)] [] (fun x new => ∃ (P : Value), x = .v P ∧ new = [U0 P r]) := by
 refine Ag Tryz.func121 I I I fun C hC => ?_
 refine Ab fun y1 ab => tX (tZ [] I (Cf (Ad b) 6 fun n => tZ [] I (Cf (Aq g) 3 fun p => Af 1 I (tY ?_))))
 subst ab
 refine AW.scope (Ai I (Ab fun y5 ac => ?_))
 obtain ⟨l6, ⟨m8, ad, ae, af⟩, h⟩ := I9 h
 refine tX (Am 3 [.o 1 0, .l 2 (b.Nodes.length : Int)] I ⟨A4, I, J⟩ (tZ [] I (D1 (sz := 1) I I I I I I I I I I ad ae (Mj (f := rB) af I) dS fun u => Af 1 I (tY ?_))))
 subst ac
 refine Ab fun ba ag => AW.label ?_
 subst ag
 refine Aj (fun s ob => ∃ (E : Li) (w : Value), Hm.J1 E = some r ∧ s = [(5, .v w)] ∧ ob = [U0 w E]) [] J ?_ ?_
 refine Ai I (uB (uF (Az 3 1) ?_))
 obtain ⟨bb, ah, ai⟩ := Ac h
 refine Ci ah (K3 2 3 6) J3 (fun (a : Li × (List Bool) × Int) s ob => ∃ (e : Value), s = [(5, .v e), (7, .V a.2.2)] ∧ ob = [O0 n [Ad b], O1 p [Aq g], U4 u a.2.1, U0 e a.1]) ⟨nS, I2⟩ ⟨I, I, J⟩ (pk N4) ?_
 rintro a Q s ob ⟨e, rfl, rfl⟩ h aj
 refine Ab fun bc ak => Bg [.o 2 0, .l 3 (b.Nodes.length : Int)] I ⟨A4, I, J⟩ (Ao h I ?_ ?_)
 intro al h
 refine uA ?_
 subst ak
 refine Aj (fun s ob => ∃ (A : Li × (List Bool) × Int) (F : Value), Hm.J3 A = some Q ∧ s = [(5, .v F), (7, .V A.2.2)] ∧ ob = [O0 n [Ad b], O1 p [Aq g], U4 u A.2.1, U0 F A.1]) (K3 2 3 6) J3 ?_ ?_
 refine uB (Ab fun bd am => uD ?_)
 obtain ⟨i, ⟨R, G⟩, h⟩ := A5 h
 refine tX (Af 2 I (uI (Bc 2 (m := i.1) I I I I I I I R (Ae G)) I (uI (Ay 2 i.1 0 I I I (Ae G) I (y := .v (.bool i.2)) I) I (tY (Ao h I ?_ ?_)))))
 intro an h
 exact uG (lg ⟨(a.1, a.2.1, a.2.2), e, h, I2⟩ N4)
 intro an h
 refine uA ?_
 subst am
 refine Aj (fun s ob => ∃ (S : Unit), Hm.J4 a i S = some Q ∧ s = [] ∧ ob = [O0 n [Ad b], O1 p [Aq g], U4 u a.2.1, U0 e a.1]) (K5 2 3 5 6 7) J5 ?_ ?_
 refine Bg [.o 1 0, .l 2 (b.Segments.length : Int)] I ⟨A4, I, J⟩ (uB (Cg 28 I fun ao => ?_))
 obtain ⟨be, aq, U⟩ := Ac h
 refine Cj aq (K7 2 3 5 6 7 28 29) J7 (fun (H : Nat) (W : Unit) s ob => s = [(30, .V (H : Int))] ∧ ob = [O0 n [Ad b], O1 p [Aq g], U4 u a.2.1, U0 e a.1]) ⟨I, I⟩ ⟨I, J⟩ (pk N4) ?_ ?_
 rintro H K W ar s ob au X ⟨rfl, rfl⟩ h av
 have aw := Cr X
 refine Ai I (Ab fun bf ax => Bq I aw (uA ?_))
 subst ax
 refine uD (uB (Ab fun bg ay => tX (Am 3 [.x 1 H (Ar K)] I ⟨⟨I, Ae au⟩, J⟩ (tZ [] I (Bs W2 7 fun bh => Af 1 I (tZ [4] I (Bj 4 0 0 [Ar K] I (tY ?_))))))))
 subst ay
 refine Ab fun bi az => ?_
 obtain ⟨j, ⟨Y, Z⟩, h⟩ := A5 h
 refine Bk (pd 12 0 [6]) [4, 1] [_, _] I (Bv 6 [.o 0 0, .o 2 1, .x 4 j.1 (rI j.2)] I ⟨⟨Y, Ae Z⟩, I, I, J⟩ (uU I (Uy K j.2 _ I) (A3 5 I (Ap (tY ?_)))))
 subst az
 refine Aj (fun s ob => ∃ (O : Bool), Hm.J6 a O = some ar ∧ s = [(62, .v (.bool O))] ∧ ob = [O0 n [Ad b], O1 p [Aq g], U4 u a.2.1, U0 e a.1]) (K8 2 3 5 6 7 28 29 30) J8 ?_ ?_
 refine tX (Am 7 [.o 1 1, .x 3 j.1 (rI j.2)] I ⟨⟨Y, Ae Z⟩, I, J⟩ ?_)
 rcases bt ((j.2 != 0)) with B | B
 have h := Cc B h
 refine Ah 51 I B ?_
 rcases bt ((((Bn K j.2).2) == a.2.2)) with D | D
 have h := Cc D h
 obtain ⟨M, ⟨a0, aa⟩, h⟩ := A5 h
 exact Af 5 I (Ah 56 I D (Af 2 I (Bx I I I (uI (Bc 2 (m := M.1) I I I I I I I a0 (Ae aa)) I (Bx I I I (uI (Ay 2 M.1 0 I I I (Ae aa) I (y := .v (.bool M.2)) I) I (Af 2 I (tY (lg ⟨(!M.2), h, I2⟩ N4)))))))))
 have h := Cd D h
 exact Af 5 I (Ah 56 I D (Af 6 I (tY (lg ⟨false, h, I2⟩ N4))))
 have h := Cd B h
 exact Ah 51 I B (Af 11 I (tY (lg ⟨false, h, I2⟩ N4)))
 rintro s ob ⟨O, h, rfl, rfl⟩
 refine Ao h I ?_ ?_
 intro a1 h
 obtain rfl := av _ (oi h).symm
 have h := U
 have h := Dj h
 exact uG (lg ⟨(a.1, a.2.1, a.2.2), e, h, I2⟩ N4)
 intro a1 h
 refine uA (tX (Am 2 [.k 0 (H + 1 : Nat)] I ⟨A6 X ao, J⟩ ?_))
 cases io h
 exact tY ⟨_, _, _, I, I2, J8, pk N4⟩
 rintro W s ob ⟨rfl, rfl⟩ he
 subst he
 have h := Dk U
 have a2 := Cs b.Segments.length
 exact Ai I (Ab fun bj bk => Br I a2 (uG (lg ⟨(), h, I2⟩ N4)))
 rintro s ob ⟨S, h, rfl, rfl⟩
 refine uD (tX (Af 2 I (uI (Bc 2 (m := i.1) I I I I I I I R (Ae G)) I (tZ [2] I (Bd 2 i.1 0 I I I (Ae G) I I I I (Ba I) I (Ce (x := true) I) (tY (uD ?_)))))))
 obtain ⟨a3, a4, h⟩ := Ac h
 exact tX (Af 2 I (tZ [] I (uH 1 (([a.2.2] : Li).map rI) (tZ [3] I (uO 3 I a4 fun a5 => Af 1 I (tY (Lj I (lg ⟨(a3, (a.2.1.set i.1 true), (-1)), a5, h, I2⟩ N4))))))))
 rintro s ob ⟨A, F, h, rfl, rfl⟩
 unfold Hm.J3 at h
 refine tX (Af 3 I ?_)
 cases io h
 exact tY ⟨_, _, _, I, ⟨F, I2⟩, J5, pk N4⟩
 intro al h
 obtain rfl := aj _ (oi h).symm
 have h := ai
 exact uG (lg ⟨a.1, e, h, I2⟩ [3])
 rintro s ob ⟨E, w, h, rfl, rfl⟩
 refine Ai I ?_
 obtain rfl := oi h
 exact uE ⟨.inr I, [_], [U0 w E], J1, Cb I (B0), ⟨w, I2⟩⟩
theorem Vn (a : Int) (r : Int) (h : Jq a = r) : ACalls Ak 108 [.v (.int .u8 a)] [] (RV (.V r)) := by
 refine Ag Tryz.func108 I I I fun C hC => ?_
 unfold Jq at h
 refine Ai I (uD (uB (Aj (fun s ob => ∃ (e : Unit), Jq.J1 e = r ∧ s = [] ∧ ob = []) [] J ?_ ?_)))
 refine uB (uB (uD (uB (uD (Ab fun k f => Ea 3 (decide (a ≥ 97) && decide (a ≤ 122)) ?_ ?_)))))
 refine tX (Af 1 I (uK (uT (c := decide (a ≥ 97)) I I I) I (Af 1 I ?_)))
 rcases bt (decide (a ≥ 97)) with b | b
 exact Ah 6 I b (Af 1 I (Bx I I I (uK (uT (c := decide (a ≤ 122)) I I I) I (Af 2 I (tY (jf (by simp only [b, bz]) I I I2))))))
 exact Ah 6 I b (Af 4 I (tY (jf (by simp only [b, bz]) I I I2)))
 refine Ao h I ?_ ?_
 intro g h
 refine uG (uD (Ai I ?_))
 obtain rfl := h
 exact uE pr
 intro g h
 refine uA ?_
 subst f
 refine uD (Ea 10 (decide (a ≥ 48) && decide (a ≤ 57)) ?_ ?_)
 refine tX (Af 1 I (uK (uT (c := decide (a ≥ 48)) I I I) I (Af 1 I ?_)))
 rcases bt (decide (a ≥ 48)) with d | d
 exact Ah 13 I d (Af 1 I (Bx I I I (uK (uT (c := decide (a ≤ 57)) I I I) I (Af 2 I (tY (jf (by simp only [d, bz]) I I I2))))))
 exact Ah 13 I d (Af 4 I (tY (jf (by simp only [d, bz]) I I I2)))
 refine Ao h I ?_ ?_
 intro i h
 exact uG (lg ⟨(), h, I2⟩ [])
 intro i h
 refine uA (uD (tX (Af 1 I (uK (uT (c := (a == 45)) I I I) I (Af 1 I (tY (Ao h I ?_ ?_)))))))
 intro j h
 exact uG (lg ⟨(), h, I2⟩ [])
 intro j h
 refine uA (uG (Ai I ?_))
 obtain rfl := h
 exact uE pr
 rintro s ob ⟨e, h, rfl, rfl⟩
 unfold Jq.J1 at h
 refine uD (Ai I ?_)
 obtain rfl := h
 exact uE pr
theorem iX (a : Bt) (r : Bool) (h : Ip a = some r) : ACalls Ak 79 [.v (.string a)] [] (RB r) := by
 refine Ag Tryz.func79 I I I fun C hC => ?_
 unfold Ip at h
 refine Ai I (Ab fun S o => Aj (fun s ob => ∃ (f : Bool), Ip.J1 a f = some r ∧ s = [(17, .v (.bool f))] ∧ ob = []) [(0, _)] J1 ?_ ?_)
 refine tX (Af 4 I ?_)
 rcases bt (decide ((a.size : Int) < 1)) with b | b
 have h := Cc b h
 exact Ah 7 I b (Af 10 I (tY (lg ⟨true, h, I2⟩ [])))
 have h := Cd b h
 refine Ah 7 I b ?_
 rcases bt (decide ((a.size : Int) > 12)) with d | d
 have h := Cc d h
 exact Af 5 I (Ah 12 I d (Af 5 I (tY (lg ⟨true, h, I2⟩ []))))
 have h := Cd d h
 obtain ⟨g, t, h⟩ := Ac h
 obtain ⟨u, w, y⟩ := Mv t
 exact Af 5 I (Ah 12 I d (Af 1 I (Bx I I I (uK (C7 (m := g.1) I I I I u w y) I (Bx I I I (uJ (Vn g.2 _ I) (Af 2 I (tY (lg ⟨((Jq g.2) != 1), h, I2⟩ [])))))))))
 rintro s ob ⟨f, h, rfl, rfl⟩
 refine Ao h I ?_ ?_
 intro A h
 refine Ai I ?_
 cases io h
 exact uE pr
 intro A h
 refine uA ?_
 subst o
 refine Aj (fun s ob => ∃ (i : Unit), Ip.J2 i = some r ∧ s = [] ∧ ob = []) [] J ?_ ?_
 refine Ai I (uB ?_)
 obtain ⟨U, B, h⟩ := Ac h
 have D : (a.size : Int).toNat ≤ 9223372036854775806 := by have := J0 B; omega
 obtain ⟨W, E, j⟩ := Ac h
 refine Gj E (K2 0 19) J2 (fun (e : Nat) (l : Unit) s ob => s = [(20, .V (e : Int))] ∧ ob = []) ⟨I, I⟩ ⟨I, J⟩ (pk []) ?_ ?_
 rintro e l X s ob F ⟨rfl, rfl⟩ h G
 have H : decide ((e : Int) < (a.size : Int)) = true := decide_eq_true (by omega)
 refine Ai I (Ab fun Y K => Bq I H (uA ?_))
 subst K
 refine uD (uB (Ai I (uD ?_)))
 obtain ⟨n, M, h⟩ := Ac h
 obtain ⟨N, O, P⟩ := Mv M
 refine tX (Af 2 I (uK (C7 (m := n.1) I I I I N O P) I (uJ (Vn n.2 _ I) (Af 1 I (tY (Ao h I ?_ ?_))))))
 intro Q h
 refine Ai I ?_
 obtain rfl := G _ (oi h).symm
 have h := j
 have h := Dj h
 cases io h
 exact uE pr
 intro Q h
 refine uA (tX (Am 2 [.k 0 (e + 1 : Nat)] I ⟨A6 F D, J⟩ ?_))
 cases io h
 exact tY ⟨_, _, _, I, I2, J3, pk []⟩
 rintro l s ob ⟨rfl, rfl⟩ he
 subst he
 have h := Dk j
 have R : decide ((((a.size : Int).toNat : Nat) : Int) < (a.size : Int)) = false := decide_eq_false (by omega)
 exact Ai I (Ab fun Z aa => Br I R (uG (lg ⟨(), h, I2⟩ [])))
 rintro s ob ⟨i, h, rfl, rfl⟩
 unfold Ip.J2 at h
 refine Ai I ?_
 cases io h
 exact uE pr
theorem Vy (a : Nw) (r : Arr (List Bt) 4) (h : Oc a = some r) : ACalls Ak 76 [.agg (Ad a)] [] (RV (.agg (r.l.map (cL 1 rS)))) := by
 refine Ag Tryz.func76 I I I fun C hC => ?_
 unfold Oc at h
 refine Ab fun y1 U => tX (tZ [] I (Cf (Ad a) 6 fun u => tZ [] I (Bs W3 4 fun f => tY ?_)))
 subst U
 refine Ab fun y4 W => tX (tZ [] I (Bs W3 4 fun g => tY ?_))
 subst W
 refine Ab fun y6 X => tX (Am 2 [.o 1 0] I J1 (uK (Dw (m := 0) I I I I I I (Ba I)) I (tZ [2] I (Bj 2 0 0 [[Q1 a.Nodes, .N, .N, .N]] I (tY ?_)))))
 subst X
 refine Aj (fun s ob => ∃ (c : List Bt) (b : Value), Oc.J1 a c = some r ∧ s = [] ∧ ob = [O0 u [Ad a], O4 f [W3], O4 g [[Q1 a.Nodes, .v b, .N, .N]], U2 b c]) (K3 1 2 3) J3 ?_ ?_
 refine Bg [.o 1 0, .l 2 (a.Segments.length : Int)] I ⟨A4, I, J⟩ (uB (Cg 14 I fun Y => uF (Az 9 1) ?_))
 obtain ⟨a5, Z, aa⟩ := Ac h
 refine Cl Z (K5 1 2 3 14 15) J5 (fun (w : Nat) (y : List Bt) s ob => ∃ (j : Value), s = [(16, .V (w : Int))] ∧ ob = [O0 u [Ad a], O4 f [W3], O4 g [[Q1 a.Nodes, .v j, .N, .N]], U2 j y]) ⟨nS, I2⟩ ⟨I, J⟩ (pk N4) ?_ ?_
 rintro w F y a6 s ob ab M ⟨j, rfl, rfl⟩ h
 have ac := Cr M
 refine Ai I (Ab fun a7 ad => Bq I ac (uA ?_))
 subst ad
 refine uD (uB (uD (tX (Am 2 [.x 0 w (Ar F)] I ⟨⟨I, Ae ab⟩, J⟩ (tZ [] I (Bs W2 7 fun a8 => tZ [4] I (Bj 4 0 0 [Ar F] I (tY ?_))))))))
 obtain ⟨a9, ae, h⟩ := Ac h
 refine tX (uK (Dw (m := 1) I I I I I I (Ba I)) I (Am 3 [.o 0 2, .o 2 4] I J2 (tZ [] I (uH 1 (([F.Name] : List Bt).map rS) (tZ [3] I (uO 3 I ae fun O => uK (Dw (m := 1) I I I I I I (Ba I)) I (uV 3 I fun af => tZ [2] I (uL 2 0 1 (es' := [[Q1 a.Nodes, .v O, .N, .N]]) I I I I I I (Bw af) I (Ba I) I I (tY (tX (Am 2 [.k 0 (w + 1 : Nat)] I ⟨A6 M Y, J⟩ ?_)))))))))))
 cases io h
 exact tY (lg ⟨O, I2⟩ N4)
 rintro y s ob ⟨j, rfl, rfl⟩ he
 subst he
 have h := aa
 have ag := Cs a.Segments.length
 exact Ai I (Ab fun ba bb => Br I ag (uG (lg ⟨y, j, h, I2⟩ N4)))
 rintro s ob ⟨c, b, h, rfl, rfl⟩
 unfold Oc.J1 at h
 refine Aj (fun s ob => ∃ (e : List Bt) (d : Value), Oc.J2 a c e = some r ∧ s = [] ∧ ob = [O0 u [Ad a], O4 f [W3], O4 g [[Q1 a.Nodes, .v b, .v d, .N]], U2 b c, U2 d e]) (K3 1 2 3) J3 ?_ ?_
 refine Bg [.o 1 0, .l 2 (a.Ports.length : Int)] I ⟨A4, I, J⟩ (uB (Cg 29 I fun ah => uF (Az 9 1) ?_))
 obtain ⟨bc, ai, aj⟩ := Ac h
 refine Cl ai (K5 1 2 3 29 30) J5 (fun (A : Nat) (B : List Bt) s ob => ∃ (n : Value), s = [(31, .V (A : Int))] ∧ ob = [O0 u [Ad a], O4 f [W3], O4 g [[Q1 a.Nodes, .v b, .v n, .N]], U2 b c, U2 n B]) ⟨nS, I2⟩ ⟨I, J⟩ (pk N5) ?_ ?_
 rintro A G B bd s ob ak P ⟨n, rfl, rfl⟩ h
 have al := Cr P
 refine Ai I (Ab fun be am => Bq I al (uA ?_))
 subst am
 refine uD (uB (uD (tX (Am 2 [.x 0 A (Ca G)] I ⟨⟨I, Ae ak⟩, J⟩ (tZ [] I (Bs W4 3 fun bf => tZ [5] I (Bj 5 0 0 [Ca G] I (tY ?_))))))))
 obtain ⟨bg, an, h⟩ := Ac h
 refine tX (uK (Dw (m := 2) I I I I I I (Ba I)) I (Am 3 [.o 0 2, .o 2 5] I J2 (tZ [] I (uH 1 (([G.Name] : List Bt).map rS) (tZ [4] I (uO 4 I an fun Q => uK (Dw (m := 2) I I I I I I (Ba I)) I (uV 4 I fun ao => tZ [2] I (uL 2 0 2 (es' := [[Q1 a.Nodes, .v b, .v Q, .N]]) I I I I I I (Bw ao) I (Ba I) I I (tY (tX (Am 2 [.k 0 (A + 1 : Nat)] I ⟨A6 P ah, J⟩ ?_)))))))))))
 cases io h
 exact tY (lg ⟨Q, I2⟩ N5)
 rintro B s ob ⟨n, rfl, rfl⟩ he
 subst he
 have h := aj
 have aq := Cs a.Ports.length
 exact Ai I (Ab fun bh bi => Br I aq (uG (lg ⟨B, n, h, I2⟩ N5)))
 rintro s ob ⟨e, d, h, rfl, rfl⟩
 unfold Oc.J2 at h
 refine Aj (fun s ob => ∃ (q : List Bt) (i : Value), Oc.J3 a c e q = some r ∧ s = [] ∧ ob = [O4 f [W3], O4 g [[Q1 a.Nodes, .v b, .v d, .v i]], U2 b c, U2 d e, U2 i q]) (K2 2 3) J2 ?_ ?_
 refine Bg [.o 1 0, .l 2 (a.Stations.length : Int)] I ⟨A4, I, J⟩ (uB (Cg 44 I fun ar => uF (Az 9 1) ?_))
 obtain ⟨bj, au, av⟩ := Ac h
 refine Cl au (K4 2 3 44 45) J4 (fun (D : Nat) (E : List Bt) s ob => ∃ (t : Value), s = [(46, .V (D : Int))] ∧ ob = [O4 f [W3], O4 g [[Q1 a.Nodes, .v b, .v d, .v t]], U2 b c, U2 d e, U2 t E]) ⟨nS, I2⟩ ⟨I, J⟩ (pk [1, 2, 3, 4, 5]) ?_ ?_
 rintro D H E bk s ob aw R ⟨t, rfl, rfl⟩ h
 have ax := Cr R
 refine Ai I (Ab fun bl ay => Bq I ax (uA ?_))
 subst ay
 refine uD (uB (uD (tX (Am 2 [.x 0 D (Bu H)] I ⟨⟨I, Ae aw⟩, J⟩ (tZ [] I (Bs W6 5 fun bm => tZ [5] I (Bj 5 0 0 [Bu H] I (tY ?_))))))))
 obtain ⟨bn, az, h⟩ := Ac h
 refine tX (uK (Dw (m := 3) I I I I I I (Ba I)) I (Am 3 [.o 0 1, .o 2 5] I J2 (tZ [] I (uH 1 (([H.Name] : List Bt).map rS) (tZ [4] I (uO 4 I az fun S => uK (Dw (m := 3) I I I I I I (Ba I)) I (uV 4 I fun a0 => tZ [1] I (uL 1 0 3 (es' := [[Q1 a.Nodes, .v b, .v d, .v S]]) I I I I I I (Bw a0) I (Ba I) I I (tY (tX (Am 2 [.k 0 (D + 1 : Nat)] I ⟨A6 R ar, J⟩ ?_)))))))))))
 cases io h
 exact tY (lg ⟨S, I2⟩ N5)
 rintro E s ob ⟨t, rfl, rfl⟩ he
 subst he
 have h := av
 have a1 := Cs a.Stations.length
 exact Ai I (Ab fun bo bp => Br I a1 (uG (lg ⟨E, t, h, I2⟩ N5)))
 rintro s ob ⟨q, i, h, rfl, rfl⟩
 unfold Oc.J3 at h
 refine uD (tX (Am 1 [.o 0 1] I J1 (tZ [0] I (Bj 0 0 0 [[Q1 a.Nodes, .v b, .v d, .v i]] I (tY (uF (Ax [2, 3, 4] (K := [U2 b c, U2 d e, U2 i q]) I [] J (ob' := [O4 f [[Q1 a.Nodes, Q1 c, Q1 e, Q1 q]], O4 g [[Q1 a.Nodes, .v b, .v d, .v i]]]) (.cons (.arr (.cons (.refl _) (.cons (.us 0 I) (.cons (.us 1 I) (.cons (.us 2 I) (.rest _)))))) (.rest _))) (C9 [0] I ?_)))))))
 cases io h
 exact uE ⟨.inr I, [_], [], ⟨⟨0, _, _, _, _, _, _, _, I5⟩, J⟩, B0, I2⟩
theorem gC (a : Sn) (b : Sn) (r : Bool) (h : Jn a b = r) : ACalls Ak 111 [.agg (Bu a), .eptr (Bu b)] [] (RB r) := by
 refine Ag Tryz.func111 I I I fun C hC => ?_
 unfold Jn at h
 refine uD (tX (tZ [] I (Cf (Bu a) 5 fun c => Af 1 I (tY (Bg [.o 1 0] I J1 (uF g0 ?_))))))
 obtain rfl := h
 exact uE pr
theorem fS (a : Nw) (r : Bool) (h : Qs a = some r) : ACalls Ak 80 [.agg (Ad a)] [] (RB r) := by
 refine Ag Tryz.func80 I I I fun C hC => ?_
 unfold Qs at h
 refine Ab fun y1 G => tX (tZ [] I (Cf (Ad a) 6 fun b => Af 1 I (tY ?_)))
 subst G
 refine Aj (fun s ob => ∃ (j : Unit), Qs.J1 a j = some r ∧ s = [] ∧ ob = [O0 b [Ad a]]) [(1, _)] J1 ?_ ?_
 refine Ab fun aw H => ?_
 obtain ⟨ax, K, h⟩ := Ac h
 refine tX (Am 1 [.o 0 0] I J1 (tZ [] I (Bh I I I (Vy _ _ K) dS ?_)))
 rintro _ _ ⟨rfl, rfl⟩
 refine Af 1 I (tY ?_)
 subst H
 refine uB ?_
 have M : (4 : Nat) ≤ 9223372036854775806 := by decide
 obtain ⟨ay, N, n⟩ := Ac h
 refine Gj N (K2 1 10) J2 (fun (e : Nat) (t : Unit) s ob => s = [(11, .V (e : Int))] ∧ ob = [O0 b [Ad a]]) ⟨I, I⟩ ⟨I, J⟩ (pk [0]) ?_ ?_
 rintro e t O s ob P ⟨rfl, rfl⟩ h Q
 unfold Qs.B4 at h
 have R : decide ((e : Int) < 4) = true := decide_eq_true (by omega)
 refine Ai I (Ab fun az S => Bq I R (uA ?_))
 subst S
 refine Aj (fun s ob => ∃ (u : Unit), Qs.J5 u = some O ∧ s = [] ∧ ob = [O0 b [Ad a]]) (K3 1 10 11) J3 ?_ ?_
 refine uB (Ab fun a0 U => ?_)
 obtain ⟨i, ⟨W, X⟩, h⟩ := A5 h
 refine tX (uK (Hh (m := i.1) I I I I I I I W X (hlen := Arr.h _)) I (Af 1 I (tY ?_)))
 subst U
 refine Bg [.l 1 (i.2.length : Int)] I ⟨A4, J⟩ (uB (Cg 14 I fun Y => ?_))
 obtain ⟨a1, Z, w⟩ := Ac h
 refine Cj Z (K6 1 4 10 11 14 15) J6 (fun (f : Nat) (y : Unit) s ob => s = [(16, .V (f : Int))] ∧ ob = [O0 b [Ad a]]) ⟨I, I⟩ ⟨I, J⟩ (pk [0]) ?_ ?_
 rintro f aa y a2 s ob ab A ⟨rfl, rfl⟩ h ac
 have ad := Cr A
 refine Ai I (Ab fun a3 ae => Bq I ad (uA ?_))
 subst ae
 refine uD (uB (Bg [.x 1 f (rS aa)] I ⟨⟨I, Ae ab⟩, J⟩ (uD ?_)))
 obtain ⟨a4, af, h⟩ := Ac h
 refine tX (Af 2 I (uJ (gD _ _ _ af) (Af 2 I (tY (Ao h I ?_ ?_)))))
 intro ag h
 refine Ai I ?_
 obtain rfl := ac _ (oi h).symm
 have h := w
 have h := Dj h
 obtain rfl := Q _ (oi h).symm
 have h := n
 have h := Dj h
 refine uF g0 ?_
 cases io h
 exact uE pr
 intro ag h
 refine uA (tX (Am 2 [.k 0 (f + 1 : Nat)] I ⟨A6 A Y, J⟩ ?_))
 cases io h
 exact tY ⟨_, _, _, I, I2, J7, pk [0]⟩
 rintro y s ob ⟨rfl, rfl⟩ he
 subst he
 have h := Dk w
 have ah := Cs i.2.length
 exact Ai I (Ab fun a5 a6 => Br I ah (uG (lg ⟨(), h, I2⟩ [0])))
 rintro s ob ⟨u, h, rfl, rfl⟩
 unfold Qs.J5 at h
 refine tX (Am 2 [.k 0 (e + 1 : Nat)] I ⟨A6 P M, J⟩ ?_)
 cases io h
 exact tY ⟨_, _, _, I, I2, J3, pk [0]⟩
 rintro t s ob ⟨rfl, rfl⟩ he
 subst he
 have h := Dk n
 have ai : decide (((4 : Nat) : Int) < 4) = false := by simp
 exact Ai I (Ab fun a7 a8 => Br I ai (uG (lg ⟨(), h, I2⟩ [0])))
 rintro s ob ⟨j, h, rfl, rfl⟩
 unfold Qs.J1 at h
 refine Aj (fun s ob => ∃ (B : Unit), Qs.J2 B = some r ∧ s = [] ∧ ob = []) [] J ?_ ?_
 refine Bg [.o 1 0, .l 2 (a.Stations.length : Int)] I ⟨A4, I, J⟩ (uB (Cg 29 I fun aj => ?_))
 obtain ⟨a9, ak, D⟩ := Ac h
 refine Cj ak (K3 1 29 30) J3 (fun (g : Nat) (E : Unit) s ob => s = [(31, .V (g : Int))] ∧ ob = [O0 b [Ad a]]) ⟨I, I⟩ ⟨I, J⟩ (pk [0]) ?_ ?_
 rintro g d E ba s ob al F ⟨rfl, rfl⟩ h am
 have an := Cr F
 refine Ai I (Ab fun bb ao => Bq I an (uA ?_))
 subst ao
 refine uD (uB (Ab fun bc ap => tX (Am 3 [.x 1 g (Bu d)] I ⟨⟨I, Ae al⟩, J⟩ (tZ [] I (Bs W6 5 fun bd => Af 1 I (tZ [1] I (Bj 1 0 0 [Bu d] I (tY ?_))))))))
 subst ap
 refine uD ?_
 obtain ⟨be, aq, h⟩ := Ac h
 refine tX (Am 2 [.o 1 0] I J1 (uK (Yp.makeFunc I I) I (tZ [] I (Dv I (.refl _) I I (.cons (.refl _) (.cons (.fn (.rest _) (.cons (.box 1 I (.rest _)) (.rest _))) (.rest _))) I (Ur _ (.fn 111 [] [.eptr (Bu d)]) I (fun x => some (Jn x d)) (fun x r h => by obtain I := oi h; exact gC x d _ I) _ aq) dS (by rintro _ _ ⟨rfl, _⟩; rfl) ?_))))
 rintro _ ⟨_, rfl, -⟩
 refine Af 2 I (tY (Ao h I ?_ ?_))
 intro ar h
 refine Ai I ?_
 obtain rfl := am _ (oi h).symm
 have h := D
 have h := Dj h
 refine uF g0 ?_
 cases io h
 exact uE pr
 intro ar h
 refine uA (tX (Am 2 [.k 0 (g + 1 : Nat)] I ⟨A6 F aj, J⟩ ?_))
 cases io h
 exact tY ⟨_, _, _, I, I2, J4, pk [0]⟩
 rintro E s ob ⟨rfl, rfl⟩ he
 subst he
 have h := Dk D
 have au := Cs a.Stations.length
 exact Ai I (Ab fun bf bg => Br I au (uG (lg ⟨(), h, I2⟩ [])))
 rintro s ob ⟨B, h, rfl, rfl⟩
 unfold Qs.J2 at h
 refine Ai I ?_
 cases io h
 exact uE pr
theorem fT (a : Int) (c : Nw) (r : Bool) (h : Lo a c = r) : ACalls Ak 112 [.V a, .eptr (Ad c)] [] (RB r) := by
 refine Ag Tryz.func112 I I I fun C hC => ?_
 unfold Lo at h
 refine Ai I (Aj (fun s ob => s = [(3, .v (.bool (decide (a < 0) || decide (a ≥ (c.Nodes.length : Int)))))] ∧ ob = []) [] J ?_ ?_)
 refine tX (Af 3 I ?_)
 rcases bt (decide (a < 0)) with b | b
 refine Ah 6 I b (Af 7 I (tY ?_))
 exact lf I2 ⟨(Dn (by simp only [b, bz])), J⟩ [] I
 refine Ah 6 I b (Am 7 [.l 3 (c.Nodes.length : Int)] I ⟨A4, J⟩ (tY ?_))
 exact lf I2 ⟨(Dn (by simp only [b, bz])), J⟩ [] I
 rintro s ob ⟨rfl, rfl⟩
 obtain rfl := h
 exact uE pr
theorem iY (a : Nw) (r : Bool) (h : Rw a = some r) : ACalls Ak 81 [.agg (Ad a)] [] (RB r) := by
 refine Ag Tryz.func81 I I I fun C hC => ?_
 unfold Rw at h
 refine Ab fun y1 O => tX (tZ [] I (Cf (Ad a) 6 fun b => Af 1 I (tY ?_)))
 subst O
 refine Ai I (Aj (fun s ob => ∃ (A : Li) (f : Value), Rw.J1 a A = some r ∧ s = [(3, .v f)] ∧ ob = [O0 b [Ad a], U0 f A]) [(1, _)] J1 ?_ ?_)
 refine Bg [.o 1 0, .l 2 (a.Segments.length : Int)] I ⟨A4, I, J⟩ (uB (Cg 11 I fun P => uF (Az 3 1) ?_))
 obtain ⟨ax, Q, R⟩ := Ac h
 refine Cl Q (K3 1 11 12) J3 (fun (g : Nat) (i : Li) s ob => ∃ (c : Value), s = [(13, .V (g : Int)), (3, .v c)] ∧ ob = [O0 b [Ad a], U0 c i]) ⟨nS, I2⟩ ⟨I, I, J⟩ (pk [0, 1]) ?_ ?_
 rintro g j i ay s ob S H ⟨c, rfl, rfl⟩ h
 have U := Cr H
 refine Ai I (Ab fun az W => Bq I U (uA ?_))
 subst W
 refine uD (uB (uD (tX (Am 2 [.x 0 g (Ar j)] I ⟨⟨I, Ae S⟩, J⟩ (tZ [] I (Bs W2 7 fun a0 => tZ [2] I (Bj 2 0 0 [Ar j] I (tY ?_))))))))
 obtain ⟨a1, X, h⟩ := Ac h
 refine tX (Am 5 [.o 2 2, .o 4 2] I J2 (tZ [] I (uH 1 (([j.From, j.To] : Li).map rI) (tZ [1] I (uO 1 I X fun Y => Af 1 I (tY (tX (Am 2 [.k 0 (g + 1 : Nat)] I ⟨A6 H P, J⟩ ?_))))))))
 cases io h
 exact tY (lg ⟨Y, I2⟩ [0, 1])
 rintro i s ob ⟨c, rfl, rfl⟩ he
 subst he
 have h := R
 have Z := Cs a.Segments.length
 exact Ai I (Ab fun a2 a3 => Br I Z (uG (lg ⟨i, c, h, I2⟩ [0, 1])))
 rintro s ob ⟨A, f, h, rfl, rfl⟩
 unfold Rw.J1 at h
 refine Aj (fun s ob => ∃ (B : Li) (n : Value), Rw.J2 a B = some r ∧ s = [(3, .v n)] ∧ ob = [O0 b [Ad a], U0 n B]) [(1, _)] J1 ?_ ?_
 refine Bg [.o 1 0, .l 2 (a.Ports.length : Int)] I ⟨A4, I, J⟩ (uB (Cg 26 I fun aa => ?_))
 obtain ⟨a4, ab, ac⟩ := Ac h
 refine Cl ab (K3 1 26 27) J3 (fun (t : Nat) (u : Li) s ob => ∃ (d : Value), s = [(28, .V (t : Int)), (3, .v d)] ∧ ob = [O0 b [Ad a], U0 d u]) ⟨f, I2⟩ ⟨I, I, J⟩ (pk [0, 1]) ?_ ?_
 rintro t D u a5 s ob ad K ⟨d, rfl, rfl⟩ h
 have ae := Cr K
 refine Ai I (Ab fun a6 af => Bq I ae (uA ?_))
 subst af
 refine uD (uB (uD (tX (Am 2 [.x 0 t (Ca D)] I ⟨⟨I, Ae ad⟩, J⟩ (tZ [] I (Bs W4 3 fun a7 => tZ [2] I (Bj 2 0 0 [Ca D] I (tY ?_))))))))
 obtain ⟨a8, ag, h⟩ := Ac h
 refine tX (Am 3 [.o 2 2] I J1 (tZ [] I (uH 1 (([D.Node] : Li).map rI) (tZ [1] I (uO 1 I ag fun ah => Af 1 I (tY (tX (Am 2 [.k 0 (t + 1 : Nat)] I ⟨A6 K aa, J⟩ ?_))))))))
 cases io h
 exact tY (lg ⟨ah, I2⟩ [0, 1])
 rintro u s ob ⟨d, rfl, rfl⟩ he
 subst he
 have h := ac
 have ai := Cs a.Ports.length
 exact Ai I (Ab fun a9 ba => Br I ai (uG (lg ⟨u, d, h, I2⟩ [0, 1])))
 rintro s ob ⟨B, n, h, rfl, rfl⟩
 unfold Rw.J2 at h
 refine Aj (fun s ob => ∃ (E : Li) (F : Value), Rw.J3 a E = some r ∧ s = [(3, .v F)] ∧ ob = [O0 b [Ad a], U0 F E]) [(1, _)] J1 ?_ ?_
 refine Bg [.o 1 0, .l 2 (a.Stations.length : Int)] I ⟨A4, I, J⟩ (uB (Cg 39 I fun aj => ?_))
 obtain ⟨bb, ak, al⟩ := Ac h
 refine Cl ak (K3 1 39 40) J3 (fun (w : Nat) (y : Li) s ob => ∃ (e : Value), s = [(41, .V (w : Int)), (3, .v e)] ∧ ob = [O0 b [Ad a], U0 e y]) ⟨n, I2⟩ ⟨I, I, J⟩ (pk [0, 1]) ?_ ?_
 rintro w G y bc s ob am M ⟨e, rfl, rfl⟩ h
 have an := Cr M
 refine Ai I (Ab fun bd ao => Bq I an (uA ?_))
 subst ao
 refine uD (uB (uD (tX (Am 2 [.x 0 w (Bu G)] I ⟨⟨I, Ae am⟩, J⟩ (tZ [] I (Bs W6 5 fun be => tZ [2] I (Bj 2 0 0 [Bu G] I (tY ?_))))))))
 obtain ⟨bf, aq, h⟩ := Ac h
 refine tX (Am 3 [.o 2 2] I J1 (tZ [] I (uH 1 (([G.Node] : Li).map rI) (tZ [1] I (uO 1 I aq fun ar => Af 1 I (tY (tX (Am 2 [.k 0 (w + 1 : Nat)] I ⟨A6 M aj, J⟩ ?_))))))))
 cases io h
 exact tY (lg ⟨ar, I2⟩ [0, 1])
 rintro y s ob ⟨e, rfl, rfl⟩ he
 subst he
 have h := al
 have au := Cs a.Stations.length
 exact Ai I (Ab fun bg bh => Br I au (uG (lg ⟨y, e, h, I2⟩ [0, 1])))
 rintro s ob ⟨E, F, h, rfl, rfl⟩
 refine uD ?_
 obtain ⟨bi, av, h⟩ := Ac h
 refine tX (Af 1 I (uK (Yp.makeFunc I I) I (tZ [] I (Dv I (.refl _) I I (.cons (.us 1 I) (.cons (.fn (.rest _) (.cons (.box 0 I (.rest _)) (.rest _))) (.rest _))) I (Pa _ (.fn 112 [] [.eptr (Ad a)]) I (fun x => some (Lo x a)) (fun x r h => by obtain I := oi h; exact fT x a _ I) _ av) dS (by rintro _ _ ⟨rfl, _⟩; rfl) ?_))))
 rintro _ ⟨_, rfl, -⟩
 refine Af 2 I (tY (uF g0 ?_))
 cases io h
 exact uE pr
theorem iW (a : Sg) (r : Bool) (h : Ly a = some r) : ACalls Ak 114 [.agg (Ar a)] [] (RB r) := by
 refine Ag Tryz.func114 I I I fun C hC => ?_
 unfold Ly at h
 refine Ab fun y1 H => tX (tZ [] I (Cf (Ar a) 7 fun t => Af 1 I (tY ?_)))
 subst H
 refine Ab fun y3 K => Ea 27 ((a.From == a.To) || ((!(Dl a.Capacity 1 1000000)) || ((!(Dl a.Resist 0 1000)) || (!(Dl a.Wave 0 100000))))) ?_ ?_
 refine tX (Am 6 [.o 1 0, .o 3 0] I J2 ?_)
 rcases bt ((a.From == a.To)) with d | d
 exact Ah 10 I d (Af 17 I (tY (jf (by simp only [d, bz]) I I I2)))
 refine Ah 10 I d (Am 2 [.o 1 0] I J1 (Bx I I I (uJ (Dt a.Capacity 1 1000000 _ I) (Af 3 I ?_))))
 rcases bt ((!(Dl a.Capacity 1 1000000))) with f | f
 exact Ah 16 I f (Af 11 I (tY (jf (by simp only [d, f, bz]) I I I2)))
 refine Ah 16 I f (Am 2 [.o 1 0] I J1 (Bx I I I (uJ (Dt a.Resist 0 1000 _ I) (Af 3 I ?_))))
 rcases bt ((!(Dl a.Resist 0 1000))) with i | i
 exact Ah 22 I i (Af 5 I (tY (jf (by simp only [d, f, i, bz]) I I I2)))
 exact Ah 22 I i (Am 2 [.o 1 0] I J1 (Bx I I I (uJ (Dt a.Wave 0 100000 _ I) (Af 2 I (tY (jf (by simp only [d, f, i, bz]) I I I2))))))
 refine Ao h I ?_ ?_
 intro M h
 refine Ai I (uF g0 ?_)
 cases io h
 exact uE pr
 intro M h
 refine uA ?_
 subst K
 refine Aj (fun s ob => ∃ (D : Unit), Ly.J1 a D = some r ∧ s = [] ∧ ob = [O5 t [Ar a]]) [(1, _)] J1 ?_ ?_
 refine Bg [.o 1 0, .l 2 (a.Points.length : Int)] I ⟨A4, I, J⟩ (uB (Cg 29 I fun N => ?_))
 obtain ⟨ah, O, E⟩ := Ac h
 refine Cj O (K3 1 29 30) J3 (fun (j : Nat) (F : Unit) s ob => s = [(31, .V (j : Int))] ∧ ob = [O5 t [Ar a]]) ⟨I, I⟩ ⟨I, J⟩ (pk [0]) ?_ ?_
 rintro j b F P s ob Q G ⟨rfl, rfl⟩ h R
 unfold Ly.B3 at h
 have S := Cr G
 refine Ai I (Ab fun ai U => Bq I S (uA ?_))
 subst U
 refine uD (uB (Ab fun aj W => tX (Am 3 [.x 1 j (Cy b)] I ⟨⟨I, Ae Q⟩, J⟩ (tZ [] I (Bs [.V 0, .V 0, .V 0] 3 fun ak => Af 1 I (tZ [1] I (Bj 1 0 0 [Cy b] I (tY ?_))))))))
 subst W
 refine Aj (fun s ob => ∃ (u : Bool), Ly.J4 u = some P ∧ s = [(61, .v (.bool u))] ∧ ob = [O5 t [Ar a]]) (K4 1 29 30 31) J4 ?_ ?_
 rcases bt ((!(Dl b.Height (-500) 5000))) with e | e
 have h := Cc e h
 refine Bk (pd 26 0 [2, 7]) [1] [_] I (Bv 2 [.o 1 0] I J1 (uU I (Dt b.Height (-500) 5000 _ I) (A3 2 I (A9 40 I e (A3 9 I (As I I I I dS (As I I I I dS (As I I I I dS (As I I I I dS (As I I I I dS (As I I I I dS (As I I I I dS ?_))))))))))))
 exact As I I I I dS (As I I I I dS (As I I I I dS (A3 2 I (Ap (tY (lg ⟨true, h, I2⟩ [0]))))))
 have h := Cd e h
 rcases bt ((!(Dl b.Limit 0 100000000))) with g | g
 have h := Cc g h
 refine Bk (pd 26 0 [2, 7]) [1] [_] I (Bv 2 [.o 1 0] I J1 (uU I (Dt b.Height (-500) 5000 _ I) (A3 2 I (A9 40 I e (Bv 2 [.o 1 0] I J1 (Ja I (Dt b.Limit 0 100000000 _ I) (A3 3 I (A9 46 I g (A3 3 I (As I I I I dS (As I I I I dS (As I I I I dS ?_))))))))))))
 exact As I I I I dS (As I I I I dS (As I I I I dS (As I I I I dS (As I I I I dS (As I I I I dS (As I I I I dS (A3 2 I (Ap (tY (lg ⟨true, h, I2⟩ [0]))))))))))
 have h := Cd g h
 rcases bt (decide ((j : Int) > 0)) with n | n
 have h := Cc n h
 obtain ⟨w, ⟨X, Y⟩, h⟩ := A5 h
 refine Bk (pd 26 0 [2, 7]) [1, 0] [_, _] I (Bv 2 [.o 1 0] I J1 (uU I (Dt b.Height (-500) 5000 _ I) (A3 2 I (A9 40 I e (Bv 2 [.o 1 0] I J1 (Ja I (Dt b.Limit 0 100000000 _ I) (A3 3 I (A9 46 I g (A3 3 I (A9 49 I n (Bv 12 [.o 1 0, .o 3 1, .x 6 w.1 (Cy w.2)] I ⟨⟨X, Ae Y⟩, I, I, J⟩ (Ap ?_))))))))))))
 exact tY (lg ⟨decide (b.At ≤ w.2.At), h, I2⟩ [0])
 have h := Cd n h
 refine Bk (pd 26 0 [2, 7]) [1] [_] I (Bv 2 [.o 1 0] I J1 (uU I (Dt b.Height (-500) 5000 _ I) (A3 2 I (A9 40 I e (Bv 2 [.o 1 0] I J1 (Ja I (Dt b.Limit 0 100000000 _ I) (A3 3 I (A9 46 I g (A3 3 I (A9 49 I n (A3 12 I (Ap ?_))))))))))))
 exact tY (lg ⟨false, h, I2⟩ [0])
 rintro s ob ⟨u, h, rfl, rfl⟩
 refine Ao h I ?_ ?_
 intro Z h
 refine Ai I ?_
 obtain rfl := R _ (oi h).symm
 have h := E
 have h := Dj h
 refine uF g0 ?_
 cases io h
 exact uE pr
 intro Z h
 refine uA (tX (Am 2 [.k 0 (j + 1 : Nat)] I ⟨A6 G N, J⟩ ?_))
 cases io h
 exact tY ⟨_, _, _, I, I2, J4, pk [0]⟩
 rintro F s ob ⟨rfl, rfl⟩ he
 subst he
 have h := Dk E
 have aa := Cs a.Points.length
 exact Ai I (Ab fun al am => Br I aa (uG (lg ⟨(), h, I2⟩ [0])))
 rintro s ob ⟨D, h, rfl, rfl⟩
 unfold Ly.J1 at h
 refine Aj (fun s ob => ∃ (y : Bool), Ly.J2 y = some r ∧ s = [(2, .v (.bool y))] ∧ ob = []) [] J ?_ ?_
 obtain ⟨A, ⟨ab, ac⟩, h⟩ := A5 h
 refine Bk (pd 21 0 []) [0] [_] I (Bv 7 [.o 1 0, .x 2 A.1 (Cy A.2)] I ⟨⟨ab, Ae ac⟩, I, J⟩ ?_)
 rcases bt ((A.2.At == 0)) with p | p
 have h := Cc p h
 obtain ⟨B, ⟨ad, ae⟩, h⟩ := A5 h
 exact A9 69 I p (Bv 14 [.o 1 0, .o 3 0, .l 4 (a.Points.length : Int), .x 6 B.1 (Cy B.2), .o 10 0] I ⟨I, ⟨ad, Ae ae⟩, A4, I, I, J⟩ (Ap (tY (lg ⟨(B.2.At == a.Capacity), h, I2⟩ []))))
 have h := Cd p h
 exact A9 69 I p (A3 14 I (Ap (tY (lg ⟨false, h, I2⟩ []))))
 rintro s ob ⟨y, h, rfl, rfl⟩
 unfold Ly.J2 at h
 cases io h
 exact uE pr
theorem fQ (a : Sg) (r : Bool) (h : Wh a = some r) : ACalls Ak 113 [.agg (Ar a)] [] (RB r) := by
 refine Ag Tryz.func113 I I I fun C hC => ?_
 refine uD (tX (tZ [] I (Cf (Ar a) 7 fun d => Af 1 I (tY (uD ?_)))))
 obtain ⟨e, b, h⟩ := Ac h
 refine tX (Am 1 [.o 0 0] I J1 (uJ (iW _ _ b) (Af 2 I (tY (uF g0 ?_)))))
 cases io h
 exact uE pr
theorem fV (a : Port) (r : Bool) (h : Lp a = r) : ACalls Ak 116 [.agg (Ca a)] [] (RB r) := by
 refine Ag Tryz.func116 I I I fun C hC => ?_
 unfold Lp at h
 refine uD (tX (tZ [] I (Cf (Ca a) 3 fun b => Af 1 I (tY (uD (tX (Am 2 [.o 1 0] I J1 (uJ (Dt a.Pressure 0 100000000 _ I) (Af 2 I (tY (uF g0 ?_)))))))))))
 obtain rfl := h
 exact uE pr
theorem iO (a : Sn) (r : Bool) (h : Lx a = r) : ACalls Ak 119 [.agg (Bu a)] [] (RB r) := by
 refine Ag Tryz.func119 I I I fun C hC => ?_
 unfold Lx at h
 refine Ab fun f e => tX (tZ [] I (Cf (Bu a) 5 fun g => Af 1 I (tY ?_)))
 subst e
 refine Aj (fun s ob => s = [(2, .v (.bool ((!(Dl a.Head 0 100000000)) || ((!(Dl a.Fall 0 100000)) || (!(Dl a.Suction 0 100000000))))))] ∧ ob = []) [] J ?_ ?_
 refine tX (Am 2 [.o 1 0] I J1 (uJ (Dt a.Head 0 100000000 _ I) (Af 2 I ?_)))
 rcases bt ((!(Dl a.Head 0 100000000))) with b | b
 refine Ah 7 I b (Af 12 I (tY ?_))
 exact lf I2 ⟨(Dn (by simp only [b, bz])), J⟩ [] I
 refine Ah 7 I b (Am 2 [.o 1 0] I J1 (Bx I I I (uJ (Dt a.Fall 0 100000 _ I) (Af 3 I ?_))))
 rcases bt ((!(Dl a.Fall 0 100000))) with d | d
 refine Ah 13 I d (Af 6 I (tY ?_))
 exact lf I2 ⟨(Dn (by simp only [b, d, bz])), J⟩ [] I
 refine Ah 13 I d (Am 2 [.o 1 0] I J1 (Bx I I I (uJ (Dt a.Suction 0 100000000 _ I) (Af 3 I (tY ?_)))))
 exact lf I2 ⟨(Dn (by simp only [b, d, bz])), J⟩ [] I
 rintro s ob ⟨rfl, rfl⟩
 obtain rfl := h
 exact uE pr
theorem iU (a : Nw) (r : Bool) (h : W9 a = some r) : ACalls Ak 82 [.agg (Ad a)] [] (RB r) := by
 refine Ag Tryz.func82 I I I fun C hC => ?_
 refine Ab fun p d => tX (tZ [] I (Cf (Ad a) 6 fun t => Af 1 I (tY ?_)))
 subst d
 refine Ab fun u e => uD ?_
 obtain ⟨w, f, h⟩ := Ac h
 refine tX (Am 2 [.o 1 0] I J1 (uJ (Ut _ (.v (.func (.func 113) #[] #[])) I (fun x => Wh x) (fun x r h => fQ x r h) _ f) (tY (Ao h I ?_ ?_))))
 intro g h
 refine Ai I (uF g0 ?_)
 cases io h
 exact uE pr
 intro g h
 refine uA ?_
 subst e
 refine Ab fun y i => uD ?_
 obtain ⟨A, j, h⟩ := Ac h
 refine tX (Am 2 [.o 1 0] I J1 (uJ (iS _ (.v (.func (.func 116) #[] #[])) I (fun x => some (Lp x)) (fun x r h => by obtain I := oi h; exact fV x _ I) _ j) (tY (Ao h I ?_ ?_))))
 intro k h
 refine Ai I (uF g0 ?_)
 cases io h
 exact uE pr
 intro k h
 refine uA ?_
 subst i
 refine uD (uD ?_)
 obtain ⟨B, l, h⟩ := Ac h
 refine tX (Am 2 [.o 1 0] I J1 (uJ (gA _ (.v (.func (.func 119) #[] #[])) I (fun x => some (Lx x)) (fun x r h => by obtain I := oi h; exact iO x _ I) _ l) (tY (Ao h I ?_ ?_))))
 intro n h
 refine Ai I (uF g0 ?_)
 cases io h
 exact uE pr
 intro n h
 refine uA (Aj (fun s ob => s = [(2, .v (.bool ((Dl a.Vapour (-100000) 100000000) && (Dl a.Settle 0 100))))] ∧ ob = []) [] J ?_ ?_)
 refine tX (Am 2 [.o 1 0] I J1 (uJ (Dt a.Vapour (-100000) 100000000 _ I) (Af 1 I ?_)))
 rcases bt ((Dl a.Vapour (-100000) 100000000)) with b | b
 refine Ah 15 I b (Am 2 [.o 1 0] I J1 (Bx I I I (uJ (Dt a.Settle 0 100 _ I) (Af 2 I (tY ?_)))))
 exact lf I2 ⟨(Dn (by simp only [b, bz])), J⟩ [] I
 refine Ah 15 I b (Af 5 I (tY ?_))
 exact lf I2 ⟨(Dn (by simp only [b, bz])), J⟩ [] I
 rintro s ob ⟨rfl, rfl⟩
 cases io h
 exact uE pr
theorem gH (a : Bt) (r : Bool) (h : Wl a = some r) : ACalls Ak 78 [.v (.string a)] [] (RB r) := by
 refine Ag Tryz.func78 I I I fun C hC => ?_
 refine Ai I (uD ?_)
 obtain ⟨d, b, h⟩ := Ac h
 refine tX (Af 1 I (uJ (iX _ _ b) (Af 2 I (tY ?_))))
 cases io h
 exact uE pr
theorem Ku (a : Nw) (r : Int) (h : Fe a = some r) : ACalls Ak 46 [.agg (Ad a)] [] (RV (.V r)) := by
 refine Ag Tryz.func46 I I I fun C hC => ?_
 refine Ab fun Y i => tX (tZ [] I (Cf (Ad a) 6 fun d => Af 1 I (tY ?_)))
 subst i
 refine Ab fun Z j => uD ?_
 obtain ⟨r4, l, h⟩ := Ac h
 refine tX (Am 1 [.o 0 0] I J1 (uJ (gO _ _ l) (Af 1 I (tY (Ao h I ?_ ?_)))))
 intro n h
 refine Ai I (uF g0 ?_)
 cases io h
 exact uE pr
 intro n h
 refine uA ?_
 subst j
 refine Aj (fun s ob => ∃ (e : Unit), Fe.J1 a e = some r ∧ s = [] ∧ ob = [O0 d [Ad a]]) [(1, _)] J1 ?_ ?_
 refine Ab fun ab t => ?_
 obtain ⟨ac, u, h⟩ := Ac h
 refine tX (Am 1 [.o 0 0] I J1 (tZ [] I (Bh I I I (Vy _ _ u) dS ?_)))
 rintro _ _ ⟨rfl, rfl⟩
 refine Af 1 I (tY ?_)
 subst t
 refine uB ?_
 have w : (4 : Nat) ≤ 9223372036854775806 := by decide
 obtain ⟨ad, y, f⟩ := Ac h
 refine Gj y (K2 1 9) J2 (fun (b : Nat) (g : Unit) s ob => s = [(10, .V (b : Int))] ∧ ob = [O0 d [Ad a]]) ⟨I, I⟩ ⟨I, J⟩ (pk [0]) ?_ ?_
 rintro b g ae s ob A ⟨rfl, rfl⟩ h B
 have D : decide ((b : Int) < 4) = true := decide_eq_true (by omega)
 refine Ai I (Ab fun af E => Bq I D (uA ?_))
 subst E
 refine uD (uB (uD ?_))
 obtain ⟨F, ⟨G, H⟩, h⟩ := A5 h
 refine tX (uK (Hh (m := F.1) I I I I I I I G H (hlen := Arr.h _)) I (Af 1 I (tY (uD ?_))))
 obtain ⟨ag, K, h⟩ := Ac h
 refine tX (Af 1 I (uJ (gU _ (.v (.func (.func 78) #[] #[])) I (fun x => Wl x) (fun x r h => gH x r h) _ K) (tY (Ao h I ?_ ?_))))
 intro M h
 refine Ai I ?_
 obtain rfl := B _ (oi h).symm
 have h := f
 have h := Dj h
 refine uF g0 ?_
 cases io h
 exact uE pr
 intro M h
 refine uA (tX (Am 2 [.k 0 (b + 1 : Nat)] I ⟨A6 A w, J⟩ ?_))
 cases io h
 exact tY ⟨_, _, _, I, I2, J3, pk [0]⟩
 rintro g s ob ⟨rfl, rfl⟩ he
 subst he
 have h := Dk f
 have N : decide (((4 : Nat) : Int) < 4) = false := by simp
 exact Ai I (Ab fun ah ai => Br I N (uG (lg ⟨(), h, I2⟩ [0])))
 rintro s ob ⟨e, h, rfl, rfl⟩
 refine uD (uB (Ab fun aj O => ?_))
 obtain ⟨ak, P, h⟩ := Ac h
 refine tX (Am 1 [.o 0 0] I J1 (uJ (fS _ _ P) (Af 1 I (tY ?_))))
 subst O
 refine Ao h I ?_ ?_
 intro Q h
 refine Ai I (uF g0 ?_)
 cases io h
 exact uE pr
 intro Q h
 refine Ab fun al R => ?_
 obtain ⟨am, S, h⟩ := Ac h
 refine tX (Am 1 [.o 0 0] I J1 (uJ (iY _ _ S) (Af 2 I (tY ?_))))
 subst R
 refine Ao h I ?_ ?_
 intro U h
 refine Ai I (uF g0 ?_)
 cases io h
 exact uE pr
 intro U h
 refine uD ?_
 obtain ⟨an, W, h⟩ := Ac h
 refine tX (Am 1 [.o 0 0] I J1 (uJ (iU _ _ W) (Af 2 I (tY (Ao h I ?_ ?_)))))
 intro X h
 refine Ai I (uF g0 ?_)
 cases io h
 exact uE pr
 intro X h
 refine uA (Ai I (uF g0 ?_))
 cases io h
 exact uE pr
theorem Uw (d : Nat) (a : flow_streams) (j : Int) (n : Int) (p : Int) (r : flow_streams) (h : Ns a j n p = some r) : ACalls Ak 144 [.P d, .V j, .V n, .V p] [O6 d [a.come.l.map cI ++ (a.leave.l.map cI ++ [])]] (E8 1 fun x os new => x = .tup [] ∧ os = [O6 d [r.come.l.map cI ++ (r.leave.l.map cI ++ [])]] ∧ new = []) := by
 refine Ag Tryz.func144 I I I fun C hC => ?_
 unfold Ns at h
 refine Aj (fun s ob => ∃ (b : Int × Int × Int), Ns.J1 a b = some r ∧ s = [(1, .V b.1), (2, .V b.2.1), (3, .V b.2.2)] ∧ ob = [O6 d [a.come.l.map cI ++ (a.leave.l.map cI ++ [])]]) [(0, _)] J1 ?_ ?_
 refine Ai I (Ao h I ?_ ?_)
 intro A h
 exact Lj I (lg ⟨(n, j, wr (0 - p)), h, I2⟩ [0])
 intro A h
 exact uA (lg ⟨(j, n, p), h, I2⟩ [0])
 rintro s ob ⟨b, h, rfl, rfl⟩
 unfold Ns.J1 at h
 refine Aj (fun s ob => ∃ (f : Arr Int 24), Ns.J2 a b f = some r ∧ s = [] ∧ ob = [O6 d [a.come.l.map cI ++ (f.l.map cI ++ [])]]) (K3 0 2 3) J3 ?_ ?_
 refine Ai I (Ao h I ?_ ?_)
 intro B h
 obtain ⟨e, ⟨u, g⟩, h⟩ := A5 h
 exact Bk (sl 11 0 (.drop 11 .nil)) [0] [_] I (A3 4 I (uN I (Dx (m := e.1) I I I I I I u (E9 g)) I (AP.o I (Cq 0 0 (24 + e.1) I I I I (by omega) (y := .V e.2) (Ed (k := 24) (by simp [Arr.h, An]) (E5 g))) I (A3 4 I (uN I (Dx (m := e.1) I I I I I I u (E9 g)) I (uR [0] I I I (uL 0 0 (24 + e.1) (es' := [a.come.l.map cI ++ ((a.leave.set e.1 (wr (e.2 + b.2.2))).l.map cI ++ [])]) I I I I (by omega) I I I (Xg (E9 g) (by simp [Arr.h, An])) I (congrArg (fun r => [r]) (Gu (k := 24) (by simp [Arr.h, An]) (I8 (Ql g)))) (Ap (tY (lg ⟨(a.leave.set e.1 (wr (e.2 + b.2.2))), h, I2⟩ [0]))))))))))
 intro B h
 exact uA (lg ⟨a.leave, h, I2⟩ [0])
 rintro s ob ⟨f, h, rfl, rfl⟩
 refine Ai I (Ao h I ?_ ?_)
 intro D h
 obtain ⟨c, ⟨w, i⟩, h⟩ := A5 h
 refine Bk (sl 11 0 (.drop 11 .nil)) [0] [_] I (A3 4 I (uN I (Dx (m := c.1) I I I I I I w (E9 i)) I (AP.o I (Cq 0 0 (0 + c.1) I I I I (by omega) (y := .V c.2) (by rw [Nat.zero_add]; exact E5 i)) I (A3 4 I (uN I (Dx (m := c.1) I I I I I I w (E9 i)) I (uR [0] I I I (uL 0 0 (0 + c.1) (es' := [(a.come.set c.1 (wr (c.2 + b.2.2))).l.map cI ++ (f.l.map cI ++ [])]) I I I I (by omega) I I I (Xg (E9 i) (by simp [Arr.h, An])) I (congrArg (fun r => [r]) (by rw [Nat.zero_add]; exact I8 (Ql i))) (Ap ?_))))))))
 cases io h
 exact tY ⟨.inl I, [], [O6 d [(a.come.set c.1 (wr (c.2 + b.2.2))).l.map cI ++ (f.l.map cI ++ [])]], J, Cb I (B0), ⟨[O6 d [(a.come.set c.1 (wr (c.2 + b.2.2))).l.map cI ++ (f.l.map cI ++ [])]], [], I5⟩⟩
 intro D h
 cases io h
 refine uA ?_
 exact ⟨.inl I, [], [O6 d [a.come.l.map cI ++ (f.l.map cI ++ [])]], J, Cb I (B0), ⟨[O6 d [a.come.l.map cI ++ (f.l.map cI ++ [])]], [], I5⟩⟩
theorem fM (a : Nw) (c : Plan) (r : flow_streams) (h : Qq a c = some r) : ACalls Ak 134 [.agg (Ad a), .agg (Aq c)] [] (RV (.agg (An r))) := by
 refine Ag Tryz.func134 I I I fun C hC => ?_
 unfold Qq at h
 refine Ab fun y1 G => tX (tZ [] I (Cf (Ad a) 6 fun u => tZ [] I (Cf (Aq c) 3 fun t => tZ [] I (Bs ((Ck 24 (0 : Int)).l.map cI ++ ((Ck 24 (0 : Int)).l.map cI ++ [])) 48 fun i => tY ?_))))
 subst G
 refine Ab fun y5 H => tX (tZ [] I (Bs ((Ck 24 (0 : Int)).l.map cI ++ ((Ck 24 (0 : Int)).l.map cI ++ [])) 48 fun e => tY ?_))
 subst H
 refine Aj (fun s ob => ∃ (j : (Arr Int 24) × (Arr Int 24)), Qq.J1 a c j = some r ∧ s = [] ∧ ob = [O0 u [Ad a], O1 t [Aq c], O6 i [(Ck 24 (0 : Int)).l.map cI ++ ((Ck 24 (0 : Int)).l.map cI ++ [])], O6 e [j.1.l.map cI ++ (j.2.l.map cI ++ [])]]) (K4 2 3 4 5) J4 ?_ ?_
 refine Bg [.o 1 0, .l 2 (a.Segments.length : Int)] I ⟨A4, I, J⟩ (uB (Cg 11 I fun K => ?_))
 obtain ⟨ak, M, O⟩ := Ac h
 refine Cl M (K6 2 3 4 5 11 12) J6 (fun (n : Nat) (f : (Arr Int 24) × (Arr Int 24)) s ob => s = [(13, .V (n : Int))] ∧ ob = [O0 u [Ad a], O1 t [Aq c], O6 i [(Ck 24 (0 : Int)).l.map cI ++ ((Ck 24 (0 : Int)).l.map cI ++ [])], O6 e [f.1.l.map cI ++ (f.2.l.map cI ++ [])]]) ⟨I, I⟩ ⟨I, J⟩ (pk N4) ?_ ?_
 rintro n w f al s ob P A ⟨rfl, rfl⟩ h
 have Q := Cr A
 refine Ai I (Ab fun am R => Bq I Q (uA ?_))
 subst R
 refine uD (uB (uD (tX (Am 3 [.x 1 n (Ar w)] I ⟨⟨I, Ae P⟩, J⟩ (tZ [] I (Bs W2 7 fun an => Af 1 I (tZ [4] I (Bj 4 0 0 [Ar w] I (tY ?_)))))))))
 obtain ⟨B, ⟨S, U⟩, h⟩ := A5 h
 obtain ⟨ao, W, h⟩ := Ac h
 refine Bk (pd 10 0 [9]) [4, 1] [_, _] I (Bv 9 [.o 1 0, .o 3 0, .o 5 1, .x 7 B.1 (rI B.2)] I ⟨⟨S, Ae U⟩, I, I, I, J⟩ (uC [3] I I I (A0 [3] (Uw e _ _ _ _ _ W) ?_)))
 refine Ap (tY (tX (Am 2 [.k 0 (n + 1 : Nat)] I ⟨A6 A K, J⟩ ?_)))
 cases io h
 exact tY (lg I2 N4)
 rintro f s ob ⟨rfl, rfl⟩ he
 subst he
 have h := O
 have X := Cs a.Segments.length
 exact Ai I (Ab fun ap aq => Br I X (uG (lg ⟨(f.1, f.2), h, I2⟩ N4)))
 rintro s ob ⟨j, h, rfl, rfl⟩
 unfold Qq.J1 at h
 refine Aj (fun s ob => ∃ (b : (Arr Int 24) × (Arr Int 24)), Qq.J2 b = some r ∧ s = [] ∧ ob = [O6 i [(Ck 24 (0 : Int)).l.map cI ++ ((Ck 24 (0 : Int)).l.map cI ++ [])], O6 e [b.1.l.map cI ++ (b.2.l.map cI ++ [])]]) (K2 4 5) J2 ?_ ?_
 refine Bg [.o 1 0, .l 2 (a.Ports.length : Int)] I ⟨A4, I, J⟩ (uB (Cg 30 I fun Y => ?_))
 obtain ⟨ar, Z, aa⟩ := Ac h
 refine Cl Z (K5 3 4 5 30 31) J5 (fun (p : Nat) (g : (Arr Int 24) × (Arr Int 24)) s ob => s = [(32, .V (p : Int))] ∧ ob = [O1 t [Aq c], O6 i [(Ck 24 (0 : Int)).l.map cI ++ ((Ck 24 (0 : Int)).l.map cI ++ [])], O6 e [g.1.l.map cI ++ (g.2.l.map cI ++ [])]]) ⟨I, I⟩ ⟨I, J⟩ (pk [1, 2, 3]) ?_ ?_
 rintro p D g au s ob ab E ⟨rfl, rfl⟩ h
 have ac := Cr E
 refine Ai I (Ab fun av ad => Bq I ac (uA ?_))
 subst ad
 refine uD (uB (uD (tX (Am 3 [.x 1 p (Ca D)] I ⟨⟨I, Ae ab⟩, J⟩ (tZ [] I (Bs W4 3 fun aw => Af 1 I (tZ [3] I (Bj 3 0 0 [Ca D] I (tY ?_)))))))))
 obtain ⟨F, ⟨ae, af⟩, h⟩ := A5 h
 obtain ⟨ax, ag, h⟩ := Ac h
 refine Bk (pd 8 0 [7]) [3, 0] [_, _] I (Bv 7 [.o 1 0, .o 3 1, .x 5 F.1 (rI F.2)] I ⟨⟨ae, Ae af⟩, I, I, J⟩ (uC [2] I I I (A0 [2] (Uw e _ _ _ _ _ ag) ?_)))
 refine Ap (tY (tX (Am 2 [.k 0 (p + 1 : Nat)] I ⟨A6 E Y, J⟩ ?_)))
 cases io h
 exact tY (lg I2 N3)
 rintro g s ob ⟨rfl, rfl⟩ he
 subst he
 have h := aa
 have ah := Cs a.Ports.length
 exact Ai I (Ab fun ay az => Br I ah (uG (lg ⟨(g.1, g.2), h, I2⟩ [1, 2])))
 rintro s ob ⟨b, h, rfl, rfl⟩
 unfold Qq.J2 at h
 refine uD (tX (uI (Cq 1 0 0 I I I I I (y := .agg (b.1.l.map cI ++ (b.2.l.map cI ++ []))) (Hy I (by simp [Arr.h, An]))) I (tZ [0] I (uL 0 0 0 (es' := [b.1.l.map cI ++ (b.2.l.map cI ++ [])]) I I I I I I I (by simp [Arr.h, An]) (by simp [Arr.h, An]) I (congrArg (fun r => [r]) (Ge (by simp [Arr.h, An]))) (tY (C9 [0] I ?_))))))
 cases io h
 exact uE ⟨.inr I, [_], [], ⟨⟨0, _, _, _, _, _, _, _, I, I, I, I, (Hy I (by simp [Arr.h, An]))⟩, J⟩, B0, I2⟩
theorem iN (a : Int) (r : Bool) (h : N1 a = r) : ACalls Ak 133 [.V a] [] (RB r) := by
 refine Ag Tryz.func133 I I I fun C hC => ?_
 unfold N1 at h
 refine Ai I (uD (tX (Af 1 I (uJ (Vc a 1000 _ I) (Af 2 I (tY ?_))))))
 obtain rfl := h
 exact uE pr
theorem gT (e : Nw) (f : Plan) (r : Int) (h : Lt e f = some r) : ACalls Ak 120 [.agg (Ad e), .agg (Aq f)] [] (RV (.V r)) := by
 refine Ag Tryz.func120 I I I fun C hC => ?_
 refine Ab fun y1 G => tX (tZ [] I (Cf (Ad e) 6 fun w => tZ [] I (Cf (Aq f) 3 fun A => Af 1 I (tY ?_))))
 subst G
 refine Ab fun y4 H => uD ?_
 obtain ⟨r5, K, h⟩ := Ac h
 refine tX (Am 1 [.o 0 0] I J1 (uJ (Ku _ _ K) (Af 1 I (tY (Ai I (Ao h I ?_ ?_))))))
 intro M h
 refine Ai I (uF g0 ?_)
 cases io h
 exact uE pr
 intro M h
 refine uA ?_
 subst H
 refine Ab fun y8 O => Ea 38 (((f.Rates.length : Int) != (e.Segments.length : Int)) || (((f.Ports.length : Int) != (e.Ports.length : Int)) || ((f.Pumps.length : Int) != (e.Stations.length : Int)))) ?_ ?_
 refine tX (Am 8 [.o 1 1, .l 2 (f.Rates.length : Int), .o 4 0, .l 5 (e.Segments.length : Int)] I ⟨A4, I, A4, I, J⟩ ?_)
 rcases bt (((f.Rates.length : Int) != (e.Segments.length : Int))) with g | g
 exact Ah 21 I g (Af 17 I (tY (jf (by simp only [g, bz]) I I I2)))
 refine Ah 21 I g (Am 9 [.o 1 1, .l 2 (f.Ports.length : Int), .o 4 0, .l 5 (e.Ports.length : Int)] I ⟨A4, I, A4, I, J⟩ ?_)
 rcases bt (((f.Ports.length : Int) != (e.Ports.length : Int))) with j | j
 exact Ah 30 I j (Af 8 I (tY (jf (by simp only [g, j, bz]) I I I2)))
 exact Ah 30 I j (Am 8 [.o 1 1, .l 2 (f.Pumps.length : Int), .o 4 0, .l 5 (e.Stations.length : Int)] I ⟨A4, I, A4, I, J⟩ (tY (jf (by simp only [g, j, bz]) I I I2)))
 refine Ao h I ?_ ?_
 intro P h
 refine Ai I (uF g0 ?_)
 cases io h
 exact uE pr
 intro P h
 refine uA ?_
 subst O
 refine Aj (fun s ob => ∃ (B : Unit), Lt.J1 e f B = some r ∧ s = [] ∧ ob = [O0 w [Ad e], O1 A [Aq f]]) (K2 2 3) J2 ?_ ?_
 refine Bg [.o 1 0, .l 2 (e.Segments.length : Int)] I ⟨A4, I, J⟩ (uB (Cg 40 I fun Q => ?_))
 obtain ⟨ap, R, D⟩ := Ac h
 refine Cj R (K4 2 3 40 41) J4 (fun (n : Nat) (E : Unit) s ob => s = [(42, .V (n : Int))] ∧ ob = [O0 w [Ad e], O1 A [Aq f]]) ⟨I, I⟩ ⟨I, J⟩ (pk [0, 1]) ?_ ?_
 rintro n t E aq s ob S F ⟨rfl, rfl⟩ h U
 have W := Cr F
 refine Ai I (Ab fun ar X => Bq I W (uA ?_))
 subst X
 refine uD (uB (Ab fun au Y => tX (Am 3 [.x 1 n (Ar t)] I ⟨⟨I, Ae S⟩, J⟩ (tZ [] I (Bs W2 7 fun av => Af 1 I (tZ [2] I (Bj 2 0 0 [Ar t] I (tY ?_))))))))
 subst Y
 refine uD ?_
 obtain ⟨u, ⟨Z, aa⟩, h⟩ := A5 h
 refine Bk (pd 10 0 [8]) [1, 2] [_, _] I (Bv 8 [.o 1 0, .x 3 u.1 (rI u.2), .o 6 1] I ⟨I, ⟨Z, Ae aa⟩, I, J⟩ (uU I (Vc u.2 (min 1000 t.Capacity) _ I) (A3 1 I (Ap (tY (Ao h I ?_ ?_))))))
 intro ab h
 refine Ai I ?_
 obtain rfl := U _ (oi h).symm
 have h := D
 have h := Dj h
 refine uF g0 ?_
 cases io h
 exact uE pr
 intro ab h
 refine uA (tX (Am 2 [.k 0 (n + 1 : Nat)] I ⟨A6 F Q, J⟩ ?_))
 cases io h
 exact tY ⟨_, _, _, I, I2, J5, pk [0, 1]⟩
 rintro E s ob ⟨rfl, rfl⟩ he
 subst he
 have h := Dk D
 have ac := Cs e.Segments.length
 exact Ai I (Ab fun aw ax => Br I ac (uG (lg ⟨(), h, I2⟩ [0, 1])))
 rintro s ob ⟨B, h, rfl, rfl⟩
 refine Ab fun ay ad => uD ?_
 obtain ⟨az, ae, h⟩ := Ac h
 refine tX (Am 2 [.o 1 1] I J1 (uJ (Pa _ (.v (.func (.func 133) #[] #[])) I (fun x => some (N1 x)) (fun x r h => by obtain I := oi h; exact iN x _ I) _ ae) (tY (Ao h I ?_ ?_))))
 intro af h
 refine Ai I (uF g0 ?_)
 cases io h
 exact uE pr
 intro af h
 refine uA ?_
 subst ad
 refine Ab fun a0 ag => uD ?_
 obtain ⟨i, ah, h⟩ := Ac h
 refine tX (Am 2 [.o 0 0, .o 1 1] I J2 (tZ [] I (Bh I I I (fM _ _ _ ah) dS ?_)))
 rintro _ _ ⟨rfl, rfl⟩
 refine tZ [] I (Bs ((Ck 24 (0 : Int)).l.map cI ++ ((Ck 24 (0 : Int)).l.map cI ++ [])) 48 fun a1 => tZ [2] I (uL 2 0 0 (es' := [i.come.l.map cI ++ (i.leave.l.map cI ++ [])]) I I I I I I I (by simp [Arr.h, An]) (by simp [Arr.h, An]) I (congrArg (fun r => [r]) (Ge (by simp [Arr.h, An]))) (tY (uD (tX (Af 1 I (uI (Cq 2 0 0 I I I I I (y := .agg (i.come.l.map cI)) (Ol I (by simp [Arr.h, An]))) I (Af 1 I (uI (Cq 2 0 24 I I I I I (y := .agg (i.leave.l.map cI)) (Oj (k := 24) I I (by simp [Arr.h, An]) (Ol I (by simp [Arr.h, An])))) I (uK (mX (a := i.come) (b := i.leave) I I I I I bR I I I) I (tY (Ao h I ?_ ?_))))))))))))
 intro ai h
 refine Ai I (uF g0 ?_)
 cases io h
 exact uE pr
 intro ai h
 refine uA ?_
 subst ag
 refine uD (uD ?_)
 obtain ⟨a2, aj, h⟩ := Ac h
 refine Bk (.still 0 (.still 1 (sl 3 4 (.act 2 (.act 3 (.still 7 .nil)))))) [0, 1] [_, _] I (Bv 5 [.o 0 0, .o 1 1, .o 3 0, .l 4 (e.Nodes.length : Int)] I ⟨A4, I, I, I, J⟩ (uC [] I I I (Bh I I I (Uz _ _ _ aj) dS ?_)))
 rintro _ _ ⟨a3, rfl, rfl⟩
 refine uC [] I I I (Bf (Bp 3 I I I I) dS (A3 1 I (Ap (tY (Ao h I ?_ ?_)))))
 intro ak h
 refine Ai I (uF g0 ?_)
 cases io h
 exact uE pr
 intro ak h
 refine uA (Ai I (uF g0 ?_))
 cases io h
 exact uE pr
theorem iD (a : Li) (r : KS) (h : Ww a = some r) : ACalls Ak 6 [Q0 a] [] (fun x new => ∃ (c : Nat), x = .P c ∧ new = [O2 c [Bi r]]) := by
 refine Ag Tryz.func6 I I I fun C hC => ?_
 refine Ai I (uD ?_)
 obtain ⟨b, e, h⟩ := Ac h
 obtain ⟨f, g, i, j, k, n, o⟩ := Jw e
 refine tX (Am 4 [.l 2 (a.length : Int)] I ⟨A4, J⟩ (uK (P6 f g 0 I I I I I (tB i) ⟨_, _, I, j⟩ I k n o) I (uK (Bl (l := [Q0 b, .V 0]) bT I) I (tZ [] I (Cf [Q0 b, .V 0] 2 fun d => Af 1 I (tY ?_))))))
 obtain rfl := oi h
 exact uE ⟨.inr I, [_], [O2 d [[Q0 b, .V 0]]], J1, Cb I (B0), ⟨d, I2⟩⟩
theorem fU (b : Nat) (a : KS) (r : Int × KS) (h : Wi a = some r) : ACalls Ak 45 [.P b] [O2 b [Bi a]] (E8 1 fun x os new => x = .V r.1 ∧ os = [O2 b [Bi r.2]] ∧ new = []) := by
 refine Ag Tryz.func45 I I I fun C hC => ?_
 refine Ai I (Ab fun j d => Me (pd 10 0 []) [0] [_] [.o 3 0, .o 7 0, .l 8 (a.L_.length : Int)] I I ⟨A4, I, I, J⟩ (Ao h I ?_ ?_))
 intro e h
 refine Ai I ?_
 obtain rfl := oi h
 exact uE ⟨.inr I, [_], [O2 b [Bi a]], J1, Cb I (B0), ⟨[O2 b [Bi a]], [], I5⟩⟩
 intro e h
 refine uA ?_
 subst d
 refine Ab fun k f => tX (Am 7 [.o 3 0] I J1 (tZ [0] I (Bj 0 0 1 [[Q0 a.L_, .V (wr (a.At + 1))]] I (tY ?_))))
 subst f
 refine uD ?_
 obtain ⟨c, ⟨g, i⟩, h⟩ := A5 h
 refine Ya (pd 12 0 []) [0] [_] [.o 3 0, .o 7 0, .x 9 c.1 (rI c.2)] I I ⟨⟨g, Ae i⟩, I, I, J⟩ ?_
 obtain rfl := oi h
 exact uE ⟨.inr I, [_], [O2 b [[Q0 a.L_, .V (wr (a.At + 1))]]], J1, Cb I (B0), ⟨[O2 b [[Q0 a.L_, .V (wr (a.At + 1))]]], [], I5⟩⟩
theorem Bm (a : Nat) (b : KS) (d : Int) (r : Int × KS) (h : C0 b d = some r) : ACalls Ak 12 [.P a, .V d] [O2 a [Bi b]] (E8 1 fun x os new => x = .V r.1 ∧ os = [O2 a [Bi r.2]] ∧ new = []) := by
 refine Ag Tryz.func12 I I I fun C hC => ?_
 refine Ai I (uD ?_)
 obtain ⟨e, f, h⟩ := Ac h
 obtain ⟨i, g, h⟩ := Ac h
 refine tX (Af 1 I (tZ [0] I (A0 [0] (fU a _ _ f) ?_)))
 refine Af 1 I (uJ (Vw _ _ _ g) (Af 1 I (tY ?_)))
 obtain rfl := oi h
 exact uE ⟨.inr I, [_], [O2 a [Bi e.2]], J1, Cb I (B0), ⟨[O2 a [Bi e.2]], [], I5⟩⟩
theorem Cz (b : Bt) (a : Int) (r : Bt) (h : G4 b a = some r) : ACalls Ak 40 [.v (.string b), .V a] [] (RV (.v (.string r))) := by
 refine Ag Tryz.func40 I I I fun C hC => ?_
 refine Ai I (uD ?_)
 obtain ⟨g, d, h⟩ := Ac h
 obtain ⟨i, e, h⟩ := Ac h
 refine tX (Am 4 [.f 2 (.V (a.tmod 26))] I ⟨uS (Ga (c := (a.tmod 26)) I I ⟨by decide, I⟩), J⟩ (uK (mY (c := IntKind.u8.wrap (wr (97 + (a.tmod 26)))) I I I I I) I (tZ [] I (uM (sz := 1) (es := ([IntKind.u8.wrap (wr (97 + (a.tmod 26)))] : Li).map (rK .u8)) I I I I I I I I I I I dS fun j => tZ [] I (jN 0 d I I I I I I I I dS (uK (Zf I I (Zb e)) I (Af 1 I (tY (uF g0 ?_)))))))))
 cases io h
 exact uE pr
theorem Al (a : Nat) (c : KS) (b : Li) (r : Int × KS) (h : Dm c b = some r) : ACalls Ak 13 [.P a, Q0 b] [O2 a [Bi c]] (E8 1 fun x os new => x = .V r.1 ∧ os = [O2 a [Bi r.2]] ∧ new = []) := by
 refine Ag Tryz.func13 I I I fun C hC => ?_
 refine Ai I (uD ?_)
 obtain ⟨d, f, h⟩ := Ac h
 obtain ⟨e, ⟨g, i⟩, h⟩ := A5 h
 refine tX (Am 4 [.l 3 (b.length : Int)] I ⟨A4, J⟩ (tZ [0] I (A0 [0] (Bm a _ _ _ f) ?_)))
 refine Am 3 [.x 0 e.1 (rI e.2)] I ⟨⟨g, Ae i⟩, J⟩ (tY ?_)
 obtain rfl := oi h
 exact uE ⟨.inr I, [_], [O2 a [Bi d.2]], J1, Cb I (B0), ⟨[O2 a [Bi d.2]], [], I5⟩⟩
theorem E7 (a : Nat) (b : KS) (c : Int) (d : Int) (r : Int × KS) (h : G2 b c d = some r) : ACalls Ak 39 [.P a, .V c, .V d] [O2 a [Bi b]] (E8 1 fun x os new => x = .V r.1 ∧ os = [O2 a [Bi r.2]] ∧ new = []) := by
 refine Ag Tryz.func39 I I I fun C hC => ?_
 refine Ai I (uD ?_)
 obtain ⟨e, f, h⟩ := Ac h
 refine tX (Af 6 I (tZ [0] I (A0 [0] (Bm a _ _ _ f) ?_)))
 refine Af 2 I (tY ?_)
 obtain rfl := oi h
 exact uE ⟨.inr I, [_], [O2 a [Bi e.2]], J1, Cb I (B0), ⟨[O2 a [Bi e.2]], [], I5⟩⟩
theorem Va (b : Nat) (Y : KS) (S : Int) (F : Int) (G : Int) (r : Sg × KS) (h : Nt Y S F G = some r) : ACalls Ak 41 [.P b, .V S, .V F, .V G] [O2 b [Bi Y]] (E8 1 fun x os new => x = .agg (Ar r.1) ∧ os = [O2 b [Bi r.2]] ∧ new = []) := by
 refine Ag Tryz.func41 I I I fun C hC => ?_
 unfold Nt at h
 refine Ab fun y1 aj => tX (tZ [] I (Bs W2 7 fun y => tY ?_))
 subst aj
 refine Aj (fun s ob => ∃ (a : Li × Int × Int × Int), Nt.J1 S a = some r ∧ s = [(2, .V a.2.2.1), (3, .V a.2.2.2)] ∧ ob = [O2 b [[Q0 a.1, .V a.2.1]], O5 y [W2]]) (K3 0 1 8) J3 ?_ ?_
 refine uD ?_
 obtain ⟨H, ak, h⟩ := Ac h
 refine tX (Af 1 I (tZ [0] I (A0 [0] (Bm b _ _ _ ak) ?_)))
 refine Af 1 I (tY (Ao h I ?_ ?_))
 intro al h
 exact Lj I (lg ⟨(H.2.L_, H.2.At, G, F), h, I2⟩ [0, 1])
 intro al h
 exact uA (lg ⟨(H.2.L_, H.2.At, F, G), h, I2⟩ [0, 1])
 rintro s ob ⟨a, h, rfl, rfl⟩
 refine Ab fun y7 am => ?_
 obtain ⟨g, an, h⟩ := Ac h
 obtain ⟨e, ao, h⟩ := Ac h
 obtain ⟨i, aq, h⟩ := Ac h
 obtain ⟨j, ar, h⟩ := Ac h
 refine tX (Af 1 I (uJ (Cz _ _ _ an) (Af 3 I (tZ [] I (uH 1 (([1, 2, 7, 20, 60, 200, 1000] : Li).map rI) (tZ [0] I (A0 [0] (Al b _ _ _ ao) ?_)))))))
 refine Af 1 I (tZ [] I (uH 1 (([0, 1, 5, 1000] : Li).map rI) (tZ [0] I (A0 [0] (Al b _ _ _ aq) ?_))))
 refine Af 1 I (tZ [] I (uH 1 (([0, 50, 1000, 100000] : Li).map rI) (tZ [0] I (A0 [0] (Al b _ _ _ ar) ?_))))
 refine uK (Bl (l := [.v (.string g), .V a.2.2.1, .V a.2.2.2, .V e.1, .V i.1, .V j.1, .N]) Tp I) I (tZ [] I (Bs W2 7 fun M => tZ [2] I (Bj 2 0 0 [[.v (.string g), .V a.2.2.1, .V a.2.2.2, .V e.1, .V i.1, .V j.1, .N]] I (tY ?_))))
 subst am
 refine Ab fun bd au => ?_
 obtain ⟨k, av, h⟩ := Ac h
 refine tX (Af 1 I (tZ [] I (uH 1 (([1000000, 6000000, 100000000] : Li).map rI) (tZ [0] I (A0 [0] (Al b _ _ _ av) ?_)))))
 refine Af 1 I (tY ?_)
 subst au
 refine Ab fun be aw => ?_
 obtain ⟨Z, ax, h⟩ := Ac h
 obtain ⟨bf, aa, h⟩ := Ac h
 refine Bk (sl 3 0 (.still 4 (.act 3 (.still 5 (.act 6 (.act 7 (.still 8 (.drop 9 .nil)))))))) [2] [_] I (Bv 4 [.o 1 0] I J1 (uC [0] I I I (A0 [0] (E7 b _ _ _ _ ax) ?_)))
 refine AP.p I (Bl (l := [.V 0, .V Z.1, .V k.1]) F4 I) I (uC [] I I I (uH 3 (([(⟨0, Z.1, k.1⟩ : Point)] : List Point).map Cy) (uC [] I I I (bX I I I I I I I I (AppSrc.list I) (mT (G7 aa).1) (mS (G7 aa).2) dS fun ab => A3 1 I (uW 3 I fun ay => uR [2] I I I (uL 2 0 6 (es' := [[.v (.string g), .V a.2.2.1, .V a.2.2.2, .V e.1, .V i.1, .V j.1, .v ab]]) I I I I I I (Bw ay) I (Ba I) I I (Ap (tY ?_))))))))
 subst aw
 refine Aj (fun s ob => ∃ (A : Li × Int × (List Point)) (U : Value), Nt.J2 a g e i j k A = some r ∧ s = [] ∧ ob = [O2 b [[Q0 A.1, .V A.2.1]], O5 y [W2], O5 M [[.v (.string g), .V a.2.2.1, .V a.2.2.2, .V e.1, .V i.1, .V j.1, .v U]], qN U A.2.2]) (K4 0 8 9 10) J4 ?_ ?_
 refine Ai I (uB ?_)
 obtain ⟨bg, az, ac⟩ := Ac h
 refine Ci az (K4 0 8 9 10) J4 (fun (f : Li × Int × (List Point) × Int) s ob => ∃ (n : Value), s = [(11, .V f.2.2.2)] ∧ ob = [O2 b [[Q0 f.1, .V f.2.1]], O5 y [W2], O5 M [[.v (.string g), .V a.2.2.1, .V a.2.2.2, .V e.1, .V i.1, .V j.1, .v n]], qN n f.2.2.1]) ⟨ab, I2⟩ ⟨I, J⟩ (pk N4) ?_
 rintro f a0 s ob ⟨n, rfl, rfl⟩ h ad
 unfold Nt.B3 at h
 refine Ab fun bh a1 => Aj (fun s ob => ∃ (u : Li × Int × Bool), Nt.J4 e k f u = some a0 ∧ s = [(51, .v (.bool u.2.2))] ∧ ob = [O2 b [[Q0 u.1, .V u.2.1]], O5 y [W2], O5 M [[.v (.string g), .V a.2.2.1, .V a.2.2.2, .V e.1, .V i.1, .V j.1, .v n]], qN n f.2.2.1]) (K5 0 8 9 10 11) J5 ?_ ?_
 rcases bt (decide ((f.2.2.1.length : Int) < 7)) with B | B
 have h := Cc B h
 obtain ⟨W, a2, h⟩ := Ac h
 refine tX (Am 2 [.o 1 2] I J1 (uI (Bp 3 I I I I) I (Af 2 I (Ah 47 I B (Af 1 I (Bx I I I (tZ [0] I (A0 [0] (Bm b _ _ _ a2) ?_))))))))
 exact Af 2 I (tY (lg ⟨(W.2.L_, W.2.At, decide (W.1 > 0)), h, I2⟩ N4))
 have h := Cd B h
 exact tX (Am 2 [.o 1 2] I J1 (uI (Bp 3 I I I I) I (Af 2 I (Ah 47 I B (Af 4 I (tY (lg ⟨(f.1, f.2.1, false), h, I2⟩ N4)))))))
 rintro s ob ⟨u, h, rfl, rfl⟩
 refine Ao h I ?_ ?_
 intro a3 h
 refine uA ?_
 subst a1
 refine uB (Ab fun bi a4 => ?_)
 obtain ⟨w, a5, h⟩ := Ac h
 refine tX (Af 2 I (tZ [0] I (A0 [0] (E7 b _ _ _ _ a5) ?_)))
 refine Af 2 I (tY ?_)
 subst a4
 refine Ab fun bj a6 => Bg [.o 2 2] I J1 (Ao h I ?_ ?_)
 intro a7 h
 obtain rfl := ad _ (oi h).symm
 have h := ac
 exact uG (lg ⟨(w.2.L_, w.2.At, f.2.2.1), n, h, I2⟩ N4)
 intro a7 h
 refine uA ?_
 subst a6
 obtain ⟨O, ae, h⟩ := Ac h
 obtain ⟨P, af, h⟩ := Ac h
 obtain ⟨Q, ag, h⟩ := Ac h
 obtain ⟨bk, ah, h⟩ := Ac h
 refine Bk (sl 4 0 (.still 5 (.still 9 (.still 10 (.two 4 6 (.act 6 qX) (.act 4 qX)))))) [2] [_] I (Bv 7 [.o 1 0] I J1 (uQ ?_ ?_))
 refine uC [0] I I I (A0 [0] (E7 b _ _ _ _ ae) ?_)
 refine uC [] I I I (uH 1 (([1, 1, 10] : Li).map rI) (uC [0] I I I (A0 [0] (Al b _ _ _ af) ?_)))
 refine A3 1 I (uC [0] I I I (A0 [0] (Bm b _ _ _ ag) ?_))
 refine A3 2 I (AP.p I (Bl (l := [.V (wr (f.2.2.2 + w.1)), .V (wr (O.1 * P.1)), .V (wr (k.1 - (wr (Q.1 * 1000))))]) F4 I) I (uC [] I I I (uH 3 (([(⟨wr (f.2.2.2 + w.1), wr (O.1 * P.1), wr (k.1 - (wr (Q.1 * 1000)))⟩ : Point)] : List Point).map Cy) (uC [3] I I I (uO 3 I ah fun D => A3 1 I (uW 3 I fun X => uR [2] I I I (uL 2 0 6 (es' := [[.v (.string g), .V a.2.2.1, .V a.2.2.2, .V e.1, .V i.1, .V j.1, .v D]]) I I I I I I (Bw X) I (Ba I) I I (Ap ?_))))))))
 cases io h
 exact tY ⟨_, _, _, I, ⟨D, I2⟩, J5, pk N4⟩
 refine uC [] I I I (uH 1 (([1, 1, 10] : Li).map rI) (uC [0] I I I (A0 [0] (E7 b _ _ _ _ ae) ?_)))
 refine uC [0] I I I (A0 [0] (Al b _ _ _ af) ?_)
 refine A3 1 I (uC [0] I I I (A0 [0] (Bm b _ _ _ ag) ?_))
 refine A3 2 I (AP.p I (Bl (l := [.V (wr (f.2.2.2 + w.1)), .V (wr (O.1 * P.1)), .V (wr (k.1 - (wr (Q.1 * 1000))))]) F4 I) I (uC [] I I I (uH 3 (([(⟨wr (f.2.2.2 + w.1), wr (O.1 * P.1), wr (k.1 - (wr (Q.1 * 1000)))⟩ : Point)] : List Point).map Cy) (uC [3] I I I (uO 3 I ah fun D => A3 1 I (uW 3 I fun X => uR [2] I I I (uL 2 0 6 (es' := [[.v (.string g), .V a.2.2.1, .V a.2.2.2, .V e.1, .V i.1, .V j.1, .v D]]) I I I I I I (Bw X) I (Ba I) I I (Ap ?_))))))))
 cases io h
 exact tY ⟨_, _, _, I, ⟨D, I2⟩, J5, pk N4⟩
 intro a3 h
 obtain rfl := ad _ (oi h).symm
 have h := ac
 exact uG (lg ⟨(u.1, u.2.1, f.2.2.1), n, h, I2⟩ N4)
 rintro s ob ⟨A, U, h, rfl, rfl⟩
 refine uD ?_
 obtain ⟨E, a8, h⟩ := Ac h
 obtain ⟨ai, a9, h⟩ := Ac h
 refine Bk (sl 5 0 (.still 6 (.act 5 (.still 7 (.act 8 (.act 9 (.still 10 (.drop 11 .nil)))))))) [2] [_] I (Bv 6 [.o 1 0, .o 3 0] I J2 (uC [0] I I I (A0 [0] (E7 b _ _ _ _ a8) ?_)))
 refine AP.p I (Bl (l := [.V e.1, .V E.1, .V k.1]) F4 I) I (uC [] I I I (uH 3 (([(⟨e.1, E.1, k.1⟩ : Point)] : List Point).map Cy) (uC [3] I I I (uO 3 I a9 fun R => A3 1 I (uW 3 I fun ba => uR [2] I I I (uL 2 0 6 (es' := [[.v (.string g), .V a.2.2.1, .V a.2.2.2, .V e.1, .V i.1, .V j.1, .v R]]) I I I I I I (Bw ba) I (Ba I) I I (Ap (tY (uD (tX (Am 1 [.o 0 2] I J1 (tZ [1] I (Bj 1 0 0 [[.v (.string g), .V a.2.2.1, .V a.2.2.2, .V e.1, .V i.1, .V j.1, .v R]] I (tY ?_))))))))))))))
 refine uF (Ax [3] (K := [qN R ai]) I [] J (ob' := [O2 b [Bi E.2], O5 y [[.v (.string g), .V a.2.2.1, .V a.2.2.2, .V e.1, .V i.1, .V j.1, Q8 ai]], O5 M [[.v (.string g), .V a.2.2.1, .V a.2.2.2, .V e.1, .V i.1, .V j.1, .v R]]]) (.cons (.same _) (.cons (.arr (.cons (.refl _) (.cons (.refl _) (.cons (.refl _) (.cons (.refl _) (.cons (.refl _) (.cons (.refl _) (.cons (.us 0 I) (.rest _))))))))) (.rest _)))) (C9 [0, 1] I ?_)
 obtain rfl := oi h
 exact uE ⟨.inr I, [_], [O2 b [Bi E.2]], ⟨⟨1, _, _, _, _, _, _, _, I5⟩, J⟩, Cb I (B0), ⟨[O2 b [Bi E.2]], [], I5⟩⟩
end Go.Proofs.YtaoclefkknloiaaGreat
