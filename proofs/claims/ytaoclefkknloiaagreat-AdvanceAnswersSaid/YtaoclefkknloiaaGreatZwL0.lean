/- Walks that show what functions of the program compute; printed by a program of ours. No condition. -/
import Derived.Test.YtaoclefkknloiaaGreatZwD
import Derived.Test.YtaoclefkknloiaaGreatZwB3
set_option maxRecDepth 100000
namespace Go.Proofs.YtaoclefkknloiaaGreat
open Go.Aw
set_option linter.unusedVariables false
set_option linter.unusedSimpArgs false
set_option maxHeartbeats 4000000
abbrev nI : PL := .act 7 (.still 8 (.act 11 (sl 3 12 (.act 15 (.act 16 (.still 17 (.drop 18 .nil)))))))
theorem T5 (a : Sg) (b : Int) (r : Int × Int) (h : Bo a b = r) : ACalls Al 135 [.agg (Au a), .V b] [] (RV (.tup [.V r.1, .V r.2])) := by
 refine Ag Tryz.func135 I I I fun C hC => ?_
 refine Ac fun e c => qD (qF [] I (Cp (Au a) 7 fun f => Af 2 I (qE ?_)))
 subst c
 refine qJ (Ai I (Av h I ?_ ?_))
 intro d h
 refine Tc (pd 6 0 []) [0] [_] [.o 1 0, .o 3 0] I I J2 (qL g0 ?_)
 obtain rfl := h
 exact qK ⟨.inr I, [_, _], [], J2, Cv, I2⟩
 intro d h
 refine qI (Tc (pd 6 0 []) [0] [_] [.o 1 0, .o 3 0] I I J2 (qL g0 ?_))
 obtain rfl := h
 exact qK ⟨.inr I, [_, _], [], J2, Cv, I2⟩
theorem Ub (a : Int) (b : Int) (r : Bool) (h : Np a b = r) : ACalls Al 132 [.V a, .V b] [] (RB r) := by
 refine Ag Tryz.func132 I I I fun C hC => ?_
 unfold Np at h
 refine Ai I (Ak (fun s ob => s = [(4, .v (.bool (decide (a ≥ (wr (0 - b))) && decide (a ≤ b))))] ∧ ob = []) [] J ?_ ?_)
 refine qD (Af 5 I ?_)
 rcases bt (decide (a ≥ (wr (0 - b)))) with c | c
 refine Ah 9 I c (Af 5 I (qE ?_))
 exact lf I2 ⟨(D3 (by simp only [c, bz])), J⟩ [] I
 refine Ah 9 I c (Af 5 I (qE ?_))
 exact lf I2 ⟨(D3 (by simp only [c, bz])), J⟩ [] I
 rintro s ob ⟨rfl, rfl⟩
 obtain rfl := h
 exact qK pr
theorem eR (e : Int) (b : Int) (r : Int) (h : Vu e b = some r) : ACalls Al 44 [.V e, .V b] [] (RV (.V r)) := by
 refine Ag Tryz.func44 I I I fun C hC => ?_
 refine Ai I (Ac fun m g => Ai I (Av h I ?_ ?_))
 intro i h
 refine Ai I ?_
 cases io h
 exact qK pr
 intro i h
 refine qI ?_
 subst g
 refine Ac fun n j => ?_
 obtain ⟨a, k, h⟩ := Ad h
 refine Lb [.f 2 (.V a)] I ⟨qY (Iu (c := a) I I (W6 k)), J⟩ ?_
 subst j
 refine Ak (fun s ob => ∃ (d : Int), Vu.J1 d = some r ∧ s = [(0, .V d)] ∧ ob = []) [] J ?_ ?_
 refine Ai I (Av h I ?_ ?_)
 intro l h
 exact Uz I (lg ⟨wr (a + b), h, I2⟩ [])
 intro l h
 exact qI (lg ⟨a, h, I2⟩ [])
 rintro s ob ⟨d, h, rfl, rfl⟩
 unfold Vu.J1 at h
 refine Ai I ?_
 cases io h
 exact qK pr
theorem Do (a : Int) (c : Int) (d : Int) (r : Bool) (h : De a c d = r) : ACalls Al 117 [.V a, .V c, .V d] [] (RB r) := by
 refine Ag Tryz.func117 I I I fun C hC => ?_
 unfold De at h
 refine Ai I (Ak (fun s ob => s = [(6, .v (.bool (decide (a ≥ c) && decide (a ≤ d))))] ∧ ob = []) [] J ?_ ?_)
 refine qD (Af 4 I ?_)
 rcases bt (decide (a ≥ c)) with b | b
 refine Ah 10 I b (Af 5 I (qE ?_))
 exact lf I2 ⟨(D3 (by simp only [b, bz])), J⟩ [] I
 refine Ah 10 I b (Af 5 I (qE ?_))
 exact lf I2 ⟨(D3 (by simp only [b, bz])), J⟩ [] I
 rintro s ob ⟨rfl, rfl⟩
 obtain rfl := h
 exact qK pr
theorem Oq (a : Int) (r : Int) (h : Gn a = r) : ACalls Al 59 [.V a] [] (RV (.V r)) := by
 refine Ag Tryz.func59 I I I fun C hC => ?_
 unfold Gn at h
 refine Ai I (Ai I ?_)
 obtain rfl := h
 exact qK pr
theorem cY (a : List Bt) (d : Bt) (r : Int) (h : Qi a d = some r) : ACalls Al 109 [Q1 a, .v (.string d)] [] (RV (.V r)) := by
 refine Ag Tryz.func109 I I I fun C hC => ?_
 unfold Qi at h
 refine Ai I (Ak (fun s ob => ∃ (e : Unit), Qi.J1 e = some r ∧ s = [] ∧ ob = []) [] J ?_ ?_)
 refine Bk [.l 1 (a.length : Int)] I ⟨A6, J⟩ (qH (Cd 6 I fun m => ?_))
 obtain ⟨A, n, f⟩ := Ad h
 refine Cg n (K3 0 1 7) J3 (fun (b : Nat) (g : Unit) s ob => s = [(8, .V (b : Int))] ∧ ob = []) ⟨I, I⟩ ⟨I, J⟩ (pk []) ?_ ?_
 rintro b i g B s ob o j ⟨rfl, rfl⟩ h q
 have t := Cm j
 refine Ai I (Ac fun D u => Bl I t (qI ?_))
 subst u
 refine qJ (qH (Ai I (qJ (qD (Ao 5 [.x 3 b (rS i)] I ⟨⟨I, Ae o⟩, J⟩ (qQ (Yp.cmpS (c := Wh d i) I I I) I (qE (Av h I ?_ ?_))))))))
 intro w h
 refine Ai I ?_
 obtain rfl := q _ (oi h).symm
 have h := f
 have h := Dj h
 cases io h
 exact qK pr
 intro w h
 refine qI (qD (Ao 2 [.k 0 (b + 1 : Nat)] I ⟨Az j m, J⟩ ?_))
 cases io h
 exact qE ⟨_, _, _, I, I2, J4, pk []⟩
 rintro g s ob ⟨rfl, rfl⟩ he
 subst he
 have h := Dp f
 have y := Cn a.length
 exact Ai I (Ac fun E F => Bm I y (qM (lg ⟨(), h, I2⟩ [])))
 rintro s ob ⟨e, h, rfl, rfl⟩
 unfold Qi.J1 at h
 refine Ai I ?_
 cases io h
 exact qK pr
theorem eT (a : Li) (F1 : T) {c : FuncId} {d e : List T} (o : Kz F1 = some (c, d, e)) (f : Int → Option Bool) (p : ∀ (g : Int) r, f g = some r → ACalls Al c (d ++ [.V g] ++ e) [] (RB r)) (r : Int) (h : Re a f = some r) : ACalls Al 122 [Q0 a, F1] [] (RV (.V r)) := by
 refine Ag Tryz.func122 I I I fun C hC => ?_
 unfold Re at h
 refine Ai I (Ak (fun s ob => ∃ (i : Unit), Re.J1 i = some r ∧ s = [] ∧ ob = []) [] J ?_ ?_)
 refine Bk [.l 1 (a.length : Int)] I ⟨A6, J⟩ (qH (Cd 6 I fun q => ?_))
 obtain ⟨G, t, j⟩ := Ad h
 refine Cg t (K3 0 1 7) J3 (fun (b : Nat) (m : Unit) s ob => s = [(8, .V (b : Int))] ∧ ob = []) ⟨I, I⟩ ⟨I, J⟩ (pk []) ?_ ?_
 rintro b u m H s ob w n ⟨rfl, rfl⟩ h y
 have A := Cm n
 refine Ai I (Ac fun K B => Bl I A (qI ?_))
 subst B
 refine qJ (qH (Ai I (qJ ?_)))
 obtain ⟨M, D, h⟩ := Ad h
 refine qD (Ao 5 [.x 3 b (rI u)] I ⟨⟨I, Ae w⟩, J⟩ (qF [] I (Cz I (.refl _) o I (.rest _) I (p _ _ D) dS (by rintro _ _ ⟨rfl, _⟩; rfl) ?_)))
 rintro _ ⟨_, rfl, -⟩
 refine qE (Av h I ?_ ?_)
 intro E h
 refine Ai I ?_
 obtain rfl := y _ (oi h).symm
 have h := j
 have h := Dj h
 cases io h
 exact qK pr
 intro E h
 refine qI (qD (Ao 2 [.k 0 (b + 1 : Nat)] I ⟨Az n q, J⟩ ?_))
 cases io h
 exact qE ⟨_, _, _, I, I2, J4, pk []⟩
 rintro m s ob ⟨rfl, rfl⟩ he
 subst he
 have h := Dp j
 have F := Cn a.length
 exact Ai I (Ac fun N O => Bm I F (qM (lg ⟨(), h, I2⟩ [])))
 rintro s ob ⟨i, h, rfl, rfl⟩
 unfold Re.J1 at h
 refine Ai I ?_
 cases io h
 exact qK pr
theorem Oo (b : Li) (F1 : T) {d : FuncId} {e f : List T} (i : Kz F1 = some (d, e, f)) (a : Int → Option Bool) (j : ∀ (g : Int) r, a g = some r → ACalls Al d (e ++ [.V g] ++ f) [] (RB r)) (r : Bool) (h : Jf b a = some r) : ACalls Al 93 [Q0 b, F1] [] (RB r) := by
 refine Ag Tryz.func93 I I I fun C hC => ?_
 refine Ai I (qJ ?_)
 obtain ⟨l, k, h⟩ := Ad h
 refine qD (Af 2 I (qR (eT _ F1 i a j _ k) (Af 2 I (qE ?_))))
 cases io h
 exact qK pr
theorem dA (a : List Bt) (F1 : T) {c : FuncId} {d e : List T} (o : Kz F1 = some (c, d, e)) (f : Bt → Option Bool) (p : ∀ (g : Bt) r, f g = some r → ACalls Al c (d ++ [.v (.string g)] ++ e) [] (RB r)) (r : Int) (h : Qj a f = some r) : ACalls Al 107 [Q1 a, F1] [] (RV (.V r)) := by
 refine Ag Tryz.func107 I I I fun C hC => ?_
 unfold Qj at h
 refine Ai I (Ak (fun s ob => ∃ (i : Unit), Qj.J1 i = some r ∧ s = [] ∧ ob = []) [] J ?_ ?_)
 refine Bk [.l 1 (a.length : Int)] I ⟨A6, J⟩ (qH (Cd 6 I fun q => ?_))
 obtain ⟨G, t, j⟩ := Ad h
 refine Cg t (K3 0 1 7) J3 (fun (b : Nat) (m : Unit) s ob => s = [(8, .V (b : Int))] ∧ ob = []) ⟨I, I⟩ ⟨I, J⟩ (pk []) ?_ ?_
 rintro b u m H s ob w n ⟨rfl, rfl⟩ h y
 have A := Cm n
 refine Ai I (Ac fun K B => Bl I A (qI ?_))
 subst B
 refine qJ (qH (Ai I (qJ ?_)))
 obtain ⟨M, D, h⟩ := Ad h
 refine qD (Ao 5 [.x 3 b (rS u)] I ⟨⟨I, Ae w⟩, J⟩ (qF [] I (Cz I (.refl _) o I (.rest _) I (p _ _ D) dS (by rintro _ _ ⟨rfl, _⟩; rfl) ?_)))
 rintro _ ⟨_, rfl, -⟩
 refine qE (Av h I ?_ ?_)
 intro E h
 refine Ai I ?_
 obtain rfl := y _ (oi h).symm
 have h := j
 have h := Dj h
 cases io h
 exact qK pr
 intro E h
 refine qI (qD (Ao 2 [.k 0 (b + 1 : Nat)] I ⟨Az n q, J⟩ ?_))
 cases io h
 exact qE ⟨_, _, _, I, I2, J4, pk []⟩
 rintro m s ob ⟨rfl, rfl⟩ he
 subst he
 have h := Dp j
 have F := Cn a.length
 exact Ai I (Ac fun N O => Bm I F (qM (lg ⟨(), h, I2⟩ [])))
 rintro s ob ⟨i, h, rfl, rfl⟩
 unfold Qj.J1 at h
 refine Ai I ?_
 cases io h
 exact qK pr
theorem dL (b : List Bt) (F1 : T) {d : FuncId} {e f : List T} (i : Kz F1 = some (d, e, f)) (a : Bt → Option Bool) (j : ∀ (g : Bt) r, a g = some r → ACalls Al d (e ++ [.v (.string g)] ++ f) [] (RB r)) (r : Bool) (h : Qq b a = some r) : ACalls Al 77 [Q1 b, F1] [] (RB r) := by
 refine Ag Tryz.func77 I I I fun C hC => ?_
 refine Ai I (qJ ?_)
 obtain ⟨l, k, h⟩ := Ad h
 refine qD (Af 2 I (qR (dA _ F1 i a j _ k) (Af 2 I (qE ?_))))
 cases io h
 exact qK pr
theorem eP (a : List Sg) (F1 : T) {c : FuncId} {d e : List T} (o : Kz F1 = some (c, d, e)) (f : Sg → Option Bool) (p : ∀ (g : Sg) r, f g = some r → ACalls Al c (d ++ [.agg (Au g)] ++ e) [] (RB r)) (r : Int) (h : Rb a f = some r) : ACalls Al 130 [Q4 a, F1] [] (RV (.V r)) := by
 refine Ag Tryz.func130 I I I fun C hC => ?_
 unfold Rb at h
 refine Ai I (Ak (fun s ob => ∃ (i : Unit), Rb.J1 i = some r ∧ s = [] ∧ ob = []) [] J ?_ ?_)
 refine Bk [.l 1 (a.length : Int)] I ⟨A6, J⟩ (qH (Cd 6 I fun q => ?_))
 obtain ⟨G, t, j⟩ := Ad h
 refine Cg t (K3 0 1 7) J3 (fun (b : Nat) (m : Unit) s ob => s = [(8, .V (b : Int))] ∧ ob = []) ⟨I, I⟩ ⟨I, J⟩ (pk []) ?_ ?_
 rintro b u m H s ob w n ⟨rfl, rfl⟩ h y
 have A := Cm n
 refine Ai I (Ac fun K B => Bl I A (qI ?_))
 subst B
 refine qJ (qH (Ai I (qJ ?_)))
 obtain ⟨M, D, h⟩ := Ad h
 refine qD (Ao 5 [.x 3 b (Au u)] I ⟨⟨I, Ae w⟩, J⟩ (qF [] I (Cz I (.refl _) o I (.rest _) I (p _ _ D) dS (by rintro _ _ ⟨rfl, _⟩; rfl) ?_)))
 rintro _ ⟨_, rfl, -⟩
 refine qE (Av h I ?_ ?_)
 intro E h
 refine Ai I ?_
 obtain rfl := y _ (oi h).symm
 have h := j
 have h := Dj h
 cases io h
 exact qK pr
 intro E h
 refine qI (qD (Ao 2 [.k 0 (b + 1 : Nat)] I ⟨Az n q, J⟩ ?_))
 cases io h
 exact qE ⟨_, _, _, I, I2, J4, pk []⟩
 rintro m s ob ⟨rfl, rfl⟩ he
 subst he
 have h := Dp j
 have F := Cn a.length
 exact Ai I (Ac fun N O => Bm I F (qM (lg ⟨(), h, I2⟩ [])))
 rintro s ob ⟨i, h, rfl, rfl⟩
 unfold Rb.J1 at h
 refine Ai I ?_
 cases io h
 exact qK pr
theorem T1 (b : List Sg) (F1 : T) {d : FuncId} {e f : List T} (i : Kz F1 = some (d, e, f)) (a : Sg → Option Bool) (j : ∀ (g : Sg) r, a g = some r → ACalls Al d (e ++ [.agg (Au g)] ++ f) [] (RB r)) (r : Bool) (h : Nl b a = some r) : ACalls Al 105 [Q4 b, F1] [] (RB r) := by
 refine Ag Tryz.func105 I I I fun C hC => ?_
 refine Ai I (qJ ?_)
 obtain ⟨l, k, h⟩ := Ad h
 refine qD (Af 2 I (qR (eP _ F1 i a j _ k) (Af 2 I (qE ?_))))
 cases io h
 exact qK pr
theorem dD (a : List Port) (F1 : T) {c : FuncId} {d e : List T} (o : Kz F1 = some (c, d, e)) (f : Port → Option Bool) (p : ∀ (g : Port) r, f g = some r → ACalls Al c (d ++ [.agg (Bn g)] ++ e) [] (RB r)) (r : Int) (h : Qm a f = some r) : ACalls Al 131 [Q5 a, F1] [] (RV (.V r)) := by
 refine Ag Tryz.func131 I I I fun C hC => ?_
 unfold Qm at h
 refine Ai I (Ak (fun s ob => ∃ (i : Unit), Qm.J1 i = some r ∧ s = [] ∧ ob = []) [] J ?_ ?_)
 refine Bk [.l 1 (a.length : Int)] I ⟨A6, J⟩ (qH (Cd 6 I fun q => ?_))
 obtain ⟨G, t, j⟩ := Ad h
 refine Cg t (K3 0 1 7) J3 (fun (b : Nat) (m : Unit) s ob => s = [(8, .V (b : Int))] ∧ ob = []) ⟨I, I⟩ ⟨I, J⟩ (pk []) ?_ ?_
 rintro b u m H s ob w n ⟨rfl, rfl⟩ h y
 have A := Cm n
 refine Ai I (Ac fun K B => Bl I A (qI ?_))
 subst B
 refine qJ (qH (Ai I (qJ ?_)))
 obtain ⟨M, D, h⟩ := Ad h
 refine qD (Ao 5 [.x 3 b (Bn u)] I ⟨⟨I, Ae w⟩, J⟩ (qF [] I (Cz I (.refl _) o I (.rest _) I (p _ _ D) dS (by rintro _ _ ⟨rfl, _⟩; rfl) ?_)))
 rintro _ ⟨_, rfl, -⟩
 refine qE (Av h I ?_ ?_)
 intro E h
 refine Ai I ?_
 obtain rfl := y _ (oi h).symm
 have h := j
 have h := Dj h
 cases io h
 exact qK pr
 intro E h
 refine qI (qD (Ao 2 [.k 0 (b + 1 : Nat)] I ⟨Az n q, J⟩ ?_))
 cases io h
 exact qE ⟨_, _, _, I, I2, J4, pk []⟩
 rintro m s ob ⟨rfl, rfl⟩ he
 subst he
 have h := Dp j
 have F := Cn a.length
 exact Ai I (Ac fun N O => Bm I F (qM (lg ⟨(), h, I2⟩ [])))
 rintro s ob ⟨i, h, rfl, rfl⟩
 unfold Qm.J1 at h
 refine Ai I ?_
 cases io h
 exact qK pr
theorem eH (b : List Port) (F1 : T) {d : FuncId} {e f : List T} (i : Kz F1 = some (d, e, f)) (a : Port → Option Bool) (j : ∀ (g : Port) r, a g = some r → ACalls Al d (e ++ [.agg (Bn g)] ++ f) [] (RB r)) (r : Bool) (h : Q7 b a = some r) : ACalls Al 115 [Q5 b, F1] [] (RB r) := by
 refine Ag Tryz.func115 I I I fun C hC => ?_
 refine Ai I (qJ ?_)
 obtain ⟨l, k, h⟩ := Ad h
 refine qD (Af 2 I (qR (dD _ F1 i a j _ k) (Af 2 I (qE ?_))))
 cases io h
 exact qK pr
theorem Tz (a : List Sn) (F1 : T) {c : FuncId} {d e : List T} (o : Kz F1 = some (c, d, e)) (f : Sn → Option Bool) (p : ∀ (g : Sn) r, f g = some r → ACalls Al c (d ++ [.agg (Br g)] ++ e) [] (RB r)) (r : Int) (h : Nj a f = some r) : ACalls Al 110 [Q6 a, F1] [] (RV (.V r)) := by
 refine Ag Tryz.func110 I I I fun C hC => ?_
 unfold Nj at h
 refine Ai I (Ak (fun s ob => ∃ (i : Unit), Nj.J1 i = some r ∧ s = [] ∧ ob = []) [] J ?_ ?_)
 refine Bk [.l 1 (a.length : Int)] I ⟨A6, J⟩ (qH (Cd 6 I fun q => ?_))
 obtain ⟨G, t, j⟩ := Ad h
 refine Cg t (K3 0 1 7) J3 (fun (b : Nat) (m : Unit) s ob => s = [(8, .V (b : Int))] ∧ ob = []) ⟨I, I⟩ ⟨I, J⟩ (pk []) ?_ ?_
 rintro b u m H s ob w n ⟨rfl, rfl⟩ h y
 have A := Cm n
 refine Ai I (Ac fun K B => Bl I A (qI ?_))
 subst B
 refine qJ (qH (Ai I (qJ ?_)))
 obtain ⟨M, D, h⟩ := Ad h
 refine qD (Ao 5 [.x 3 b (Br u)] I ⟨⟨I, Ae w⟩, J⟩ (qF [] I (Cz I (.refl _) o I (.rest _) I (p _ _ D) dS (by rintro _ _ ⟨rfl, _⟩; rfl) ?_)))
 rintro _ ⟨_, rfl, -⟩
 refine qE (Av h I ?_ ?_)
 intro E h
 refine Ai I ?_
 obtain rfl := y _ (oi h).symm
 have h := j
 have h := Dj h
 cases io h
 exact qK pr
 intro E h
 refine qI (qD (Ao 2 [.k 0 (b + 1 : Nat)] I ⟨Az n q, J⟩ ?_))
 cases io h
 exact qE ⟨_, _, _, I, I2, J4, pk []⟩
 rintro m s ob ⟨rfl, rfl⟩ he
 subst he
 have h := Dp j
 have F := Cn a.length
 exact Ai I (Ac fun N O => Bm I F (qM (lg ⟨(), h, I2⟩ [])))
 rintro s ob ⟨i, h, rfl, rfl⟩
 unfold Nj.J1 at h
 refine Ai I ?_
 cases io h
 exact qK pr
theorem cW (b : List Sn) (F1 : T) {d : FuncId} {e f : List T} (i : Kz F1 = some (d, e, f)) (a : Sn → Option Bool) (j : ∀ (g : Sn) r, a g = some r → ACalls Al d (e ++ [.agg (Br g)] ++ f) [] (RB r)) (r : Bool) (h : Qh b a = some r) : ACalls Al 118 [Q6 b, F1] [] (RB r) := by
 refine Ag Tryz.func118 I I I fun C hC => ?_
 refine Ai I (qJ ?_)
 obtain ⟨l, k, h⟩ := Ad h
 refine qD (Af 2 I (qR (Tz _ F1 i a j _ k) (Af 2 I (qE ?_))))
 cases io h
 exact qK pr
theorem cH (a : Sg) (r : Bool) (h : Lj a = r) : ACalls Al 106 [.agg (Au a)] [] (RB r) := by
 refine Ag Tryz.func106 I I I fun C hC => ?_
 unfold Lj at h
 refine Ac fun d c => qD (qF [] I (Cp (Au a) 7 fun e => Af 1 I (qE ?_)))
 subst c
 refine Ak (fun s ob => s = [(2, .v (.bool (decide ((a.Points.length : Int) < 2) || decide ((a.Points.length : Int) > 8))))] ∧ ob = []) [] J ?_ ?_
 refine qD (Ao 5 [.o 1 0, .l 2 (a.Points.length : Int)] I ⟨A6, I, J⟩ ?_)
 rcases bt (decide ((a.Points.length : Int) < 2)) with b | b
 refine Ah 7 I b (Af 6 I (qE ?_))
 exact lf I2 ⟨(D3 (by simp only [b, bz])), J⟩ [] I
 refine Ah 7 I b (Ao 6 [.o 1 0, .l 2 (a.Points.length : Int)] I ⟨A6, I, J⟩ (qE ?_))
 exact lf I2 ⟨(D3 (by simp only [b, bz])), J⟩ [] I
 rintro s ob ⟨rfl, rfl⟩
 obtain rfl := h
 exact qK pr
theorem dF (a : Nw) (r : Bool) (h : Qo a = some r) : ACalls Al 75 [.agg (Ab a)] [] (RB r) := by
 refine Ag Tryz.func75 I I I fun C hC => ?_
 unfold Qo at h
 refine Ac fun k g => qD (qF [] I (Cp (Ab a) 6 fun n => Af 1 I (qE ?_)))
 subst g
 refine qJ (E9 30 (decide ((a.Nodes.length : Int) < 1) || (decide ((a.Nodes.length : Int) > 24) || (decide ((a.Segments.length : Int) > 32) || (decide ((a.Ports.length : Int) > 24) || decide ((a.Stations.length : Int) > 12))))) ?_ ?_)
 refine qD (Ao 5 [.o 1 0, .l 2 (a.Nodes.length : Int)] I ⟨A6, I, J⟩ ?_)
 rcases bt (decide ((a.Nodes.length : Int) < 1)) with b | b
 exact Ah 7 I b (Af 23 I (qE (jf (by simp only [b, bz]) I I I2)))
 refine Ah 7 I b (Ao 6 [.o 1 0, .l 2 (a.Nodes.length : Int)] I ⟨A6, I, J⟩ ?_)
 rcases bt (decide ((a.Nodes.length : Int) > 24)) with d | d
 exact Ah 13 I d (Af 17 I (qE (jf (by simp only [b, d, bz]) I I I2)))
 refine Ah 13 I d (Ao 6 [.o 1 0, .l 2 (a.Segments.length : Int)] I ⟨A6, I, J⟩ ?_)
 rcases bt (decide ((a.Segments.length : Int) > 32)) with e | e
 exact Ah 19 I e (Af 11 I (qE (jf (by simp only [b, d, e, bz]) I I I2)))
 refine Ah 19 I e (Ao 6 [.o 1 0, .l 2 (a.Ports.length : Int)] I ⟨A6, I, J⟩ ?_)
 rcases bt (decide ((a.Ports.length : Int) > 24)) with f | f
 exact Ah 25 I f (Af 5 I (qE (jf (by simp only [b, d, e, f, bz]) I I I2)))
 exact Ah 25 I f (Ao 5 [.o 1 0, .l 2 (a.Stations.length : Int)] I ⟨A6, I, J⟩ (qE (jf (by simp only [b, d, e, f, bz]) I I I2)))
 refine Av h I ?_ ?_
 intro i h
 refine Ai I (qL g0 ?_)
 cases io h
 exact qK pr
 intro i h
 refine qI (qJ ?_)
 obtain ⟨p, j, h⟩ := Ad h
 refine qD (Ao 2 [.o 1 0] I J1 (qR (T1 _ (.v (.func (.func 106) #[] #[])) I (fun x => some (Lj x)) (fun x r h => by obtain I := oi h; exact cH x _ I) _ j) (Af 2 I (qE (qL g0 ?_)))))
 cases io h
 exact qK pr
theorem T8 (b : Nw) (g : Plan) (r : Li) (h : Gp b g = some r) : ACalls Al 121 [.agg (Ab b), .agg (Aj g)] [] (fun x new => ∃ (P : Value), x = .v P ∧ new = [U0 P r]) := by
 refine Ag Tryz.func121 I I I fun C hC => ?_
 refine Ac fun y1 ab => qD (qF [] I (Cp (Ab b) 6 fun n => qF [] I (Cp (Aj g) 3 fun p => Af 1 I (qE ?_))))
 subst ab
 refine AW.scope (Ai I (Ac fun y5 ac => ?_))
 obtain ⟨l6, ⟨m8, ad, ae, af⟩, h⟩ := G0 h
 refine qD (Ao 3 [.o 1 0, .l 2 (b.Nodes.length : Int)] I ⟨A6, I, J⟩ (qF [] I (Dg (sz := 1) I I I I I I I I I I ad ae (Mi (f := rB) af I) dS fun u => Af 1 I (qE ?_))))
 subst ac
 refine Ac fun ba ag => AW.label ?_
 subst ag
 refine Ak (fun s ob => ∃ (E : Li) (w : Value), Gp.J1 E = some r ∧ s = [(5, .v w)] ∧ ob = [U0 w E]) [] J ?_ ?_
 refine Ai I (qH (qL (Ay 3 1) ?_))
 obtain ⟨bb, ah, ai⟩ := Ad h
 refine Dm ah (K3 2 3 6) J3 (fun (a : Li × (List Bool) × Int) s ob => ∃ (e : Value), s = [(5, .v e), (7, .V a.2.2)] ∧ ob = [O0 n [Ab b], O1 p [Aj g], U3 u a.2.1, U0 e a.1]) ⟨nS, I2⟩ ⟨I, I, J⟩ (pk N4) ?_
 rintro a Q s ob ⟨e, rfl, rfl⟩ h aj
 refine Ac fun bc ak => Bk [.o 2 0, .l 3 (b.Nodes.length : Int)] I ⟨A6, I, J⟩ (Av h I ?_ ?_)
 intro al h
 refine qI ?_
 subst ak
 refine Ak (fun s ob => ∃ (A : Li × (List Bool) × Int) (F : Value), Gp.J3 A = some Q ∧ s = [(5, .v F), (7, .V A.2.2)] ∧ ob = [O0 n [Ab b], O1 p [Aj g], U3 u A.2.1, U0 F A.1]) (K3 2 3 6) J3 ?_ ?_
 refine qH (Ac fun bd am => qJ ?_)
 obtain ⟨i, ⟨R, G⟩, h⟩ := Bc h
 refine qD (Af 2 I (qN (Bb 2 (m := i.1) I I I I I I I R (Ae G)) I (qN (Ax 2 i.1 0 I I I (Ae G) I (y := .v (.bool i.2)) I) I (qE (Av h I ?_ ?_)))))
 intro an h
 exact qM (lg ⟨(a.1, a.2.1, a.2.2), e, h, I2⟩ N4)
 intro an h
 refine qI ?_
 subst am
 refine Ak (fun s ob => ∃ (S : Unit), Gp.J4 a i S = some Q ∧ s = [] ∧ ob = [O0 n [Ab b], O1 p [Aj g], U3 u a.2.1, U0 e a.1]) (K5 2 3 5 6 7) J5 ?_ ?_
 refine Bk [.o 1 0, .l 2 (b.Segments.length : Int)] I ⟨A6, I, J⟩ (qH (Cd 28 I fun ao => ?_))
 obtain ⟨be, aq, U⟩ := Ad h
 refine Cg aq (K7 2 3 5 6 7 28 29) J7 (fun (H : Nat) (W : Unit) s ob => s = [(30, .V (H : Int))] ∧ ob = [O0 n [Ab b], O1 p [Aj g], U3 u a.2.1, U0 e a.1]) ⟨I, I⟩ ⟨I, J⟩ (pk N4) ?_ ?_
 rintro H K W ar s ob au X ⟨rfl, rfl⟩ h av
 have aw := Cm X
 refine Ai I (Ac fun bf ax => Bl I aw (qI ?_))
 subst ax
 refine qJ (qH (Ac fun bg ay => qD (Ao 3 [.x 1 H (Au K)] I ⟨⟨I, Ae au⟩, J⟩ (qF [] I (B0 W1 7 fun bh => Af 1 I (qF [4] I (By 4 0 0 [Au K] I (qE ?_))))))))
 subst ay
 refine Ac fun bi az => ?_
 obtain ⟨j, ⟨Y, Z⟩, h⟩ := Bc h
 refine Bv (pd 12 0 [6]) [4, 1] [_, _] I (Cf 6 [.o 0 0, .o 2 1, .x 4 j.1 (rI j.2)] I ⟨⟨Y, Ae Z⟩, I, I, J⟩ (rD I (T5 K j.2 _ I) (A9 5 I (Ar (qE ?_)))))
 subst az
 refine Ak (fun s ob => ∃ (O : Bool), Gp.J6 a O = some ar ∧ s = [(62, .v (.bool O))] ∧ ob = [O0 n [Ab b], O1 p [Aj g], U3 u a.2.1, U0 e a.1]) (K8 2 3 5 6 7 28 29 30) J8 ?_ ?_
 refine qD (Ao 7 [.o 1 1, .x 3 j.1 (rI j.2)] I ⟨⟨Y, Ae Z⟩, I, J⟩ ?_)
 rcases bt ((j.2 != 0)) with B | B
 have h := Cb B h
 refine Ah 51 I B ?_
 rcases bt ((((Bo K j.2).2) == a.2.2)) with D | D
 have h := Cb D h
 obtain ⟨M, ⟨a0, aa⟩, h⟩ := Bc h
 exact Af 5 I (Ah 56 I D (Af 2 I (Bj I I I (qN (Bb 2 (m := M.1) I I I I I I I a0 (Ae aa)) I (Bj I I I (qN (Ax 2 M.1 0 I I I (Ae aa) I (y := .v (.bool M.2)) I) I (Af 2 I (qE (lg ⟨(!M.2), h, I2⟩ N4)))))))))
 have h := Cc D h
 exact Af 5 I (Ah 56 I D (Af 6 I (qE (lg ⟨false, h, I2⟩ N4))))
 have h := Cc B h
 exact Ah 51 I B (Af 11 I (qE (lg ⟨false, h, I2⟩ N4)))
 rintro s ob ⟨O, h, rfl, rfl⟩
 refine Av h I ?_ ?_
 intro a1 h
 obtain rfl := av _ (oi h).symm
 have h := U
 have h := Dj h
 exact qM (lg ⟨(a.1, a.2.1, a.2.2), e, h, I2⟩ N4)
 intro a1 h
 refine qI (qD (Ao 2 [.k 0 (H + 1 : Nat)] I ⟨Az X ao, J⟩ ?_))
 cases io h
 exact qE ⟨_, _, _, I, I2, J8, pk N4⟩
 rintro W s ob ⟨rfl, rfl⟩ he
 subst he
 have h := Dp U
 have a2 := Cn b.Segments.length
 exact Ai I (Ac fun bj bk => Bm I a2 (qM (lg ⟨(), h, I2⟩ N4)))
 rintro s ob ⟨S, h, rfl, rfl⟩
 refine qJ (qD (Af 2 I (qN (Bb 2 (m := i.1) I I I I I I I R (Ae G)) I (qF [2] I (Bh 2 i.1 0 I I I (Ae G) I I I I (Be I) I (Cj (x := true) I) (qE (qJ ?_)))))))
 obtain ⟨a3, a4, h⟩ := Ad h
 exact qD (Af 2 I (qF [] I (qO 1 (([a.2.2] : Li).map rI) (qF [3] I (qU 3 I a4 fun a5 => Af 1 I (qE (Uz I (lg ⟨(a3, (a.2.1.set i.1 true), (-1)), a5, h, I2⟩ N4))))))))
 rintro s ob ⟨A, F, h, rfl, rfl⟩
 unfold Gp.J3 at h
 refine qD (Af 3 I ?_)
 cases io h
 exact qE ⟨_, _, _, I, ⟨F, I2⟩, J5, pk N4⟩
 intro al h
 obtain rfl := aj _ (oi h).symm
 have h := ai
 exact qM (lg ⟨a.1, e, h, I2⟩ [3])
 rintro s ob ⟨E, w, h, rfl, rfl⟩
 refine Ai I ?_
 obtain rfl := oi h
 exact qK ⟨.inr I, [_], [U0 w E], J1, Ca I (Cv), ⟨w, I2⟩⟩
theorem Uk (a : Int) (r : Int) (h : Jo a = r) : ACalls Al 108 [.v (.int .u8 a)] [] (RV (.V r)) := by
 refine Ag Tryz.func108 I I I fun C hC => ?_
 unfold Jo at h
 refine Ai I (qJ (qH (Ak (fun s ob => ∃ (e : Unit), Jo.J1 e = r ∧ s = [] ∧ ob = []) [] J ?_ ?_)))
 refine qH (qH (qJ (qH (qJ (Ac fun k f => E9 3 (decide (a ≥ 97) && decide (a ≤ 122)) ?_ ?_)))))
 refine qD (Af 1 I (qQ (qZ (c := decide (a ≥ 97)) I I I) I (Af 1 I ?_)))
 rcases bt (decide (a ≥ 97)) with b | b
 exact Ah 6 I b (Af 1 I (Bj I I I (qQ (qZ (c := decide (a ≤ 122)) I I I) I (Af 2 I (qE (jf (by simp only [b, bz]) I I I2))))))
 exact Ah 6 I b (Af 4 I (qE (jf (by simp only [b, bz]) I I I2)))
 refine Av h I ?_ ?_
 intro g h
 refine qM (qJ (Ai I ?_))
 obtain rfl := h
 exact qK pr
 intro g h
 refine qI ?_
 subst f
 refine qJ (E9 10 (decide (a ≥ 48) && decide (a ≤ 57)) ?_ ?_)
 refine qD (Af 1 I (qQ (qZ (c := decide (a ≥ 48)) I I I) I (Af 1 I ?_)))
 rcases bt (decide (a ≥ 48)) with d | d
 exact Ah 13 I d (Af 1 I (Bj I I I (qQ (qZ (c := decide (a ≤ 57)) I I I) I (Af 2 I (qE (jf (by simp only [d, bz]) I I I2))))))
 exact Ah 13 I d (Af 4 I (qE (jf (by simp only [d, bz]) I I I2)))
 refine Av h I ?_ ?_
 intro i h
 exact qM (lg ⟨(), h, I2⟩ [])
 intro i h
 refine qI (qJ (qD (Af 1 I (qQ (qZ (c := (a == 45)) I I I) I (Af 1 I (qE (Av h I ?_ ?_)))))))
 intro j h
 exact qM (lg ⟨(), h, I2⟩ [])
 intro j h
 refine qI (qM (Ai I ?_))
 obtain rfl := h
 exact qK pr
 rintro s ob ⟨e, h, rfl, rfl⟩
 unfold Jo.J1 at h
 refine qJ (Ai I ?_)
 obtain rfl := h
 exact qK pr
theorem eK (a : Bt) (r : Bool) (h : Il a = some r) : ACalls Al 79 [.v (.string a)] [] (RB r) := by
 refine Ag Tryz.func79 I I I fun C hC => ?_
 unfold Il at h
 refine Ai I (Ac fun S o => Ak (fun s ob => ∃ (f : Bool), Il.J1 a f = some r ∧ s = [(17, .v (.bool f))] ∧ ob = []) [(0, _)] J1 ?_ ?_)
 refine qD (Af 4 I ?_)
 rcases bt (decide ((a.size : Int) < 1)) with b | b
 have h := Cb b h
 exact Ah 7 I b (Af 10 I (qE (lg ⟨true, h, I2⟩ [])))
 have h := Cc b h
 refine Ah 7 I b ?_
 rcases bt (decide ((a.size : Int) > 12)) with d | d
 have h := Cb d h
 exact Af 5 I (Ah 12 I d (Af 5 I (qE (lg ⟨true, h, I2⟩ []))))
 have h := Cc d h
 obtain ⟨g, t, h⟩ := Ad h
 obtain ⟨u, w, y⟩ := Mv t
 exact Af 5 I (Ah 12 I d (Af 1 I (Bj I I I (qQ (C3 (m := g.1) I I I I u w y) I (Bj I I I (qR (Uk g.2 _ I) (Af 2 I (qE (lg ⟨((Jo g.2) != 1), h, I2⟩ [])))))))))
 rintro s ob ⟨f, h, rfl, rfl⟩
 refine Av h I ?_ ?_
 intro A h
 refine Ai I ?_
 cases io h
 exact qK pr
 intro A h
 refine qI ?_
 subst o
 refine Ak (fun s ob => ∃ (i : Unit), Il.J2 i = some r ∧ s = [] ∧ ob = []) [] J ?_ ?_
 refine Ai I (qH ?_)
 obtain ⟨U, B, h⟩ := Ad h
 have D : (a.size : Int).toNat ≤ 9223372036854775806 := by have := J0 B; omega
 obtain ⟨W, E, j⟩ := Ad h
 refine Ee E (K2 0 19) J2 (fun (e : Nat) (l : Unit) s ob => s = [(20, .V (e : Int))] ∧ ob = []) ⟨I, I⟩ ⟨I, J⟩ (pk []) ?_ ?_
 rintro e l X s ob F ⟨rfl, rfl⟩ h G
 have H : decide ((e : Int) < (a.size : Int)) = true := decide_eq_true (by omega)
 refine Ai I (Ac fun Y K => Bl I H (qI ?_))
 subst K
 refine qJ (qH (Ai I (qJ ?_)))
 obtain ⟨n, M, h⟩ := Ad h
 obtain ⟨N, O, P⟩ := Mv M
 refine qD (Af 2 I (qQ (C3 (m := n.1) I I I I N O P) I (qR (Uk n.2 _ I) (Af 1 I (qE (Av h I ?_ ?_))))))
 intro Q h
 refine Ai I ?_
 obtain rfl := G _ (oi h).symm
 have h := j
 have h := Dj h
 cases io h
 exact qK pr
 intro Q h
 refine qI (qD (Ao 2 [.k 0 (e + 1 : Nat)] I ⟨Az F D, J⟩ ?_))
 cases io h
 exact qE ⟨_, _, _, I, I2, J3, pk []⟩
 rintro l s ob ⟨rfl, rfl⟩ he
 subst he
 have h := Dp j
 have R : decide ((((a.size : Int).toNat : Nat) : Int) < (a.size : Int)) = false := decide_eq_false (by omega)
 exact Ai I (Ac fun Z aa => Bm I R (qM (lg ⟨(), h, I2⟩ [])))
 rintro s ob ⟨i, h, rfl, rfl⟩
 unfold Il.J2 at h
 refine Ai I ?_
 cases io h
 exact qK pr
theorem Ur (a : Nw) (r : Arr (List Bt) 4) (h : Nv a = some r) : ACalls Al 76 [.agg (Ab a)] [] (RV (.agg (r.l.map (cL 1 rS)))) := by
 refine Ag Tryz.func76 I I I fun C hC => ?_
 unfold Nv at h
 refine Ac fun y1 U => qD (qF [] I (Cp (Ab a) 6 fun u => qF [] I (B0 W2 4 fun f => qE ?_)))
 subst U
 refine Ac fun y4 W => qD (qF [] I (B0 W2 4 fun g => qE ?_))
 subst W
 refine Ac fun y6 X => qD (Ao 2 [.o 1 0] I J1 (qQ (Du (m := 0) I I I I I I (Be I)) I (qF [2] I (By 2 0 0 [[Q1 a.Nodes, .N, .N, .N]] I (qE ?_)))))
 subst X
 refine Ak (fun s ob => ∃ (c : List Bt) (b : Value), Nv.J1 a c = some r ∧ s = [] ∧ ob = [O0 u [Ab a], O4 f [W2], O4 g [[Q1 a.Nodes, .v b, .N, .N]], U2 b c]) (K3 1 2 3) J3 ?_ ?_
 refine Bk [.o 1 0, .l 2 (a.Segments.length : Int)] I ⟨A6, I, J⟩ (qH (Cd 14 I fun Y => qL (Ay 9 1) ?_))
 obtain ⟨a5, Z, aa⟩ := Ad h
 refine Cr Z (K5 1 2 3 14 15) J5 (fun (w : Nat) (y : List Bt) s ob => ∃ (j : Value), s = [(16, .V (w : Int))] ∧ ob = [O0 u [Ab a], O4 f [W2], O4 g [[Q1 a.Nodes, .v j, .N, .N]], U2 j y]) ⟨nS, I2⟩ ⟨I, J⟩ (pk N4) ?_ ?_
 rintro w F y a6 s ob ab M ⟨j, rfl, rfl⟩ h
 have ac := Cm M
 refine Ai I (Ac fun a7 ad => Bl I ac (qI ?_))
 subst ad
 refine qJ (qH (qJ (qD (Ao 2 [.x 0 w (Au F)] I ⟨⟨I, Ae ab⟩, J⟩ (qF [] I (B0 W1 7 fun a8 => qF [4] I (By 4 0 0 [Au F] I (qE ?_))))))))
 obtain ⟨a9, ae, h⟩ := Ad h
 refine qD (qQ (Du (m := 1) I I I I I I (Be I)) I (Ao 3 [.o 0 2, .o 2 4] I J2 (qF [] I (qO 1 (([F.Name] : List Bt).map rS) (qF [3] I (qU 3 I ae fun O => qQ (Du (m := 1) I I I I I I (Be I)) I (AO.one 3 I fun af => qF [2] I (qT 2 0 1 (es' := [[Q1 a.Nodes, .v O, .N, .N]]) I I I I I I (Bz af) I (Be I) I I (qE (qD (Ao 2 [.k 0 (w + 1 : Nat)] I ⟨Az M Y, J⟩ ?_)))))))))))
 cases io h
 exact qE (lg ⟨O, I2⟩ N4)
 rintro y s ob ⟨j, rfl, rfl⟩ he
 subst he
 have h := aa
 have ag := Cn a.Segments.length
 exact Ai I (Ac fun ba bb => Bm I ag (qM (lg ⟨y, j, h, I2⟩ N4)))
 rintro s ob ⟨c, b, h, rfl, rfl⟩
 unfold Nv.J1 at h
 refine Ak (fun s ob => ∃ (e : List Bt) (d : Value), Nv.J2 a c e = some r ∧ s = [] ∧ ob = [O0 u [Ab a], O4 f [W2], O4 g [[Q1 a.Nodes, .v b, .v d, .N]], U2 b c, U2 d e]) (K3 1 2 3) J3 ?_ ?_
 refine Bk [.o 1 0, .l 2 (a.Ports.length : Int)] I ⟨A6, I, J⟩ (qH (Cd 29 I fun ah => qL (Ay 9 1) ?_))
 obtain ⟨bc, ai, aj⟩ := Ad h
 refine Cr ai (K5 1 2 3 29 30) J5 (fun (A : Nat) (B : List Bt) s ob => ∃ (n : Value), s = [(31, .V (A : Int))] ∧ ob = [O0 u [Ab a], O4 f [W2], O4 g [[Q1 a.Nodes, .v b, .v n, .N]], U2 b c, U2 n B]) ⟨nS, I2⟩ ⟨I, J⟩ (pk N5) ?_ ?_
 rintro A G B bd s ob ak P ⟨n, rfl, rfl⟩ h
 have al := Cm P
 refine Ai I (Ac fun be am => Bl I al (qI ?_))
 subst am
 refine qJ (qH (qJ (qD (Ao 2 [.x 0 A (Bn G)] I ⟨⟨I, Ae ak⟩, J⟩ (qF [] I (B0 W4 3 fun bf => qF [5] I (By 5 0 0 [Bn G] I (qE ?_))))))))
 obtain ⟨bg, an, h⟩ := Ad h
 refine qD (qQ (Du (m := 2) I I I I I I (Be I)) I (Ao 3 [.o 0 2, .o 2 5] I J2 (qF [] I (qO 1 (([G.Name] : List Bt).map rS) (qF [4] I (qU 4 I an fun Q => qQ (Du (m := 2) I I I I I I (Be I)) I (AO.one 4 I fun ao => qF [2] I (qT 2 0 2 (es' := [[Q1 a.Nodes, .v b, .v Q, .N]]) I I I I I I (Bz ao) I (Be I) I I (qE (qD (Ao 2 [.k 0 (A + 1 : Nat)] I ⟨Az P ah, J⟩ ?_)))))))))))
 cases io h
 exact qE (lg ⟨Q, I2⟩ N5)
 rintro B s ob ⟨n, rfl, rfl⟩ he
 subst he
 have h := aj
 have aq := Cn a.Ports.length
 exact Ai I (Ac fun bh bi => Bm I aq (qM (lg ⟨B, n, h, I2⟩ N5)))
 rintro s ob ⟨e, d, h, rfl, rfl⟩
 unfold Nv.J2 at h
 refine Ak (fun s ob => ∃ (q : List Bt) (i : Value), Nv.J3 a c e q = some r ∧ s = [] ∧ ob = [O4 f [W2], O4 g [[Q1 a.Nodes, .v b, .v d, .v i]], U2 b c, U2 d e, U2 i q]) (K2 2 3) J2 ?_ ?_
 refine Bk [.o 1 0, .l 2 (a.Stations.length : Int)] I ⟨A6, I, J⟩ (qH (Cd 44 I fun ar => qL (Ay 9 1) ?_))
 obtain ⟨bj, au, av⟩ := Ad h
 refine Cr au (K4 2 3 44 45) J4 (fun (D : Nat) (E : List Bt) s ob => ∃ (t : Value), s = [(46, .V (D : Int))] ∧ ob = [O4 f [W2], O4 g [[Q1 a.Nodes, .v b, .v d, .v t]], U2 b c, U2 d e, U2 t E]) ⟨nS, I2⟩ ⟨I, J⟩ (pk [1, 2, 3, 4, 5]) ?_ ?_
 rintro D H E bk s ob aw R ⟨t, rfl, rfl⟩ h
 have ax := Cm R
 refine Ai I (Ac fun bl ay => Bl I ax (qI ?_))
 subst ay
 refine qJ (qH (qJ (qD (Ao 2 [.x 0 D (Br H)] I ⟨⟨I, Ae aw⟩, J⟩ (qF [] I (B0 W5 5 fun bm => qF [5] I (By 5 0 0 [Br H] I (qE ?_))))))))
 obtain ⟨bn, az, h⟩ := Ad h
 refine qD (qQ (Du (m := 3) I I I I I I (Be I)) I (Ao 3 [.o 0 1, .o 2 5] I J2 (qF [] I (qO 1 (([H.Name] : List Bt).map rS) (qF [4] I (qU 4 I az fun S => qQ (Du (m := 3) I I I I I I (Be I)) I (AO.one 4 I fun a0 => qF [1] I (qT 1 0 3 (es' := [[Q1 a.Nodes, .v b, .v d, .v S]]) I I I I I I (Bz a0) I (Be I) I I (qE (qD (Ao 2 [.k 0 (D + 1 : Nat)] I ⟨Az R ar, J⟩ ?_)))))))))))
 cases io h
 exact qE (lg ⟨S, I2⟩ N5)
 rintro E s ob ⟨t, rfl, rfl⟩ he
 subst he
 have h := av
 have a1 := Cn a.Stations.length
 exact Ai I (Ac fun bo bp => Bm I a1 (qM (lg ⟨E, t, h, I2⟩ N5)))
 rintro s ob ⟨q, i, h, rfl, rfl⟩
 unfold Nv.J3 at h
 refine qJ (qD (Ao 1 [.o 0 1] I J1 (qF [0] I (By 0 0 0 [[Q1 a.Nodes, .v b, .v d, .v i]] I (qE (qL (As [2, 3, 4] (K := [U2 b c, U2 d e, U2 i q]) I [] J (ob' := [O4 f [[Q1 a.Nodes, Q1 c, Q1 e, Q1 q]], O4 g [[Q1 a.Nodes, .v b, .v d, .v i]]]) (.cons (.arr (.cons (.refl _) (.cons (.us 0 I) (.cons (.us 1 I) (.cons (.us 2 I) (.rest _)))))) (.rest _))) (Dd [0] I ?_)))))))
 cases io h
 exact qK ⟨.inr I, [_], [], ⟨⟨0, _, _, _, _, _, _, _, I5⟩, J⟩, Cv, I2⟩
theorem cX (a : Sn) (b : Sn) (r : Bool) (h : Ji a b = r) : ACalls Al 111 [.agg (Br a), .eptr (Br b)] [] (RB r) := by
 refine Ag Tryz.func111 I I I fun C hC => ?_
 unfold Ji at h
 refine qJ (qD (qF [] I (Cp (Br a) 5 fun c => Af 1 I (qE (Bk [.o 1 0] I J1 (qL g0 ?_))))))
 obtain rfl := h
 exact qK pr
theorem cO (a : Nw) (r : Bool) (h : Qf a = some r) : ACalls Al 80 [.agg (Ab a)] [] (RB r) := by
 refine Ag Tryz.func80 I I I fun C hC => ?_
 unfold Qf at h
 refine Ac fun y1 G => qD (qF [] I (Cp (Ab a) 6 fun b => Af 1 I (qE ?_)))
 subst G
 refine Ak (fun s ob => ∃ (j : Unit), Qf.J1 a j = some r ∧ s = [] ∧ ob = [O0 b [Ab a]]) [(1, _)] J1 ?_ ?_
 refine Ac fun aw H => ?_
 obtain ⟨ax, K, h⟩ := Ad h
 refine qD (Ao 1 [.o 0 0] I J1 (qF [] I (Bg I I I (Ur _ _ K) dS ?_)))
 rintro _ _ ⟨rfl, rfl⟩
 refine Af 1 I (qE ?_)
 subst H
 refine qH ?_
 have M : (4 : Nat) ≤ 9223372036854775806 := by decide
 obtain ⟨ay, N, n⟩ := Ad h
 refine Ee N (K2 1 10) J2 (fun (e : Nat) (t : Unit) s ob => s = [(11, .V (e : Int))] ∧ ob = [O0 b [Ab a]]) ⟨I, I⟩ ⟨I, J⟩ (pk [0]) ?_ ?_
 rintro e t O s ob P ⟨rfl, rfl⟩ h Q
 unfold Qf.B4 at h
 have R : decide ((e : Int) < 4) = true := decide_eq_true (by omega)
 refine Ai I (Ac fun az S => Bl I R (qI ?_))
 subst S
 refine Ak (fun s ob => ∃ (u : Unit), Qf.J5 u = some O ∧ s = [] ∧ ob = [O0 b [Ab a]]) (K3 1 10 11) J3 ?_ ?_
 refine qH (Ac fun a0 U => ?_)
 obtain ⟨i, ⟨W, X⟩, h⟩ := Bc h
 refine qD (qQ (Hj (m := i.1) I I I I I I I W X (hlen := Arr.h _)) I (Af 1 I (qE ?_)))
 subst U
 refine Bk [.l 1 (i.2.length : Int)] I ⟨A6, J⟩ (qH (Cd 14 I fun Y => ?_))
 obtain ⟨a1, Z, w⟩ := Ad h
 refine Cg Z (K6 1 4 10 11 14 15) J6 (fun (f : Nat) (y : Unit) s ob => s = [(16, .V (f : Int))] ∧ ob = [O0 b [Ab a]]) ⟨I, I⟩ ⟨I, J⟩ (pk [0]) ?_ ?_
 rintro f aa y a2 s ob ab A ⟨rfl, rfl⟩ h ac
 have ad := Cm A
 refine Ai I (Ac fun a3 ae => Bl I ad (qI ?_))
 subst ae
 refine qJ (qH (Bk [.x 1 f (rS aa)] I ⟨⟨I, Ae ab⟩, J⟩ (qJ ?_)))
 obtain ⟨a4, af, h⟩ := Ad h
 refine qD (Af 2 I (qR (cY _ _ _ af) (Af 2 I (qE (Av h I ?_ ?_)))))
 intro ag h
 refine Ai I ?_
 obtain rfl := ac _ (oi h).symm
 have h := w
 have h := Dj h
 obtain rfl := Q _ (oi h).symm
 have h := n
 have h := Dj h
 refine qL g0 ?_
 cases io h
 exact qK pr
 intro ag h
 refine qI (qD (Ao 2 [.k 0 (f + 1 : Nat)] I ⟨Az A Y, J⟩ ?_))
 cases io h
 exact qE ⟨_, _, _, I, I2, J7, pk [0]⟩
 rintro y s ob ⟨rfl, rfl⟩ he
 subst he
 have h := Dp w
 have ah := Cn i.2.length
 exact Ai I (Ac fun a5 a6 => Bm I ah (qM (lg ⟨(), h, I2⟩ [0])))
 rintro s ob ⟨u, h, rfl, rfl⟩
 unfold Qf.J5 at h
 refine qD (Ao 2 [.k 0 (e + 1 : Nat)] I ⟨Az P M, J⟩ ?_)
 cases io h
 exact qE ⟨_, _, _, I, I2, J3, pk [0]⟩
 rintro t s ob ⟨rfl, rfl⟩ he
 subst he
 have h := Dp n
 have ai : decide (((4 : Nat) : Int) < 4) = false := by simp
 exact Ai I (Ac fun a7 a8 => Bm I ai (qM (lg ⟨(), h, I2⟩ [0])))
 rintro s ob ⟨j, h, rfl, rfl⟩
 unfold Qf.J1 at h
 refine Ak (fun s ob => ∃ (B : Unit), Qf.J2 B = some r ∧ s = [] ∧ ob = []) [] J ?_ ?_
 refine Bk [.o 1 0, .l 2 (a.Stations.length : Int)] I ⟨A6, I, J⟩ (qH (Cd 29 I fun aj => ?_))
 obtain ⟨a9, ak, D⟩ := Ad h
 refine Cg ak (K3 1 29 30) J3 (fun (g : Nat) (E : Unit) s ob => s = [(31, .V (g : Int))] ∧ ob = [O0 b [Ab a]]) ⟨I, I⟩ ⟨I, J⟩ (pk [0]) ?_ ?_
 rintro g d E ba s ob al F ⟨rfl, rfl⟩ h am
 have an := Cm F
 refine Ai I (Ac fun bb ao => Bl I an (qI ?_))
 subst ao
 refine qJ (qH (Ac fun bc ap => qD (Ao 3 [.x 1 g (Br d)] I ⟨⟨I, Ae al⟩, J⟩ (qF [] I (B0 W5 5 fun bd => Af 1 I (qF [1] I (By 1 0 0 [Br d] I (qE ?_))))))))
 subst ap
 refine qJ ?_
 obtain ⟨be, aq, h⟩ := Ad h
 refine qD (Ao 2 [.o 1 0] I J1 (qQ (Yp.makeFunc I I) I (qF [] I (Cz I (.refl _) I I (.cons (.refl _) (.cons (.fn (.rest _) (.cons (.box 1 I (.rest _)) (.rest _))) (.rest _))) I (Tz _ (.fn 111 [] [.eptr (Br d)]) I (fun x => some (Ji x d)) (fun x r h => by obtain I := oi h; exact cX x d _ I) _ aq) dS (by rintro _ _ ⟨rfl, _⟩; rfl) ?_))))
 rintro _ ⟨_, rfl, -⟩
 refine Af 2 I (qE (Av h I ?_ ?_))
 intro ar h
 refine Ai I ?_
 obtain rfl := am _ (oi h).symm
 have h := D
 have h := Dj h
 refine qL g0 ?_
 cases io h
 exact qK pr
 intro ar h
 refine qI (qD (Ao 2 [.k 0 (g + 1 : Nat)] I ⟨Az F aj, J⟩ ?_))
 cases io h
 exact qE ⟨_, _, _, I, I2, J4, pk [0]⟩
 rintro E s ob ⟨rfl, rfl⟩ he
 subst he
 have h := Dp D
 have au := Cn a.Stations.length
 exact Ai I (Ac fun bf bg => Bm I au (qM (lg ⟨(), h, I2⟩ [])))
 rintro s ob ⟨B, h, rfl, rfl⟩
 unfold Qf.J2 at h
 refine Ai I ?_
 cases io h
 exact qK pr
theorem cQ (a : Int) (c : Nw) (r : Bool) (h : Ll a c = r) : ACalls Al 112 [.V a, .eptr (Ab c)] [] (RB r) := by
 refine Ag Tryz.func112 I I I fun C hC => ?_
 unfold Ll at h
 refine Ai I (Ak (fun s ob => s = [(3, .v (.bool (decide (a < 0) || decide (a ≥ (c.Nodes.length : Int)))))] ∧ ob = []) [] J ?_ ?_)
 refine qD (Af 3 I ?_)
 rcases bt (decide (a < 0)) with b | b
 refine Ah 6 I b (Af 7 I (qE ?_))
 exact lf I2 ⟨(D3 (by simp only [b, bz])), J⟩ [] I
 refine Ah 6 I b (Ao 7 [.l 3 (c.Nodes.length : Int)] I ⟨A6, J⟩ (qE ?_))
 exact lf I2 ⟨(D3 (by simp only [b, bz])), J⟩ [] I
 rintro s ob ⟨rfl, rfl⟩
 obtain rfl := h
 exact qK pr
theorem eM (a : Nw) (r : Bool) (h : Q8 a = some r) : ACalls Al 81 [.agg (Ab a)] [] (RB r) := by
 refine Ag Tryz.func81 I I I fun C hC => ?_
 unfold Q8 at h
 refine Ac fun y1 O => qD (qF [] I (Cp (Ab a) 6 fun b => Af 1 I (qE ?_)))
 subst O
 refine Ai I (Ak (fun s ob => ∃ (A : Li) (f : Value), Q8.J1 a A = some r ∧ s = [(3, .v f)] ∧ ob = [O0 b [Ab a], U0 f A]) [(1, _)] J1 ?_ ?_)
 refine Bk [.o 1 0, .l 2 (a.Segments.length : Int)] I ⟨A6, I, J⟩ (qH (Cd 11 I fun P => qL (Ay 3 1) ?_))
 obtain ⟨ax, Q, R⟩ := Ad h
 refine Cr Q (K3 1 11 12) J3 (fun (g : Nat) (i : Li) s ob => ∃ (c : Value), s = [(13, .V (g : Int)), (3, .v c)] ∧ ob = [O0 b [Ab a], U0 c i]) ⟨nS, I2⟩ ⟨I, I, J⟩ (pk [0, 1]) ?_ ?_
 rintro g j i ay s ob S H ⟨c, rfl, rfl⟩ h
 have U := Cm H
 refine Ai I (Ac fun az W => Bl I U (qI ?_))
 subst W
 refine qJ (qH (qJ (qD (Ao 2 [.x 0 g (Au j)] I ⟨⟨I, Ae S⟩, J⟩ (qF [] I (B0 W1 7 fun a0 => qF [2] I (By 2 0 0 [Au j] I (qE ?_))))))))
 obtain ⟨a1, X, h⟩ := Ad h
 refine qD (Ao 5 [.o 2 2, .o 4 2] I J2 (qF [] I (qO 1 (([j.From, j.To] : Li).map rI) (qF [1] I (qU 1 I X fun Y => Af 1 I (qE (qD (Ao 2 [.k 0 (g + 1 : Nat)] I ⟨Az H P, J⟩ ?_))))))))
 cases io h
 exact qE (lg ⟨Y, I2⟩ [0, 1])
 rintro i s ob ⟨c, rfl, rfl⟩ he
 subst he
 have h := R
 have Z := Cn a.Segments.length
 exact Ai I (Ac fun a2 a3 => Bm I Z (qM (lg ⟨i, c, h, I2⟩ [0, 1])))
 rintro s ob ⟨A, f, h, rfl, rfl⟩
 unfold Q8.J1 at h
 refine Ak (fun s ob => ∃ (B : Li) (n : Value), Q8.J2 a B = some r ∧ s = [(3, .v n)] ∧ ob = [O0 b [Ab a], U0 n B]) [(1, _)] J1 ?_ ?_
 refine Bk [.o 1 0, .l 2 (a.Ports.length : Int)] I ⟨A6, I, J⟩ (qH (Cd 26 I fun aa => ?_))
 obtain ⟨a4, ab, ac⟩ := Ad h
 refine Cr ab (K3 1 26 27) J3 (fun (t : Nat) (u : Li) s ob => ∃ (d : Value), s = [(28, .V (t : Int)), (3, .v d)] ∧ ob = [O0 b [Ab a], U0 d u]) ⟨f, I2⟩ ⟨I, I, J⟩ (pk [0, 1]) ?_ ?_
 rintro t D u a5 s ob ad K ⟨d, rfl, rfl⟩ h
 have ae := Cm K
 refine Ai I (Ac fun a6 af => Bl I ae (qI ?_))
 subst af
 refine qJ (qH (qJ (qD (Ao 2 [.x 0 t (Bn D)] I ⟨⟨I, Ae ad⟩, J⟩ (qF [] I (B0 W4 3 fun a7 => qF [2] I (By 2 0 0 [Bn D] I (qE ?_))))))))
 obtain ⟨a8, ag, h⟩ := Ad h
 refine qD (Ao 3 [.o 2 2] I J1 (qF [] I (qO 1 (([D.Node] : Li).map rI) (qF [1] I (qU 1 I ag fun ah => Af 1 I (qE (qD (Ao 2 [.k 0 (t + 1 : Nat)] I ⟨Az K aa, J⟩ ?_))))))))
 cases io h
 exact qE (lg ⟨ah, I2⟩ [0, 1])
 rintro u s ob ⟨d, rfl, rfl⟩ he
 subst he
 have h := ac
 have ai := Cn a.Ports.length
 exact Ai I (Ac fun a9 ba => Bm I ai (qM (lg ⟨u, d, h, I2⟩ [0, 1])))
 rintro s ob ⟨B, n, h, rfl, rfl⟩
 unfold Q8.J2 at h
 refine Ak (fun s ob => ∃ (E : Li) (F : Value), Q8.J3 a E = some r ∧ s = [(3, .v F)] ∧ ob = [O0 b [Ab a], U0 F E]) [(1, _)] J1 ?_ ?_
 refine Bk [.o 1 0, .l 2 (a.Stations.length : Int)] I ⟨A6, I, J⟩ (qH (Cd 39 I fun aj => ?_))
 obtain ⟨bb, ak, al⟩ := Ad h
 refine Cr ak (K3 1 39 40) J3 (fun (w : Nat) (y : Li) s ob => ∃ (e : Value), s = [(41, .V (w : Int)), (3, .v e)] ∧ ob = [O0 b [Ab a], U0 e y]) ⟨n, I2⟩ ⟨I, I, J⟩ (pk [0, 1]) ?_ ?_
 rintro w G y bc s ob am M ⟨e, rfl, rfl⟩ h
 have an := Cm M
 refine Ai I (Ac fun bd ao => Bl I an (qI ?_))
 subst ao
 refine qJ (qH (qJ (qD (Ao 2 [.x 0 w (Br G)] I ⟨⟨I, Ae am⟩, J⟩ (qF [] I (B0 W5 5 fun be => qF [2] I (By 2 0 0 [Br G] I (qE ?_))))))))
 obtain ⟨bf, aq, h⟩ := Ad h
 refine qD (Ao 3 [.o 2 2] I J1 (qF [] I (qO 1 (([G.Node] : Li).map rI) (qF [1] I (qU 1 I aq fun ar => Af 1 I (qE (qD (Ao 2 [.k 0 (w + 1 : Nat)] I ⟨Az M aj, J⟩ ?_))))))))
 cases io h
 exact qE (lg ⟨ar, I2⟩ [0, 1])
 rintro y s ob ⟨e, rfl, rfl⟩ he
 subst he
 have h := al
 have au := Cn a.Stations.length
 exact Ai I (Ac fun bg bh => Bm I au (qM (lg ⟨y, e, h, I2⟩ [0, 1])))
 rintro s ob ⟨E, F, h, rfl, rfl⟩
 refine qJ ?_
 obtain ⟨bi, av, h⟩ := Ad h
 refine qD (Af 1 I (qQ (Yp.makeFunc I I) I (qF [] I (Cz I (.refl _) I I (.cons (.us 1 I) (.cons (.fn (.rest _) (.cons (.box 0 I (.rest _)) (.rest _))) (.rest _))) I (Oo _ (.fn 112 [] [.eptr (Ab a)]) I (fun x => some (Ll x a)) (fun x r h => by obtain I := oi h; exact cQ x a _ I) _ av) dS (by rintro _ _ ⟨rfl, _⟩; rfl) ?_))))
 rintro _ ⟨_, rfl, -⟩
 refine Af 2 I (qE (qL g0 ?_))
 cases io h
 exact qK pr
theorem eJ (a : Sg) (r : Bool) (h : Lw a = some r) : ACalls Al 114 [.agg (Au a)] [] (RB r) := by
 refine Ag Tryz.func114 I I I fun C hC => ?_
 unfold Lw at h
 refine Ac fun y1 H => qD (qF [] I (Cp (Au a) 7 fun t => Af 1 I (qE ?_)))
 subst H
 refine Ac fun y3 K => E9 27 ((a.From == a.To) || ((!(De a.Capacity 1 1000000)) || ((!(De a.Resist 0 1000)) || (!(De a.Wave 0 100000))))) ?_ ?_
 refine qD (Ao 6 [.o 1 0, .o 3 0] I J2 ?_)
 rcases bt ((a.From == a.To)) with d | d
 exact Ah 10 I d (Af 17 I (qE (jf (by simp only [d, bz]) I I I2)))
 refine Ah 10 I d (Ao 2 [.o 1 0] I J1 (Bj I I I (qR (Do a.Capacity 1 1000000 _ I) (Af 3 I ?_))))
 rcases bt ((!(De a.Capacity 1 1000000))) with f | f
 exact Ah 16 I f (Af 11 I (qE (jf (by simp only [d, f, bz]) I I I2)))
 refine Ah 16 I f (Ao 2 [.o 1 0] I J1 (Bj I I I (qR (Do a.Resist 0 1000 _ I) (Af 3 I ?_))))
 rcases bt ((!(De a.Resist 0 1000))) with i | i
 exact Ah 22 I i (Af 5 I (qE (jf (by simp only [d, f, i, bz]) I I I2)))
 exact Ah 22 I i (Ao 2 [.o 1 0] I J1 (Bj I I I (qR (Do a.Wave 0 100000 _ I) (Af 2 I (qE (jf (by simp only [d, f, i, bz]) I I I2))))))
 refine Av h I ?_ ?_
 intro M h
 refine Ai I (qL g0 ?_)
 cases io h
 exact qK pr
 intro M h
 refine qI ?_
 subst K
 refine Ak (fun s ob => ∃ (D : Unit), Lw.J1 a D = some r ∧ s = [] ∧ ob = [O5 t [Au a]]) [(1, _)] J1 ?_ ?_
 refine Bk [.o 1 0, .l 2 (a.Points.length : Int)] I ⟨A6, I, J⟩ (qH (Cd 29 I fun N => ?_))
 obtain ⟨ah, O, E⟩ := Ad h
 refine Cg O (K3 1 29 30) J3 (fun (j : Nat) (F : Unit) s ob => s = [(31, .V (j : Int))] ∧ ob = [O5 t [Au a]]) ⟨I, I⟩ ⟨I, J⟩ (pk [0]) ?_ ?_
 rintro j b F P s ob Q G ⟨rfl, rfl⟩ h R
 unfold Lw.B3 at h
 have S := Cm G
 refine Ai I (Ac fun ai U => Bl I S (qI ?_))
 subst U
 refine qJ (qH (Ac fun aj W => qD (Ao 3 [.x 1 j (Bx b)] I ⟨⟨I, Ae Q⟩, J⟩ (qF [] I (B0 [.V 0, .V 0, .V 0] 3 fun ak => Af 1 I (qF [1] I (By 1 0 0 [Bx b] I (qE ?_))))))))
 subst W
 refine Ak (fun s ob => ∃ (u : Bool), Lw.J4 u = some P ∧ s = [(61, .v (.bool u))] ∧ ob = [O5 t [Au a]]) (K4 1 29 30 31) J4 ?_ ?_
 rcases bt ((!(De b.Height (-500) 5000))) with e | e
 have h := Cb e h
 refine Bv (pd 26 0 [2, 7]) [1] [_] I (Cf 2 [.o 1 0] I J1 (rD I (Do b.Height (-500) 5000 _ I) (A9 2 I (A8 40 I e (A9 9 I (Ap I I I I dS (Ap I I I I dS (Ap I I I I dS (Ap I I I I dS (Ap I I I I dS (Ap I I I I dS (Ap I I I I dS ?_))))))))))))
 exact Ap I I I I dS (Ap I I I I dS (Ap I I I I dS (A9 2 I (Ar (qE (lg ⟨true, h, I2⟩ [0]))))))
 have h := Cc e h
 rcases bt ((!(De b.Limit 0 100000000))) with g | g
 have h := Cb g h
 refine Bv (pd 26 0 [2, 7]) [1] [_] I (Cf 2 [.o 1 0] I J1 (rD I (Do b.Height (-500) 5000 _ I) (A9 2 I (A8 40 I e (Cf 2 [.o 1 0] I J1 (I4 I (Do b.Limit 0 100000000 _ I) (A9 3 I (A8 46 I g (A9 3 I (Ap I I I I dS (Ap I I I I dS (Ap I I I I dS ?_))))))))))))
 exact Ap I I I I dS (Ap I I I I dS (Ap I I I I dS (Ap I I I I dS (Ap I I I I dS (Ap I I I I dS (Ap I I I I dS (A9 2 I (Ar (qE (lg ⟨true, h, I2⟩ [0]))))))))))
 have h := Cc g h
 rcases bt (decide ((j : Int) > 0)) with n | n
 have h := Cb n h
 obtain ⟨w, ⟨X, Y⟩, h⟩ := Bc h
 refine Bv (pd 26 0 [2, 7]) [1, 0] [_, _] I (Cf 2 [.o 1 0] I J1 (rD I (Do b.Height (-500) 5000 _ I) (A9 2 I (A8 40 I e (Cf 2 [.o 1 0] I J1 (I4 I (Do b.Limit 0 100000000 _ I) (A9 3 I (A8 46 I g (A9 3 I (A8 49 I n (Cf 12 [.o 1 0, .o 3 1, .x 6 w.1 (Bx w.2)] I ⟨⟨X, Ae Y⟩, I, I, J⟩ (Ar ?_))))))))))))
 exact qE (lg ⟨decide (b.At ≤ w.2.At), h, I2⟩ [0])
 have h := Cc n h
 refine Bv (pd 26 0 [2, 7]) [1] [_] I (Cf 2 [.o 1 0] I J1 (rD I (Do b.Height (-500) 5000 _ I) (A9 2 I (A8 40 I e (Cf 2 [.o 1 0] I J1 (I4 I (Do b.Limit 0 100000000 _ I) (A9 3 I (A8 46 I g (A9 3 I (A8 49 I n (A9 12 I (Ar ?_))))))))))))
 exact qE (lg ⟨false, h, I2⟩ [0])
 rintro s ob ⟨u, h, rfl, rfl⟩
 refine Av h I ?_ ?_
 intro Z h
 refine Ai I ?_
 obtain rfl := R _ (oi h).symm
 have h := E
 have h := Dj h
 refine qL g0 ?_
 cases io h
 exact qK pr
 intro Z h
 refine qI (qD (Ao 2 [.k 0 (j + 1 : Nat)] I ⟨Az G N, J⟩ ?_))
 cases io h
 exact qE ⟨_, _, _, I, I2, J4, pk [0]⟩
 rintro F s ob ⟨rfl, rfl⟩ he
 subst he
 have h := Dp E
 have aa := Cn a.Points.length
 exact Ai I (Ac fun al am => Bm I aa (qM (lg ⟨(), h, I2⟩ [0])))
 rintro s ob ⟨D, h, rfl, rfl⟩
 unfold Lw.J1 at h
 refine Ak (fun s ob => ∃ (y : Bool), Lw.J2 y = some r ∧ s = [(2, .v (.bool y))] ∧ ob = []) [] J ?_ ?_
 obtain ⟨A, ⟨ab, ac⟩, h⟩ := Bc h
 refine Bv (pd 21 0 []) [0] [_] I (Cf 7 [.o 1 0, .x 2 A.1 (Bx A.2)] I ⟨⟨ab, Ae ac⟩, I, J⟩ ?_)
 rcases bt ((A.2.At == 0)) with p | p
 have h := Cb p h
 obtain ⟨B, ⟨ad, ae⟩, h⟩ := Bc h
 exact A8 69 I p (Cf 14 [.o 1 0, .o 3 0, .l 4 (a.Points.length : Int), .x 6 B.1 (Bx B.2), .o 10 0] I ⟨I, ⟨ad, Ae ae⟩, A6, I, I, J⟩ (Ar (qE (lg ⟨(B.2.At == a.Capacity), h, I2⟩ []))))
 have h := Cc p h
 exact A8 69 I p (A9 14 I (Ar (qE (lg ⟨false, h, I2⟩ []))))
 rintro s ob ⟨y, h, rfl, rfl⟩
 unfold Lw.J2 at h
 cases io h
 exact qK pr
theorem cM (a : Sg) (r : Bool) (h : Vf a = some r) : ACalls Al 113 [.agg (Au a)] [] (RB r) := by
 refine Ag Tryz.func113 I I I fun C hC => ?_
 refine qJ (qD (qF [] I (Cp (Au a) 7 fun d => Af 1 I (qE (qJ ?_)))))
 obtain ⟨e, b, h⟩ := Ad h
 refine qD (Ao 1 [.o 0 0] I J1 (qR (eJ _ _ b) (Af 2 I (qE (qL g0 ?_)))))
 cases io h
 exact qK pr
theorem cT (a : Port) (r : Bool) (h : Lm a = r) : ACalls Al 116 [.agg (Bn a)] [] (RB r) := by
 refine Ag Tryz.func116 I I I fun C hC => ?_
 unfold Lm at h
 refine qJ (qD (qF [] I (Cp (Bn a) 3 fun b => Af 1 I (qE (qJ (qD (Ao 2 [.o 1 0] I J1 (qR (Do a.Pressure 0 100000000 _ I) (Af 2 I (qE (qL g0 ?_)))))))))))
 obtain rfl := h
 exact qK pr
theorem eE (a : Sn) (r : Bool) (h : Lu a = r) : ACalls Al 119 [.agg (Br a)] [] (RB r) := by
 refine Ag Tryz.func119 I I I fun C hC => ?_
 unfold Lu at h
 refine Ac fun f e => qD (qF [] I (Cp (Br a) 5 fun g => Af 1 I (qE ?_)))
 subst e
 refine Ak (fun s ob => s = [(2, .v (.bool ((!(De a.Head 0 100000000)) || ((!(De a.Fall 0 100000)) || (!(De a.Suction 0 100000000))))))] ∧ ob = []) [] J ?_ ?_
 refine qD (Ao 2 [.o 1 0] I J1 (qR (Do a.Head 0 100000000 _ I) (Af 2 I ?_)))
 rcases bt ((!(De a.Head 0 100000000))) with b | b
 refine Ah 7 I b (Af 12 I (qE ?_))
 exact lf I2 ⟨(D3 (by simp only [b, bz])), J⟩ [] I
 refine Ah 7 I b (Ao 2 [.o 1 0] I J1 (Bj I I I (qR (Do a.Fall 0 100000 _ I) (Af 3 I ?_))))
 rcases bt ((!(De a.Fall 0 100000))) with d | d
 refine Ah 13 I d (Af 6 I (qE ?_))
 exact lf I2 ⟨(D3 (by simp only [b, d, bz])), J⟩ [] I
 refine Ah 13 I d (Ao 2 [.o 1 0] I J1 (Bj I I I (qR (Do a.Suction 0 100000000 _ I) (Af 3 I (qE ?_)))))
 exact lf I2 ⟨(D3 (by simp only [b, d, bz])), J⟩ [] I
 rintro s ob ⟨rfl, rfl⟩
 obtain rfl := h
 exact qK pr
theorem eI (a : Nw) (r : Bool) (h : Vs a = some r) : ACalls Al 82 [.agg (Ab a)] [] (RB r) := by
 refine Ag Tryz.func82 I I I fun C hC => ?_
 refine Ac fun p d => qD (qF [] I (Cp (Ab a) 6 fun t => Af 1 I (qE ?_)))
 subst d
 refine Ac fun u e => qJ ?_
 obtain ⟨w, f, h⟩ := Ad h
 refine qD (Ao 2 [.o 1 0] I J1 (qR (T1 _ (.v (.func (.func 113) #[] #[])) I (fun x => Vf x) (fun x r h => cM x r h) _ f) (qE (Av h I ?_ ?_))))
 intro g h
 refine Ai I (qL g0 ?_)
 cases io h
 exact qK pr
 intro g h
 refine qI ?_
 subst e
 refine Ac fun y i => qJ ?_
 obtain ⟨A, j, h⟩ := Ad h
 refine qD (Ao 2 [.o 1 0] I J1 (qR (eH _ (.v (.func (.func 116) #[] #[])) I (fun x => some (Lm x)) (fun x r h => by obtain I := oi h; exact cT x _ I) _ j) (qE (Av h I ?_ ?_))))
 intro k h
 refine Ai I (qL g0 ?_)
 cases io h
 exact qK pr
 intro k h
 refine qI ?_
 subst i
 refine qJ (qJ ?_)
 obtain ⟨B, l, h⟩ := Ad h
 refine qD (Ao 2 [.o 1 0] I J1 (qR (cW _ (.v (.func (.func 119) #[] #[])) I (fun x => some (Lu x)) (fun x r h => by obtain I := oi h; exact eE x _ I) _ l) (qE (Av h I ?_ ?_))))
 intro n h
 refine Ai I (qL g0 ?_)
 cases io h
 exact qK pr
 intro n h
 refine qI (Ak (fun s ob => s = [(2, .v (.bool ((De a.Vapour (-100000) 100000000) && (De a.Settle 0 100))))] ∧ ob = []) [] J ?_ ?_)
 refine qD (Ao 2 [.o 1 0] I J1 (qR (Do a.Vapour (-100000) 100000000 _ I) (Af 1 I ?_)))
 rcases bt ((De a.Vapour (-100000) 100000000)) with b | b
 refine Ah 15 I b (Ao 2 [.o 1 0] I J1 (Bj I I I (qR (Do a.Settle 0 100 _ I) (Af 2 I (qE ?_)))))
 exact lf I2 ⟨(D3 (by simp only [b, bz])), J⟩ [] I
 refine Ah 15 I b (Af 5 I (qE ?_))
 exact lf I2 ⟨(D3 (by simp only [b, bz])), J⟩ [] I
 rintro s ob ⟨rfl, rfl⟩
 cases io h
 exact qK pr
theorem dC (a : Bt) (r : Bool) (h : Vi a = some r) : ACalls Al 78 [.v (.string a)] [] (RB r) := by
 refine Ag Tryz.func78 I I I fun C hC => ?_
 refine Ai I (qJ ?_)
 obtain ⟨d, b, h⟩ := Ad h
 refine qD (Af 1 I (qR (eK _ _ b) (Af 2 I (qE ?_))))
 cases io h
 exact qK pr
theorem Uj (a : Nw) (r : Int) (h : Fy a = some r) : ACalls Al 46 [.agg (Ab a)] [] (RV (.V r)) := by
 refine Ag Tryz.func46 I I I fun C hC => ?_
 refine Ac fun Y i => qD (qF [] I (Cp (Ab a) 6 fun d => Af 1 I (qE ?_)))
 subst i
 refine Ac fun Z j => qJ ?_
 obtain ⟨r4, l, h⟩ := Ad h
 refine qD (Ao 1 [.o 0 0] I J1 (qR (dF _ _ l) (Af 1 I (qE (Av h I ?_ ?_)))))
 intro n h
 refine Ai I (qL g0 ?_)
 cases io h
 exact qK pr
 intro n h
 refine qI ?_
 subst j
 refine Ak (fun s ob => ∃ (e : Unit), Fy.J1 a e = some r ∧ s = [] ∧ ob = [O0 d [Ab a]]) [(1, _)] J1 ?_ ?_
 refine Ac fun ab t => ?_
 obtain ⟨ac, u, h⟩ := Ad h
 refine qD (Ao 1 [.o 0 0] I J1 (qF [] I (Bg I I I (Ur _ _ u) dS ?_)))
 rintro _ _ ⟨rfl, rfl⟩
 refine Af 1 I (qE ?_)
 subst t
 refine qH ?_
 have w : (4 : Nat) ≤ 9223372036854775806 := by decide
 obtain ⟨ad, y, f⟩ := Ad h
 refine Ee y (K2 1 9) J2 (fun (b : Nat) (g : Unit) s ob => s = [(10, .V (b : Int))] ∧ ob = [O0 d [Ab a]]) ⟨I, I⟩ ⟨I, J⟩ (pk [0]) ?_ ?_
 rintro b g ae s ob A ⟨rfl, rfl⟩ h B
 have D : decide ((b : Int) < 4) = true := decide_eq_true (by omega)
 refine Ai I (Ac fun af E => Bl I D (qI ?_))
 subst E
 refine qJ (qH (qJ ?_))
 obtain ⟨F, ⟨G, H⟩, h⟩ := Bc h
 refine qD (qQ (Hj (m := F.1) I I I I I I I G H (hlen := Arr.h _)) I (Af 1 I (qE (qJ ?_))))
 obtain ⟨ag, K, h⟩ := Ad h
 refine qD (Af 1 I (qR (dL _ (.v (.func (.func 78) #[] #[])) I (fun x => Vi x) (fun x r h => dC x r h) _ K) (qE (Av h I ?_ ?_))))
 intro M h
 refine Ai I ?_
 obtain rfl := B _ (oi h).symm
 have h := f
 have h := Dj h
 refine qL g0 ?_
 cases io h
 exact qK pr
 intro M h
 refine qI (qD (Ao 2 [.k 0 (b + 1 : Nat)] I ⟨Az A w, J⟩ ?_))
 cases io h
 exact qE ⟨_, _, _, I, I2, J3, pk [0]⟩
 rintro g s ob ⟨rfl, rfl⟩ he
 subst he
 have h := Dp f
 have N : decide (((4 : Nat) : Int) < 4) = false := by simp
 exact Ai I (Ac fun ah ai => Bm I N (qM (lg ⟨(), h, I2⟩ [0])))
 rintro s ob ⟨e, h, rfl, rfl⟩
 refine qJ (qH (Ac fun aj O => ?_))
 obtain ⟨ak, P, h⟩ := Ad h
 refine qD (Ao 1 [.o 0 0] I J1 (qR (cO _ _ P) (Af 1 I (qE ?_))))
 subst O
 refine Av h I ?_ ?_
 intro Q h
 refine Ai I (qL g0 ?_)
 cases io h
 exact qK pr
 intro Q h
 refine Ac fun al R => ?_
 obtain ⟨am, S, h⟩ := Ad h
 refine qD (Ao 1 [.o 0 0] I J1 (qR (eM _ _ S) (Af 2 I (qE ?_))))
 subst R
 refine Av h I ?_ ?_
 intro U h
 refine Ai I (qL g0 ?_)
 cases io h
 exact qK pr
 intro U h
 refine qJ ?_
 obtain ⟨an, W, h⟩ := Ad h
 refine qD (Ao 1 [.o 0 0] I J1 (qR (eI _ _ W) (Af 2 I (qE (Av h I ?_ ?_)))))
 intro X h
 refine Ai I (qL g0 ?_)
 cases io h
 exact qK pr
 intro X h
 refine qI (Ai I (qL g0 ?_))
 cases io h
 exact qK pr
theorem T4 (d : Nat) (a : flow_streams) (j : Int) (n : Int) (p : Int) (r : flow_streams) (h : Nm a j n p = some r) : ACalls Al 144 [.P d, .V j, .V n, .V p] [O6 d [a.come.l.map cI ++ (a.leave.l.map cI ++ [])]] (Fh 1 fun x os new => x = .tup [] ∧ os = [O6 d [r.come.l.map cI ++ (r.leave.l.map cI ++ [])]] ∧ new = []) := by
 refine Ag Tryz.func144 I I I fun C hC => ?_
 unfold Nm at h
 refine Ak (fun s ob => ∃ (b : Int × Int × Int), Nm.J1 a b = some r ∧ s = [(1, .V b.1), (2, .V b.2.1), (3, .V b.2.2)] ∧ ob = [O6 d [a.come.l.map cI ++ (a.leave.l.map cI ++ [])]]) [(0, _)] J1 ?_ ?_
 refine Ai I (Av h I ?_ ?_)
 intro A h
 exact Uz I (lg ⟨(n, j, wr (0 - p)), h, I2⟩ [0])
 intro A h
 exact qI (lg ⟨(j, n, p), h, I2⟩ [0])
 rintro s ob ⟨b, h, rfl, rfl⟩
 unfold Nm.J1 at h
 refine Ak (fun s ob => ∃ (f : Arr Int 24), Nm.J2 a b f = some r ∧ s = [] ∧ ob = [O6 d [a.come.l.map cI ++ (f.l.map cI ++ [])]]) (K3 0 2 3) J3 ?_ ?_
 refine Ai I (Av h I ?_ ?_)
 intro B h
 obtain ⟨e, ⟨u, g⟩, h⟩ := Bc h
 exact Bv (sl 11 0 (.drop 11 .nil)) [0] [_] I (A9 4 I (qV I (Df (m := e.1) I I I I I I u (Eu g)) I (AP.o I (Ck 0 0 (24 + e.1) I I I I (by omega) (y := .V e.2) (Ed (k := 24) (by simp [Arr.h, Am]) (Ey g))) I (A9 4 I (qV I (Df (m := e.1) I I I I I I u (Eu g)) I (qX [0] I I I (qT 0 0 (24 + e.1) (es' := [a.come.l.map cI ++ ((a.leave.set e.1 (wr (e.2 + b.2.2))).l.map cI ++ [])]) I I I I (by omega) I I I (V0 (Eu g) (by simp [Arr.h, Am])) I (congrArg (fun r => [r]) (Gu (k := 24) (by simp [Arr.h, Am]) (I1 (P8 g)))) (Ar (qE (lg ⟨(a.leave.set e.1 (wr (e.2 + b.2.2))), h, I2⟩ [0]))))))))))
 intro B h
 exact qI (lg ⟨a.leave, h, I2⟩ [0])
 rintro s ob ⟨f, h, rfl, rfl⟩
 refine Ai I (Av h I ?_ ?_)
 intro D h
 obtain ⟨c, ⟨w, i⟩, h⟩ := Bc h
 refine Bv (sl 11 0 (.drop 11 .nil)) [0] [_] I (A9 4 I (qV I (Df (m := c.1) I I I I I I w (Eu i)) I (AP.o I (Ck 0 0 (0 + c.1) I I I I (by omega) (y := .V c.2) (by rw [Nat.zero_add]; exact Ey i)) I (A9 4 I (qV I (Df (m := c.1) I I I I I I w (Eu i)) I (qX [0] I I I (qT 0 0 (0 + c.1) (es' := [(a.come.set c.1 (wr (c.2 + b.2.2))).l.map cI ++ (f.l.map cI ++ [])]) I I I I (by omega) I I I (V0 (Eu i) (by simp [Arr.h, Am])) I (congrArg (fun r => [r]) (by rw [Nat.zero_add]; exact I1 (P8 i))) (Ar ?_))))))))
 cases io h
 exact qE ⟨.inl I, [], [O6 d [(a.come.set c.1 (wr (c.2 + b.2.2))).l.map cI ++ (f.l.map cI ++ [])]], J, Ca I (Cv), ⟨[O6 d [(a.come.set c.1 (wr (c.2 + b.2.2))).l.map cI ++ (f.l.map cI ++ [])]], [], I5⟩⟩
 intro D h
 cases io h
 refine qI ?_
 exact ⟨.inl I, [], [O6 d [a.come.l.map cI ++ (f.l.map cI ++ [])]], J, Ca I (Cv), ⟨[O6 d [a.come.l.map cI ++ (f.l.map cI ++ [])]], [], I5⟩⟩
theorem cF (a : Nw) (c : Plan) (r : flow_streams) (h : Qd a c = some r) : ACalls Al 134 [.agg (Ab a), .agg (Aj c)] [] (RV (.agg (Am r))) := by
 refine Ag Tryz.func134 I I I fun C hC => ?_
 unfold Qd at h
 refine Ac fun y1 G => qD (qF [] I (Cp (Ab a) 6 fun u => qF [] I (Cp (Aj c) 3 fun t => qF [] I (B0 ((Arr.rep 24 (0 : Int)).l.map cI ++ ((Arr.rep 24 (0 : Int)).l.map cI ++ [])) 48 fun i => qE ?_))))
 subst G
 refine Ac fun y5 H => qD (qF [] I (B0 ((Arr.rep 24 (0 : Int)).l.map cI ++ ((Arr.rep 24 (0 : Int)).l.map cI ++ [])) 48 fun e => qE ?_))
 subst H
 refine Ak (fun s ob => ∃ (j : (Arr Int 24) × (Arr Int 24)), Qd.J1 a c j = some r ∧ s = [] ∧ ob = [O0 u [Ab a], O1 t [Aj c], O6 i [(Arr.rep 24 (0 : Int)).l.map cI ++ ((Arr.rep 24 (0 : Int)).l.map cI ++ [])], O6 e [j.1.l.map cI ++ (j.2.l.map cI ++ [])]]) (K4 2 3 4 5) J4 ?_ ?_
 refine Bk [.o 1 0, .l 2 (a.Segments.length : Int)] I ⟨A6, I, J⟩ (qH (Cd 11 I fun K => ?_))
 obtain ⟨ak, M, O⟩ := Ad h
 refine Cr M (K6 2 3 4 5 11 12) J6 (fun (n : Nat) (f : (Arr Int 24) × (Arr Int 24)) s ob => s = [(13, .V (n : Int))] ∧ ob = [O0 u [Ab a], O1 t [Aj c], O6 i [(Arr.rep 24 (0 : Int)).l.map cI ++ ((Arr.rep 24 (0 : Int)).l.map cI ++ [])], O6 e [f.1.l.map cI ++ (f.2.l.map cI ++ [])]]) ⟨I, I⟩ ⟨I, J⟩ (pk N4) ?_ ?_
 rintro n w f al s ob P A ⟨rfl, rfl⟩ h
 have Q := Cm A
 refine Ai I (Ac fun am R => Bl I Q (qI ?_))
 subst R
 refine qJ (qH (qJ (qD (Ao 3 [.x 1 n (Au w)] I ⟨⟨I, Ae P⟩, J⟩ (qF [] I (B0 W1 7 fun an => Af 1 I (qF [4] I (By 4 0 0 [Au w] I (qE ?_)))))))))
 obtain ⟨B, ⟨S, U⟩, h⟩ := Bc h
 obtain ⟨ao, W, h⟩ := Ad h
 refine Bv (pd 10 0 [9]) [4, 1] [_, _] I (Cf 9 [.o 1 0, .o 3 0, .o 5 1, .x 7 B.1 (rI B.2)] I ⟨⟨S, Ae U⟩, I, I, I, J⟩ (qG [3] I I I (A7 [3] (T4 e _ _ _ _ _ W) ?_)))
 refine Ar (qE (qD (Ao 2 [.k 0 (n + 1 : Nat)] I ⟨Az A K, J⟩ ?_)))
 cases io h
 exact qE (lg I2 N4)
 rintro f s ob ⟨rfl, rfl⟩ he
 subst he
 have h := O
 have X := Cn a.Segments.length
 exact Ai I (Ac fun ap aq => Bm I X (qM (lg ⟨(f.1, f.2), h, I2⟩ N4)))
 rintro s ob ⟨j, h, rfl, rfl⟩
 unfold Qd.J1 at h
 refine Ak (fun s ob => ∃ (b : (Arr Int 24) × (Arr Int 24)), Qd.J2 b = some r ∧ s = [] ∧ ob = [O6 i [(Arr.rep 24 (0 : Int)).l.map cI ++ ((Arr.rep 24 (0 : Int)).l.map cI ++ [])], O6 e [b.1.l.map cI ++ (b.2.l.map cI ++ [])]]) (K2 4 5) J2 ?_ ?_
 refine Bk [.o 1 0, .l 2 (a.Ports.length : Int)] I ⟨A6, I, J⟩ (qH (Cd 30 I fun Y => ?_))
 obtain ⟨ar, Z, aa⟩ := Ad h
 refine Cr Z (K5 3 4 5 30 31) J5 (fun (p : Nat) (g : (Arr Int 24) × (Arr Int 24)) s ob => s = [(32, .V (p : Int))] ∧ ob = [O1 t [Aj c], O6 i [(Arr.rep 24 (0 : Int)).l.map cI ++ ((Arr.rep 24 (0 : Int)).l.map cI ++ [])], O6 e [g.1.l.map cI ++ (g.2.l.map cI ++ [])]]) ⟨I, I⟩ ⟨I, J⟩ (pk [1, 2, 3]) ?_ ?_
 rintro p D g au s ob ab E ⟨rfl, rfl⟩ h
 have ac := Cm E
 refine Ai I (Ac fun av ad => Bl I ac (qI ?_))
 subst ad
 refine qJ (qH (qJ (qD (Ao 3 [.x 1 p (Bn D)] I ⟨⟨I, Ae ab⟩, J⟩ (qF [] I (B0 W4 3 fun aw => Af 1 I (qF [3] I (By 3 0 0 [Bn D] I (qE ?_)))))))))
 obtain ⟨F, ⟨ae, af⟩, h⟩ := Bc h
 obtain ⟨ax, ag, h⟩ := Ad h
 refine Bv (pd 8 0 [7]) [3, 0] [_, _] I (Cf 7 [.o 1 0, .o 3 1, .x 5 F.1 (rI F.2)] I ⟨⟨ae, Ae af⟩, I, I, J⟩ (qG [2] I I I (A7 [2] (T4 e _ _ _ _ _ ag) ?_)))
 refine Ar (qE (qD (Ao 2 [.k 0 (p + 1 : Nat)] I ⟨Az E Y, J⟩ ?_)))
 cases io h
 exact qE (lg I2 N3)
 rintro g s ob ⟨rfl, rfl⟩ he
 subst he
 have h := aa
 have ah := Cn a.Ports.length
 exact Ai I (Ac fun ay az => Bm I ah (qM (lg ⟨(g.1, g.2), h, I2⟩ [1, 2])))
 rintro s ob ⟨b, h, rfl, rfl⟩
 unfold Qd.J2 at h
 refine qJ (qD (qN (Ck 1 0 0 I I I I I (y := .agg (b.1.l.map cI ++ (b.2.l.map cI ++ []))) (G6 I (by simp [Arr.h, Am]))) I (qF [0] I (qT 0 0 0 (es' := [b.1.l.map cI ++ (b.2.l.map cI ++ [])]) I I I I I I I (by simp [Arr.h, Am]) (by simp [Arr.h, Am]) I (congrArg (fun r => [r]) (Fq (by simp [Arr.h, Am]))) (qE (Dd [0] I ?_))))))
 cases io h
 exact qK ⟨.inr I, [_], [], ⟨⟨0, _, _, _, _, _, _, _, I, I, I, I, (G6 I (by simp [Arr.h, Am]))⟩, J⟩, Cv, I2⟩
theorem eD (a : Int) (r : Bool) (h : Ns a = r) : ACalls Al 133 [.V a] [] (RB r) := by
 refine Ag Tryz.func133 I I I fun C hC => ?_
 unfold Ns at h
 refine Ai I (qJ (qD (Af 1 I (qR (Ub a 1000 _ I) (Af 2 I (qE ?_))))))
 obtain rfl := h
 exact qK pr
theorem dK (e : Nw) (f : Plan) (r : Int) (h : Lr e f = some r) : ACalls Al 120 [.agg (Ab e), .agg (Aj f)] [] (RV (.V r)) := by
 refine Ag Tryz.func120 I I I fun C hC => ?_
 refine Ac fun y1 G => qD (qF [] I (Cp (Ab e) 6 fun w => qF [] I (Cp (Aj f) 3 fun A => Af 1 I (qE ?_))))
 subst G
 refine Ac fun y4 H => qJ ?_
 obtain ⟨r5, K, h⟩ := Ad h
 refine qD (Ao 1 [.o 0 0] I J1 (qR (Uj _ _ K) (Af 1 I (qE (Ai I (Av h I ?_ ?_))))))
 intro M h
 refine Ai I (qL g0 ?_)
 cases io h
 exact qK pr
 intro M h
 refine qI ?_
 subst H
 refine Ac fun y8 O => E9 38 (((f.Rates.length : Int) != (e.Segments.length : Int)) || (((f.Ports.length : Int) != (e.Ports.length : Int)) || ((f.Pumps.length : Int) != (e.Stations.length : Int)))) ?_ ?_
 refine qD (Ao 8 [.o 1 1, .l 2 (f.Rates.length : Int), .o 4 0, .l 5 (e.Segments.length : Int)] I ⟨A6, I, A6, I, J⟩ ?_)
 rcases bt (((f.Rates.length : Int) != (e.Segments.length : Int))) with g | g
 exact Ah 21 I g (Af 17 I (qE (jf (by simp only [g, bz]) I I I2)))
 refine Ah 21 I g (Ao 9 [.o 1 1, .l 2 (f.Ports.length : Int), .o 4 0, .l 5 (e.Ports.length : Int)] I ⟨A6, I, A6, I, J⟩ ?_)
 rcases bt (((f.Ports.length : Int) != (e.Ports.length : Int))) with j | j
 exact Ah 30 I j (Af 8 I (qE (jf (by simp only [g, j, bz]) I I I2)))
 exact Ah 30 I j (Ao 8 [.o 1 1, .l 2 (f.Pumps.length : Int), .o 4 0, .l 5 (e.Stations.length : Int)] I ⟨A6, I, A6, I, J⟩ (qE (jf (by simp only [g, j, bz]) I I I2)))
 refine Av h I ?_ ?_
 intro P h
 refine Ai I (qL g0 ?_)
 cases io h
 exact qK pr
 intro P h
 refine qI ?_
 subst O
 refine Ak (fun s ob => ∃ (B : Unit), Lr.J1 e f B = some r ∧ s = [] ∧ ob = [O0 w [Ab e], O1 A [Aj f]]) (K2 2 3) J2 ?_ ?_
 refine Bk [.o 1 0, .l 2 (e.Segments.length : Int)] I ⟨A6, I, J⟩ (qH (Cd 40 I fun Q => ?_))
 obtain ⟨ap, R, D⟩ := Ad h
 refine Cg R (K4 2 3 40 41) J4 (fun (n : Nat) (E : Unit) s ob => s = [(42, .V (n : Int))] ∧ ob = [O0 w [Ab e], O1 A [Aj f]]) ⟨I, I⟩ ⟨I, J⟩ (pk [0, 1]) ?_ ?_
 rintro n t E aq s ob S F ⟨rfl, rfl⟩ h U
 have W := Cm F
 refine Ai I (Ac fun ar X => Bl I W (qI ?_))
 subst X
 refine qJ (qH (Ac fun au Y => qD (Ao 3 [.x 1 n (Au t)] I ⟨⟨I, Ae S⟩, J⟩ (qF [] I (B0 W1 7 fun av => Af 1 I (qF [2] I (By 2 0 0 [Au t] I (qE ?_))))))))
 subst Y
 refine qJ ?_
 obtain ⟨u, ⟨Z, aa⟩, h⟩ := Bc h
 refine Bv (pd 10 0 [8]) [1, 2] [_, _] I (Cf 8 [.o 1 0, .x 3 u.1 (rI u.2), .o 6 1] I ⟨I, ⟨Z, Ae aa⟩, I, J⟩ (rD I (Ub u.2 (min 1000 t.Capacity) _ I) (A9 1 I (Ar (qE (Av h I ?_ ?_))))))
 intro ab h
 refine Ai I ?_
 obtain rfl := U _ (oi h).symm
 have h := D
 have h := Dj h
 refine qL g0 ?_
 cases io h
 exact qK pr
 intro ab h
 refine qI (qD (Ao 2 [.k 0 (n + 1 : Nat)] I ⟨Az F Q, J⟩ ?_))
 cases io h
 exact qE ⟨_, _, _, I, I2, J5, pk [0, 1]⟩
 rintro E s ob ⟨rfl, rfl⟩ he
 subst he
 have h := Dp D
 have ac := Cn e.Segments.length
 exact Ai I (Ac fun aw ax => Bm I ac (qM (lg ⟨(), h, I2⟩ [0, 1])))
 rintro s ob ⟨B, h, rfl, rfl⟩
 refine Ac fun ay ad => qJ ?_
 obtain ⟨az, ae, h⟩ := Ad h
 refine qD (Ao 2 [.o 1 1] I J1 (qR (Oo _ (.v (.func (.func 133) #[] #[])) I (fun x => some (Ns x)) (fun x r h => by obtain I := oi h; exact eD x _ I) _ ae) (qE (Av h I ?_ ?_))))
 intro af h
 refine Ai I (qL g0 ?_)
 cases io h
 exact qK pr
 intro af h
 refine qI ?_
 subst ad
 refine Ac fun a0 ag => qJ ?_
 obtain ⟨i, ah, h⟩ := Ad h
 refine qD (Ao 2 [.o 0 0, .o 1 1] I J2 (qF [] I (Bg I I I (cF _ _ _ ah) dS ?_)))
 rintro _ _ ⟨rfl, rfl⟩
 refine qF [] I (B0 ((Arr.rep 24 (0 : Int)).l.map cI ++ ((Arr.rep 24 (0 : Int)).l.map cI ++ [])) 48 fun a1 => qF [2] I (qT 2 0 0 (es' := [i.come.l.map cI ++ (i.leave.l.map cI ++ [])]) I I I I I I I (by simp [Arr.h, Am]) (by simp [Arr.h, Am]) I (congrArg (fun r => [r]) (Fq (by simp [Arr.h, Am]))) (qE (qJ (qD (Af 1 I (qN (Ck 2 0 0 I I I I I (y := .agg (i.come.l.map cI)) (N2 I (by simp [Arr.h, Am]))) I (Af 1 I (qN (Ck 2 0 24 I I I I I (y := .agg (i.leave.l.map cI)) (N1 (k := 24) I I (by simp [Arr.h, Am]) (N2 I (by simp [Arr.h, Am])))) I (qQ (iS (a := i.come) (b := i.leave) I I I I I Zh I I I) I (qE (Av h I ?_ ?_))))))))))))
 intro ai h
 refine Ai I (qL g0 ?_)
 cases io h
 exact qK pr
 intro ai h
 refine qI ?_
 subst ag
 refine qJ (qJ ?_)
 obtain ⟨a2, aj, h⟩ := Ad h
 refine Bv (.still 0 (.still 1 (sl 3 4 (.act 2 (.act 3 (.still 7 .nil)))))) [0, 1] [_, _] I (Cf 5 [.o 0 0, .o 1 1, .o 3 0, .l 4 (e.Nodes.length : Int)] I ⟨A6, I, I, I, J⟩ (qG [] I I I (Bg I I I (T8 _ _ _ aj) dS ?_)))
 rintro _ _ ⟨a3, rfl, rfl⟩
 refine qG [] I I I (Ba (Bu 3 I I I I) dS (A9 1 I (Ar (qE (Av h I ?_ ?_)))))
 intro ak h
 refine Ai I (qL g0 ?_)
 cases io h
 exact qK pr
 intro ak h
 refine qI (Ai I (qL g0 ?_))
 cases io h
 exact qK pr
theorem dU (a : Li) (r : KS) (h : Vo a = some r) : ACalls Al 6 [Q0 a] [] (fun x new => ∃ (c : Nat), x = .P c ∧ new = [O2 c [Bs r]]) := by
 refine Ag Tryz.func6 I I I fun C hC => ?_
 refine Ai I (qJ ?_)
 obtain ⟨b, e, h⟩ := Ad h
 obtain ⟨f, g, i, j, k, n, o⟩ := Rm e
 refine qD (Ao 4 [.l 2 (a.length : Int)] I ⟨A6, J⟩ (qQ (aJ f g 0 I I I I I (pI i) ⟨_, _, I, j⟩ I k n o) I (qQ (Bi (l := [Q0 b, .V 0]) Zj I) I (qF [] I (Cp [Q0 b, .V 0] 2 fun d => Af 1 I (qE ?_))))))
 obtain rfl := oi h
 exact qK ⟨.inr I, [_], [O2 d [[Q0 b, .V 0]]], J1, Ca I (Cv), ⟨d, I2⟩⟩
theorem cR (b : Nat) (a : KS) (r : Int × KS) (h : Vg a = some r) : ACalls Al 45 [.P b] [O2 b [Bs a]] (Fh 1 fun x os new => x = .V r.1 ∧ os = [O2 b [Bs r.2]] ∧ new = []) := by
 refine Ag Tryz.func45 I I I fun C hC => ?_
 refine Ai I (Ac fun j d => Tc (pd 10 0 []) [0] [_] [.o 3 0, .o 7 0, .l 8 (a.L_.length : Int)] I I ⟨A6, I, I, J⟩ (Av h I ?_ ?_))
 intro e h
 refine Ai I ?_
 obtain rfl := oi h
 exact qK ⟨.inr I, [_], [O2 b [Bs a]], J1, Ca I (Cv), ⟨[O2 b [Bs a]], [], I5⟩⟩
 intro e h
 refine qI ?_
 subst d
 refine Ac fun k f => qD (Ao 7 [.o 3 0] I J1 (qF [0] I (By 0 0 1 [[Q0 a.L_, .V (wr (a.At + 1))]] I (qE ?_))))
 subst f
 refine qJ ?_
 obtain ⟨c, ⟨g, i⟩, h⟩ := Bc h
 refine Zw (pd 12 0 []) [0] [_] [.o 3 0, .o 7 0, .x 9 c.1 (rI c.2)] I I ⟨⟨g, Ae i⟩, I, I, J⟩ ?_
 obtain rfl := oi h
 exact qK ⟨.inr I, [_], [O2 b [[Q0 a.L_, .V (wr (a.At + 1))]]], J1, Ca I (Cv), ⟨[O2 b [[Q0 a.L_, .V (wr (a.At + 1))]]], [], I5⟩⟩
theorem Ch (a : Nat) (b : KS) (d : Int) (r : Int × KS) (h : Dq b d = some r) : ACalls Al 12 [.P a, .V d] [O2 a [Bs b]] (Fh 1 fun x os new => x = .V r.1 ∧ os = [O2 a [Bs r.2]] ∧ new = []) := by
 refine Ag Tryz.func12 I I I fun C hC => ?_
 refine Ai I (qJ ?_)
 obtain ⟨e, f, h⟩ := Ad h
 obtain ⟨i, g, h⟩ := Ad h
 refine qD (Af 1 I (qF [0] I (A7 [0] (cR a _ _ f) ?_)))
 refine Af 1 I (qR (eR _ _ _ g) (Af 1 I (qE ?_)))
 obtain rfl := oi h
 exact qK ⟨.inr I, [_], [O2 a [Bs e.2]], J1, Ca I (Cv), ⟨[O2 a [Bs e.2]], [], I5⟩⟩
theorem C4 (b : Bt) (a : Int) (r : Bt) (h : Lt b a = some r) : ACalls Al 40 [.v (.string b), .V a] [] (RV (.v (.string r))) := by
 refine Ag Tryz.func40 I I I fun C hC => ?_
 refine Ai I (qJ ?_)
 obtain ⟨g, d, h⟩ := Ad h
 obtain ⟨i, e, h⟩ := Ad h
 refine qD (Ao 4 [.f 2 (.V (a.tmod 26))] I ⟨qY (Iu (c := (a.tmod 26)) I I ⟨by decide, I⟩), J⟩ (qQ (iU (c := IntKind.u8.wrap (wr (97 + (a.tmod 26)))) I I I I I) I (qF [] I (qP (sz := 1) (es := ([IntKind.u8.wrap (wr (97 + (a.tmod 26)))] : Li).map (rK .u8)) I I I I I I I I I I I dS fun j => qF [] I (eW 0 d I I I I I I I I dS (qQ (iV I I (iL e)) I (Af 1 I (qE (qL g0 ?_)))))))))
 cases io h
 exact qK pr
theorem An (a : Nat) (c : KS) (b : Li) (r : Int × KS) (h : Ev c b = some r) : ACalls Al 13 [.P a, Q0 b] [O2 a [Bs c]] (Fh 1 fun x os new => x = .V r.1 ∧ os = [O2 a [Bs r.2]] ∧ new = []) := by
 refine Ag Tryz.func13 I I I fun C hC => ?_
 refine Ai I (qJ ?_)
 obtain ⟨d, f, h⟩ := Ad h
 obtain ⟨e, ⟨g, i⟩, h⟩ := Bc h
 refine qD (Ao 4 [.l 3 (b.length : Int)] I ⟨A6, J⟩ (qF [0] I (A7 [0] (Ch a _ _ _ f) ?_)))
 refine Ao 3 [.x 0 e.1 (rI e.2)] I ⟨⟨g, Ae i⟩, J⟩ (qE ?_)
 obtain rfl := oi h
 exact qK ⟨.inr I, [_], [O2 a [Bs d.2]], J1, Ca I (Cv), ⟨[O2 a [Bs d.2]], [], I5⟩⟩
theorem E3 (a : Nat) (b : KS) (c : Int) (d : Int) (r : Int × KS) (h : G4 b c d = some r) : ACalls Al 39 [.P a, .V c, .V d] [O2 a [Bs b]] (Fh 1 fun x os new => x = .V r.1 ∧ os = [O2 a [Bs r.2]] ∧ new = []) := by
 refine Ag Tryz.func39 I I I fun C hC => ?_
 refine Ai I (qJ ?_)
 obtain ⟨e, f, h⟩ := Ad h
 refine qD (Af 6 I (qF [0] I (A7 [0] (Ch a _ _ _ f) ?_)))
 refine Af 2 I (qE ?_)
 obtain rfl := oi h
 exact qK ⟨.inr I, [_], [O2 a [Bs e.2]], J1, Ca I (Cv), ⟨[O2 a [Bs e.2]], [], I5⟩⟩
theorem T9 (b : Nat) (Y : KS) (S : Int) (F : Int) (G : Int) (r : Sg × KS) (h : Nn Y S F G = some r) : ACalls Al 41 [.P b, .V S, .V F, .V G] [O2 b [Bs Y]] (Fh 1 fun x os new => x = .agg (Au r.1) ∧ os = [O2 b [Bs r.2]] ∧ new = []) := by
 refine Ag Tryz.func41 I I I fun C hC => ?_
 unfold Nn at h
 refine Ac fun y1 aj => qD (qF [] I (B0 W1 7 fun y => qE ?_))
 subst aj
 refine Ak (fun s ob => ∃ (a : Li × Int × Int × Int), Nn.J1 S a = some r ∧ s = [(2, .V a.2.2.1), (3, .V a.2.2.2)] ∧ ob = [O2 b [[Q0 a.1, .V a.2.1]], O5 y [W1]]) (K3 0 1 8) J3 ?_ ?_
 refine qJ ?_
 obtain ⟨H, ak, h⟩ := Ad h
 refine qD (Af 1 I (qF [0] I (A7 [0] (Ch b _ _ _ ak) ?_)))
 refine Af 1 I (qE (Av h I ?_ ?_))
 intro al h
 exact Uz I (lg ⟨(H.2.L_, H.2.At, G, F), h, I2⟩ [0, 1])
 intro al h
 exact qI (lg ⟨(H.2.L_, H.2.At, F, G), h, I2⟩ [0, 1])
 rintro s ob ⟨a, h, rfl, rfl⟩
 refine Ac fun y7 am => ?_
 obtain ⟨g, an, h⟩ := Ad h
 obtain ⟨e, ao, h⟩ := Ad h
 obtain ⟨i, aq, h⟩ := Ad h
 obtain ⟨j, ar, h⟩ := Ad h
 refine qD (Af 1 I (qR (C4 _ _ _ an) (Af 3 I (qF [] I (qO 1 (([1, 2, 7, 20, 60, 200, 1000] : Li).map rI) (qF [0] I (A7 [0] (An b _ _ _ ao) ?_)))))))
 refine Af 1 I (qF [] I (qO 1 (([0, 1, 5, 1000] : Li).map rI) (qF [0] I (A7 [0] (An b _ _ _ aq) ?_))))
 refine Af 1 I (qF [] I (qO 1 (([0, 50, 1000, 100000] : Li).map rI) (qF [0] I (A7 [0] (An b _ _ _ ar) ?_))))
 refine qQ (Bi (l := [.v (.string g), .V a.2.2.1, .V a.2.2.2, .V e.1, .V i.1, .V j.1, .N]) Ha I) I (qF [] I (B0 W1 7 fun M => qF [2] I (By 2 0 0 [[.v (.string g), .V a.2.2.1, .V a.2.2.2, .V e.1, .V i.1, .V j.1, .N]] I (qE ?_))))
 subst am
 refine Ac fun bd au => ?_
 obtain ⟨k, av, h⟩ := Ad h
 refine qD (Af 1 I (qF [] I (qO 1 (([1000000, 6000000, 100000000] : Li).map rI) (qF [0] I (A7 [0] (An b _ _ _ av) ?_)))))
 refine Af 1 I (qE ?_)
 subst au
 refine Ac fun be aw => ?_
 obtain ⟨Z, ax, h⟩ := Ad h
 obtain ⟨bf, aa, h⟩ := Ad h
 refine Bv (sl 3 0 (.still 4 (.act 3 (.still 5 (.act 6 (.act 7 (.still 8 (.drop 9 .nil)))))))) [2] [_] I (Cf 4 [.o 1 0] I J1 (qG [0] I I I (A7 [0] (E3 b _ _ _ _ ax) ?_)))
 refine AP.p I (Bi (l := [.V 0, .V Z.1, .V k.1]) F5 I) I (qG [] I I I (qO 3 (([(⟨0, Z.1, k.1⟩ : Point)] : List Point).map Bx) (qG [] I I I (Zk I I I I I I I I (AppSrc.list I) (iP (Ez aa).1) (iO (Ez aa).2) dS fun ab => A9 1 I (rC 3 I fun ay => qX [2] I I I (qT 2 0 6 (es' := [[.v (.string g), .V a.2.2.1, .V a.2.2.2, .V e.1, .V i.1, .V j.1, .v ab]]) I I I I I I (Bz ay) I (Be I) I I (Ar (qE ?_))))))))
 subst aw
 refine Ak (fun s ob => ∃ (A : Li × Int × (List Point)) (U : Value), Nn.J2 a g e i j k A = some r ∧ s = [] ∧ ob = [O2 b [[Q0 A.1, .V A.2.1]], O5 y [W1], O5 M [[.v (.string g), .V a.2.2.1, .V a.2.2.2, .V e.1, .V i.1, .V j.1, .v U]], U7 U A.2.2]) (K4 0 8 9 10) J4 ?_ ?_
 refine Ai I (qH ?_)
 obtain ⟨bg, az, ac⟩ := Ad h
 refine Dm az (K4 0 8 9 10) J4 (fun (f : Li × Int × (List Point) × Int) s ob => ∃ (n : Value), s = [(11, .V f.2.2.2)] ∧ ob = [O2 b [[Q0 f.1, .V f.2.1]], O5 y [W1], O5 M [[.v (.string g), .V a.2.2.1, .V a.2.2.2, .V e.1, .V i.1, .V j.1, .v n]], U7 n f.2.2.1]) ⟨ab, I2⟩ ⟨I, J⟩ (pk N4) ?_
 rintro f a0 s ob ⟨n, rfl, rfl⟩ h ad
 unfold Nn.B3 at h
 refine Ac fun bh a1 => Ak (fun s ob => ∃ (u : Li × Int × Bool), Nn.J4 e k f u = some a0 ∧ s = [(51, .v (.bool u.2.2))] ∧ ob = [O2 b [[Q0 u.1, .V u.2.1]], O5 y [W1], O5 M [[.v (.string g), .V a.2.2.1, .V a.2.2.2, .V e.1, .V i.1, .V j.1, .v n]], U7 n f.2.2.1]) (K5 0 8 9 10 11) J5 ?_ ?_
 rcases bt (decide ((f.2.2.1.length : Int) < 7)) with B | B
 have h := Cb B h
 obtain ⟨W, a2, h⟩ := Ad h
 refine qD (Ao 2 [.o 1 2] I J1 (qN (Bu 3 I I I I) I (Af 2 I (Ah 47 I B (Af 1 I (Bj I I I (qF [0] I (A7 [0] (Ch b _ _ _ a2) ?_))))))))
 exact Af 2 I (qE (lg ⟨(W.2.L_, W.2.At, decide (W.1 > 0)), h, I2⟩ N4))
 have h := Cc B h
 exact qD (Ao 2 [.o 1 2] I J1 (qN (Bu 3 I I I I) I (Af 2 I (Ah 47 I B (Af 4 I (qE (lg ⟨(f.1, f.2.1, false), h, I2⟩ N4)))))))
 rintro s ob ⟨u, h, rfl, rfl⟩
 refine Av h I ?_ ?_
 intro a3 h
 refine qI ?_
 subst a1
 refine qH (Ac fun bi a4 => ?_)
 obtain ⟨w, a5, h⟩ := Ad h
 refine qD (Af 2 I (qF [0] I (A7 [0] (E3 b _ _ _ _ a5) ?_)))
 refine Af 2 I (qE ?_)
 subst a4
 refine Ac fun bj a6 => Bk [.o 2 2] I J1 (Av h I ?_ ?_)
 intro a7 h
 obtain rfl := ad _ (oi h).symm
 have h := ac
 exact qM (lg ⟨(w.2.L_, w.2.At, f.2.2.1), n, h, I2⟩ N4)
 intro a7 h
 refine qI ?_
 subst a6
 obtain ⟨O, ae, h⟩ := Ad h
 obtain ⟨P, af, h⟩ := Ad h
 obtain ⟨Q, ag, h⟩ := Ad h
 obtain ⟨bk, ah, h⟩ := Ad h
 refine Bv (sl 4 0 (.still 5 (.still 9 (.still 10 (.two 4 6 (.act 6 nI) (.act 4 nI)))))) [2] [_] I (Cf 7 [.o 1 0] I J1 (qW ?_ ?_))
 refine qG [0] I I I (A7 [0] (E3 b _ _ _ _ ae) ?_)
 refine qG [] I I I (qO 1 (([1, 1, 10] : Li).map rI) (qG [0] I I I (A7 [0] (An b _ _ _ af) ?_)))
 refine A9 1 I (qG [0] I I I (A7 [0] (Ch b _ _ _ ag) ?_))
 refine A9 2 I (AP.p I (Bi (l := [.V (wr (f.2.2.2 + w.1)), .V (wr (O.1 * P.1)), .V (wr (k.1 - (wr (Q.1 * 1000))))]) F5 I) I (qG [] I I I (qO 3 (([(⟨wr (f.2.2.2 + w.1), wr (O.1 * P.1), wr (k.1 - (wr (Q.1 * 1000)))⟩ : Point)] : List Point).map Bx) (qG [3] I I I (qU 3 I ah fun D => A9 1 I (rC 3 I fun X => qX [2] I I I (qT 2 0 6 (es' := [[.v (.string g), .V a.2.2.1, .V a.2.2.2, .V e.1, .V i.1, .V j.1, .v D]]) I I I I I I (Bz X) I (Be I) I I (Ar ?_))))))))
 cases io h
 exact qE ⟨_, _, _, I, ⟨D, I2⟩, J5, pk N4⟩
 refine qG [] I I I (qO 1 (([1, 1, 10] : Li).map rI) (qG [0] I I I (A7 [0] (E3 b _ _ _ _ ae) ?_)))
 refine qG [0] I I I (A7 [0] (An b _ _ _ af) ?_)
 refine A9 1 I (qG [0] I I I (A7 [0] (Ch b _ _ _ ag) ?_))
 refine A9 2 I (AP.p I (Bi (l := [.V (wr (f.2.2.2 + w.1)), .V (wr (O.1 * P.1)), .V (wr (k.1 - (wr (Q.1 * 1000))))]) F5 I) I (qG [] I I I (qO 3 (([(⟨wr (f.2.2.2 + w.1), wr (O.1 * P.1), wr (k.1 - (wr (Q.1 * 1000)))⟩ : Point)] : List Point).map Bx) (qG [3] I I I (qU 3 I ah fun D => A9 1 I (rC 3 I fun X => qX [2] I I I (qT 2 0 6 (es' := [[.v (.string g), .V a.2.2.1, .V a.2.2.2, .V e.1, .V i.1, .V j.1, .v D]]) I I I I I I (Bz X) I (Be I) I I (Ar ?_))))))))
 cases io h
 exact qE ⟨_, _, _, I, ⟨D, I2⟩, J5, pk N4⟩
 intro a3 h
 obtain rfl := ad _ (oi h).symm
 have h := ac
 exact qM (lg ⟨(u.1, u.2.1, f.2.2.1), n, h, I2⟩ N4)
 rintro s ob ⟨A, U, h, rfl, rfl⟩
 refine qJ ?_
 obtain ⟨E, a8, h⟩ := Ad h
 obtain ⟨ai, a9, h⟩ := Ad h
 refine Bv (sl 5 0 (.still 6 (.act 5 (.still 7 (.act 8 (.act 9 (.still 10 (.drop 11 .nil)))))))) [2] [_] I (Cf 6 [.o 1 0, .o 3 0] I J2 (qG [0] I I I (A7 [0] (E3 b _ _ _ _ a8) ?_)))
 refine AP.p I (Bi (l := [.V e.1, .V E.1, .V k.1]) F5 I) I (qG [] I I I (qO 3 (([(⟨e.1, E.1, k.1⟩ : Point)] : List Point).map Bx) (qG [3] I I I (qU 3 I a9 fun R => A9 1 I (rC 3 I fun ba => qX [2] I I I (qT 2 0 6 (es' := [[.v (.string g), .V a.2.2.1, .V a.2.2.2, .V e.1, .V i.1, .V j.1, .v R]]) I I I I I I (Bz ba) I (Be I) I I (Ar (qE (qJ (qD (Ao 1 [.o 0 2] I J1 (qF [1] I (By 1 0 0 [[.v (.string g), .V a.2.2.1, .V a.2.2.2, .V e.1, .V i.1, .V j.1, .v R]] I (qE ?_))))))))))))))
 refine qL (As [3] (K := [U7 R ai]) I [] J (ob' := [O2 b [Bs E.2], O5 y [[.v (.string g), .V a.2.2.1, .V a.2.2.2, .V e.1, .V i.1, .V j.1, .list 3 (ai.map Bx)]], O5 M [[.v (.string g), .V a.2.2.1, .V a.2.2.2, .V e.1, .V i.1, .V j.1, .v R]]]) (.cons (.same _) (.cons (.arr (.cons (.refl _) (.cons (.refl _) (.cons (.refl _) (.cons (.refl _) (.cons (.refl _) (.cons (.refl _) (.cons (.us 0 I) (.rest _))))))))) (.rest _)))) (Dd [0, 1] I ?_)
 obtain rfl := oi h
 exact qK ⟨.inr I, [_], [O2 b [Bs E.2]], ⟨⟨1, _, _, _, _, _, _, _, I5⟩, J⟩, Ca I (Cv), ⟨[O2 b [Bs E.2]], [], I5⟩⟩
end Go.Proofs.YtaoclefkknloiaaGreat
