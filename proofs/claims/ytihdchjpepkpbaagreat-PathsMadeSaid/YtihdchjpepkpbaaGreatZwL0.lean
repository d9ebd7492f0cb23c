/- Walks that show what functions of the program compute; printed by a program of ours. No condition. -/
import Derived.Test.YtihdchjpepkpbaaGreatZwD
import Derived.Test.YtihdchjpepkpbaaGreatZwB2
set_option maxRecDepth 100000
namespace Go.Proofs.YtihdchjpepkpbaaGreat
open Go.Aw
set_option linter.unusedVariables false
set_option linter.unusedSimpArgs false
set_option maxHeartbeats 4000000
theorem Z6 (a : Sg) (b : Int) (r : Int × Int) (h : Ck a b = r) : ACalls Ak 210 [.agg (Ap a), .V b] [] (RV (.tup [.V r.1, .V r.2])) := by
 refine Ag Tryz.func210 I I I fun C hC => ?_
 refine Aa fun e c => mE (mG [] I (Bz (Ap a) 7 fun f => Af 2 I (mF ?_)))
 subst c
 refine mK (Ai I (Aq h I ?_ ?_))
 intro d h
 refine Js (pd 6 0 []) [0] [_] [.o 1 0, .o 3 0] I I J2 (mM g0 ?_)
 obtain rfl := h
 exact mL ⟨.inr I, [_, _], [], J2, Cm, I2⟩
 intro d h
 refine mI (Js (pd 6 0 []) [0] [_] [.o 1 0, .o 3 0] I I J2 (mM g0 ?_))
 obtain rfl := h
 exact mL ⟨.inr I, [_, _], [], J2, Cm, I2⟩
theorem R8 (a : Int) (b : Int) (r : Bool) (h : Lo a b = r) : ACalls Ak 164 [.V a, .V b] [] (RB r) := by
 refine Ag Tryz.func164 I I I fun C hC => ?_
 unfold Lo at h
 refine Ai I (Ah (fun s ob => s = [(4, .v (.bool (decide (a ≥ (wr (0 - b))) && decide (a ≤ b))))] ∧ ob = []) [] J ?_ ?_)
 refine mE (Af 5 I ?_)
 rcases bt (decide (a ≥ (wr (0 - b)))) with c | c
 refine Ad 9 I c (Af 5 I (mF ?_))
 exact lf I2 ⟨(Fq (by simp only [c, bz])), J⟩ [] I
 refine Ad 9 I c (Af 5 I (mF ?_))
 exact lf I2 ⟨(Fq (by simp only [c, bz])), J⟩ [] I
 rintro s ob ⟨rfl, rfl⟩
 obtain rfl := h
 exact mL pr
theorem Sj (e : Int) (b : Int) (r : Int) (h : Pa e b = some r) : ACalls Ak 54 [.V e, .V b] [] (RV (.V r)) := by
 refine Ag Tryz.func54 I I I fun C hC => ?_
 refine Ai I (Aa fun m g => Ai I (Aq h I ?_ ?_))
 intro i h
 refine Ai I ?_
 cases io h
 exact mL pr
 intro i h
 refine mI ?_
 subst g
 refine Aa fun n j => ?_
 obtain ⟨a, k, h⟩ := Ab h
 refine Hh [.f 2 (.V a)] I ⟨mY (If (c := a) I I (dX k)), J⟩ ?_
 subst j
 refine Ah (fun s ob => ∃ (d : Int), Pa.J1 d = some r ∧ s = [(0, .V d)] ∧ ob = []) [] J ?_ ?_
 refine Ai I (Aq h I ?_ ?_)
 intro l h
 exact We I (lg ⟨wr (a + b), h, I2⟩ [])
 intro l h
 exact mI (lg ⟨a, h, I2⟩ [])
 rintro s ob ⟨d, h, rfl, rfl⟩
 unfold Pa.J1 at h
 refine Ai I ?_
 cases io h
 exact mL pr
theorem Dg (a : Int) (c : Int) (d : Int) (r : Bool) (h : C7 a c d = r) : ACalls Ak 193 [.V a, .V c, .V d] [] (RB r) := by
 refine Ag Tryz.func193 I I I fun C hC => ?_
 unfold C7 at h
 refine Ai I (Ah (fun s ob => s = [(6, .v (.bool (decide (a ≥ c) && decide (a ≤ d))))] ∧ ob = []) [] J ?_ ?_)
 refine mE (Af 4 I ?_)
 rcases bt (decide (a ≥ c)) with b | b
 refine Ad 10 I b (Af 5 I (mF ?_))
 exact lf I2 ⟨(Fq (by simp only [b, bz])), J⟩ [] I
 refine Ad 10 I b (Af 5 I (mF ?_))
 exact lf I2 ⟨(Fq (by simp only [b, bz])), J⟩ [] I
 rintro s ob ⟨rfl, rfl⟩
 obtain rfl := h
 exact mL pr
theorem R3 (a : Int) (r : Int) (h : Ht a = r) : ACalls Ak 163 [.V a] [] (RV (.V r)) := by
 refine Ag Tryz.func163 I I I fun C hC => ?_
 unfold Ht at h
 refine Ai I (Ai I ?_)
 obtain rfl := h
 exact mL pr
theorem aK (a : Li) (c : Int) (r : Int) (h : Og a c = some r) : ACalls Ak 152 [Q0 a, .V c] [] (RV (.V r)) := by
 refine Ag Tryz.func152 I I I fun C hC => ?_
 unfold Og at h
 refine Ai I (Ah (fun s ob => ∃ (d : Unit), Og.J1 d = some r ∧ s = [] ∧ ob = []) [] J ?_ ?_)
 refine Bg [.l 1 (a.length : Int)] I ⟨A0, J⟩ (mJ (Cj 6 I fun i => ?_))
 obtain ⟨w, j, e⟩ := Ab h
 refine Cg j (K3 0 1 7) J3 (fun (b : Nat) (f : Unit) s ob => s = [(8, .V (b : Int))] ∧ ob = []) ⟨I, I⟩ ⟨I, J⟩ (pk []) ?_ ?_
 rintro b m f y s ob n g ⟨rfl, rfl⟩ h o
 have p := C9 g
 refine Ai I (Aa fun A q => Cd I p (mI ?_))
 subst q
 refine mK (mJ (Ai I (Bg [.x 3 b (rI m)] I ⟨⟨I, Ae n⟩, J⟩ (Aq h I ?_ ?_))))
 intro t h
 refine Ai I ?_
 obtain rfl := o _ (oi h).symm
 have h := e
 have h := C2 h
 cases io h
 exact mL pr
 intro t h
 refine mI (mE (Al 2 [.k 0 (b + 1 : Nat)] I ⟨Bf g i, J⟩ ?_))
 cases io h
 exact mF ⟨_, _, _, I, I2, J4, pk []⟩
 rintro f s ob ⟨rfl, rfl⟩ he
 subst he
 have h := Cz e
 have u := Da a.length
 exact Ai I (Aa fun B D => Ce I u (mN (lg ⟨(), h, I2⟩ [])))
 rintro s ob ⟨d, h, rfl, rfl⟩
 unfold Og.J1 at h
 refine Ai I ?_
 cases io h
 exact mL pr
theorem aC (a : List Bt) (d : Bt) (r : Int) (h : Od a d = some r) : ACalls Ak 185 [Q1 a, .v (.string d)] [] (RV (.V r)) := by
 refine Ag Tryz.func185 I I I fun C hC => ?_
 unfold Od at h
 refine Ai I (Ah (fun s ob => ∃ (e : Unit), Od.J1 e = some r ∧ s = [] ∧ ob = []) [] J ?_ ?_)
 refine Bg [.l 1 (a.length : Int)] I ⟨A0, J⟩ (mJ (Cj 6 I fun m => ?_))
 obtain ⟨A, n, f⟩ := Ab h
 refine Cg n (K3 0 1 7) J3 (fun (b : Nat) (g : Unit) s ob => s = [(8, .V (b : Int))] ∧ ob = []) ⟨I, I⟩ ⟨I, J⟩ (pk []) ?_ ?_
 rintro b i g B s ob o j ⟨rfl, rfl⟩ h q
 have t := C9 j
 refine Ai I (Aa fun D u => Cd I t (mI ?_))
 subst u
 refine mK (mJ (Ai I (mK (mE (Al 5 [.x 3 b (rS i)] I ⟨⟨I, Ae o⟩, J⟩ (B0 (Yp.cmpS (c := T3 d i) I I I) I (mF (Aq h I ?_ ?_))))))))
 intro w h
 refine Ai I ?_
 obtain rfl := q _ (oi h).symm
 have h := f
 have h := C2 h
 cases io h
 exact mL pr
 intro w h
 refine mI (mE (Al 2 [.k 0 (b + 1 : Nat)] I ⟨Bf j m, J⟩ ?_))
 cases io h
 exact mF ⟨_, _, _, I, I2, J4, pk []⟩
 rintro g s ob ⟨rfl, rfl⟩ he
 subst he
 have h := Cz f
 have y := Da a.length
 exact Ai I (Aa fun E F => Ce I y (mN (lg ⟨(), h, I2⟩ [])))
 rintro s ob ⟨e, h, rfl, rfl⟩
 unfold Od.J1 at h
 refine Ai I ?_
 cases io h
 exact mL pr
theorem bS (a : Li) (F1 : T) {c : FuncId} {d e : List T} (o : Jo F1 = some (c, d, e)) (f : Int → Option Bool) (p : ∀ (g : Int) r, f g = some r → ACalls Ak c (d ++ [.V g] ++ e) [] (RB r)) (r : Int) (h : Pc a f = some r) : ACalls Ak 151 [Q0 a, F1] [] (RV (.V r)) := by
 refine Ag Tryz.func151 I I I fun C hC => ?_
 unfold Pc at h
 refine Ai I (Ah (fun s ob => ∃ (i : Unit), Pc.J1 i = some r ∧ s = [] ∧ ob = []) [] J ?_ ?_)
 refine Bg [.l 1 (a.length : Int)] I ⟨A0, J⟩ (mJ (Cj 6 I fun q => ?_))
 obtain ⟨G, t, j⟩ := Ab h
 refine Cg t (K3 0 1 7) J3 (fun (b : Nat) (m : Unit) s ob => s = [(8, .V (b : Int))] ∧ ob = []) ⟨I, I⟩ ⟨I, J⟩ (pk []) ?_ ?_
 rintro b u m H s ob w n ⟨rfl, rfl⟩ h y
 have A := C9 n
 refine Ai I (Aa fun K B => Cd I A (mI ?_))
 subst B
 refine mK (mJ (Ai I (mK ?_)))
 obtain ⟨M, D, h⟩ := Ab h
 refine mE (Al 5 [.x 3 b (rI u)] I ⟨⟨I, Ae w⟩, J⟩ (mG [] I (By I (.refl _) o I (.rest _) I (p _ _ D) dS (by rintro _ _ ⟨rfl, _⟩; rfl) ?_)))
 rintro _ ⟨_, rfl, -⟩
 refine mF (Aq h I ?_ ?_)
 intro E h
 refine Ai I ?_
 obtain rfl := y _ (oi h).symm
 have h := j
 have h := C2 h
 cases io h
 exact mL pr
 intro E h
 refine mI (mE (Al 2 [.k 0 (b + 1 : Nat)] I ⟨Bf n q, J⟩ ?_))
 cases io h
 exact mF ⟨_, _, _, I, I2, J4, pk []⟩
 rintro m s ob ⟨rfl, rfl⟩ he
 subst he
 have h := Cz j
 have F := Da a.length
 exact Ai I (Aa fun N O => Ce I F (mN (lg ⟨(), h, I2⟩ [])))
 rintro s ob ⟨i, h, rfl, rfl⟩
 unfold Pc.J1 at h
 refine Ai I ?_
 cases io h
 exact mL pr
theorem Ry (b : Li) (F1 : T) {d : FuncId} {e f : List T} (i : Jo F1 = some (d, e, f)) (a : Int → Option Bool) (j : ∀ (g : Int) r, a g = some r → ACalls Ak d (e ++ [.V g] ++ f) [] (RB r)) (r : Bool) (h : Lk b a = some r) : ACalls Ak 165 [Q0 b, F1] [] (RB r) := by
 refine Ag Tryz.func165 I I I fun C hC => ?_
 refine Ai I (mK ?_)
 obtain ⟨l, k, h⟩ := Ab h
 refine mE (Af 2 I (mR (bS _ F1 i a j _ k) (Af 2 I (mF ?_))))
 cases io h
 exact mL pr
theorem aF (a : List Bt) (F1 : T) {c : FuncId} {d e : List T} (o : Jo F1 = some (c, d, e)) (f : Bt → Option Bool) (p : ∀ (g : Bt) r, f g = some r → ACalls Ak c (d ++ [.v (.string g)] ++ e) [] (RB r)) (r : Int) (h : Oe a f = some r) : ACalls Ak 183 [Q1 a, F1] [] (RV (.V r)) := by
 refine Ag Tryz.func183 I I I fun C hC => ?_
 unfold Oe at h
 refine Ai I (Ah (fun s ob => ∃ (i : Unit), Oe.J1 i = some r ∧ s = [] ∧ ob = []) [] J ?_ ?_)
 refine Bg [.l 1 (a.length : Int)] I ⟨A0, J⟩ (mJ (Cj 6 I fun q => ?_))
 obtain ⟨G, t, j⟩ := Ab h
 refine Cg t (K3 0 1 7) J3 (fun (b : Nat) (m : Unit) s ob => s = [(8, .V (b : Int))] ∧ ob = []) ⟨I, I⟩ ⟨I, J⟩ (pk []) ?_ ?_
 rintro b u m H s ob w n ⟨rfl, rfl⟩ h y
 have A := C9 n
 refine Ai I (Aa fun K B => Cd I A (mI ?_))
 subst B
 refine mK (mJ (Ai I (mK ?_)))
 obtain ⟨M, D, h⟩ := Ab h
 refine mE (Al 5 [.x 3 b (rS u)] I ⟨⟨I, Ae w⟩, J⟩ (mG [] I (By I (.refl _) o I (.rest _) I (p _ _ D) dS (by rintro _ _ ⟨rfl, _⟩; rfl) ?_)))
 rintro _ ⟨_, rfl, -⟩
 refine mF (Aq h I ?_ ?_)
 intro E h
 refine Ai I ?_
 obtain rfl := y _ (oi h).symm
 have h := j
 have h := C2 h
 cases io h
 exact mL pr
 intro E h
 refine mI (mE (Al 2 [.k 0 (b + 1 : Nat)] I ⟨Bf n q, J⟩ ?_))
 cases io h
 exact mF ⟨_, _, _, I, I2, J4, pk []⟩
 rintro m s ob ⟨rfl, rfl⟩ he
 subst he
 have h := Cz j
 have F := Da a.length
 exact Ai I (Aa fun N O => Ce I F (mN (lg ⟨(), h, I2⟩ [])))
 rintro s ob ⟨i, h, rfl, rfl⟩
 unfold Oe.J1 at h
 refine Ai I ?_
 cases io h
 exact mL pr
theorem aQ (b : List Bt) (F1 : T) {d : FuncId} {e f : List T} (i : Jo F1 = some (d, e, f)) (a : Bt → Option Bool) (j : ∀ (g : Bt) r, a g = some r → ACalls Ak d (e ++ [.v (.string g)] ++ f) [] (RB r)) (r : Bool) (h : Om b a = some r) : ACalls Ak 139 [Q1 b, F1] [] (RB r) := by
 refine Ag Tryz.func139 I I I fun C hC => ?_
 refine Ai I (mK ?_)
 obtain ⟨l, k, h⟩ := Ab h
 refine mE (Af 2 I (mR (aF _ F1 i a j _ k) (Af 2 I (mF ?_))))
 cases io h
 exact mL pr
theorem bO (a : List Sg) (F1 : T) {c : FuncId} {d e : List T} (o : Jo F1 = some (c, d, e)) (f : Sg → Option Bool) (p : ∀ (g : Sg) r, f g = some r → ACalls Ak c (d ++ [.agg (Ap g)] ++ e) [] (RB r)) (r : Int) (h : O9 a f = some r) : ACalls Ak 212 [Q4 a, F1] [] (RV (.V r)) := by
 refine Ag Tryz.func212 I I I fun C hC => ?_
 unfold O9 at h
 refine Ai I (Ah (fun s ob => ∃ (i : Unit), O9.J1 i = some r ∧ s = [] ∧ ob = []) [] J ?_ ?_)
 refine Bg [.l 1 (a.length : Int)] I ⟨A0, J⟩ (mJ (Cj 6 I fun q => ?_))
 obtain ⟨G, t, j⟩ := Ab h
 refine Cg t (K3 0 1 7) J3 (fun (b : Nat) (m : Unit) s ob => s = [(8, .V (b : Int))] ∧ ob = []) ⟨I, I⟩ ⟨I, J⟩ (pk []) ?_ ?_
 rintro b u m H s ob w n ⟨rfl, rfl⟩ h y
 have A := C9 n
 refine Ai I (Aa fun K B => Cd I A (mI ?_))
 subst B
 refine mK (mJ (Ai I (mK ?_)))
 obtain ⟨M, D, h⟩ := Ab h
 refine mE (Al 5 [.x 3 b (Ap u)] I ⟨⟨I, Ae w⟩, J⟩ (mG [] I (By I (.refl _) o I (.rest _) I (p _ _ D) dS (by rintro _ _ ⟨rfl, _⟩; rfl) ?_)))
 rintro _ ⟨_, rfl, -⟩
 refine mF (Aq h I ?_ ?_)
 intro E h
 refine Ai I ?_
 obtain rfl := y _ (oi h).symm
 have h := j
 have h := C2 h
 cases io h
 exact mL pr
 intro E h
 refine mI (mE (Al 2 [.k 0 (b + 1 : Nat)] I ⟨Bf n q, J⟩ ?_))
 cases io h
 exact mF ⟨_, _, _, I, I2, J4, pk []⟩
 rintro m s ob ⟨rfl, rfl⟩ he
 subst he
 have h := Cz j
 have F := Da a.length
 exact Ai I (Aa fun N O => Ce I F (mN (lg ⟨(), h, I2⟩ [])))
 rintro s ob ⟨i, h, rfl, rfl⟩
 unfold O9.J1 at h
 refine Ai I ?_
 cases io h
 exact mL pr
theorem Rv (b : List Sg) (F1 : T) {d : FuncId} {e f : List T} (i : Jo F1 = some (d, e, f)) (a : Sg → Option Bool) (j : ∀ (g : Sg) r, a g = some r → ACalls Ak d (e ++ [.agg (Ap g)] ++ f) [] (RB r)) (r : Bool) (h : Lh b a = some r) : ACalls Ak 181 [Q4 b, F1] [] (RB r) := by
 refine Ag Tryz.func181 I I I fun C hC => ?_
 refine Ai I (mK ?_)
 obtain ⟨l, k, h⟩ := Ab h
 refine mE (Af 2 I (mR (bO _ F1 i a j _ k) (Af 2 I (mF ?_))))
 cases io h
 exact mL pr
theorem aM (a : List Port) (F1 : T) {c : FuncId} {d e : List T} (o : Jo F1 = some (c, d, e)) (f : Port → Option Bool) (p : ∀ (g : Port) r, f g = some r → ACalls Ak c (d ++ [.agg (Bp g)] ++ e) [] (RB r)) (r : Int) (h : Oi a f = some r) : ACalls Ak 213 [Q3 a, F1] [] (RV (.V r)) := by
 refine Ag Tryz.func213 I I I fun C hC => ?_
 unfold Oi at h
 refine Ai I (Ah (fun s ob => ∃ (i : Unit), Oi.J1 i = some r ∧ s = [] ∧ ob = []) [] J ?_ ?_)
 refine Bg [.l 1 (a.length : Int)] I ⟨A0, J⟩ (mJ (Cj 6 I fun q => ?_))
 obtain ⟨G, t, j⟩ := Ab h
 refine Cg t (K3 0 1 7) J3 (fun (b : Nat) (m : Unit) s ob => s = [(8, .V (b : Int))] ∧ ob = []) ⟨I, I⟩ ⟨I, J⟩ (pk []) ?_ ?_
 rintro b u m H s ob w n ⟨rfl, rfl⟩ h y
 have A := C9 n
 refine Ai I (Aa fun K B => Cd I A (mI ?_))
 subst B
 refine mK (mJ (Ai I (mK ?_)))
 obtain ⟨M, D, h⟩ := Ab h
 refine mE (Al 5 [.x 3 b (Bp u)] I ⟨⟨I, Ae w⟩, J⟩ (mG [] I (By I (.refl _) o I (.rest _) I (p _ _ D) dS (by rintro _ _ ⟨rfl, _⟩; rfl) ?_)))
 rintro _ ⟨_, rfl, -⟩
 refine mF (Aq h I ?_ ?_)
 intro E h
 refine Ai I ?_
 obtain rfl := y _ (oi h).symm
 have h := j
 have h := C2 h
 cases io h
 exact mL pr
 intro E h
 refine mI (mE (Al 2 [.k 0 (b + 1 : Nat)] I ⟨Bf n q, J⟩ ?_))
 cases io h
 exact mF ⟨_, _, _, I, I2, J4, pk []⟩
 rintro m s ob ⟨rfl, rfl⟩ he
 subst he
 have h := Cz j
 have F := Da a.length
 exact Ai I (Aa fun N O => Ce I F (mN (lg ⟨(), h, I2⟩ [])))
 rintro s ob ⟨i, h, rfl, rfl⟩
 unfold Oi.J1 at h
 refine Ai I ?_
 cases io h
 exact mL pr
theorem bH (b : List Port) (F1 : T) {d : FuncId} {e f : List T} (i : Jo F1 = some (d, e, f)) (a : Port → Option Bool) (j : ∀ (g : Port) r, a g = some r → ACalls Ak d (e ++ [.agg (Bp g)] ++ f) [] (RB r)) (r : Bool) (h : Oz b a = some r) : ACalls Ak 191 [Q3 b, F1] [] (RB r) := by
 refine Ag Tryz.func191 I I I fun C hC => ?_
 refine Ai I (mK ?_)
 obtain ⟨l, k, h⟩ := Ab h
 refine mE (Af 2 I (mR (aM _ F1 i a j _ k) (Af 2 I (mF ?_))))
 cases io h
 exact mL pr
theorem Rs (a : List Sn) (F1 : T) {c : FuncId} {d e : List T} (o : Jo F1 = some (c, d, e)) (f : Sn → Option Bool) (p : ∀ (g : Sn) r, f g = some r → ACalls Ak c (d ++ [.agg (Bl g)] ++ e) [] (RB r)) (r : Int) (h : Lf a f = some r) : ACalls Ak 186 [Q2 a, F1] [] (RV (.V r)) := by
 refine Ag Tryz.func186 I I I fun C hC => ?_
 unfold Lf at h
 refine Ai I (Ah (fun s ob => ∃ (i : Unit), Lf.J1 i = some r ∧ s = [] ∧ ob = []) [] J ?_ ?_)
 refine Bg [.l 1 (a.length : Int)] I ⟨A0, J⟩ (mJ (Cj 6 I fun q => ?_))
 obtain ⟨G, t, j⟩ := Ab h
 refine Cg t (K3 0 1 7) J3 (fun (b : Nat) (m : Unit) s ob => s = [(8, .V (b : Int))] ∧ ob = []) ⟨I, I⟩ ⟨I, J⟩ (pk []) ?_ ?_
 rintro b u m H s ob w n ⟨rfl, rfl⟩ h y
 have A := C9 n
 refine Ai I (Aa fun K B => Cd I A (mI ?_))
 subst B
 refine mK (mJ (Ai I (mK ?_)))
 obtain ⟨M, D, h⟩ := Ab h
 refine mE (Al 5 [.x 3 b (Bl u)] I ⟨⟨I, Ae w⟩, J⟩ (mG [] I (By I (.refl _) o I (.rest _) I (p _ _ D) dS (by rintro _ _ ⟨rfl, _⟩; rfl) ?_)))
 rintro _ ⟨_, rfl, -⟩
 refine mF (Aq h I ?_ ?_)
 intro E h
 refine Ai I ?_
 obtain rfl := y _ (oi h).symm
 have h := j
 have h := C2 h
 cases io h
 exact mL pr
 intro E h
 refine mI (mE (Al 2 [.k 0 (b + 1 : Nat)] I ⟨Bf n q, J⟩ ?_))
 cases io h
 exact mF ⟨_, _, _, I, I2, J4, pk []⟩
 rintro m s ob ⟨rfl, rfl⟩ he
 subst he
 have h := Cz j
 have F := Da a.length
 exact Ai I (Aa fun N O => Ce I F (mN (lg ⟨(), h, I2⟩ [])))
 rintro s ob ⟨i, h, rfl, rfl⟩
 unfold Lf.J1 at h
 refine Ai I ?_
 cases io h
 exact mL pr
theorem Z7 (b : List Sn) (F1 : T) {d : FuncId} {e f : List T} (i : Jo F1 = some (d, e, f)) (a : Sn → Option Bool) (j : ∀ (g : Sn) r, a g = some r → ACalls Ak d (e ++ [.agg (Bl g)] ++ f) [] (RB r)) (r : Bool) (h : N2 b a = some r) : ACalls Ak 194 [Q2 b, F1] [] (RB r) := by
 refine Ag Tryz.func194 I I I fun C hC => ?_
 refine Ai I (mK ?_)
 obtain ⟨l, k, h⟩ := Ab h
 refine mE (Af 2 I (mR (Rs _ F1 i a j _ k) (Af 2 I (mF ?_))))
 cases io h
 exact mL pr
theorem Zv (a : Sg) (r : Bool) (h : I8 a = r) : ACalls Ak 182 [.agg (Ap a)] [] (RB r) := by
 refine Ag Tryz.func182 I I I fun C hC => ?_
 unfold I8 at h
 refine Aa fun d c => mE (mG [] I (Bz (Ap a) 7 fun e => Af 1 I (mF ?_)))
 subst c
 refine Ah (fun s ob => s = [(2, .v (.bool (decide ((a.Points.length : Int) < 2) || decide ((a.Points.length : Int) > 8))))] ∧ ob = []) [] J ?_ ?_
 refine mE (Al 5 [.o 1 0, .l 2 (a.Points.length : Int)] I ⟨A0, I, J⟩ ?_)
 rcases bt (decide ((a.Points.length : Int) < 2)) with b | b
 refine Ad 7 I b (Af 6 I (mF ?_))
 exact lf I2 ⟨(Fq (by simp only [b, bz])), J⟩ [] I
 refine Ad 7 I b (Al 6 [.o 1 0, .l 2 (a.Points.length : Int)] I ⟨A0, I, J⟩ (mF ?_))
 exact lf I2 ⟨(Fq (by simp only [b, bz])), J⟩ [] I
 rintro s ob ⟨rfl, rfl⟩
 obtain rfl := h
 exact mL pr
theorem aO (a : Nw) (r : Bool) (h : Ol a = some r) : ACalls Ak 137 [.agg (Ac a)] [] (RB r) := by
 refine Ag Tryz.func137 I I I fun C hC => ?_
 unfold Ol at h
 refine Aa fun k g => mE (mG [] I (Bz (Ac a) 6 fun n => Af 1 I (mF ?_)))
 subst g
 refine mK (Ec 30 (decide ((a.Nodes.length : Int) < 1) || (decide ((a.Nodes.length : Int) > 24) || (decide ((a.Segments.length : Int) > 32) || (decide ((a.Ports.length : Int) > 24) || decide ((a.Stations.length : Int) > 12))))) ?_ ?_)
 refine mE (Al 5 [.o 1 0, .l 2 (a.Nodes.length : Int)] I ⟨A0, I, J⟩ ?_)
 rcases bt (decide ((a.Nodes.length : Int) < 1)) with b | b
 exact Ad 7 I b (Af 23 I (mF (jf (by simp only [b, bz]) I I I2)))
 refine Ad 7 I b (Al 6 [.o 1 0, .l 2 (a.Nodes.length : Int)] I ⟨A0, I, J⟩ ?_)
 rcases bt (decide ((a.Nodes.length : Int) > 24)) with d | d
 exact Ad 13 I d (Af 17 I (mF (jf (by simp only [b, d, bz]) I I I2)))
 refine Ad 13 I d (Al 6 [.o 1 0, .l 2 (a.Segments.length : Int)] I ⟨A0, I, J⟩ ?_)
 rcases bt (decide ((a.Segments.length : Int) > 32)) with e | e
 exact Ad 19 I e (Af 11 I (mF (jf (by simp only [b, d, e, bz]) I I I2)))
 refine Ad 19 I e (Al 6 [.o 1 0, .l 2 (a.Ports.length : Int)] I ⟨A0, I, J⟩ ?_)
 rcases bt (decide ((a.Ports.length : Int) > 24)) with f | f
 exact Ad 25 I f (Af 5 I (mF (jf (by simp only [b, d, e, f, bz]) I I I2)))
 exact Ad 25 I f (Al 5 [.o 1 0, .l 2 (a.Stations.length : Int)] I ⟨A0, I, J⟩ (mF (jf (by simp only [b, d, e, f, bz]) I I I2)))
 refine Aq h I ?_ ?_
 intro i h
 refine Ai I (mM g0 ?_)
 cases io h
 exact mL pr
 intro i h
 refine mI (mK ?_)
 obtain ⟨p, j, h⟩ := Ab h
 refine mE (Al 2 [.o 1 0] I J1 (mR (Rv _ (.v (.func (.func 182) #[] #[])) I (fun x => some (I8 x)) (fun x r h => by obtain I := oi h; exact Zv x _ I) _ j) (Af 2 I (mF (mM g0 ?_)))))
 cases io h
 exact mL pr
theorem aA (b : Nw) (g : Plan) (r : Li) (h : Oc b g = some r) : ACalls Ak 168 [.agg (Ac b), .agg (Au g)] [] (fun x new => ∃ (P : Value), x = .v P ∧ new = [U0 P r]) := by
 refine Ag Tryz.func168 I I I fun C hC => ?_
 refine Aa fun y1 ab => mE (mG [] I (Bz (Ac b) 6 fun n => mG [] I (Bz (Au g) 3 fun p => Af 1 I (mF ?_))))
 subst ab
 refine AW.scope (Ai I (Aa fun y5 ac => ?_))
 obtain ⟨l6, ⟨m8, ad, ae, af⟩, h⟩ := Mr h
 refine mE (Al 3 [.o 1 0, .l 2 (b.Nodes.length : Int)] I ⟨A0, I, J⟩ (mG [] I (Ft (sz := 1) I I I I I I I I I I ad ae (Gn (f := rB) af I) dS fun u => Af 1 I (mF ?_))))
 subst ac
 refine Aa fun ba ag => AW.label ?_
 subst ag
 refine Ah (fun s ob => ∃ (E : Li) (w : Value), Oc.J1 E = some r ∧ s = [(5, .v w)] ∧ ob = [U0 w E]) [] J ?_ ?_
 refine Ai I (mJ (mM (A6 3 1) ?_))
 obtain ⟨bb, ah, ai⟩ := Ab h
 refine Bs ah (K3 2 3 6) J3 (fun (a : Li × (List Bool) × Int) s ob => ∃ (e : Value), s = [(5, .v e), (7, .V a.2.2)] ∧ ob = [O0 n [Ac b], O1 p [Au g], U1 u a.2.1, U0 e a.1]) ⟨nS, I2⟩ ⟨I, I, J⟩ (pk N4) ?_
 rintro a Q s ob ⟨e, rfl, rfl⟩ h aj
 refine Aa fun bc ak => Bg [.o 2 0, .l 3 (b.Nodes.length : Int)] I ⟨A0, I, J⟩ (Aq h I ?_ ?_)
 intro al h
 refine mI ?_
 subst ak
 refine Ah (fun s ob => ∃ (A : Li × (List Bool) × Int) (F : Value), Oc.J3 A = some Q ∧ s = [(5, .v F), (7, .V A.2.2)] ∧ ob = [O0 n [Ac b], O1 p [Au g], U1 u A.2.1, U0 F A.1]) (K3 2 3 6) J3 ?_ ?_
 refine mJ (Aa fun bd am => mK ?_)
 obtain ⟨i, ⟨R, G⟩, h⟩ := Bb h
 refine mE (Af 2 I (mQ (Bh 2 (m := i.1) I I I I I I I R (Ae G)) I (mQ (Ay 2 i.1 0 I I I (Ae G) I (y := .v (.bool i.2)) I) I (mF (Aq h I ?_ ?_)))))
 intro an h
 exact mN (lg ⟨(a.1, a.2.1, a.2.2), e, h, I2⟩ N4)
 intro an h
 refine mI ?_
 subst am
 refine Ah (fun s ob => ∃ (S : Unit), Oc.J4 a i S = some Q ∧ s = [] ∧ ob = [O0 n [Ac b], O1 p [Au g], U1 u a.2.1, U0 e a.1]) (K5 2 3 5 6 7) J5 ?_ ?_
 refine Bg [.o 1 0, .l 2 (b.Segments.length : Int)] I ⟨A0, I, J⟩ (mJ (Cj 28 I fun ao => ?_))
 obtain ⟨be, aq, U⟩ := Ab h
 refine Cg aq (K7 2 3 5 6 7 28 29) J7 (fun (H : Nat) (W : Unit) s ob => s = [(30, .V (H : Int))] ∧ ob = [O0 n [Ac b], O1 p [Au g], U1 u a.2.1, U0 e a.1]) ⟨I, I⟩ ⟨I, J⟩ (pk N4) ?_ ?_
 rintro H K W ar s ob au X ⟨rfl, rfl⟩ h av
 have aw := C9 X
 refine Ai I (Aa fun bf ax => Cd I aw (mI ?_))
 subst ax
 refine mK (mJ (Aa fun bg ay => mE (Al 3 [.x 1 H (Ap K)] I ⟨⟨I, Ae au⟩, J⟩ (mG [] I (Br W3 7 fun bh => Af 1 I (mG [4] I (Ba 4 0 0 [Ap K] I (mF ?_))))))))
 subst ay
 refine Aa fun bi az => ?_
 obtain ⟨j, ⟨Y, Z⟩, h⟩ := Bb h
 refine Bm (pd 12 0 [6]) [4, 1] [_, _] I (Bo 6 [.o 0 0, .o 2 1, .x 4 j.1 (rI j.2)] I ⟨⟨Y, Ae Z⟩, I, I, J⟩ (nC I (Z6 K j.2 _ I) (A4 5 I (An (mF ?_)))))
 subst az
 refine Ah (fun s ob => ∃ (O : Bool), Oc.J6 a O = some ar ∧ s = [(62, .v (.bool O))] ∧ ob = [O0 n [Ac b], O1 p [Au g], U1 u a.2.1, U0 e a.1]) (K8 2 3 5 6 7 28 29 30) J8 ?_ ?_
 refine mE (Al 7 [.o 1 1, .x 3 j.1 (rI j.2)] I ⟨⟨Y, Ae Z⟩, I, J⟩ ?_)
 rcases bt ((j.2 != 0)) with B | B
 have h := Bv B h
 refine Ad 51 I B ?_
 rcases bt ((((Ck K j.2).2) == a.2.2)) with D | D
 have h := Bv D h
 obtain ⟨M, ⟨a0, aa⟩, h⟩ := Bb h
 exact Af 5 I (Ad 56 I D (Af 2 I (Bc I I I (mQ (Bh 2 (m := M.1) I I I I I I I a0 (Ae aa)) I (Bc I I I (mQ (Ay 2 M.1 0 I I I (Ae aa) I (y := .v (.bool M.2)) I) I (Af 2 I (mF (lg ⟨(!M.2), h, I2⟩ N4)))))))))
 have h := Bw D h
 exact Af 5 I (Ad 56 I D (Af 6 I (mF (lg ⟨false, h, I2⟩ N4))))
 have h := Bw B h
 exact Ad 51 I B (Af 11 I (mF (lg ⟨false, h, I2⟩ N4)))
 rintro s ob ⟨O, h, rfl, rfl⟩
 refine Aq h I ?_ ?_
 intro a1 h
 obtain rfl := av _ (oi h).symm
 have h := U
 have h := C2 h
 exact mN (lg ⟨(a.1, a.2.1, a.2.2), e, h, I2⟩ N4)
 intro a1 h
 refine mI (mE (Al 2 [.k 0 (H + 1 : Nat)] I ⟨Bf X ao, J⟩ ?_))
 cases io h
 exact mF ⟨_, _, _, I, I2, J8, pk N4⟩
 rintro W s ob ⟨rfl, rfl⟩ he
 subst he
 have h := Cz U
 have a2 := Da b.Segments.length
 exact Ai I (Aa fun bj bk => Ce I a2 (mN (lg ⟨(), h, I2⟩ N4)))
 rintro s ob ⟨S, h, rfl, rfl⟩
 refine mK (mE (Af 2 I (mQ (Bh 2 (m := i.1) I I I I I I I R (Ae G)) I (mG [2] I (A5 2 i.1 0 I I I (Ae G) I I I I (As I) I (Ca (x := true) I) (mF (mK ?_)))))))
 obtain ⟨a3, a4, h⟩ := Ab h
 exact mE (Af 2 I (mG [] I (mO 1 (([a.2.2] : Li).map rI) (mG [3] I (mT 3 I a4 fun a5 => Af 1 I (mF (We I (lg ⟨(a3, (a.2.1.set i.1 true), (-1)), a5, h, I2⟩ N4))))))))
 rintro s ob ⟨A, F, h, rfl, rfl⟩
 unfold Oc.J3 at h
 refine mE (Af 3 I ?_)
 cases io h
 exact mF ⟨_, _, _, I, ⟨F, I2⟩, J5, pk N4⟩
 intro al h
 obtain rfl := aj _ (oi h).symm
 have h := ai
 exact mN (lg ⟨a.1, e, h, I2⟩ [3])
 rintro s ob ⟨E, w, h, rfl, rfl⟩
 refine Ai I ?_
 obtain rfl := oi h
 exact mL ⟨.inr I, [_], [U0 w E], J1, Dj I (Cm), ⟨w, I2⟩⟩
theorem Sf (a : Int) (r : Int) (h : Hw a = r) : ACalls Ak 184 [.v (.int .u8 a)] [] (RV (.V r)) := by
 refine Ag Tryz.func184 I I I fun C hC => ?_
 unfold Hw at h
 refine Ai I (mK (mJ (Ah (fun s ob => ∃ (e : Unit), Hw.J1 e = r ∧ s = [] ∧ ob = []) [] J ?_ ?_)))
 refine mJ (mJ (mK (mJ (mK (Aa fun k f => Ec 3 (decide (a ≥ 97) && decide (a ≤ 122)) ?_ ?_)))))
 refine mE (Af 1 I (B0 (nA (c := decide (a ≥ 97)) I I I) I (Af 1 I ?_)))
 rcases bt (decide (a ≥ 97)) with b | b
 exact Ad 6 I b (Af 1 I (Bc I I I (B0 (nA (c := decide (a ≤ 122)) I I I) I (Af 2 I (mF (jf (by simp only [b, bz]) I I I2))))))
 exact Ad 6 I b (Af 4 I (mF (jf (by simp only [b, bz]) I I I2)))
 refine Aq h I ?_ ?_
 intro g h
 refine mN (mK (Ai I ?_))
 obtain rfl := h
 exact mL pr
 intro g h
 refine mI ?_
 subst f
 refine mK (Ec 10 (decide (a ≥ 48) && decide (a ≤ 57)) ?_ ?_)
 refine mE (Af 1 I (B0 (nA (c := decide (a ≥ 48)) I I I) I (Af 1 I ?_)))
 rcases bt (decide (a ≥ 48)) with d | d
 exact Ad 13 I d (Af 1 I (Bc I I I (B0 (nA (c := decide (a ≤ 57)) I I I) I (Af 2 I (mF (jf (by simp only [d, bz]) I I I2))))))
 exact Ad 13 I d (Af 4 I (mF (jf (by simp only [d, bz]) I I I2)))
 refine Aq h I ?_ ?_
 intro i h
 exact mN (lg ⟨(), h, I2⟩ [])
 intro i h
 refine mI (mK (mE (Af 1 I (B0 (nA (c := (a == 45)) I I I) I (Af 1 I (mF (Aq h I ?_ ?_)))))))
 intro j h
 exact mN (lg ⟨(), h, I2⟩ [])
 intro j h
 refine mI (mN (Ai I ?_))
 obtain rfl := h
 exact mL pr
 rintro s ob ⟨e, h, rfl, rfl⟩
 unfold Hw.J1 at h
 refine mK (Ai I ?_)
 obtain rfl := h
 exact mL pr
theorem bK (a : Bt) (r : Bool) (h : G9 a = some r) : ACalls Ak 141 [.v (.string a)] [] (RB r) := by
 refine Ag Tryz.func141 I I I fun C hC => ?_
 unfold G9 at h
 refine Ai I (Aa fun S o => Ah (fun s ob => ∃ (f : Bool), G9.J1 a f = some r ∧ s = [(17, .v (.bool f))] ∧ ob = []) [(0, _)] J1 ?_ ?_)
 refine mE (Af 4 I ?_)
 rcases bt (decide ((a.size : Int) < 1)) with b | b
 have h := Bv b h
 exact Ad 7 I b (Af 10 I (mF (lg ⟨true, h, I2⟩ [])))
 have h := Bw b h
 refine Ad 7 I b ?_
 rcases bt (decide ((a.size : Int) > 12)) with d | d
 have h := Bv d h
 exact Af 5 I (Ad 12 I d (Af 5 I (mF (lg ⟨true, h, I2⟩ []))))
 have h := Bw d h
 obtain ⟨g, t, h⟩ := Ab h
 obtain ⟨u, w, y⟩ := Kh t
 exact Af 5 I (Ad 12 I d (Af 1 I (Bc I I I (B0 (Cr (m := g.1) I I I I u w y) I (Bc I I I (mR (Sf g.2 _ I) (Af 2 I (mF (lg ⟨((Hw g.2) != 1), h, I2⟩ [])))))))))
 rintro s ob ⟨f, h, rfl, rfl⟩
 refine Aq h I ?_ ?_
 intro A h
 refine Ai I ?_
 cases io h
 exact mL pr
 intro A h
 refine mI ?_
 subst o
 refine Ah (fun s ob => ∃ (i : Unit), G9.J2 i = some r ∧ s = [] ∧ ob = []) [] J ?_ ?_
 refine Ai I (mJ ?_)
 obtain ⟨U, B, h⟩ := Ab h
 have D : (a.size : Int).toNat ≤ 9223372036854775806 := by have := eL B; omega
 obtain ⟨W, E, j⟩ := Ab h
 refine Gf E (K2 0 19) J2 (fun (e : Nat) (l : Unit) s ob => s = [(20, .V (e : Int))] ∧ ob = []) ⟨I, I⟩ ⟨I, J⟩ (pk []) ?_ ?_
 rintro e l X s ob F ⟨rfl, rfl⟩ h G
 have H : decide ((e : Int) < (a.size : Int)) = true := decide_eq_true (by omega)
 refine Ai I (Aa fun Y K => Cd I H (mI ?_))
 subst K
 refine mK (mJ (Ai I (mK ?_)))
 obtain ⟨n, M, h⟩ := Ab h
 obtain ⟨N, O, P⟩ := Kh M
 refine mE (Af 2 I (B0 (Cr (m := n.1) I I I I N O P) I (mR (Sf n.2 _ I) (Af 1 I (mF (Aq h I ?_ ?_))))))
 intro Q h
 refine Ai I ?_
 obtain rfl := G _ (oi h).symm
 have h := j
 have h := C2 h
 cases io h
 exact mL pr
 intro Q h
 refine mI (mE (Al 2 [.k 0 (e + 1 : Nat)] I ⟨Bf F D, J⟩ ?_))
 cases io h
 exact mF ⟨_, _, _, I, I2, J3, pk []⟩
 rintro l s ob ⟨rfl, rfl⟩ he
 subst he
 have h := Cz j
 have R : decide ((((a.size : Int).toNat : Nat) : Int) < (a.size : Int)) = false := decide_eq_false (by omega)
 exact Ai I (Aa fun Z aa => Ce I R (mN (lg ⟨(), h, I2⟩ [])))
 rintro s ob ⟨i, h, rfl, rfl⟩
 unfold G9.J2 at h
 refine Ai I ?_
 cases io h
 exact mL pr
theorem Sk (a : Nw) (r : Arr (List Bt) 4) (h : L4 a = some r) : ACalls Ak 138 [.agg (Ac a)] [] (RV (.agg (r.l.map (cL 1 rS)))) := by
 refine Ag Tryz.func138 I I I fun C hC => ?_
 unfold L4 at h
 refine Aa fun y1 U => mE (mG [] I (Bz (Ac a) 6 fun u => mG [] I (Br W4 4 fun f => mF ?_)))
 subst U
 refine Aa fun y4 W => mE (mG [] I (Br W4 4 fun g => mF ?_))
 subst W
 refine Aa fun y6 X => mE (Al 2 [.o 1 0] I J1 (B0 (Dl (m := 0) I I I I I I (As I)) I (mG [2] I (Ba 2 0 0 [[Q1 a.Nodes, .N, .N, .N]] I (mF ?_)))))
 subst X
 refine Ah (fun s ob => ∃ (c : List Bt) (b : Value), L4.J1 a c = some r ∧ s = [] ∧ ob = [O0 u [Ac a], O4 f [W4], O4 g [[Q1 a.Nodes, .v b, .N, .N]], U2 b c]) (K3 1 2 3) J3 ?_ ?_
 refine Bg [.o 1 0, .l 2 (a.Segments.length : Int)] I ⟨A0, I, J⟩ (mJ (Cj 14 I fun Y => mM (A6 9 1) ?_))
 obtain ⟨a5, Z, aa⟩ := Ab h
 refine Dc Z (K5 1 2 3 14 15) J5 (fun (w : Nat) (y : List Bt) s ob => ∃ (j : Value), s = [(16, .V (w : Int))] ∧ ob = [O0 u [Ac a], O4 f [W4], O4 g [[Q1 a.Nodes, .v j, .N, .N]], U2 j y]) ⟨nS, I2⟩ ⟨I, J⟩ (pk N4) ?_ ?_
 rintro w F y a6 s ob ab M ⟨j, rfl, rfl⟩ h
 have ac := C9 M
 refine Ai I (Aa fun a7 ad => Cd I ac (mI ?_))
 subst ad
 refine mK (mJ (mK (mE (Al 2 [.x 0 w (Ap F)] I ⟨⟨I, Ae ab⟩, J⟩ (mG [] I (Br W3 7 fun a8 => mG [4] I (Ba 4 0 0 [Ap F] I (mF ?_))))))))
 obtain ⟨a9, ae, h⟩ := Ab h
 refine mE (B0 (Dl (m := 1) I I I I I I (As I)) I (Al 3 [.o 0 2, .o 2 4] I J2 (mG [] I (mO 1 (([F.Name] : List Bt).map rS) (mG [3] I (mT 3 I ae fun O => B0 (Dl (m := 1) I I I I I I (As I)) I (nD 3 I fun af => mG [2] I (mP 2 0 1 (es' := [[Q1 a.Nodes, .v O, .N, .N]]) I I I I I I (Bd af) I (As I) I I (mF (mE (Al 2 [.k 0 (w + 1 : Nat)] I ⟨Bf M Y, J⟩ ?_)))))))))))
 cases io h
 exact mF (lg ⟨O, I2⟩ N4)
 rintro y s ob ⟨j, rfl, rfl⟩ he
 subst he
 have h := aa
 have ag := Da a.Segments.length
 exact Ai I (Aa fun ba bb => Ce I ag (mN (lg ⟨y, j, h, I2⟩ N4)))
 rintro s ob ⟨c, b, h, rfl, rfl⟩
 unfold L4.J1 at h
 refine Ah (fun s ob => ∃ (e : List Bt) (d : Value), L4.J2 a c e = some r ∧ s = [] ∧ ob = [O0 u [Ac a], O4 f [W4], O4 g [[Q1 a.Nodes, .v b, .v d, .N]], U2 b c, U2 d e]) (K3 1 2 3) J3 ?_ ?_
 refine Bg [.o 1 0, .l 2 (a.Ports.length : Int)] I ⟨A0, I, J⟩ (mJ (Cj 29 I fun ah => mM (A6 9 1) ?_))
 obtain ⟨bc, ai, aj⟩ := Ab h
 refine Dc ai (K5 1 2 3 29 30) J5 (fun (A : Nat) (B : List Bt) s ob => ∃ (n : Value), s = [(31, .V (A : Int))] ∧ ob = [O0 u [Ac a], O4 f [W4], O4 g [[Q1 a.Nodes, .v b, .v n, .N]], U2 b c, U2 n B]) ⟨nS, I2⟩ ⟨I, J⟩ (pk N5) ?_ ?_
 rintro A G B bd s ob ak P ⟨n, rfl, rfl⟩ h
 have al := C9 P
 refine Ai I (Aa fun be am => Cd I al (mI ?_))
 subst am
 refine mK (mJ (mK (mE (Al 2 [.x 0 A (Bp G)] I ⟨⟨I, Ae ak⟩, J⟩ (mG [] I (Br W5 3 fun bf => mG [5] I (Ba 5 0 0 [Bp G] I (mF ?_))))))))
 obtain ⟨bg, an, h⟩ := Ab h
 refine mE (B0 (Dl (m := 2) I I I I I I (As I)) I (Al 3 [.o 0 2, .o 2 5] I J2 (mG [] I (mO 1 (([G.Name] : List Bt).map rS) (mG [4] I (mT 4 I an fun Q => B0 (Dl (m := 2) I I I I I I (As I)) I (nD 4 I fun ao => mG [2] I (mP 2 0 2 (es' := [[Q1 a.Nodes, .v b, .v Q, .N]]) I I I I I I (Bd ao) I (As I) I I (mF (mE (Al 2 [.k 0 (A + 1 : Nat)] I ⟨Bf P ah, J⟩ ?_)))))))))))
 cases io h
 exact mF (lg ⟨Q, I2⟩ N5)
 rintro B s ob ⟨n, rfl, rfl⟩ he
 subst he
 have h := aj
 have aq := Da a.Ports.length
 exact Ai I (Aa fun bh bi => Ce I aq (mN (lg ⟨B, n, h, I2⟩ N5)))
 rintro s ob ⟨e, d, h, rfl, rfl⟩
 unfold L4.J2 at h
 refine Ah (fun s ob => ∃ (q : List Bt) (i : Value), L4.J3 a c e q = some r ∧ s = [] ∧ ob = [O4 f [W4], O4 g [[Q1 a.Nodes, .v b, .v d, .v i]], U2 b c, U2 d e, U2 i q]) (K2 2 3) J2 ?_ ?_
 refine Bg [.o 1 0, .l 2 (a.Stations.length : Int)] I ⟨A0, I, J⟩ (mJ (Cj 44 I fun ar => mM (A6 9 1) ?_))
 obtain ⟨bj, au, av⟩ := Ab h
 refine Dc au (K4 2 3 44 45) J4 (fun (D : Nat) (E : List Bt) s ob => ∃ (t : Value), s = [(46, .V (D : Int))] ∧ ob = [O4 f [W4], O4 g [[Q1 a.Nodes, .v b, .v d, .v t]], U2 b c, U2 d e, U2 t E]) ⟨nS, I2⟩ ⟨I, J⟩ (pk [1, 2, 3, 4, 5]) ?_ ?_
 rintro D H E bk s ob aw R ⟨t, rfl, rfl⟩ h
 have ax := C9 R
 refine Ai I (Aa fun bl ay => Cd I ax (mI ?_))
 subst ay
 refine mK (mJ (mK (mE (Al 2 [.x 0 D (Bl H)] I ⟨⟨I, Ae aw⟩, J⟩ (mG [] I (Br W6 5 fun bm => mG [5] I (Ba 5 0 0 [Bl H] I (mF ?_))))))))
 obtain ⟨bn, az, h⟩ := Ab h
 refine mE (B0 (Dl (m := 3) I I I I I I (As I)) I (Al 3 [.o 0 1, .o 2 5] I J2 (mG [] I (mO 1 (([H.Name] : List Bt).map rS) (mG [4] I (mT 4 I az fun S => B0 (Dl (m := 3) I I I I I I (As I)) I (nD 4 I fun a0 => mG [1] I (mP 1 0 3 (es' := [[Q1 a.Nodes, .v b, .v d, .v S]]) I I I I I I (Bd a0) I (As I) I I (mF (mE (Al 2 [.k 0 (D + 1 : Nat)] I ⟨Bf R ar, J⟩ ?_)))))))))))
 cases io h
 exact mF (lg ⟨S, I2⟩ N5)
 rintro E s ob ⟨t, rfl, rfl⟩ he
 subst he
 have h := av
 have a1 := Da a.Stations.length
 exact Ai I (Aa fun bo bp => Ce I a1 (mN (lg ⟨E, t, h, I2⟩ N5)))
 rintro s ob ⟨q, i, h, rfl, rfl⟩
 unfold L4.J3 at h
 refine mK (mE (Al 1 [.o 0 1] I J1 (mG [0] I (Ba 0 0 0 [[Q1 a.Nodes, .v b, .v d, .v i]] I (mF (mM (Be [2, 3, 4] (K := [U2 b c, U2 d e, U2 i q]) I [] J (ob' := [O4 f [[Q1 a.Nodes, Q1 c, Q1 e, Q1 q]], O4 g [[Q1 a.Nodes, .v b, .v d, .v i]]]) (.cons (.arr (.cons (.refl _) (.cons (.us 0 I) (.cons (.us 1 I) (.cons (.us 2 I) (.rest _)))))) (.rest _))) (Dd [0] I ?_)))))))
 cases io h
 exact mL ⟨.inr I, [_], [], ⟨⟨0, _, _, _, _, _, _, _, I5⟩, J⟩, Cm, I2⟩
theorem aB (a : Sn) (b : Sn) (r : Bool) (h : Hv a b = r) : ACalls Ak 187 [.agg (Bl a), .eptr (Bl b)] [] (RB r) := by
 refine Ag Tryz.func187 I I I fun C hC => ?_
 unfold Hv at h
 refine mK (mE (mG [] I (Bz (Bl a) 5 fun c => Af 1 I (mF (Bg [.o 1 0] I J1 (mM g0 ?_))))))
 obtain rfl := h
 exact mL pr
theorem Zy (a : Nw) (r : Bool) (h : Nx a = some r) : ACalls Ak 142 [.agg (Ac a)] [] (RB r) := by
 refine Ag Tryz.func142 I I I fun C hC => ?_
 unfold Nx at h
 refine Aa fun y1 G => mE (mG [] I (Bz (Ac a) 6 fun b => Af 1 I (mF ?_)))
 subst G
 refine Ah (fun s ob => ∃ (j : Unit), Nx.J1 a j = some r ∧ s = [] ∧ ob = [O0 b [Ac a]]) [(1, _)] J1 ?_ ?_
 refine Aa fun aw H => ?_
 obtain ⟨ax, K, h⟩ := Ab h
 refine mE (Al 1 [.o 0 0] I J1 (mG [] I (Cb I I I (Sk _ _ K) dS ?_)))
 rintro _ _ ⟨rfl, rfl⟩
 refine Af 1 I (mF ?_)
 subst H
 refine mJ ?_
 have M : (4 : Nat) ≤ 9223372036854775806 := by decide
 obtain ⟨ay, N, n⟩ := Ab h
 refine Gf N (K2 1 10) J2 (fun (e : Nat) (t : Unit) s ob => s = [(11, .V (e : Int))] ∧ ob = [O0 b [Ac a]]) ⟨I, I⟩ ⟨I, J⟩ (pk [0]) ?_ ?_
 rintro e t O s ob P ⟨rfl, rfl⟩ h Q
 unfold Nx.B4 at h
 have R : decide ((e : Int) < 4) = true := decide_eq_true (by omega)
 refine Ai I (Aa fun az S => Cd I R (mI ?_))
 subst S
 refine Ah (fun s ob => ∃ (u : Unit), Nx.J5 u = some O ∧ s = [] ∧ ob = [O0 b [Ac a]]) (K3 1 10 11) J3 ?_ ?_
 refine mJ (Aa fun a0 U => ?_)
 obtain ⟨i, ⟨W, X⟩, h⟩ := Bb h
 refine mE (B0 (Gv (m := i.1) I I I I I I I W X (hlen := Arr.h _)) I (Af 1 I (mF ?_)))
 subst U
 refine Bg [.l 1 (i.2.length : Int)] I ⟨A0, J⟩ (mJ (Cj 14 I fun Y => ?_))
 obtain ⟨a1, Z, w⟩ := Ab h
 refine Cg Z (K6 1 4 10 11 14 15) J6 (fun (f : Nat) (y : Unit) s ob => s = [(16, .V (f : Int))] ∧ ob = [O0 b [Ac a]]) ⟨I, I⟩ ⟨I, J⟩ (pk [0]) ?_ ?_
 rintro f aa y a2 s ob ab A ⟨rfl, rfl⟩ h ac
 have ad := C9 A
 refine Ai I (Aa fun a3 ae => Cd I ad (mI ?_))
 subst ae
 refine mK (mJ (Bg [.x 1 f (rS aa)] I ⟨⟨I, Ae ab⟩, J⟩ (mK ?_)))
 obtain ⟨a4, af, h⟩ := Ab h
 refine mE (Af 2 I (mR (aC _ _ _ af) (Af 2 I (mF (Aq h I ?_ ?_)))))
 intro ag h
 refine Ai I ?_
 obtain rfl := ac _ (oi h).symm
 have h := w
 have h := C2 h
 obtain rfl := Q _ (oi h).symm
 have h := n
 have h := C2 h
 refine mM g0 ?_
 cases io h
 exact mL pr
 intro ag h
 refine mI (mE (Al 2 [.k 0 (f + 1 : Nat)] I ⟨Bf A Y, J⟩ ?_))
 cases io h
 exact mF ⟨_, _, _, I, I2, J7, pk [0]⟩
 rintro y s ob ⟨rfl, rfl⟩ he
 subst he
 have h := Cz w
 have ah := Da i.2.length
 exact Ai I (Aa fun a5 a6 => Ce I ah (mN (lg ⟨(), h, I2⟩ [0])))
 rintro s ob ⟨u, h, rfl, rfl⟩
 unfold Nx.J5 at h
 refine mE (Al 2 [.k 0 (e + 1 : Nat)] I ⟨Bf P M, J⟩ ?_)
 cases io h
 exact mF ⟨_, _, _, I, I2, J3, pk [0]⟩
 rintro t s ob ⟨rfl, rfl⟩ he
 subst he
 have h := Cz n
 have ai : decide (((4 : Nat) : Int) < 4) = false := by simp
 exact Ai I (Aa fun a7 a8 => Ce I ai (mN (lg ⟨(), h, I2⟩ [0])))
 rintro s ob ⟨j, h, rfl, rfl⟩
 unfold Nx.J1 at h
 refine Ah (fun s ob => ∃ (B : Unit), Nx.J2 B = some r ∧ s = [] ∧ ob = []) [] J ?_ ?_
 refine Bg [.o 1 0, .l 2 (a.Stations.length : Int)] I ⟨A0, I, J⟩ (mJ (Cj 29 I fun aj => ?_))
 obtain ⟨a9, ak, D⟩ := Ab h
 refine Cg ak (K3 1 29 30) J3 (fun (g : Nat) (E : Unit) s ob => s = [(31, .V (g : Int))] ∧ ob = [O0 b [Ac a]]) ⟨I, I⟩ ⟨I, J⟩ (pk [0]) ?_ ?_
 rintro g d E ba s ob al F ⟨rfl, rfl⟩ h am
 have an := C9 F
 refine Ai I (Aa fun bb ao => Cd I an (mI ?_))
 subst ao
 refine mK (mJ (Aa fun bc ap => mE (Al 3 [.x 1 g (Bl d)] I ⟨⟨I, Ae al⟩, J⟩ (mG [] I (Br W6 5 fun bd => Af 1 I (mG [1] I (Ba 1 0 0 [Bl d] I (mF ?_))))))))
 subst ap
 refine mK ?_
 obtain ⟨be, aq, h⟩ := Ab h
 refine mE (Al 2 [.o 1 0] I J1 (B0 (nF I I) I (mG [] I (By I (.refl _) I I (.cons (.refl _) (.cons (.fn (.rest _) (.cons (.box 1 I (.rest _)) (.rest _))) (.rest _))) I (Rs _ (.fn 187 [] [.eptr (Bl d)]) I (fun x => some (Hv x d)) (fun x r h => by obtain I := oi h; exact aB x d _ I) _ aq) dS (by rintro _ _ ⟨rfl, _⟩; rfl) ?_))))
 rintro _ ⟨_, rfl, -⟩
 refine Af 2 I (mF (Aq h I ?_ ?_))
 intro ar h
 refine Ai I ?_
 obtain rfl := am _ (oi h).symm
 have h := D
 have h := C2 h
 refine mM g0 ?_
 cases io h
 exact mL pr
 intro ar h
 refine mI (mE (Al 2 [.k 0 (g + 1 : Nat)] I ⟨Bf F aj, J⟩ ?_))
 cases io h
 exact mF ⟨_, _, _, I, I2, J4, pk [0]⟩
 rintro E s ob ⟨rfl, rfl⟩ he
 subst he
 have h := Cz D
 have au := Da a.Stations.length
 exact Ai I (Aa fun bf bg => Ce I au (mN (lg ⟨(), h, I2⟩ [])))
 rintro s ob ⟨B, h, rfl, rfl⟩
 unfold Nx.J2 at h
 refine Ai I ?_
 cases io h
 exact mL pr
theorem Zz (a : Int) (c : Nw) (r : Bool) (h : I9 a c = r) : ACalls Ak 188 [.V a, .eptr (Ac c)] [] (RB r) := by
 refine Ag Tryz.func188 I I I fun C hC => ?_
 unfold I9 at h
 refine Ai I (Ah (fun s ob => s = [(3, .v (.bool (decide (a < 0) || decide (a ≥ (c.Nodes.length : Int)))))] ∧ ob = []) [] J ?_ ?_)
 refine mE (Af 3 I ?_)
 rcases bt (decide (a < 0)) with b | b
 refine Ad 6 I b (Af 7 I (mF ?_))
 exact lf I2 ⟨(Fq (by simp only [b, bz])), J⟩ [] I
 refine Ad 6 I b (Al 7 [.l 3 (c.Nodes.length : Int)] I ⟨A0, J⟩ (mF ?_))
 exact lf I2 ⟨(Fq (by simp only [b, bz])), J⟩ [] I
 rintro s ob ⟨rfl, rfl⟩
 obtain rfl := h
 exact mL pr
theorem bL (a : Nw) (r : Bool) (h : O8 a = some r) : ACalls Ak 143 [.agg (Ac a)] [] (RB r) := by
 refine Ag Tryz.func143 I I I fun C hC => ?_
 unfold O8 at h
 refine Aa fun y1 O => mE (mG [] I (Bz (Ac a) 6 fun b => Af 1 I (mF ?_)))
 subst O
 refine Ai I (Ah (fun s ob => ∃ (A : Li) (f : Value), O8.J1 a A = some r ∧ s = [(3, .v f)] ∧ ob = [O0 b [Ac a], U0 f A]) [(1, _)] J1 ?_ ?_)
 refine Bg [.o 1 0, .l 2 (a.Segments.length : Int)] I ⟨A0, I, J⟩ (mJ (Cj 11 I fun P => mM (A6 3 1) ?_))
 obtain ⟨ax, Q, R⟩ := Ab h
 refine Dc Q (K3 1 11 12) J3 (fun (g : Nat) (i : Li) s ob => ∃ (c : Value), s = [(13, .V (g : Int)), (3, .v c)] ∧ ob = [O0 b [Ac a], U0 c i]) ⟨nS, I2⟩ ⟨I, I, J⟩ (pk [0, 1]) ?_ ?_
 rintro g j i ay s ob S H ⟨c, rfl, rfl⟩ h
 have U := C9 H
 refine Ai I (Aa fun az W => Cd I U (mI ?_))
 subst W
 refine mK (mJ (mK (mE (Al 2 [.x 0 g (Ap j)] I ⟨⟨I, Ae S⟩, J⟩ (mG [] I (Br W3 7 fun a0 => mG [2] I (Ba 2 0 0 [Ap j] I (mF ?_))))))))
 obtain ⟨a1, X, h⟩ := Ab h
 refine mE (Al 5 [.o 2 2, .o 4 2] I J2 (mG [] I (mO 1 (([j.From, j.To] : Li).map rI) (mG [1] I (mT 1 I X fun Y => Af 1 I (mF (mE (Al 2 [.k 0 (g + 1 : Nat)] I ⟨Bf H P, J⟩ ?_))))))))
 cases io h
 exact mF (lg ⟨Y, I2⟩ [0, 1])
 rintro i s ob ⟨c, rfl, rfl⟩ he
 subst he
 have h := R
 have Z := Da a.Segments.length
 exact Ai I (Aa fun a2 a3 => Ce I Z (mN (lg ⟨i, c, h, I2⟩ [0, 1])))
 rintro s ob ⟨A, f, h, rfl, rfl⟩
 unfold O8.J1 at h
 refine Ah (fun s ob => ∃ (B : Li) (n : Value), O8.J2 a B = some r ∧ s = [(3, .v n)] ∧ ob = [O0 b [Ac a], U0 n B]) [(1, _)] J1 ?_ ?_
 refine Bg [.o 1 0, .l 2 (a.Ports.length : Int)] I ⟨A0, I, J⟩ (mJ (Cj 26 I fun aa => ?_))
 obtain ⟨a4, ab, ac⟩ := Ab h
 refine Dc ab (K3 1 26 27) J3 (fun (t : Nat) (u : Li) s ob => ∃ (d : Value), s = [(28, .V (t : Int)), (3, .v d)] ∧ ob = [O0 b [Ac a], U0 d u]) ⟨f, I2⟩ ⟨I, I, J⟩ (pk [0, 1]) ?_ ?_
 rintro t D u a5 s ob ad K ⟨d, rfl, rfl⟩ h
 have ae := C9 K
 refine Ai I (Aa fun a6 af => Cd I ae (mI ?_))
 subst af
 refine mK (mJ (mK (mE (Al 2 [.x 0 t (Bp D)] I ⟨⟨I, Ae ad⟩, J⟩ (mG [] I (Br W5 3 fun a7 => mG [2] I (Ba 2 0 0 [Bp D] I (mF ?_))))))))
 obtain ⟨a8, ag, h⟩ := Ab h
 refine mE (Al 3 [.o 2 2] I J1 (mG [] I (mO 1 (([D.Node] : Li).map rI) (mG [1] I (mT 1 I ag fun ah => Af 1 I (mF (mE (Al 2 [.k 0 (t + 1 : Nat)] I ⟨Bf K aa, J⟩ ?_))))))))
 cases io h
 exact mF (lg ⟨ah, I2⟩ [0, 1])
 rintro u s ob ⟨d, rfl, rfl⟩ he
 subst he
 have h := ac
 have ai := Da a.Ports.length
 exact Ai I (Aa fun a9 ba => Ce I ai (mN (lg ⟨u, d, h, I2⟩ [0, 1])))
 rintro s ob ⟨B, n, h, rfl, rfl⟩
 unfold O8.J2 at h
 refine Ah (fun s ob => ∃ (E : Li) (F : Value), O8.J3 a E = some r ∧ s = [(3, .v F)] ∧ ob = [O0 b [Ac a], U0 F E]) [(1, _)] J1 ?_ ?_
 refine Bg [.o 1 0, .l 2 (a.Stations.length : Int)] I ⟨A0, I, J⟩ (mJ (Cj 39 I fun aj => ?_))
 obtain ⟨bb, ak, al⟩ := Ab h
 refine Dc ak (K3 1 39 40) J3 (fun (w : Nat) (y : Li) s ob => ∃ (e : Value), s = [(41, .V (w : Int)), (3, .v e)] ∧ ob = [O0 b [Ac a], U0 e y]) ⟨n, I2⟩ ⟨I, I, J⟩ (pk [0, 1]) ?_ ?_
 rintro w G y bc s ob am M ⟨e, rfl, rfl⟩ h
 have an := C9 M
 refine Ai I (Aa fun bd ao => Cd I an (mI ?_))
 subst ao
 refine mK (mJ (mK (mE (Al 2 [.x 0 w (Bl G)] I ⟨⟨I, Ae am⟩, J⟩ (mG [] I (Br W6 5 fun be => mG [2] I (Ba 2 0 0 [Bl G] I (mF ?_))))))))
 obtain ⟨bf, aq, h⟩ := Ab h
 refine mE (Al 3 [.o 2 2] I J1 (mG [] I (mO 1 (([G.Node] : Li).map rI) (mG [1] I (mT 1 I aq fun ar => Af 1 I (mF (mE (Al 2 [.k 0 (w + 1 : Nat)] I ⟨Bf M aj, J⟩ ?_))))))))
 cases io h
 exact mF (lg ⟨ar, I2⟩ [0, 1])
 rintro y s ob ⟨e, rfl, rfl⟩ he
 subst he
 have h := al
 have au := Da a.Stations.length
 exact Ai I (Aa fun bg bh => Ce I au (mN (lg ⟨y, e, h, I2⟩ [0, 1])))
 rintro s ob ⟨E, F, h, rfl, rfl⟩
 refine mK ?_
 obtain ⟨bi, av, h⟩ := Ab h
 refine mE (Af 1 I (B0 (nF I I) I (mG [] I (By I (.refl _) I I (.cons (.us 1 I) (.cons (.fn (.rest _) (.cons (.box 0 I (.rest _)) (.rest _))) (.rest _))) I (Ry _ (.fn 188 [] [.eptr (Ac a)]) I (fun x => some (I9 x a)) (fun x r h => by obtain I := oi h; exact Zz x a _ I) _ av) dS (by rintro _ _ ⟨rfl, _⟩; rfl) ?_))))
 rintro _ ⟨_, rfl, -⟩
 refine Af 2 I (mF (mM g0 ?_))
 cases io h
 exact mL pr
theorem bJ (a : Sg) (r : Bool) (h : Jh a = some r) : ACalls Ak 190 [.agg (Ap a)] [] (RB r) := by
 refine Ag Tryz.func190 I I I fun C hC => ?_
 unfold Jh at h
 refine Aa fun y1 H => mE (mG [] I (Bz (Ap a) 7 fun t => Af 1 I (mF ?_)))
 subst H
 refine Aa fun y3 K => Ec 27 ((a.From == a.To) || ((!(C7 a.Capacity 1 1000000)) || ((!(C7 a.Resist 0 1000)) || (!(C7 a.Wave 0 100000))))) ?_ ?_
 refine mE (Al 6 [.o 1 0, .o 3 0] I J2 ?_)
 rcases bt ((a.From == a.To)) with d | d
 exact Ad 10 I d (Af 17 I (mF (jf (by simp only [d, bz]) I I I2)))
 refine Ad 10 I d (Al 2 [.o 1 0] I J1 (Bc I I I (mR (Dg a.Capacity 1 1000000 _ I) (Af 3 I ?_))))
 rcases bt ((!(C7 a.Capacity 1 1000000))) with f | f
 exact Ad 16 I f (Af 11 I (mF (jf (by simp only [d, f, bz]) I I I2)))
 refine Ad 16 I f (Al 2 [.o 1 0] I J1 (Bc I I I (mR (Dg a.Resist 0 1000 _ I) (Af 3 I ?_))))
 rcases bt ((!(C7 a.Resist 0 1000))) with i | i
 exact Ad 22 I i (Af 5 I (mF (jf (by simp only [d, f, i, bz]) I I I2)))
 exact Ad 22 I i (Al 2 [.o 1 0] I J1 (Bc I I I (mR (Dg a.Wave 0 100000 _ I) (Af 2 I (mF (jf (by simp only [d, f, i, bz]) I I I2))))))
 refine Aq h I ?_ ?_
 intro M h
 refine Ai I (mM g0 ?_)
 cases io h
 exact mL pr
 intro M h
 refine mI ?_
 subst K
 refine Ah (fun s ob => ∃ (D : Unit), Jh.J1 a D = some r ∧ s = [] ∧ ob = [O5 t [Ap a]]) [(1, _)] J1 ?_ ?_
 refine Bg [.o 1 0, .l 2 (a.Points.length : Int)] I ⟨A0, I, J⟩ (mJ (Cj 29 I fun N => ?_))
 obtain ⟨ah, O, E⟩ := Ab h
 refine Cg O (K3 1 29 30) J3 (fun (j : Nat) (F : Unit) s ob => s = [(31, .V (j : Int))] ∧ ob = [O5 t [Ap a]]) ⟨I, I⟩ ⟨I, J⟩ (pk [0]) ?_ ?_
 rintro j b F P s ob Q G ⟨rfl, rfl⟩ h R
 unfold Jh.B3 at h
 have S := C9 G
 refine Ai I (Aa fun ai U => Cd I S (mI ?_))
 subst U
 refine mK (mJ (Aa fun aj W => mE (Al 3 [.x 1 j (Cn b)] I ⟨⟨I, Ae Q⟩, J⟩ (mG [] I (Br [.V 0, .V 0, .V 0] 3 fun ak => Af 1 I (mG [1] I (Ba 1 0 0 [Cn b] I (mF ?_))))))))
 subst W
 refine Ah (fun s ob => ∃ (u : Bool), Jh.J4 u = some P ∧ s = [(61, .v (.bool u))] ∧ ob = [O5 t [Ap a]]) (K4 1 29 30 31) J4 ?_ ?_
 rcases bt ((!(C7 b.Height (-500) 5000))) with e | e
 have h := Bv e h
 refine Bm (pd 26 0 [2, 7]) [1] [_] I (Bo 2 [.o 1 0] I J1 (nC I (Dg b.Height (-500) 5000 _ I) (A4 2 I (Bk 40 I e (A4 9 I (Db I I I I dS (Db I I I I dS (Db I I I I dS (Db I I I I dS (Db I I I I dS (Db I I I I dS (Db I I I I dS ?_))))))))))))
 exact Db I I I I dS (Db I I I I dS (Db I I I I dS (A4 2 I (An (mF (lg ⟨true, h, I2⟩ [0]))))))
 have h := Bw e h
 rcases bt ((!(C7 b.Limit 0 100000000))) with g | g
 have h := Bv g h
 refine Bm (pd 26 0 [2, 7]) [1] [_] I (Bo 2 [.o 1 0] I J1 (nC I (Dg b.Height (-500) 5000 _ I) (A4 2 I (Bk 40 I e (Bo 2 [.o 1 0] I J1 (Hi I (Dg b.Limit 0 100000000 _ I) (A4 3 I (Bk 46 I g (A4 3 I (Db I I I I dS (Db I I I I dS (Db I I I I dS ?_))))))))))))
 exact Db I I I I dS (Db I I I I dS (Db I I I I dS (Db I I I I dS (Db I I I I dS (Db I I I I dS (Db I I I I dS (A4 2 I (An (mF (lg ⟨true, h, I2⟩ [0]))))))))))
 have h := Bw g h
 rcases bt (decide ((j : Int) > 0)) with n | n
 have h := Bv n h
 obtain ⟨w, ⟨X, Y⟩, h⟩ := Bb h
 refine Bm (pd 26 0 [2, 7]) [1, 0] [_, _] I (Bo 2 [.o 1 0] I J1 (nC I (Dg b.Height (-500) 5000 _ I) (A4 2 I (Bk 40 I e (Bo 2 [.o 1 0] I J1 (Hi I (Dg b.Limit 0 100000000 _ I) (A4 3 I (Bk 46 I g (A4 3 I (Bk 49 I n (Bo 12 [.o 1 0, .o 3 1, .x 6 w.1 (Cn w.2)] I ⟨⟨X, Ae Y⟩, I, I, J⟩ (An ?_))))))))))))
 exact mF (lg ⟨decide (b.At ≤ w.2.At), h, I2⟩ [0])
 have h := Bw n h
 refine Bm (pd 26 0 [2, 7]) [1] [_] I (Bo 2 [.o 1 0] I J1 (nC I (Dg b.Height (-500) 5000 _ I) (A4 2 I (Bk 40 I e (Bo 2 [.o 1 0] I J1 (Hi I (Dg b.Limit 0 100000000 _ I) (A4 3 I (Bk 46 I g (A4 3 I (Bk 49 I n (A4 12 I (An ?_))))))))))))
 exact mF (lg ⟨false, h, I2⟩ [0])
 rintro s ob ⟨u, h, rfl, rfl⟩
 refine Aq h I ?_ ?_
 intro Z h
 refine Ai I ?_
 obtain rfl := R _ (oi h).symm
 have h := E
 have h := C2 h
 refine mM g0 ?_
 cases io h
 exact mL pr
 intro Z h
 refine mI (mE (Al 2 [.k 0 (j + 1 : Nat)] I ⟨Bf G N, J⟩ ?_))
 cases io h
 exact mF ⟨_, _, _, I, I2, J4, pk [0]⟩
 rintro F s ob ⟨rfl, rfl⟩ he
 subst he
 have h := Cz E
 have aa := Da a.Points.length
 exact Ai I (Aa fun al am => Ce I aa (mN (lg ⟨(), h, I2⟩ [0])))
 rintro s ob ⟨D, h, rfl, rfl⟩
 unfold Jh.J1 at h
 refine Ah (fun s ob => ∃ (y : Bool), Jh.J2 y = some r ∧ s = [(2, .v (.bool y))] ∧ ob = []) [] J ?_ ?_
 obtain ⟨A, ⟨ab, ac⟩, h⟩ := Bb h
 refine Bm (pd 21 0 []) [0] [_] I (Bo 7 [.o 1 0, .x 2 A.1 (Cn A.2)] I ⟨⟨ab, Ae ac⟩, I, J⟩ ?_)
 rcases bt ((A.2.At == 0)) with p | p
 have h := Bv p h
 obtain ⟨B, ⟨ad, ae⟩, h⟩ := Bb h
 exact Bk 69 I p (Bo 14 [.o 1 0, .o 3 0, .l 4 (a.Points.length : Int), .x 6 B.1 (Cn B.2), .o 10 0] I ⟨I, ⟨ad, Ae ae⟩, A0, I, I, J⟩ (An (mF (lg ⟨(B.2.At == a.Capacity), h, I2⟩ []))))
 have h := Bw p h
 exact Bk 69 I p (A4 14 I (An (mF (lg ⟨false, h, I2⟩ []))))
 rintro s ob ⟨y, h, rfl, rfl⟩
 unfold Jh.J2 at h
 cases io h
 exact mL pr
theorem Zw (a : Sg) (r : Bool) (h : Sv a = some r) : ACalls Ak 189 [.agg (Ap a)] [] (RB r) := by
 refine Ag Tryz.func189 I I I fun C hC => ?_
 refine mK (mE (mG [] I (Bz (Ap a) 7 fun d => Af 1 I (mF (mK ?_)))))
 obtain ⟨e, b, h⟩ := Ab h
 refine mE (Al 1 [.o 0 0] I J1 (mR (bJ _ _ b) (Af 2 I (mF (mM g0 ?_)))))
 cases io h
 exact mL pr
theorem Z1 (a : Port) (r : Bool) (h : Ja a = r) : ACalls Ak 192 [.agg (Bp a)] [] (RB r) := by
 refine Ag Tryz.func192 I I I fun C hC => ?_
 unfold Ja at h
 refine mK (mE (mG [] I (Bz (Bp a) 3 fun b => Af 1 I (mF (mK (mE (Al 2 [.o 1 0] I J1 (mR (Dg a.Pressure 0 100000000 _ I) (Af 2 I (mF (mM g0 ?_)))))))))))
 obtain rfl := h
 exact mL pr
theorem bD (a : Sn) (r : Bool) (h : Jf a = r) : ACalls Ak 195 [.agg (Bl a)] [] (RB r) := by
 refine Ag Tryz.func195 I I I fun C hC => ?_
 unfold Jf at h
 refine Aa fun f e => mE (mG [] I (Bz (Bl a) 5 fun g => Af 1 I (mF ?_)))
 subst e
 refine Ah (fun s ob => s = [(2, .v (.bool ((!(C7 a.Head 0 100000000)) || ((!(C7 a.Fall 0 100000)) || (!(C7 a.Suction 0 100000000))))))] ∧ ob = []) [] J ?_ ?_
 refine mE (Al 2 [.o 1 0] I J1 (mR (Dg a.Head 0 100000000 _ I) (Af 2 I ?_)))
 rcases bt ((!(C7 a.Head 0 100000000))) with b | b
 refine Ad 7 I b (Af 12 I (mF ?_))
 exact lf I2 ⟨(Fq (by simp only [b, bz])), J⟩ [] I
 refine Ad 7 I b (Al 2 [.o 1 0] I J1 (Bc I I I (mR (Dg a.Fall 0 100000 _ I) (Af 3 I ?_))))
 rcases bt ((!(C7 a.Fall 0 100000))) with d | d
 refine Ad 13 I d (Af 6 I (mF ?_))
 exact lf I2 ⟨(Fq (by simp only [b, d, bz])), J⟩ [] I
 refine Ad 13 I d (Al 2 [.o 1 0] I J1 (Bc I I I (mR (Dg a.Suction 0 100000000 _ I) (Af 3 I (mF ?_)))))
 exact lf I2 ⟨(Fq (by simp only [b, d, bz])), J⟩ [] I
 rintro s ob ⟨rfl, rfl⟩
 obtain rfl := h
 exact mL pr
theorem bI (a : Nw) (r : Bool) (h : Ta a = some r) : ACalls Ak 144 [.agg (Ac a)] [] (RB r) := by
 refine Ag Tryz.func144 I I I fun C hC => ?_
 refine Aa fun p d => mE (mG [] I (Bz (Ac a) 6 fun t => Af 1 I (mF ?_)))
 subst d
 refine Aa fun u e => mK ?_
 obtain ⟨w, f, h⟩ := Ab h
 refine mE (Al 2 [.o 1 0] I J1 (mR (Rv _ (.v (.func (.func 189) #[] #[])) I (fun x => Sv x) (fun x r h => Zw x r h) _ f) (mF (Aq h I ?_ ?_))))
 intro g h
 refine Ai I (mM g0 ?_)
 cases io h
 exact mL pr
 intro g h
 refine mI ?_
 subst e
 refine Aa fun y i => mK ?_
 obtain ⟨A, j, h⟩ := Ab h
 refine mE (Al 2 [.o 1 0] I J1 (mR (bH _ (.v (.func (.func 192) #[] #[])) I (fun x => some (Ja x)) (fun x r h => by obtain I := oi h; exact Z1 x _ I) _ j) (mF (Aq h I ?_ ?_))))
 intro k h
 refine Ai I (mM g0 ?_)
 cases io h
 exact mL pr
 intro k h
 refine mI ?_
 subst i
 refine mK (mK ?_)
 obtain ⟨B, l, h⟩ := Ab h
 refine mE (Al 2 [.o 1 0] I J1 (mR (Z7 _ (.v (.func (.func 195) #[] #[])) I (fun x => some (Jf x)) (fun x r h => by obtain I := oi h; exact bD x _ I) _ l) (mF (Aq h I ?_ ?_))))
 intro n h
 refine Ai I (mM g0 ?_)
 cases io h
 exact mL pr
 intro n h
 refine mI (Ah (fun s ob => s = [(2, .v (.bool ((C7 a.Vapour (-100000) 100000000) && (C7 a.Settle 0 100))))] ∧ ob = []) [] J ?_ ?_)
 refine mE (Al 2 [.o 1 0] I J1 (mR (Dg a.Vapour (-100000) 100000000 _ I) (Af 1 I ?_)))
 rcases bt ((C7 a.Vapour (-100000) 100000000)) with b | b
 refine Ad 15 I b (Al 2 [.o 1 0] I J1 (Bc I I I (mR (Dg a.Settle 0 100 _ I) (Af 2 I (mF ?_)))))
 exact lf I2 ⟨(Fq (by simp only [b, bz])), J⟩ [] I
 refine Ad 15 I b (Af 5 I (mF ?_))
 exact lf I2 ⟨(Fq (by simp only [b, bz])), J⟩ [] I
 rintro s ob ⟨rfl, rfl⟩
 cases io h
 exact mL pr
theorem aG (a : Bt) (r : Bool) (h : S3 a = some r) : ACalls Ak 140 [.v (.string a)] [] (RB r) := by
 refine Ag Tryz.func140 I I I fun C hC => ?_
 refine Ai I (mK ?_)
 obtain ⟨d, b, h⟩ := Ab h
 refine mE (Af 1 I (mR (bK _ _ b) (Af 2 I (mF ?_))))
 cases io h
 exact mL pr
theorem G4 (a : Nw) (r : Int) (h : Dw a = some r) : ACalls Ak 79 [.agg (Ac a)] [] (RV (.V r)) := by
 refine Ag Tryz.func79 I I I fun C hC => ?_
 refine Aa fun Y i => mE (mG [] I (Bz (Ac a) 6 fun d => Af 1 I (mF ?_)))
 subst i
 refine Aa fun Z j => mK ?_
 obtain ⟨r4, l, h⟩ := Ab h
 refine mE (Al 1 [.o 0 0] I J1 (mR (aO _ _ l) (Af 1 I (mF (Aq h I ?_ ?_)))))
 intro n h
 refine Ai I (mM g0 ?_)
 cases io h
 exact mL pr
 intro n h
 refine mI ?_
 subst j
 refine Ah (fun s ob => ∃ (e : Unit), Dw.J1 a e = some r ∧ s = [] ∧ ob = [O0 d [Ac a]]) [(1, _)] J1 ?_ ?_
 refine Aa fun ab t => ?_
 obtain ⟨ac, u, h⟩ := Ab h
 refine mE (Al 1 [.o 0 0] I J1 (mG [] I (Cb I I I (Sk _ _ u) dS ?_)))
 rintro _ _ ⟨rfl, rfl⟩
 refine Af 1 I (mF ?_)
 subst t
 refine mJ ?_
 have w : (4 : Nat) ≤ 9223372036854775806 := by decide
 obtain ⟨ad, y, f⟩ := Ab h
 refine Gf y (K2 1 9) J2 (fun (b : Nat) (g : Unit) s ob => s = [(10, .V (b : Int))] ∧ ob = [O0 d [Ac a]]) ⟨I, I⟩ ⟨I, J⟩ (pk [0]) ?_ ?_
 rintro b g ae s ob A ⟨rfl, rfl⟩ h B
 have D : decide ((b : Int) < 4) = true := decide_eq_true (by omega)
 refine Ai I (Aa fun af E => Cd I D (mI ?_))
 subst E
 refine mK (mJ (mK ?_))
 obtain ⟨F, ⟨G, H⟩, h⟩ := Bb h
 refine mE (B0 (Gv (m := F.1) I I I I I I I G H (hlen := Arr.h _)) I (Af 1 I (mF (mK ?_))))
 obtain ⟨ag, K, h⟩ := Ab h
 refine mE (Af 1 I (mR (aQ _ (.v (.func (.func 140) #[] #[])) I (fun x => S3 x) (fun x r h => aG x r h) _ K) (mF (Aq h I ?_ ?_))))
 intro M h
 refine Ai I ?_
 obtain rfl := B _ (oi h).symm
 have h := f
 have h := C2 h
 refine mM g0 ?_
 cases io h
 exact mL pr
 intro M h
 refine mI (mE (Al 2 [.k 0 (b + 1 : Nat)] I ⟨Bf A w, J⟩ ?_))
 cases io h
 exact mF ⟨_, _, _, I, I2, J3, pk [0]⟩
 rintro g s ob ⟨rfl, rfl⟩ he
 subst he
 have h := Cz f
 have N : decide (((4 : Nat) : Int) < 4) = false := by simp
 exact Ai I (Aa fun ah ai => Ce I N (mN (lg ⟨(), h, I2⟩ [0])))
 rintro s ob ⟨e, h, rfl, rfl⟩
 refine mK (mJ (Aa fun aj O => ?_))
 obtain ⟨ak, P, h⟩ := Ab h
 refine mE (Al 1 [.o 0 0] I J1 (mR (Zy _ _ P) (Af 1 I (mF ?_))))
 subst O
 refine Aq h I ?_ ?_
 intro Q h
 refine Ai I (mM g0 ?_)
 cases io h
 exact mL pr
 intro Q h
 refine Aa fun al R => ?_
 obtain ⟨am, S, h⟩ := Ab h
 refine mE (Al 1 [.o 0 0] I J1 (mR (bL _ _ S) (Af 2 I (mF ?_))))
 subst R
 refine Aq h I ?_ ?_
 intro U h
 refine Ai I (mM g0 ?_)
 cases io h
 exact mL pr
 intro U h
 refine mK ?_
 obtain ⟨an, W, h⟩ := Ab h
 refine mE (Al 1 [.o 0 0] I J1 (mR (bI _ _ W) (Af 2 I (mF (Aq h I ?_ ?_)))))
 intro X h
 refine Ai I (mM g0 ?_)
 cases io h
 exact mL pr
 intro X h
 refine mI (Ai I (mM g0 ?_))
 cases io h
 exact mL pr
theorem R0 (d : Nat) (a : flow_streams) (j : Int) (n : Int) (p : Int) (r : flow_streams) (h : Ll a j n p = some r) : ACalls Ak 209 [.P d, .V j, .V n, .V p] [O7 d [a.come.l.map cI ++ (a.leave.l.map cI ++ [])]] (Gm 1 fun x os new => x = .tup [] ∧ os = [O7 d [r.come.l.map cI ++ (r.leave.l.map cI ++ [])]] ∧ new = []) := by
 refine Ag Tryz.func209 I I I fun C hC => ?_
 unfold Ll at h
 refine Ah (fun s ob => ∃ (b : Int × Int × Int), Ll.J1 a b = some r ∧ s = [(1, .V b.1), (2, .V b.2.1), (3, .V b.2.2)] ∧ ob = [O7 d [a.come.l.map cI ++ (a.leave.l.map cI ++ [])]]) [(0, _)] J1 ?_ ?_
 refine Ai I (Aq h I ?_ ?_)
 intro A h
 exact We I (lg ⟨(n, j, wr (0 - p)), h, I2⟩ [0])
 intro A h
 exact mI (lg ⟨(j, n, p), h, I2⟩ [0])
 rintro s ob ⟨b, h, rfl, rfl⟩
 unfold Ll.J1 at h
 refine Ah (fun s ob => ∃ (f : Arr Int 24), Ll.J2 a b f = some r ∧ s = [] ∧ ob = [O7 d [a.come.l.map cI ++ (f.l.map cI ++ [])]]) (K3 0 2 3) J3 ?_ ?_
 refine Ai I (Aq h I ?_ ?_)
 intro B h
 obtain ⟨e, ⟨u, g⟩, h⟩ := Bb h
 exact Bm (sl 11 0 (.drop 11 .nil)) [0] [_] I (A4 4 I (mU I (He (m := e.1) I I I I I I u (Ld g)) I (AP.o I (Cc 0 0 (24 + e.1) I I I I (by omega) (y := .V e.2) (dV (k := 24) (by simp [Arr.h, Bj]) (Uk g))) I (A4 4 I (mU I (He (m := e.1) I I I I I I u (Ld g)) I (mW [0] I I I (mP 0 0 (24 + e.1) (es' := [a.come.l.map cI ++ ((a.leave.set e.1 (wr (e.2 + b.2.2))).l.map cI ++ [])]) I I I I (by omega) I I I (X0 (Ld g) (by simp [Arr.h, Bj])) I (congrArg (fun r => [r]) (Tu (k := 24) (by simp [Arr.h, Bj]) (Kq (Sq g)))) (An (mF (lg ⟨(a.leave.set e.1 (wr (e.2 + b.2.2))), h, I2⟩ [0]))))))))))
 intro B h
 exact mI (lg ⟨a.leave, h, I2⟩ [0])
 rintro s ob ⟨f, h, rfl, rfl⟩
 refine Ai I (Aq h I ?_ ?_)
 intro D h
 obtain ⟨c, ⟨w, i⟩, h⟩ := Bb h
 refine Bm (sl 11 0 (.drop 11 .nil)) [0] [_] I (A4 4 I (mU I (He (m := c.1) I I I I I I w (Ld i)) I (AP.o I (Cc 0 0 (0 + c.1) I I I I (by omega) (y := .V c.2) (by rw [Nat.zero_add]; exact Uk i)) I (A4 4 I (mU I (He (m := c.1) I I I I I I w (Ld i)) I (mW [0] I I I (mP 0 0 (0 + c.1) (es' := [(a.come.set c.1 (wr (c.2 + b.2.2))).l.map cI ++ (f.l.map cI ++ [])]) I I I I (by omega) I I I (X0 (Ld i) (by simp [Arr.h, Bj])) I (congrArg (fun r => [r]) (by rw [Nat.zero_add]; exact Kq (Sq i))) (An ?_))))))))
 cases io h
 exact mF ⟨.inl I, [], [O7 d [(a.come.set c.1 (wr (c.2 + b.2.2))).l.map cI ++ (f.l.map cI ++ [])]], J, Dj I (Cm), ⟨[O7 d [(a.come.set c.1 (wr (c.2 + b.2.2))).l.map cI ++ (f.l.map cI ++ [])]], [], I5⟩⟩
 intro D h
 cases io h
 refine mI ?_
 exact ⟨.inl I, [], [O7 d [a.come.l.map cI ++ (f.l.map cI ++ [])]], J, Dj I (Cm), ⟨[O7 d [a.come.l.map cI ++ (f.l.map cI ++ [])]], [], I5⟩⟩
theorem Zu (a : Nw) (c : Plan) (r : flow_streams) (h : Nu a c = some r) : ACalls Ak 167 [.agg (Ac a), .agg (Au c)] [] (RV (.agg (Bj r))) := by
 refine Ag Tryz.func167 I I I fun C hC => ?_
 unfold Nu at h
 refine Aa fun y1 G => mE (mG [] I (Bz (Ac a) 6 fun u => mG [] I (Bz (Au c) 3 fun t => mG [] I (Br ((Arr.rep 24 (0 : Int)).l.map cI ++ ((Arr.rep 24 (0 : Int)).l.map cI ++ [])) 48 fun i => mF ?_))))
 subst G
 refine Aa fun y5 H => mE (mG [] I (Br ((Arr.rep 24 (0 : Int)).l.map cI ++ ((Arr.rep 24 (0 : Int)).l.map cI ++ [])) 48 fun e => mF ?_))
 subst H
 refine Ah (fun s ob => ∃ (j : (Arr Int 24) × (Arr Int 24)), Nu.J1 a c j = some r ∧ s = [] ∧ ob = [O0 u [Ac a], O1 t [Au c], O7 i [(Arr.rep 24 (0 : Int)).l.map cI ++ ((Arr.rep 24 (0 : Int)).l.map cI ++ [])], O7 e [j.1.l.map cI ++ (j.2.l.map cI ++ [])]]) (K4 2 3 4 5) J4 ?_ ?_
 refine Bg [.o 1 0, .l 2 (a.Segments.length : Int)] I ⟨A0, I, J⟩ (mJ (Cj 11 I fun K => ?_))
 obtain ⟨ak, M, O⟩ := Ab h
 refine Dc M (K6 2 3 4 5 11 12) J6 (fun (n : Nat) (f : (Arr Int 24) × (Arr Int 24)) s ob => s = [(13, .V (n : Int))] ∧ ob = [O0 u [Ac a], O1 t [Au c], O7 i [(Arr.rep 24 (0 : Int)).l.map cI ++ ((Arr.rep 24 (0 : Int)).l.map cI ++ [])], O7 e [f.1.l.map cI ++ (f.2.l.map cI ++ [])]]) ⟨I, I⟩ ⟨I, J⟩ (pk N4) ?_ ?_
 rintro n w f al s ob P A ⟨rfl, rfl⟩ h
 have Q := C9 A
 refine Ai I (Aa fun am R => Cd I Q (mI ?_))
 subst R
 refine mK (mJ (mK (mE (Al 3 [.x 1 n (Ap w)] I ⟨⟨I, Ae P⟩, J⟩ (mG [] I (Br W3 7 fun an => Af 1 I (mG [4] I (Ba 4 0 0 [Ap w] I (mF ?_)))))))))
 obtain ⟨B, ⟨S, U⟩, h⟩ := Bb h
 obtain ⟨ao, W, h⟩ := Ab h
 refine Bm (pd 10 0 [9]) [4, 1] [_, _] I (Bo 9 [.o 1 0, .o 3 0, .o 5 1, .x 7 B.1 (rI B.2)] I ⟨⟨S, Ae U⟩, I, I, I, J⟩ (mH [3] I I I (Az [3] (R0 e _ _ _ _ _ W) ?_)))
 refine An (mF (mE (Al 2 [.k 0 (n + 1 : Nat)] I ⟨Bf A K, J⟩ ?_)))
 cases io h
 exact mF (lg I2 N4)
 rintro f s ob ⟨rfl, rfl⟩ he
 subst he
 have h := O
 have X := Da a.Segments.length
 exact Ai I (Aa fun ap aq => Ce I X (mN (lg ⟨(f.1, f.2), h, I2⟩ N4)))
 rintro s ob ⟨j, h, rfl, rfl⟩
 unfold Nu.J1 at h
 refine Ah (fun s ob => ∃ (b : (Arr Int 24) × (Arr Int 24)), Nu.J2 b = some r ∧ s = [] ∧ ob = [O7 i [(Arr.rep 24 (0 : Int)).l.map cI ++ ((Arr.rep 24 (0 : Int)).l.map cI ++ [])], O7 e [b.1.l.map cI ++ (b.2.l.map cI ++ [])]]) (K2 4 5) J2 ?_ ?_
 refine Bg [.o 1 0, .l 2 (a.Ports.length : Int)] I ⟨A0, I, J⟩ (mJ (Cj 30 I fun Y => ?_))
 obtain ⟨ar, Z, aa⟩ := Ab h
 refine Dc Z (K5 3 4 5 30 31) J5 (fun (p : Nat) (g : (Arr Int 24) × (Arr Int 24)) s ob => s = [(32, .V (p : Int))] ∧ ob = [O1 t [Au c], O7 i [(Arr.rep 24 (0 : Int)).l.map cI ++ ((Arr.rep 24 (0 : Int)).l.map cI ++ [])], O7 e [g.1.l.map cI ++ (g.2.l.map cI ++ [])]]) ⟨I, I⟩ ⟨I, J⟩ (pk [1, 2, 3]) ?_ ?_
 rintro p D g au s ob ab E ⟨rfl, rfl⟩ h
 have ac := C9 E
 refine Ai I (Aa fun av ad => Cd I ac (mI ?_))
 subst ad
 refine mK (mJ (mK (mE (Al 3 [.x 1 p (Bp D)] I ⟨⟨I, Ae ab⟩, J⟩ (mG [] I (Br W5 3 fun aw => Af 1 I (mG [3] I (Ba 3 0 0 [Bp D] I (mF ?_)))))))))
 obtain ⟨F, ⟨ae, af⟩, h⟩ := Bb h
 obtain ⟨ax, ag, h⟩ := Ab h
 refine Bm (pd 8 0 [7]) [3, 0] [_, _] I (Bo 7 [.o 1 0, .o 3 1, .x 5 F.1 (rI F.2)] I ⟨⟨ae, Ae af⟩, I, I, J⟩ (mH [2] I I I (Az [2] (R0 e _ _ _ _ _ ag) ?_)))
 refine An (mF (mE (Al 2 [.k 0 (p + 1 : Nat)] I ⟨Bf E Y, J⟩ ?_)))
 cases io h
 exact mF (lg I2 N3)
 rintro g s ob ⟨rfl, rfl⟩ he
 subst he
 have h := aa
 have ah := Da a.Ports.length
 exact Ai I (Aa fun ay az => Ce I ah (mN (lg ⟨(g.1, g.2), h, I2⟩ [1, 2])))
 rintro s ob ⟨b, h, rfl, rfl⟩
 unfold Nu.J2 at h
 refine mK (mE (mQ (Cc 1 0 0 I I I I I (y := .agg (b.1.l.map cI ++ (b.2.l.map cI ++ []))) (Kf I (by simp [Arr.h, Bj]))) I (mG [0] I (mP 0 0 0 (es' := [b.1.l.map cI ++ (b.2.l.map cI ++ [])]) I I I I I I I (by simp [Arr.h, Bj]) (by simp [Arr.h, Bj]) I (congrArg (fun r => [r]) (Kb (by simp [Arr.h, Bj]))) (mF (Dd [0] I ?_))))))
 cases io h
 exact mL ⟨.inr I, [_], [], ⟨⟨0, _, _, _, _, _, _, _, I, I, I, I, (Kf I (by simp [Arr.h, Bj]))⟩, J⟩, Cm, I2⟩
theorem bC (a : Int) (r : Bool) (h : L1 a = r) : ACalls Ak 166 [.V a] [] (RB r) := by
 refine Ag Tryz.func166 I I I fun C hC => ?_
 unfold L1 at h
 refine Ai I (mK (mE (Af 1 I (mR (R8 a 1000 _ I) (Af 2 I (mF ?_))))))
 obtain rfl := h
 exact mL pr
theorem Sa (e : Nw) (f : Plan) (r : Int) (h : Ga e f = some r) : ACalls Ak 107 [.agg (Ac e), .agg (Au f)] [] (RV (.V r)) := by
 refine Ag Tryz.func107 I I I fun C hC => ?_
 refine Aa fun y1 G => mE (mG [] I (Bz (Ac e) 6 fun w => mG [] I (Bz (Au f) 3 fun A => Af 1 I (mF ?_))))
 subst G
 refine Aa fun y4 H => mK ?_
 obtain ⟨r5, K, h⟩ := Ab h
 refine mE (Al 1 [.o 0 0] I J1 (mR (G4 _ _ K) (Af 1 I (mF (Ai I (Aq h I ?_ ?_))))))
 intro M h
 refine Ai I (mM g0 ?_)
 cases io h
 exact mL pr
 intro M h
 refine mI ?_
 subst H
 refine Aa fun y8 O => Ec 38 (((f.Rates.length : Int) != (e.Segments.length : Int)) || (((f.Ports.length : Int) != (e.Ports.length : Int)) || ((f.Pumps.length : Int) != (e.Stations.length : Int)))) ?_ ?_
 refine mE (Al 8 [.o 1 1, .l 2 (f.Rates.length : Int), .o 4 0, .l 5 (e.Segments.length : Int)] I ⟨A0, I, A0, I, J⟩ ?_)
 rcases bt (((f.Rates.length : Int) != (e.Segments.length : Int))) with g | g
 exact Ad 21 I g (Af 17 I (mF (jf (by simp only [g, bz]) I I I2)))
 refine Ad 21 I g (Al 9 [.o 1 1, .l 2 (f.Ports.length : Int), .o 4 0, .l 5 (e.Ports.length : Int)] I ⟨A0, I, A0, I, J⟩ ?_)
 rcases bt (((f.Ports.length : Int) != (e.Ports.length : Int))) with j | j
 exact Ad 30 I j (Af 8 I (mF (jf (by simp only [g, j, bz]) I I I2)))
 exact Ad 30 I j (Al 8 [.o 1 1, .l 2 (f.Pumps.length : Int), .o 4 0, .l 5 (e.Stations.length : Int)] I ⟨A0, I, A0, I, J⟩ (mF (jf (by simp only [g, j, bz]) I I I2)))
 refine Aq h I ?_ ?_
 intro P h
 refine Ai I (mM g0 ?_)
 cases io h
 exact mL pr
 intro P h
 refine mI ?_
 subst O
 refine Ah (fun s ob => ∃ (B : Unit), Ga.J1 e f B = some r ∧ s = [] ∧ ob = [O0 w [Ac e], O1 A [Au f]]) (K2 2 3) J2 ?_ ?_
 refine Bg [.o 1 0, .l 2 (e.Segments.length : Int)] I ⟨A0, I, J⟩ (mJ (Cj 40 I fun Q => ?_))
 obtain ⟨ap, R, D⟩ := Ab h
 refine Cg R (K4 2 3 40 41) J4 (fun (n : Nat) (E : Unit) s ob => s = [(42, .V (n : Int))] ∧ ob = [O0 w [Ac e], O1 A [Au f]]) ⟨I, I⟩ ⟨I, J⟩ (pk [0, 1]) ?_ ?_
 rintro n t E aq s ob S F ⟨rfl, rfl⟩ h U
 have W := C9 F
 refine Ai I (Aa fun ar X => Cd I W (mI ?_))
 subst X
 refine mK (mJ (Aa fun au Y => mE (Al 3 [.x 1 n (Ap t)] I ⟨⟨I, Ae S⟩, J⟩ (mG [] I (Br W3 7 fun av => Af 1 I (mG [2] I (Ba 2 0 0 [Ap t] I (mF ?_))))))))
 subst Y
 refine mK ?_
 obtain ⟨u, ⟨Z, aa⟩, h⟩ := Bb h
 refine Bm (pd 10 0 [8]) [1, 2] [_, _] I (Bo 8 [.o 1 0, .x 3 u.1 (rI u.2), .o 6 1] I ⟨I, ⟨Z, Ae aa⟩, I, J⟩ (nC I (R8 u.2 (min 1000 t.Capacity) _ I) (A4 1 I (An (mF (Aq h I ?_ ?_))))))
 intro ab h
 refine Ai I ?_
 obtain rfl := U _ (oi h).symm
 have h := D
 have h := C2 h
 refine mM g0 ?_
 cases io h
 exact mL pr
 intro ab h
 refine mI (mE (Al 2 [.k 0 (n + 1 : Nat)] I ⟨Bf F Q, J⟩ ?_))
 cases io h
 exact mF ⟨_, _, _, I, I2, J5, pk [0, 1]⟩
 rintro E s ob ⟨rfl, rfl⟩ he
 subst he
 have h := Cz D
 have ac := Da e.Segments.length
 exact Ai I (Aa fun aw ax => Ce I ac (mN (lg ⟨(), h, I2⟩ [0, 1])))
 rintro s ob ⟨B, h, rfl, rfl⟩
 refine Aa fun ay ad => mK ?_
 obtain ⟨az, ae, h⟩ := Ab h
 refine mE (Al 2 [.o 1 1] I J1 (mR (Ry _ (.v (.func (.func 166) #[] #[])) I (fun x => some (L1 x)) (fun x r h => by obtain I := oi h; exact bC x _ I) _ ae) (mF (Aq h I ?_ ?_))))
 intro af h
 refine Ai I (mM g0 ?_)
 cases io h
 exact mL pr
 intro af h
 refine mI ?_
 subst ad
 refine Aa fun a0 ag => mK ?_
 obtain ⟨i, ah, h⟩ := Ab h
 refine mE (Al 2 [.o 0 0, .o 1 1] I J2 (mG [] I (Cb I I I (Zu _ _ _ ah) dS ?_)))
 rintro _ _ ⟨rfl, rfl⟩
 refine mG [] I (Br ((Arr.rep 24 (0 : Int)).l.map cI ++ ((Arr.rep 24 (0 : Int)).l.map cI ++ [])) 48 fun a1 => mG [2] I (mP 2 0 0 (es' := [i.come.l.map cI ++ (i.leave.l.map cI ++ [])]) I I I I I I I (by simp [Arr.h, Bj]) (by simp [Arr.h, Bj]) I (congrArg (fun r => [r]) (Kb (by simp [Arr.h, Bj]))) (mF (mK (mE (Af 1 I (mQ (Cc 2 0 0 I I I I I (y := .agg (i.come.l.map cI)) (Rb I (by simp [Arr.h, Bj]))) I (Af 1 I (mQ (Cc 2 0 24 I I I I I (y := .agg (i.leave.l.map cI)) (Yv (k := 24) I I (by simp [Arr.h, Bj]) (Rb I (by simp [Arr.h, Bj])))) I (B0 (eV (a := i.come) (b := i.leave) I I I I I Xg I I I) I (mF (Aq h I ?_ ?_))))))))))))
 intro ai h
 refine Ai I (mM g0 ?_)
 cases io h
 exact mL pr
 intro ai h
 refine mI ?_
 subst ag
 refine mK (mK ?_)
 obtain ⟨a2, aj, h⟩ := Ab h
 refine Bm (.still 0 (.still 1 (sl 3 4 (.act 2 (.act 3 (.still 7 .nil)))))) [0, 1] [_, _] I (Bo 5 [.o 0 0, .o 1 1, .o 3 0, .l 4 (e.Nodes.length : Int)] I ⟨A0, I, I, I, J⟩ (mH [] I I I (Cb I I I (aA _ _ _ aj) dS ?_)))
 rintro _ _ ⟨a3, rfl, rfl⟩
 refine mH [] I I I (Av (Cf 3 I I I I) dS (A4 1 I (An (mF (Aq h I ?_ ?_)))))
 intro ak h
 refine Ai I (mM g0 ?_)
 cases io h
 exact mL pr
 intro ak h
 refine mI (Ai I (mM g0 ?_))
 cases io h
 exact mL pr
end Go.Proofs.YtihdchjpepkpbaaGreat
