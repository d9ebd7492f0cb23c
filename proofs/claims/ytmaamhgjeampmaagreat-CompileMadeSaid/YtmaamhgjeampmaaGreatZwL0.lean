/- Walks that show what functions of the program compute; printed by a program of ours. No condition. -/
import Derived.Test.YtmaamhgjeampmaaGreatZwD
import Derived.Test.YtmaamhgjeampmaaGreatZwB3
set_option maxRecDepth 100000
namespace Go.Proofs.YtmaamhgjeampmaaGreat
open Go.Aw
set_option linter.unusedVariables false
set_option linter.unusedSimpArgs false
set_option maxHeartbeats 4000000
theorem gH (a : Sg) (b : Int) (r : Int × Int) (h : C4 a b = r) : ACalls Ai 154 [.agg (Ap a), .V b] [] (RV (.tup [.V r.1, .V r.2])) := by
 refine Ag Tryz.func154 I I I fun C hC => ?_
 refine Aa fun e c => vH (vJ [] I (Bh (Ap a) 7 fun f => Af 2 I (vI ?_)))
 subst c
 refine vM (Aj I (Ao h I ?_ ?_))
 intro d h
 refine Qw (pd 6 0 []) [0] [_] [.o 1 0, .o 3 0] I I J2 (vP g0 ?_)
 obtain rfl := h
 exact vO ⟨.inr I, [_, _], [], J2, Cf, I2⟩
 intro d h
 refine vL (Qw (pd 6 0 []) [0] [_] [.o 1 0, .o 3 0] I I J2 (vP g0 ?_))
 obtain rfl := h
 exact vO ⟨.inr I, [_, _], [], J2, Cf, I2⟩
theorem Vx (a : Int) (b : Int) (r : Bool) (h : Of a b = r) : ACalls Ai 128 [.V a, .V b] [] (RB r) := by
 refine Ag Tryz.func128 I I I fun C hC => ?_
 unfold Of at h
 refine Aj I (Ah (fun s ob => s = [(4, .v (.bool (decide (a ≥ (wr (0 - b))) && decide (a ≤ b))))] ∧ ob = []) [] J ?_ ?_)
 refine vH (Af 5 I ?_)
 rcases bt (decide (a ≥ (wr (0 - b)))) with c | c
 refine Ad 9 I c (Af 5 I (vI ?_))
 exact lf I2 ⟨(D1 (by simp only [c, bz])), J⟩ [] I
 refine Ad 9 I c (Af 5 I (vI ?_))
 exact lf I2 ⟨(D1 (by simp only [c, bz])), J⟩ [] I
 rintro s ob ⟨rfl, rfl⟩
 obtain rfl := h
 exact vO pr
theorem Wk (e : Int) (b : Int) (r : Int) (h : Sf e b = some r) : ACalls Ai 74 [.V e, .V b] [] (RV (.V r)) := by
 refine Ag Tryz.func74 I I I fun C hC => ?_
 refine Aj I (Aa fun m g => Aj I (Ao h I ?_ ?_))
 intro i h
 refine Aj I ?_
 cases io h
 exact vO pr
 intro i h
 refine vL ?_
 subst g
 refine Aa fun n j => ?_
 obtain ⟨a, k, h⟩ := Ac h
 refine Hm [.f 2 (.V a)] I ⟨wB (Km (c := a) I I (lZ k)), J⟩ ?_
 subst j
 refine Ah (fun s ob => ∃ (d : Int), Sf.J1 d = some r ∧ s = [(0, .V d)] ∧ ob = []) [] J ?_ ?_
 refine Aj I (Ao h I ?_ ?_)
 intro l h
 exact Yl I (lg ⟨wr (a + b), h, I2⟩ [])
 intro l h
 exact vL (lg ⟨a, h, I2⟩ [])
 rintro s ob ⟨d, h, rfl, rfl⟩
 unfold Sf.J1 at h
 refine Aj I ?_
 cases io h
 exact vO pr
theorem Du (a : Int) (c : Int) (d : Int) (r : Bool) (h : Dp a c d = r) : ACalls Ai 167 [.V a, .V c, .V d] [] (RB r) := by
 refine Ag Tryz.func167 I I I fun C hC => ?_
 unfold Dp at h
 refine Aj I (Ah (fun s ob => s = [(6, .v (.bool (decide (a ≥ c) && decide (a ≤ d))))] ∧ ob = []) [] J ?_ ?_)
 refine vH (Af 4 I ?_)
 rcases bt (decide (a ≥ c)) with b | b
 refine Ad 10 I b (Af 5 I (vI ?_))
 exact lf I2 ⟨(D1 (by simp only [b, bz])), J⟩ [] I
 refine Ad 10 I b (Af 5 I (vI ?_))
 exact lf I2 ⟨(D1 (by simp only [b, bz])), J⟩ [] I
 rintro s ob ⟨rfl, rfl⟩
 obtain rfl := h
 exact vO pr
theorem Vs (a : Int) (r : Int) (h : Jl a = r) : ACalls Ai 117 [.V a] [] (RV (.V r)) := by
 refine Ag Tryz.func117 I I I fun C hC => ?_
 unfold Jl at h
 refine Aj I (Aj I ?_)
 obtain rfl := h
 exact vO pr
theorem gN (a : List Bt) (d : Bt) (r : Int) (h : Rm a d = some r) : ACalls Ai 159 [Q1 a, .v (.string d)] [] (RV (.V r)) := by
 refine Ag Tryz.func159 I I I fun C hC => ?_
 unfold Rm at h
 refine Aj I (Ah (fun s ob => ∃ (e : Unit), Rm.J1 e = some r ∧ s = [] ∧ ob = []) [] J ?_ ?_)
 refine Bl [.l 1 (a.length : Int)] I ⟨A8, J⟩ (vN (Cu 6 I fun m => ?_))
 obtain ⟨A, n, f⟩ := Ac h
 refine Cv n (K3 0 1 7) J3 (fun (b : Nat) (g : Unit) s ob => s = [(8, .V (b : Int))] ∧ ob = []) ⟨I, I⟩ ⟨I, J⟩ (pk []) ?_ ?_
 rintro b i g B s ob o j ⟨rfl, rfl⟩ h q
 have t := Df j
 refine Aj I (Aa fun D u => Cl I t (vL ?_))
 subst u
 refine vM (vN (Aj I (vM (vH (Al 5 [.x 3 b (rS i)] I ⟨⟨I, Ae o⟩, J⟩ (Ch (Yp.cmpS (c := Yf d i) I I I) I (vI (Ao h I ?_ ?_))))))))
 intro w h
 refine Aj I ?_
 obtain rfl := q _ (oi h).symm
 have h := f
 have h := Do h
 cases io h
 exact vO pr
 intro w h
 refine vL (vH (Al 2 [.k 0 (b + 1 : Nat)] I ⟨Bj j m, J⟩ ?_))
 cases io h
 exact vI ⟨_, _, _, I, I2, J4, pk []⟩
 rintro g s ob ⟨rfl, rfl⟩ he
 subst he
 have h := Dn f
 have y := Dg a.length
 exact Aj I (Aa fun E F => Cm I y (vQ (lg ⟨(), h, I2⟩ [])))
 rintro s ob ⟨e, h, rfl, rfl⟩
 unfold Rm.J1 at h
 refine Aj I ?_
 cases io h
 exact vO pr
theorem jH (a : Li) (F1 : T) {c : FuncId} {d e : List T} (o : Nl F1 = some (c, d, e)) (f : Int → Option Bool) (p : ∀ (g : Int) r, f g = some r → ACalls Ai c (d ++ [.V g] ++ e) [] (RB r)) (r : Int) (h : Sk a f = some r) : ACalls Ai 152 [Q0 a, F1] [] (RV (.V r)) := by
 refine Ag Tryz.func152 I I I fun C hC => ?_
 unfold Sk at h
 refine Aj I (Ah (fun s ob => ∃ (i : Unit), Sk.J1 i = some r ∧ s = [] ∧ ob = []) [] J ?_ ?_)
 refine Bl [.l 1 (a.length : Int)] I ⟨A8, J⟩ (vN (Cu 6 I fun q => ?_))
 obtain ⟨G, t, j⟩ := Ac h
 refine Cv t (K3 0 1 7) J3 (fun (b : Nat) (m : Unit) s ob => s = [(8, .V (b : Int))] ∧ ob = []) ⟨I, I⟩ ⟨I, J⟩ (pk []) ?_ ?_
 rintro b u m H s ob w n ⟨rfl, rfl⟩ h y
 have A := Df n
 refine Aj I (Aa fun K B => Cl I A (vL ?_))
 subst B
 refine vM (vN (Aj I (vM ?_)))
 obtain ⟨M, D, h⟩ := Ac h
 refine vH (Al 5 [.x 3 b (rI u)] I ⟨⟨I, Ae w⟩, J⟩ (vJ [] I (Cw I (.refl _) o I (.rest _) I (p _ _ D) dS (by rintro _ _ ⟨rfl, _⟩; rfl) ?_)))
 rintro _ ⟨_, rfl, -⟩
 refine vI (Ao h I ?_ ?_)
 intro E h
 refine Aj I ?_
 obtain rfl := y _ (oi h).symm
 have h := j
 have h := Do h
 cases io h
 exact vO pr
 intro E h
 refine vL (vH (Al 2 [.k 0 (b + 1 : Nat)] I ⟨Bj n q, J⟩ ?_))
 cases io h
 exact vI ⟨_, _, _, I, I2, J4, pk []⟩
 rintro m s ob ⟨rfl, rfl⟩ he
 subst he
 have h := Dn j
 have F := Dg a.length
 exact Aj I (Aa fun N O => Cm I F (vQ (lg ⟨(), h, I2⟩ [])))
 rintro s ob ⟨i, h, rfl, rfl⟩
 unfold Sk.J1 at h
 refine Aj I ?_
 cases io h
 exact vO pr
theorem Vn (b : Li) (F1 : T) {d : FuncId} {e f : List T} (i : Nl F1 = some (d, e, f)) (a : Int → Option Bool) (j : ∀ (g : Int) r, a g = some r → ACalls Ai d (e ++ [.V g] ++ f) [] (RB r)) (r : Bool) (h : Nz b a = some r) : ACalls Ai 129 [Q0 b, F1] [] (RB r) := by
 refine Ag Tryz.func129 I I I fun C hC => ?_
 refine Aj I (vM ?_)
 obtain ⟨l, k, h⟩ := Ac h
 refine vH (Af 2 I (vU (jH _ F1 i a j _ k) (Af 2 I (vI ?_))))
 cases io h
 exact vO pr
theorem gS (a : List Bt) (F1 : T) {c : FuncId} {d e : List T} (o : Nl F1 = some (c, d, e)) (f : Bt → Option Bool) (p : ∀ (g : Bt) r, f g = some r → ACalls Ai c (d ++ [.v (.string g)] ++ e) [] (RB r)) (r : Int) (h : Ro a f = some r) : ACalls Ai 157 [Q1 a, F1] [] (RV (.V r)) := by
 refine Ag Tryz.func157 I I I fun C hC => ?_
 unfold Ro at h
 refine Aj I (Ah (fun s ob => ∃ (i : Unit), Ro.J1 i = some r ∧ s = [] ∧ ob = []) [] J ?_ ?_)
 refine Bl [.l 1 (a.length : Int)] I ⟨A8, J⟩ (vN (Cu 6 I fun q => ?_))
 obtain ⟨G, t, j⟩ := Ac h
 refine Cv t (K3 0 1 7) J3 (fun (b : Nat) (m : Unit) s ob => s = [(8, .V (b : Int))] ∧ ob = []) ⟨I, I⟩ ⟨I, J⟩ (pk []) ?_ ?_
 rintro b u m H s ob w n ⟨rfl, rfl⟩ h y
 have A := Df n
 refine Aj I (Aa fun K B => Cl I A (vL ?_))
 subst B
 refine vM (vN (Aj I (vM ?_)))
 obtain ⟨M, D, h⟩ := Ac h
 refine vH (Al 5 [.x 3 b (rS u)] I ⟨⟨I, Ae w⟩, J⟩ (vJ [] I (Cw I (.refl _) o I (.rest _) I (p _ _ D) dS (by rintro _ _ ⟨rfl, _⟩; rfl) ?_)))
 rintro _ ⟨_, rfl, -⟩
 refine vI (Ao h I ?_ ?_)
 intro E h
 refine Aj I ?_
 obtain rfl := y _ (oi h).symm
 have h := j
 have h := Do h
 cases io h
 exact vO pr
 intro E h
 refine vL (vH (Al 2 [.k 0 (b + 1 : Nat)] I ⟨Bj n q, J⟩ ?_))
 cases io h
 exact vI ⟨_, _, _, I, I2, J4, pk []⟩
 rintro m s ob ⟨rfl, rfl⟩ he
 subst he
 have h := Dn j
 have F := Dg a.length
 exact Aj I (Aa fun N O => Cm I F (vQ (lg ⟨(), h, I2⟩ [])))
 rintro s ob ⟨i, h, rfl, rfl⟩
 unfold Ro.J1 at h
 refine Aj I ?_
 cases io h
 exact vO pr
theorem hT (b : List Bt) (F1 : T) {d : FuncId} {e f : List T} (i : Nl F1 = some (d, e, f)) (a : Bt → Option Bool) (j : ∀ (g : Bt) r, a g = some r → ACalls Ai d (e ++ [.v (.string g)] ++ f) [] (RB r)) (r : Bool) (h : Rx b a = some r) : ACalls Ai 135 [Q1 b, F1] [] (RB r) := by
 refine Ag Tryz.func135 I I I fun C hC => ?_
 refine Aj I (vM ?_)
 obtain ⟨l, k, h⟩ := Ac h
 refine vH (Af 2 I (vU (gS _ F1 i a j _ k) (Af 2 I (vI ?_))))
 cases io h
 exact vO pr
theorem jC (a : List Sg) (F1 : T) {c : FuncId} {d e : List T} (o : Nl F1 = some (c, d, e)) (f : Sg → Option Bool) (p : ∀ (g : Sg) r, f g = some r → ACalls Ai c (d ++ [.agg (Ap g)] ++ e) [] (RB r)) (r : Int) (h : Sd a f = some r) : ACalls Ai 171 [Q5 a, F1] [] (RV (.V r)) := by
 refine Ag Tryz.func171 I I I fun C hC => ?_
 unfold Sd at h
 refine Aj I (Ah (fun s ob => ∃ (i : Unit), Sd.J1 i = some r ∧ s = [] ∧ ob = []) [] J ?_ ?_)
 refine Bl [.l 1 (a.length : Int)] I ⟨A8, J⟩ (vN (Cu 6 I fun q => ?_))
 obtain ⟨G, t, j⟩ := Ac h
 refine Cv t (K3 0 1 7) J3 (fun (b : Nat) (m : Unit) s ob => s = [(8, .V (b : Int))] ∧ ob = []) ⟨I, I⟩ ⟨I, J⟩ (pk []) ?_ ?_
 rintro b u m H s ob w n ⟨rfl, rfl⟩ h y
 have A := Df n
 refine Aj I (Aa fun K B => Cl I A (vL ?_))
 subst B
 refine vM (vN (Aj I (vM ?_)))
 obtain ⟨M, D, h⟩ := Ac h
 refine vH (Al 5 [.x 3 b (Ap u)] I ⟨⟨I, Ae w⟩, J⟩ (vJ [] I (Cw I (.refl _) o I (.rest _) I (p _ _ D) dS (by rintro _ _ ⟨rfl, _⟩; rfl) ?_)))
 rintro _ ⟨_, rfl, -⟩
 refine vI (Ao h I ?_ ?_)
 intro E h
 refine Aj I ?_
 obtain rfl := y _ (oi h).symm
 have h := j
 have h := Do h
 cases io h
 exact vO pr
 intro E h
 refine vL (vH (Al 2 [.k 0 (b + 1 : Nat)] I ⟨Bj n q, J⟩ ?_))
 cases io h
 exact vI ⟨_, _, _, I, I2, J4, pk []⟩
 rintro m s ob ⟨rfl, rfl⟩ he
 subst he
 have h := Dn j
 have F := Dg a.length
 exact Aj I (Aa fun N O => Cm I F (vQ (lg ⟨(), h, I2⟩ [])))
 rintro s ob ⟨i, h, rfl, rfl⟩
 unfold Sd.J1 at h
 refine Aj I ?_
 cases io h
 exact vO pr
theorem Vk (b : List Sg) (F1 : T) {d : FuncId} {e f : List T} (i : Nl F1 = some (d, e, f)) (a : Sg → Option Bool) (j : ∀ (g : Sg) r, a g = some r → ACalls Ai d (e ++ [.agg (Ap g)] ++ f) [] (RB r)) (r : Bool) (h : Nv b a = some r) : ACalls Ai 155 [Q5 b, F1] [] (RB r) := by
 refine Ag Tryz.func155 I I I fun C hC => ?_
 refine Aj I (vM ?_)
 obtain ⟨l, k, h⟩ := Ac h
 refine vH (Af 2 I (vU (jC _ F1 i a j _ k) (Af 2 I (vI ?_))))
 cases io h
 exact vO pr
theorem hE (a : List Port) (F1 : T) {c : FuncId} {d e : List T} (o : Nl F1 = some (c, d, e)) (f : Port → Option Bool) (p : ∀ (g : Port) r, f g = some r → ACalls Ai c (d ++ [.agg (Cc g)] ++ e) [] (RB r)) (r : Int) (h : Ru a f = some r) : ACalls Ai 172 [Q4 a, F1] [] (RV (.V r)) := by
 refine Ag Tryz.func172 I I I fun C hC => ?_
 unfold Ru at h
 refine Aj I (Ah (fun s ob => ∃ (i : Unit), Ru.J1 i = some r ∧ s = [] ∧ ob = []) [] J ?_ ?_)
 refine Bl [.l 1 (a.length : Int)] I ⟨A8, J⟩ (vN (Cu 6 I fun q => ?_))
 obtain ⟨G, t, j⟩ := Ac h
 refine Cv t (K3 0 1 7) J3 (fun (b : Nat) (m : Unit) s ob => s = [(8, .V (b : Int))] ∧ ob = []) ⟨I, I⟩ ⟨I, J⟩ (pk []) ?_ ?_
 rintro b u m H s ob w n ⟨rfl, rfl⟩ h y
 have A := Df n
 refine Aj I (Aa fun K B => Cl I A (vL ?_))
 subst B
 refine vM (vN (Aj I (vM ?_)))
 obtain ⟨M, D, h⟩ := Ac h
 refine vH (Al 5 [.x 3 b (Cc u)] I ⟨⟨I, Ae w⟩, J⟩ (vJ [] I (Cw I (.refl _) o I (.rest _) I (p _ _ D) dS (by rintro _ _ ⟨rfl, _⟩; rfl) ?_)))
 rintro _ ⟨_, rfl, -⟩
 refine vI (Ao h I ?_ ?_)
 intro E h
 refine Aj I ?_
 obtain rfl := y _ (oi h).symm
 have h := j
 have h := Do h
 cases io h
 exact vO pr
 intro E h
 refine vL (vH (Al 2 [.k 0 (b + 1 : Nat)] I ⟨Bj n q, J⟩ ?_))
 cases io h
 exact vI ⟨_, _, _, I, I2, J4, pk []⟩
 rintro m s ob ⟨rfl, rfl⟩ he
 subst he
 have h := Dn j
 have F := Dg a.length
 exact Aj I (Aa fun N O => Cm I F (vQ (lg ⟨(), h, I2⟩ [])))
 rintro s ob ⟨i, h, rfl, rfl⟩
 unfold Ru.J1 at h
 refine Aj I ?_
 cases io h
 exact vO pr
theorem iU (b : List Port) (F1 : T) {d : FuncId} {e f : List T} (i : Nl F1 = some (d, e, f)) (a : Port → Option Bool) (j : ∀ (g : Port) r, a g = some r → ACalls Ai d (e ++ [.agg (Cc g)] ++ f) [] (RB r)) (r : Bool) (h : R7 b a = some r) : ACalls Ai 165 [Q4 b, F1] [] (RB r) := by
 refine Ag Tryz.func165 I I I fun C hC => ?_
 refine Aj I (vM ?_)
 obtain ⟨l, k, h⟩ := Ac h
 refine vH (Af 2 I (vU (hE _ F1 i a j _ k) (Af 2 I (vI ?_))))
 cases io h
 exact vO pr
theorem Vg (a : List Sn) (F1 : T) {c : FuncId} {d e : List T} (o : Nl F1 = some (c, d, e)) (f : Sn → Option Bool) (p : ∀ (g : Sn) r, f g = some r → ACalls Ai c (d ++ [.agg (Bn g)] ++ e) [] (RB r)) (r : Int) (h : Nt a f = some r) : ACalls Ai 160 [Q3 a, F1] [] (RV (.V r)) := by
 refine Ag Tryz.func160 I I I fun C hC => ?_
 unfold Nt at h
 refine Aj I (Ah (fun s ob => ∃ (i : Unit), Nt.J1 i = some r ∧ s = [] ∧ ob = []) [] J ?_ ?_)
 refine Bl [.l 1 (a.length : Int)] I ⟨A8, J⟩ (vN (Cu 6 I fun q => ?_))
 obtain ⟨G, t, j⟩ := Ac h
 refine Cv t (K3 0 1 7) J3 (fun (b : Nat) (m : Unit) s ob => s = [(8, .V (b : Int))] ∧ ob = []) ⟨I, I⟩ ⟨I, J⟩ (pk []) ?_ ?_
 rintro b u m H s ob w n ⟨rfl, rfl⟩ h y
 have A := Df n
 refine Aj I (Aa fun K B => Cl I A (vL ?_))
 subst B
 refine vM (vN (Aj I (vM ?_)))
 obtain ⟨M, D, h⟩ := Ac h
 refine vH (Al 5 [.x 3 b (Bn u)] I ⟨⟨I, Ae w⟩, J⟩ (vJ [] I (Cw I (.refl _) o I (.rest _) I (p _ _ D) dS (by rintro _ _ ⟨rfl, _⟩; rfl) ?_)))
 rintro _ ⟨_, rfl, -⟩
 refine vI (Ao h I ?_ ?_)
 intro E h
 refine Aj I ?_
 obtain rfl := y _ (oi h).symm
 have h := j
 have h := Do h
 cases io h
 exact vO pr
 intro E h
 refine vL (vH (Al 2 [.k 0 (b + 1 : Nat)] I ⟨Bj n q, J⟩ ?_))
 cases io h
 exact vI ⟨_, _, _, I, I2, J4, pk []⟩
 rintro m s ob ⟨rfl, rfl⟩ he
 subst he
 have h := Dn j
 have F := Dg a.length
 exact Aj I (Aa fun N O => Cm I F (vQ (lg ⟨(), h, I2⟩ [])))
 rintro s ob ⟨i, h, rfl, rfl⟩
 unfold Nt.J1 at h
 refine Aj I ?_
 cases io h
 exact vO pr
theorem gJ (b : List Sn) (F1 : T) {d : FuncId} {e f : List T} (i : Nl F1 = some (d, e, f)) (a : Sn → Option Bool) (j : ∀ (g : Sn) r, a g = some r → ACalls Ai d (e ++ [.agg (Bn g)] ++ f) [] (RB r)) (r : Bool) (h : Ri b a = some r) : ACalls Ai 168 [Q3 b, F1] [] (RB r) := by
 refine Ag Tryz.func168 I I I fun C hC => ?_
 refine Aj I (vM ?_)
 obtain ⟨l, k, h⟩ := Ac h
 refine vH (Af 2 I (vU (Vg _ F1 i a j _ k) (Af 2 I (vI ?_))))
 cases io h
 exact vO pr
theorem fT (a : Sg) (r : Bool) (h : Lm a = r) : ACalls Ai 156 [.agg (Ap a)] [] (RB r) := by
 refine Ag Tryz.func156 I I I fun C hC => ?_
 unfold Lm at h
 refine Aa fun d c => vH (vJ [] I (Bh (Ap a) 7 fun e => Af 1 I (vI ?_)))
 subst c
 refine Ah (fun s ob => s = [(2, .v (.bool (decide ((a.Points.length : Int) < 2) || decide ((a.Points.length : Int) > 8))))] ∧ ob = []) [] J ?_ ?_
 refine vH (Al 5 [.o 1 0, .l 2 (a.Points.length : Int)] I ⟨A8, I, J⟩ ?_)
 rcases bt (decide ((a.Points.length : Int) < 2)) with b | b
 refine Ad 7 I b (Af 6 I (vI ?_))
 exact lf I2 ⟨(D1 (by simp only [b, bz])), J⟩ [] I
 refine Ad 7 I b (Al 6 [.o 1 0, .l 2 (a.Points.length : Int)] I ⟨A8, I, J⟩ (vI ?_))
 exact lf I2 ⟨(D1 (by simp only [b, bz])), J⟩ [] I
 rintro s ob ⟨rfl, rfl⟩
 obtain rfl := h
 exact vO pr
theorem hM (a : Nw) (r : Bool) (h : Rw a = some r) : ACalls Ai 133 [.agg (Ab a)] [] (RB r) := by
 refine Ag Tryz.func133 I I I fun C hC => ?_
 unfold Rw at h
 refine Aa fun k g => vH (vJ [] I (Bh (Ab a) 6 fun n => Af 1 I (vI ?_)))
 subst g
 refine vM (D2 30 (decide ((a.Nodes.length : Int) < 1) || (decide ((a.Nodes.length : Int) > 24) || (decide ((a.Segments.length : Int) > 32) || (decide ((a.Ports.length : Int) > 24) || decide ((a.Stations.length : Int) > 12))))) ?_ ?_)
 refine vH (Al 5 [.o 1 0, .l 2 (a.Nodes.length : Int)] I ⟨A8, I, J⟩ ?_)
 rcases bt (decide ((a.Nodes.length : Int) < 1)) with b | b
 exact Ad 7 I b (Af 23 I (vI (jf (by simp only [b, bz]) I I I2)))
 refine Ad 7 I b (Al 6 [.o 1 0, .l 2 (a.Nodes.length : Int)] I ⟨A8, I, J⟩ ?_)
 rcases bt (decide ((a.Nodes.length : Int) > 24)) with d | d
 exact Ad 13 I d (Af 17 I (vI (jf (by simp only [b, d, bz]) I I I2)))
 refine Ad 13 I d (Al 6 [.o 1 0, .l 2 (a.Segments.length : Int)] I ⟨A8, I, J⟩ ?_)
 rcases bt (decide ((a.Segments.length : Int) > 32)) with e | e
 exact Ad 19 I e (Af 11 I (vI (jf (by simp only [b, d, e, bz]) I I I2)))
 refine Ad 19 I e (Al 6 [.o 1 0, .l 2 (a.Ports.length : Int)] I ⟨A8, I, J⟩ ?_)
 rcases bt (decide ((a.Ports.length : Int) > 24)) with f | f
 exact Ad 25 I f (Af 5 I (vI (jf (by simp only [b, d, e, f, bz]) I I I2)))
 exact Ad 25 I f (Al 5 [.o 1 0, .l 2 (a.Stations.length : Int)] I ⟨A8, I, J⟩ (vI (jf (by simp only [b, d, e, f, bz]) I I I2)))
 refine Ao h I ?_ ?_
 intro i h
 refine Aj I (vP g0 ?_)
 cases io h
 exact vO pr
 intro i h
 refine vL (vM ?_)
 obtain ⟨p, j, h⟩ := Ac h
 refine vH (Al 2 [.o 1 0] I J1 (vU (Vk _ (.v (.func (.func 156) #[] #[])) I (fun x => some (Lm x)) (fun x r h => by obtain I := oi h; exact fT x _ I) _ j) (Af 2 I (vI (vP g0 ?_)))))
 cases io h
 exact vO pr
theorem gL (b : Nw) (g : Plan) (r : Li) (h : Rl b g = some r) : ACalls Ai 132 [.agg (Ab b), .agg (Ak g)] [] (fun x new => ∃ (P : Value), x = .v P ∧ new = [U0 P r]) := by
 refine Ag Tryz.func132 I I I fun C hC => ?_
 refine Aa fun y1 ab => vH (vJ [] I (Bh (Ab b) 6 fun n => vJ [] I (Bh (Ak g) 3 fun p => Af 1 I (vI ?_))))
 subst ab
 refine AW.scope (Aj I (Aa fun y5 ac => ?_))
 obtain ⟨l6, ⟨m8, ad, ae, af⟩, h⟩ := Fo h
 refine vH (Al 3 [.o 1 0, .l 2 (b.Nodes.length : Int)] I ⟨A8, I, J⟩ (vJ [] I (Dq (sz := 1) I I I I I I I I I I ad ae (D5 (f := rB) af I) dS fun u => Af 1 I (vI ?_))))
 subst ac
 refine Aa fun ba ag => AW.label ?_
 subst ag
 refine Ah (fun s ob => ∃ (E : Li) (w : Value), Rl.J1 E = some r ∧ s = [(5, .v w)] ∧ ob = [U0 w E]) [] J ?_ ?_
 refine Aj I (vN (vP (A7 3 1) ?_))
 obtain ⟨bb, ah, ai⟩ := Ac h
 refine Bo ah (K3 2 3 6) J3 (fun (a : Li × (List Bool) × Int) s ob => ∃ (e : Value), s = [(5, .v e), (7, .V a.2.2)] ∧ ob = [O0 n [Ab b], O1 p [Ak g], U1 u a.2.1, U0 e a.1]) ⟨nS, I2⟩ ⟨I, I, J⟩ (pk N4) ?_
 rintro a Q s ob ⟨e, rfl, rfl⟩ h aj
 refine Aa fun bc ak => Bl [.o 2 0, .l 3 (b.Nodes.length : Int)] I ⟨A8, I, J⟩ (Ao h I ?_ ?_)
 intro al h
 refine vL ?_
 subst ak
 refine Ah (fun s ob => ∃ (A : Li × (List Bool) × Int) (F : Value), Rl.J3 A = some Q ∧ s = [(5, .v F), (7, .V A.2.2)] ∧ ob = [O0 n [Ab b], O1 p [Ak g], U1 u A.2.1, U0 F A.1]) (K3 2 3 6) J3 ?_ ?_
 refine vN (Aa fun bd am => vM ?_)
 obtain ⟨i, ⟨R, G⟩, h⟩ := Ba h
 refine vH (Af 2 I (vS (Bb 2 (m := i.1) I I I I I I I R (Ae G)) I (vS (Au 2 i.1 0 I I I (Ae G) I (y := .v (.bool i.2)) I) I (vI (Ao h I ?_ ?_)))))
 intro an h
 exact vQ (lg ⟨(a.1, a.2.1, a.2.2), e, h, I2⟩ N4)
 intro an h
 refine vL ?_
 subst am
 refine Ah (fun s ob => ∃ (S : Unit), Rl.J4 a i S = some Q ∧ s = [] ∧ ob = [O0 n [Ab b], O1 p [Ak g], U1 u a.2.1, U0 e a.1]) (K5 2 3 5 6 7) J5 ?_ ?_
 refine Bl [.o 1 0, .l 2 (b.Segments.length : Int)] I ⟨A8, I, J⟩ (vN (Cu 28 I fun ao => ?_))
 obtain ⟨be, aq, U⟩ := Ac h
 refine Cv aq (K7 2 3 5 6 7 28 29) J7 (fun (H : Nat) (W : Unit) s ob => s = [(30, .V (H : Int))] ∧ ob = [O0 n [Ab b], O1 p [Ak g], U1 u a.2.1, U0 e a.1]) ⟨I, I⟩ ⟨I, J⟩ (pk N4) ?_ ?_
 rintro H K W ar s ob au X ⟨rfl, rfl⟩ h av
 have aw := Df X
 refine Aj I (Aa fun bf ax => Cl I aw (vL ?_))
 subst ax
 refine vM (vN (Aa fun bg ay => vH (Al 3 [.x 1 H (Ap K)] I ⟨⟨I, Ae au⟩, J⟩ (vJ [] I (Bm W4 7 fun bh => Af 1 I (vJ [4] I (A3 4 0 0 [Ap K] I (vI ?_))))))))
 subst ay
 refine Aa fun bi az => ?_
 obtain ⟨j, ⟨Y, Z⟩, h⟩ := Ba h
 refine Bi (pd 12 0 [6]) [4, 1] [_, _] I (Br 6 [.o 0 0, .o 2 1, .x 4 j.1 (rI j.2)] I ⟨⟨Y, Ae Z⟩, I, I, J⟩ (wE I (gH K j.2 _ I) (A9 5 I (An (vI ?_)))))
 subst az
 refine Ah (fun s ob => ∃ (O : Bool), Rl.J6 a O = some ar ∧ s = [(62, .v (.bool O))] ∧ ob = [O0 n [Ab b], O1 p [Ak g], U1 u a.2.1, U0 e a.1]) (K8 2 3 5 6 7 28 29 30) J8 ?_ ?_
 refine vH (Al 7 [.o 1 1, .x 3 j.1 (rI j.2)] I ⟨⟨Y, Ae Z⟩, I, J⟩ ?_)
 rcases bt ((j.2 != 0)) with B | B
 have h := B0 B h
 refine Ad 51 I B ?_
 rcases bt ((((C4 K j.2).2) == a.2.2)) with D | D
 have h := B0 D h
 obtain ⟨M, ⟨a0, aa⟩, h⟩ := Ba h
 exact Af 5 I (Ad 56 I D (Af 2 I (Bf I I I (vS (Bb 2 (m := M.1) I I I I I I I a0 (Ae aa)) I (Bf I I I (vS (Au 2 M.1 0 I I I (Ae aa) I (y := .v (.bool M.2)) I) I (Af 2 I (vI (lg ⟨(!M.2), h, I2⟩ N4)))))))))
 have h := B8 D h
 exact Af 5 I (Ad 56 I D (Af 6 I (vI (lg ⟨false, h, I2⟩ N4))))
 have h := B8 B h
 exact Ad 51 I B (Af 11 I (vI (lg ⟨false, h, I2⟩ N4)))
 rintro s ob ⟨O, h, rfl, rfl⟩
 refine Ao h I ?_ ?_
 intro a1 h
 obtain rfl := av _ (oi h).symm
 have h := U
 have h := Do h
 exact vQ (lg ⟨(a.1, a.2.1, a.2.2), e, h, I2⟩ N4)
 intro a1 h
 refine vL (vH (Al 2 [.k 0 (H + 1 : Nat)] I ⟨Bj X ao, J⟩ ?_))
 cases io h
 exact vI ⟨_, _, _, I, I2, J8, pk N4⟩
 rintro W s ob ⟨rfl, rfl⟩ he
 subst he
 have h := Dn U
 have a2 := Dg b.Segments.length
 exact Aj I (Aa fun bj bk => Cm I a2 (vQ (lg ⟨(), h, I2⟩ N4)))
 rintro s ob ⟨S, h, rfl, rfl⟩
 refine vM (vH (Af 2 I (vS (Bb 2 (m := i.1) I I I I I I I R (Ae G)) I (vJ [2] I (Bg 2 i.1 0 I I I (Ae G) I I I I (A4 I) I (Ci (x := true) I) (vI (vM ?_)))))))
 obtain ⟨a3, a4, h⟩ := Ac h
 exact vH (Af 2 I (vJ [] I (vR 1 (([a.2.2] : Li).map rI) (vJ [3] I (vV 3 I a4 fun a5 => Af 1 I (vI (Yl I (lg ⟨(a3, (a.2.1.set i.1 true), (-1)), a5, h, I2⟩ N4))))))))
 rintro s ob ⟨A, F, h, rfl, rfl⟩
 unfold Rl.J3 at h
 refine vH (Af 3 I ?_)
 cases io h
 exact vI ⟨_, _, _, I, ⟨F, I2⟩, J5, pk N4⟩
 intro al h
 obtain rfl := aj _ (oi h).symm
 have h := ai
 exact vQ (lg ⟨a.1, e, h, I2⟩ [3])
 rintro s ob ⟨E, w, h, rfl, rfl⟩
 refine Aj I ?_
 obtain rfl := oi h
 exact vO ⟨.inr I, [_], [U0 w E], J1, Cy I (Cf), ⟨w, I2⟩⟩
theorem V9 (a : Int) (r : Int) (h : Jo a = r) : ACalls Ai 158 [.v (.int .u8 a)] [] (RV (.V r)) := by
 refine Ag Tryz.func158 I I I fun C hC => ?_
 unfold Jo at h
 refine Aj I (vM (vN (Ah (fun s ob => ∃ (e : Unit), Jo.J1 e = r ∧ s = [] ∧ ob = []) [] J ?_ ?_)))
 refine vN (vN (vM (vN (vM (Aa fun k f => D2 3 (decide (a ≥ 97) && decide (a ≤ 122)) ?_ ?_)))))
 refine vH (Af 1 I (Ch (wF (c := decide (a ≥ 97)) I I I) I (Af 1 I ?_)))
 rcases bt (decide (a ≥ 97)) with b | b
 exact Ad 6 I b (Af 1 I (Bf I I I (Ch (wF (c := decide (a ≤ 122)) I I I) I (Af 2 I (vI (jf (by simp only [b, bz]) I I I2))))))
 exact Ad 6 I b (Af 4 I (vI (jf (by simp only [b, bz]) I I I2)))
 refine Ao h I ?_ ?_
 intro g h
 refine vQ (vM (Aj I ?_))
 obtain rfl := h
 exact vO pr
 intro g h
 refine vL ?_
 subst f
 refine vM (D2 10 (decide (a ≥ 48) && decide (a ≤ 57)) ?_ ?_)
 refine vH (Af 1 I (Ch (wF (c := decide (a ≥ 48)) I I I) I (Af 1 I ?_)))
 rcases bt (decide (a ≥ 48)) with d | d
 exact Ad 13 I d (Af 1 I (Bf I I I (Ch (wF (c := decide (a ≤ 57)) I I I) I (Af 2 I (vI (jf (by simp only [d, bz]) I I I2))))))
 exact Ad 13 I d (Af 4 I (vI (jf (by simp only [d, bz]) I I I2)))
 refine Ao h I ?_ ?_
 intro i h
 exact vQ (lg ⟨(), h, I2⟩ [])
 intro i h
 refine vL (vM (vH (Af 1 I (Ch (wF (c := (a == 45)) I I I) I (Af 1 I (vI (Ao h I ?_ ?_)))))))
 intro j h
 exact vQ (lg ⟨(), h, I2⟩ [])
 intro j h
 refine vL (vQ (Aj I ?_))
 obtain rfl := h
 exact vO pr
 rintro s ob ⟨e, h, rfl, rfl⟩
 unfold Jo.J1 at h
 refine vM (Aj I ?_)
 obtain rfl := h
 exact vO pr
theorem iX (a : Bt) (r : Bool) (h : Ix a = some r) : ACalls Ai 137 [.v (.string a)] [] (RB r) := by
 refine Ag Tryz.func137 I I I fun C hC => ?_
 unfold Ix at h
 refine Aj I (Aa fun S o => Ah (fun s ob => ∃ (f : Bool), Ix.J1 a f = some r ∧ s = [(17, .v (.bool f))] ∧ ob = []) [(0, _)] J1 ?_ ?_)
 refine vH (Af 4 I ?_)
 rcases bt (decide ((a.size : Int) < 1)) with b | b
 have h := B0 b h
 exact Ad 7 I b (Af 10 I (vI (lg ⟨true, h, I2⟩ [])))
 have h := B8 b h
 refine Ad 7 I b ?_
 rcases bt (decide ((a.size : Int) > 12)) with d | d
 have h := B0 d h
 exact Af 5 I (Ad 12 I d (Af 5 I (vI (lg ⟨true, h, I2⟩ []))))
 have h := B8 d h
 obtain ⟨g, t, h⟩ := Ac h
 obtain ⟨u, w, y⟩ := My t
 exact Af 5 I (Ad 12 I d (Af 1 I (Bf I I I (Ch (C8 (m := g.1) I I I I u w y) I (Bf I I I (vU (V9 g.2 _ I) (Af 2 I (vI (lg ⟨((Jo g.2) != 1), h, I2⟩ [])))))))))
 rintro s ob ⟨f, h, rfl, rfl⟩
 refine Ao h I ?_ ?_
 intro A h
 refine Aj I ?_
 cases io h
 exact vO pr
 intro A h
 refine vL ?_
 subst o
 refine Ah (fun s ob => ∃ (i : Unit), Ix.J2 i = some r ∧ s = [] ∧ ob = []) [] J ?_ ?_
 refine Aj I (vN ?_)
 obtain ⟨U, B, h⟩ := Ac h
 have D : (a.size : Int).toNat ≤ 9223372036854775806 := by have := mR B; omega
 obtain ⟨W, E, j⟩ := Ac h
 refine Gi E (K2 0 19) J2 (fun (e : Nat) (l : Unit) s ob => s = [(20, .V (e : Int))] ∧ ob = []) ⟨I, I⟩ ⟨I, J⟩ (pk []) ?_ ?_
 rintro e l X s ob F ⟨rfl, rfl⟩ h G
 have H : decide ((e : Int) < (a.size : Int)) = true := decide_eq_true (by omega)
 refine Aj I (Aa fun Y K => Cl I H (vL ?_))
 subst K
 refine vM (vN (Aj I (vM ?_)))
 obtain ⟨n, M, h⟩ := Ac h
 obtain ⟨N, O, P⟩ := My M
 refine vH (Af 2 I (Ch (C8 (m := n.1) I I I I N O P) I (vU (V9 n.2 _ I) (Af 1 I (vI (Ao h I ?_ ?_))))))
 intro Q h
 refine Aj I ?_
 obtain rfl := G _ (oi h).symm
 have h := j
 have h := Do h
 cases io h
 exact vO pr
 intro Q h
 refine vL (vH (Al 2 [.k 0 (e + 1 : Nat)] I ⟨Bj F D, J⟩ ?_))
 cases io h
 exact vI ⟨_, _, _, I, I2, J3, pk []⟩
 rintro l s ob ⟨rfl, rfl⟩ he
 subst he
 have h := Dn j
 have R : decide ((((a.size : Int).toNat : Nat) : Int) < (a.size : Int)) = false := decide_eq_false (by omega)
 exact Aj I (Aa fun Z aa => Cm I R (vQ (lg ⟨(), h, I2⟩ [])))
 rintro s ob ⟨i, h, rfl, rfl⟩
 unfold Ix.J2 at h
 refine Aj I ?_
 cases io h
 exact vO pr
theorem Wm (a : Nw) (r : Arr (List Bt) 4) (h : Ox a = some r) : ACalls Ai 134 [.agg (Ab a)] [] (RV (.agg (r.l.map (cL 1 rS)))) := by
 refine Ag Tryz.func134 I I I fun C hC => ?_
 unfold Ox at h
 refine Aa fun y1 U => vH (vJ [] I (Bh (Ab a) 6 fun u => vJ [] I (Bm W1 4 fun f => vI ?_)))
 subst U
 refine Aa fun y4 W => vH (vJ [] I (Bm W1 4 fun g => vI ?_))
 subst W
 refine Aa fun y6 X => vH (Al 2 [.o 1 0] I J1 (Ch (Dz (m := 0) I I I I I I (A4 I)) I (vJ [2] I (A3 2 0 0 [[Q1 a.Nodes, .N, .N, .N]] I (vI ?_)))))
 subst X
 refine Ah (fun s ob => ∃ (c : List Bt) (b : Value), Ox.J1 a c = some r ∧ s = [] ∧ ob = [O0 u [Ab a], O6 f [W1], O6 g [[Q1 a.Nodes, .v b, .N, .N]], U5 b c]) (K3 1 2 3) J3 ?_ ?_
 refine Bl [.o 1 0, .l 2 (a.Segments.length : Int)] I ⟨A8, I, J⟩ (vN (Cu 14 I fun Y => vP (A7 9 1) ?_))
 obtain ⟨a5, Z, aa⟩ := Ac h
 refine Dm Z (K5 1 2 3 14 15) J5 (fun (w : Nat) (y : List Bt) s ob => ∃ (j : Value), s = [(16, .V (w : Int))] ∧ ob = [O0 u [Ab a], O6 f [W1], O6 g [[Q1 a.Nodes, .v j, .N, .N]], U5 j y]) ⟨nS, I2⟩ ⟨I, J⟩ (pk N4) ?_ ?_
 rintro w F y a6 s ob ab M ⟨j, rfl, rfl⟩ h
 have ac := Df M
 refine Aj I (Aa fun a7 ad => Cl I ac (vL ?_))
 subst ad
 refine vM (vN (vM (vH (Al 2 [.x 0 w (Ap F)] I ⟨⟨I, Ae ab⟩, J⟩ (vJ [] I (Bm W4 7 fun a8 => vJ [4] I (A3 4 0 0 [Ap F] I (vI ?_))))))))
 obtain ⟨a9, ae, h⟩ := Ac h
 refine vH (Ch (Dz (m := 1) I I I I I I (A4 I)) I (Al 3 [.o 0 2, .o 2 4] I J2 (vJ [] I (vR 1 (([F.Name] : List Bt).map rS) (vJ [3] I (vV 3 I ae fun O => Ch (Dz (m := 1) I I I I I I (A4 I)) I (wC 3 I fun af => vJ [2] I (vT 2 0 1 (es' := [[Q1 a.Nodes, .v O, .N, .N]]) I I I I I I (A6 af) I (A4 I) I I (vI (vH (Al 2 [.k 0 (w + 1 : Nat)] I ⟨Bj M Y, J⟩ ?_)))))))))))
 cases io h
 exact vI (lg ⟨O, I2⟩ N4)
 rintro y s ob ⟨j, rfl, rfl⟩ he
 subst he
 have h := aa
 have ag := Dg a.Segments.length
 exact Aj I (Aa fun ba bb => Cm I ag (vQ (lg ⟨y, j, h, I2⟩ N4)))
 rintro s ob ⟨c, b, h, rfl, rfl⟩
 unfold Ox.J1 at h
 refine Ah (fun s ob => ∃ (e : List Bt) (d : Value), Ox.J2 a c e = some r ∧ s = [] ∧ ob = [O0 u [Ab a], O6 f [W1], O6 g [[Q1 a.Nodes, .v b, .v d, .N]], U5 b c, U5 d e]) (K3 1 2 3) J3 ?_ ?_
 refine Bl [.o 1 0, .l 2 (a.Ports.length : Int)] I ⟨A8, I, J⟩ (vN (Cu 29 I fun ah => vP (A7 9 1) ?_))
 obtain ⟨bc, ai, aj⟩ := Ac h
 refine Dm ai (K5 1 2 3 29 30) J5 (fun (A : Nat) (B : List Bt) s ob => ∃ (n : Value), s = [(31, .V (A : Int))] ∧ ob = [O0 u [Ab a], O6 f [W1], O6 g [[Q1 a.Nodes, .v b, .v n, .N]], U5 b c, U5 n B]) ⟨nS, I2⟩ ⟨I, J⟩ (pk N5) ?_ ?_
 rintro A G B bd s ob ak P ⟨n, rfl, rfl⟩ h
 have al := Df P
 refine Aj I (Aa fun be am => Cl I al (vL ?_))
 subst am
 refine vM (vN (vM (vH (Al 2 [.x 0 A (Cc G)] I ⟨⟨I, Ae ak⟩, J⟩ (vJ [] I (Bm W6 3 fun bf => vJ [5] I (A3 5 0 0 [Cc G] I (vI ?_))))))))
 obtain ⟨bg, an, h⟩ := Ac h
 refine vH (Ch (Dz (m := 2) I I I I I I (A4 I)) I (Al 3 [.o 0 2, .o 2 5] I J2 (vJ [] I (vR 1 (([G.Name] : List Bt).map rS) (vJ [4] I (vV 4 I an fun Q => Ch (Dz (m := 2) I I I I I I (A4 I)) I (wC 4 I fun ao => vJ [2] I (vT 2 0 2 (es' := [[Q1 a.Nodes, .v b, .v Q, .N]]) I I I I I I (A6 ao) I (A4 I) I I (vI (vH (Al 2 [.k 0 (A + 1 : Nat)] I ⟨Bj P ah, J⟩ ?_)))))))))))
 cases io h
 exact vI (lg ⟨Q, I2⟩ N5)
 rintro B s ob ⟨n, rfl, rfl⟩ he
 subst he
 have h := aj
 have aq := Dg a.Ports.length
 exact Aj I (Aa fun bh bi => Cm I aq (vQ (lg ⟨B, n, h, I2⟩ N5)))
 rintro s ob ⟨e, d, h, rfl, rfl⟩
 unfold Ox.J2 at h
 refine Ah (fun s ob => ∃ (q : List Bt) (i : Value), Ox.J3 a c e q = some r ∧ s = [] ∧ ob = [O6 f [W1], O6 g [[Q1 a.Nodes, .v b, .v d, .v i]], U5 b c, U5 d e, U5 i q]) (K2 2 3) J2 ?_ ?_
 refine Bl [.o 1 0, .l 2 (a.Stations.length : Int)] I ⟨A8, I, J⟩ (vN (Cu 44 I fun ar => vP (A7 9 1) ?_))
 obtain ⟨bj, au, av⟩ := Ac h
 refine Dm au (K4 2 3 44 45) J4 (fun (D : Nat) (E : List Bt) s ob => ∃ (t : Value), s = [(46, .V (D : Int))] ∧ ob = [O6 f [W1], O6 g [[Q1 a.Nodes, .v b, .v d, .v t]], U5 b c, U5 d e, U5 t E]) ⟨nS, I2⟩ ⟨I, J⟩ (pk [1, 2, 3, 4, 5]) ?_ ?_
 rintro D H E bk s ob aw R ⟨t, rfl, rfl⟩ h
 have ax := Df R
 refine Aj I (Aa fun bl ay => Cl I ax (vL ?_))
 subst ay
 refine vM (vN (vM (vH (Al 2 [.x 0 D (Bn H)] I ⟨⟨I, Ae aw⟩, J⟩ (vJ [] I (Bm W7 5 fun bm => vJ [5] I (A3 5 0 0 [Bn H] I (vI ?_))))))))
 obtain ⟨bn, az, h⟩ := Ac h
 refine vH (Ch (Dz (m := 3) I I I I I I (A4 I)) I (Al 3 [.o 0 1, .o 2 5] I J2 (vJ [] I (vR 1 (([H.Name] : List Bt).map rS) (vJ [4] I (vV 4 I az fun S => Ch (Dz (m := 3) I I I I I I (A4 I)) I (wC 4 I fun a0 => vJ [1] I (vT 1 0 3 (es' := [[Q1 a.Nodes, .v b, .v d, .v S]]) I I I I I I (A6 a0) I (A4 I) I I (vI (vH (Al 2 [.k 0 (D + 1 : Nat)] I ⟨Bj R ar, J⟩ ?_)))))))))))
 cases io h
 exact vI (lg ⟨S, I2⟩ N5)
 rintro E s ob ⟨t, rfl, rfl⟩ he
 subst he
 have h := av
 have a1 := Dg a.Stations.length
 exact Aj I (Aa fun bo bp => Cm I a1 (vQ (lg ⟨E, t, h, I2⟩ N5)))
 rintro s ob ⟨q, i, h, rfl, rfl⟩
 unfold Ox.J3 at h
 refine vM (vH (Al 1 [.o 0 1] I J1 (vJ [0] I (A3 0 0 0 [[Q1 a.Nodes, .v b, .v d, .v i]] I (vI (vP (Av [2, 3, 4] (K := [U5 b c, U5 d e, U5 i q]) I [] J (ob' := [O6 f [[Q1 a.Nodes, Q1 c, Q1 e, Q1 q]], O6 g [[Q1 a.Nodes, .v b, .v d, .v i]]]) (.cons (.arr (.cons (.refl _) (.cons (.us 0 I) (.cons (.us 1 I) (.cons (.us 2 I) (.rest _)))))) (.rest _))) (Cd [0] I ?_)))))))
 cases io h
 exact vO ⟨.inr I, [_], [], ⟨⟨0, _, _, _, _, _, _, _, I5⟩, J⟩, Cf, I2⟩
theorem gM (a : Sn) (b : Sn) (r : Bool) (h : Jm a b = r) : ACalls Ai 161 [.agg (Bn a), .eptr (Bn b)] [] (RB r) := by
 refine Ag Tryz.func161 I I I fun C hC => ?_
 unfold Jm at h
 refine vM (vH (vJ [] I (Bh (Bn a) 5 fun c => Af 1 I (vI (Bl [.o 1 0] I J1 (vP g0 ?_))))))
 obtain rfl := h
 exact vO pr
theorem fX (a : Nw) (r : Bool) (h : Rg a = some r) : ACalls Ai 138 [.agg (Ab a)] [] (RB r) := by
 refine Ag Tryz.func138 I I I fun C hC => ?_
 unfold Rg at h
 refine Aa fun y1 G => vH (vJ [] I (Bh (Ab a) 6 fun b => Af 1 I (vI ?_)))
 subst G
 refine Ah (fun s ob => ∃ (j : Unit), Rg.J1 a j = some r ∧ s = [] ∧ ob = [O0 b [Ab a]]) [(1, _)] J1 ?_ ?_
 refine Aa fun aw H => ?_
 obtain ⟨ax, K, h⟩ := Ac h
 refine vH (Al 1 [.o 0 0] I J1 (vJ [] I (Bp I I I (Wm _ _ K) dS ?_)))
 rintro _ _ ⟨rfl, rfl⟩
 refine Af 1 I (vI ?_)
 subst H
 refine vN ?_
 have M : (4 : Nat) ≤ 9223372036854775806 := by decide
 obtain ⟨ay, N, n⟩ := Ac h
 refine Gi N (K2 1 10) J2 (fun (e : Nat) (t : Unit) s ob => s = [(11, .V (e : Int))] ∧ ob = [O0 b [Ab a]]) ⟨I, I⟩ ⟨I, J⟩ (pk [0]) ?_ ?_
 rintro e t O s ob P ⟨rfl, rfl⟩ h Q
 unfold Rg.B4 at h
 have R : decide ((e : Int) < 4) = true := decide_eq_true (by omega)
 refine Aj I (Aa fun az S => Cl I R (vL ?_))
 subst S
 refine Ah (fun s ob => ∃ (u : Unit), Rg.J5 u = some O ∧ s = [] ∧ ob = [O0 b [Ab a]]) (K3 1 10 11) J3 ?_ ?_
 refine vN (Aa fun a0 U => ?_)
 obtain ⟨i, ⟨W, X⟩, h⟩ := Ba h
 refine vH (Ch (Gl (m := i.1) I I I I I I I W X (hlen := Arr.h _)) I (Af 1 I (vI ?_)))
 subst U
 refine Bl [.l 1 (i.2.length : Int)] I ⟨A8, J⟩ (vN (Cu 14 I fun Y => ?_))
 obtain ⟨a1, Z, w⟩ := Ac h
 refine Cv Z (K6 1 4 10 11 14 15) J6 (fun (f : Nat) (y : Unit) s ob => s = [(16, .V (f : Int))] ∧ ob = [O0 b [Ab a]]) ⟨I, I⟩ ⟨I, J⟩ (pk [0]) ?_ ?_
 rintro f aa y a2 s ob ab A ⟨rfl, rfl⟩ h ac
 have ad := Df A
 refine Aj I (Aa fun a3 ae => Cl I ad (vL ?_))
 subst ae
 refine vM (vN (Bl [.x 1 f (rS aa)] I ⟨⟨I, Ae ab⟩, J⟩ (vM ?_)))
 obtain ⟨a4, af, h⟩ := Ac h
 refine vH (Af 2 I (vU (gN _ _ _ af) (Af 2 I (vI (Ao h I ?_ ?_)))))
 intro ag h
 refine Aj I ?_
 obtain rfl := ac _ (oi h).symm
 have h := w
 have h := Do h
 obtain rfl := Q _ (oi h).symm
 have h := n
 have h := Do h
 refine vP g0 ?_
 cases io h
 exact vO pr
 intro ag h
 refine vL (vH (Al 2 [.k 0 (f + 1 : Nat)] I ⟨Bj A Y, J⟩ ?_))
 cases io h
 exact vI ⟨_, _, _, I, I2, J7, pk [0]⟩
 rintro y s ob ⟨rfl, rfl⟩ he
 subst he
 have h := Dn w
 have ah := Dg i.2.length
 exact Aj I (Aa fun a5 a6 => Cm I ah (vQ (lg ⟨(), h, I2⟩ [0])))
 rintro s ob ⟨u, h, rfl, rfl⟩
 unfold Rg.J5 at h
 refine vH (Al 2 [.k 0 (e + 1 : Nat)] I ⟨Bj P M, J⟩ ?_)
 cases io h
 exact vI ⟨_, _, _, I, I2, J3, pk [0]⟩
 rintro t s ob ⟨rfl, rfl⟩ he
 subst he
 have h := Dn n
 have ai : decide (((4 : Nat) : Int) < 4) = false := by simp
 exact Aj I (Aa fun a7 a8 => Cm I ai (vQ (lg ⟨(), h, I2⟩ [0])))
 rintro s ob ⟨j, h, rfl, rfl⟩
 unfold Rg.J1 at h
 refine Ah (fun s ob => ∃ (B : Unit), Rg.J2 B = some r ∧ s = [] ∧ ob = []) [] J ?_ ?_
 refine Bl [.o 1 0, .l 2 (a.Stations.length : Int)] I ⟨A8, I, J⟩ (vN (Cu 29 I fun aj => ?_))
 obtain ⟨a9, ak, D⟩ := Ac h
 refine Cv ak (K3 1 29 30) J3 (fun (g : Nat) (E : Unit) s ob => s = [(31, .V (g : Int))] ∧ ob = [O0 b [Ab a]]) ⟨I, I⟩ ⟨I, J⟩ (pk [0]) ?_ ?_
 rintro g d E ba s ob al F ⟨rfl, rfl⟩ h am
 have an := Df F
 refine Aj I (Aa fun bb ao => Cl I an (vL ?_))
 subst ao
 refine vM (vN (Aa fun bc ap => vH (Al 3 [.x 1 g (Bn d)] I ⟨⟨I, Ae al⟩, J⟩ (vJ [] I (Bm W7 5 fun bd => Af 1 I (vJ [1] I (A3 1 0 0 [Bn d] I (vI ?_))))))))
 subst ap
 refine vM ?_
 obtain ⟨be, aq, h⟩ := Ac h
 refine vH (Al 2 [.o 1 0] I J1 (Ch (Yp.makeFunc I I) I (vJ [] I (Cw I (.refl _) I I (.cons (.refl _) (.cons (.fn (.rest _) (.cons (.box 1 I (.rest _)) (.rest _))) (.rest _))) I (Vg _ (.fn 161 [] [.eptr (Bn d)]) I (fun x => some (Jm x d)) (fun x r h => by obtain I := oi h; exact gM x d _ I) _ aq) dS (by rintro _ _ ⟨rfl, _⟩; rfl) ?_))))
 rintro _ ⟨_, rfl, -⟩
 refine Af 2 I (vI (Ao h I ?_ ?_))
 intro ar h
 refine Aj I ?_
 obtain rfl := am _ (oi h).symm
 have h := D
 have h := Do h
 refine vP g0 ?_
 cases io h
 exact vO pr
 intro ar h
 refine vL (vH (Al 2 [.k 0 (g + 1 : Nat)] I ⟨Bj F aj, J⟩ ?_))
 cases io h
 exact vI ⟨_, _, _, I, I2, J4, pk [0]⟩
 rintro E s ob ⟨rfl, rfl⟩ he
 subst he
 have h := Dn D
 have au := Dg a.Stations.length
 exact Aj I (Aa fun bf bg => Cm I au (vQ (lg ⟨(), h, I2⟩ [])))
 rintro s ob ⟨B, h, rfl, rfl⟩
 unfold Rg.J2 at h
 refine Aj I ?_
 cases io h
 exact vO pr
theorem fY (a : Int) (c : Nw) (r : Bool) (h : Ln a c = r) : ACalls Ai 162 [.V a, .eptr (Ab c)] [] (RB r) := by
 refine Ag Tryz.func162 I I I fun C hC => ?_
 unfold Ln at h
 refine Aj I (Ah (fun s ob => s = [(3, .v (.bool (decide (a < 0) || decide (a ≥ (c.Nodes.length : Int)))))] ∧ ob = []) [] J ?_ ?_)
 refine vH (Af 3 I ?_)
 rcases bt (decide (a < 0)) with b | b
 refine Ad 6 I b (Af 7 I (vI ?_))
 exact lf I2 ⟨(D1 (by simp only [b, bz])), J⟩ [] I
 refine Ad 6 I b (Al 7 [.l 3 (c.Nodes.length : Int)] I ⟨A8, J⟩ (vI ?_))
 exact lf I2 ⟨(D1 (by simp only [b, bz])), J⟩ [] I
 rintro s ob ⟨rfl, rfl⟩
 obtain rfl := h
 exact vO pr
theorem iZ (a : Nw) (r : Bool) (h : Sb a = some r) : ACalls Ai 139 [.agg (Ab a)] [] (RB r) := by
 refine Ag Tryz.func139 I I I fun C hC => ?_
 unfold Sb at h
 refine Aa fun y1 O => vH (vJ [] I (Bh (Ab a) 6 fun b => Af 1 I (vI ?_)))
 subst O
 refine Aj I (Ah (fun s ob => ∃ (A : Li) (f : Value), Sb.J1 a A = some r ∧ s = [(3, .v f)] ∧ ob = [O0 b [Ab a], U0 f A]) [(1, _)] J1 ?_ ?_)
 refine Bl [.o 1 0, .l 2 (a.Segments.length : Int)] I ⟨A8, I, J⟩ (vN (Cu 11 I fun P => vP (A7 3 1) ?_))
 obtain ⟨ax, Q, R⟩ := Ac h
 refine Dm Q (K3 1 11 12) J3 (fun (g : Nat) (i : Li) s ob => ∃ (c : Value), s = [(13, .V (g : Int)), (3, .v c)] ∧ ob = [O0 b [Ab a], U0 c i]) ⟨nS, I2⟩ ⟨I, I, J⟩ (pk [0, 1]) ?_ ?_
 rintro g j i ay s ob S H ⟨c, rfl, rfl⟩ h
 have U := Df H
 refine Aj I (Aa fun az W => Cl I U (vL ?_))
 subst W
 refine vM (vN (vM (vH (Al 2 [.x 0 g (Ap j)] I ⟨⟨I, Ae S⟩, J⟩ (vJ [] I (Bm W4 7 fun a0 => vJ [2] I (A3 2 0 0 [Ap j] I (vI ?_))))))))
 obtain ⟨a1, X, h⟩ := Ac h
 refine vH (Al 5 [.o 2 2, .o 4 2] I J2 (vJ [] I (vR 1 (([j.From, j.To] : Li).map rI) (vJ [1] I (vV 1 I X fun Y => Af 1 I (vI (vH (Al 2 [.k 0 (g + 1 : Nat)] I ⟨Bj H P, J⟩ ?_))))))))
 cases io h
 exact vI (lg ⟨Y, I2⟩ [0, 1])
 rintro i s ob ⟨c, rfl, rfl⟩ he
 subst he
 have h := R
 have Z := Dg a.Segments.length
 exact Aj I (Aa fun a2 a3 => Cm I Z (vQ (lg ⟨i, c, h, I2⟩ [0, 1])))
 rintro s ob ⟨A, f, h, rfl, rfl⟩
 unfold Sb.J1 at h
 refine Ah (fun s ob => ∃ (B : Li) (n : Value), Sb.J2 a B = some r ∧ s = [(3, .v n)] ∧ ob = [O0 b [Ab a], U0 n B]) [(1, _)] J1 ?_ ?_
 refine Bl [.o 1 0, .l 2 (a.Ports.length : Int)] I ⟨A8, I, J⟩ (vN (Cu 26 I fun aa => ?_))
 obtain ⟨a4, ab, ac⟩ := Ac h
 refine Dm ab (K3 1 26 27) J3 (fun (t : Nat) (u : Li) s ob => ∃ (d : Value), s = [(28, .V (t : Int)), (3, .v d)] ∧ ob = [O0 b [Ab a], U0 d u]) ⟨f, I2⟩ ⟨I, I, J⟩ (pk [0, 1]) ?_ ?_
 rintro t D u a5 s ob ad K ⟨d, rfl, rfl⟩ h
 have ae := Df K
 refine Aj I (Aa fun a6 af => Cl I ae (vL ?_))
 subst af
 refine vM (vN (vM (vH (Al 2 [.x 0 t (Cc D)] I ⟨⟨I, Ae ad⟩, J⟩ (vJ [] I (Bm W6 3 fun a7 => vJ [2] I (A3 2 0 0 [Cc D] I (vI ?_))))))))
 obtain ⟨a8, ag, h⟩ := Ac h
 refine vH (Al 3 [.o 2 2] I J1 (vJ [] I (vR 1 (([D.Node] : Li).map rI) (vJ [1] I (vV 1 I ag fun ah => Af 1 I (vI (vH (Al 2 [.k 0 (t + 1 : Nat)] I ⟨Bj K aa, J⟩ ?_))))))))
 cases io h
 exact vI (lg ⟨ah, I2⟩ [0, 1])
 rintro u s ob ⟨d, rfl, rfl⟩ he
 subst he
 have h := ac
 have ai := Dg a.Ports.length
 exact Aj I (Aa fun a9 ba => Cm I ai (vQ (lg ⟨u, d, h, I2⟩ [0, 1])))
 rintro s ob ⟨B, n, h, rfl, rfl⟩
 unfold Sb.J2 at h
 refine Ah (fun s ob => ∃ (E : Li) (F : Value), Sb.J3 a E = some r ∧ s = [(3, .v F)] ∧ ob = [O0 b [Ab a], U0 F E]) [(1, _)] J1 ?_ ?_
 refine Bl [.o 1 0, .l 2 (a.Stations.length : Int)] I ⟨A8, I, J⟩ (vN (Cu 39 I fun aj => ?_))
 obtain ⟨bb, ak, al⟩ := Ac h
 refine Dm ak (K3 1 39 40) J3 (fun (w : Nat) (y : Li) s ob => ∃ (e : Value), s = [(41, .V (w : Int)), (3, .v e)] ∧ ob = [O0 b [Ab a], U0 e y]) ⟨n, I2⟩ ⟨I, I, J⟩ (pk [0, 1]) ?_ ?_
 rintro w G y bc s ob am M ⟨e, rfl, rfl⟩ h
 have an := Df M
 refine Aj I (Aa fun bd ao => Cl I an (vL ?_))
 subst ao
 refine vM (vN (vM (vH (Al 2 [.x 0 w (Bn G)] I ⟨⟨I, Ae am⟩, J⟩ (vJ [] I (Bm W7 5 fun be => vJ [2] I (A3 2 0 0 [Bn G] I (vI ?_))))))))
 obtain ⟨bf, aq, h⟩ := Ac h
 refine vH (Al 3 [.o 2 2] I J1 (vJ [] I (vR 1 (([G.Node] : Li).map rI) (vJ [1] I (vV 1 I aq fun ar => Af 1 I (vI (vH (Al 2 [.k 0 (w + 1 : Nat)] I ⟨Bj M aj, J⟩ ?_))))))))
 cases io h
 exact vI (lg ⟨ar, I2⟩ [0, 1])
 rintro y s ob ⟨e, rfl, rfl⟩ he
 subst he
 have h := al
 have au := Dg a.Stations.length
 exact Aj I (Aa fun bg bh => Cm I au (vQ (lg ⟨y, e, h, I2⟩ [0, 1])))
 rintro s ob ⟨E, F, h, rfl, rfl⟩
 refine vM ?_
 obtain ⟨bi, av, h⟩ := Ac h
 refine vH (Af 1 I (Ch (Yp.makeFunc I I) I (vJ [] I (Cw I (.refl _) I I (.cons (.us 1 I) (.cons (.fn (.rest _) (.cons (.box 0 I (.rest _)) (.rest _))) (.rest _))) I (Vn _ (.fn 162 [] [.eptr (Ab a)]) I (fun x => some (Ln x a)) (fun x r h => by obtain I := oi h; exact fY x a _ I) _ av) dS (by rintro _ _ ⟨rfl, _⟩; rfl) ?_))))
 rintro _ ⟨_, rfl, -⟩
 refine Af 2 I (vI (vP g0 ?_))
 cases io h
 exact vO pr
theorem iW (a : Sg) (r : Bool) (h : L0 a = some r) : ACalls Ai 164 [.agg (Ap a)] [] (RB r) := by
 refine Ag Tryz.func164 I I I fun C hC => ?_
 unfold L0 at h
 refine Aa fun y1 H => vH (vJ [] I (Bh (Ap a) 7 fun t => Af 1 I (vI ?_)))
 subst H
 refine Aa fun y3 K => D2 27 ((a.From == a.To) || ((!(Dp a.Capacity 1 1000000)) || ((!(Dp a.Resist 0 1000)) || (!(Dp a.Wave 0 100000))))) ?_ ?_
 refine vH (Al 6 [.o 1 0, .o 3 0] I J2 ?_)
 rcases bt ((a.From == a.To)) with d | d
 exact Ad 10 I d (Af 17 I (vI (jf (by simp only [d, bz]) I I I2)))
 refine Ad 10 I d (Al 2 [.o 1 0] I J1 (Bf I I I (vU (Du a.Capacity 1 1000000 _ I) (Af 3 I ?_))))
 rcases bt ((!(Dp a.Capacity 1 1000000))) with f | f
 exact Ad 16 I f (Af 11 I (vI (jf (by simp only [d, f, bz]) I I I2)))
 refine Ad 16 I f (Al 2 [.o 1 0] I J1 (Bf I I I (vU (Du a.Resist 0 1000 _ I) (Af 3 I ?_))))
 rcases bt ((!(Dp a.Resist 0 1000))) with i | i
 exact Ad 22 I i (Af 5 I (vI (jf (by simp only [d, f, i, bz]) I I I2)))
 exact Ad 22 I i (Al 2 [.o 1 0] I J1 (Bf I I I (vU (Du a.Wave 0 100000 _ I) (Af 2 I (vI (jf (by simp only [d, f, i, bz]) I I I2))))))
 refine Ao h I ?_ ?_
 intro M h
 refine Aj I (vP g0 ?_)
 cases io h
 exact vO pr
 intro M h
 refine vL ?_
 subst K
 refine Ah (fun s ob => ∃ (D : Unit), L0.J1 a D = some r ∧ s = [] ∧ ob = [O9 t [Ap a]]) [(1, _)] J1 ?_ ?_
 refine Bl [.o 1 0, .l 2 (a.Points.length : Int)] I ⟨A8, I, J⟩ (vN (Cu 29 I fun N => ?_))
 obtain ⟨ah, O, E⟩ := Ac h
 refine Cv O (K3 1 29 30) J3 (fun (j : Nat) (F : Unit) s ob => s = [(31, .V (j : Int))] ∧ ob = [O9 t [Ap a]]) ⟨I, I⟩ ⟨I, J⟩ (pk [0]) ?_ ?_
 rintro j b F P s ob Q G ⟨rfl, rfl⟩ h R
 unfold L0.B3 at h
 have S := Df G
 refine Aj I (Aa fun ai U => Cl I S (vL ?_))
 subst U
 refine vM (vN (Aa fun aj W => vH (Al 3 [.x 1 j (C1 b)] I ⟨⟨I, Ae Q⟩, J⟩ (vJ [] I (Bm [.V 0, .V 0, .V 0] 3 fun ak => Af 1 I (vJ [1] I (A3 1 0 0 [C1 b] I (vI ?_))))))))
 subst W
 refine Ah (fun s ob => ∃ (u : Bool), L0.J4 u = some P ∧ s = [(61, .v (.bool u))] ∧ ob = [O9 t [Ap a]]) (K4 1 29 30 31) J4 ?_ ?_
 rcases bt ((!(Dp b.Height (-500) 5000))) with e | e
 have h := B0 e h
 refine Bi (pd 26 0 [2, 7]) [1] [_] I (Br 2 [.o 1 0] I J1 (wE I (Du b.Height (-500) 5000 _ I) (A9 2 I (Bk 40 I e (A9 9 I (Cx I I I I dS (Cx I I I I dS (Cx I I I I dS (Cx I I I I dS (Cx I I I I dS (Cx I I I I dS (Cx I I I I dS ?_))))))))))))
 exact Cx I I I I dS (Cx I I I I dS (Cx I I I I dS (A9 2 I (An (vI (lg ⟨true, h, I2⟩ [0]))))))
 have h := B8 e h
 rcases bt ((!(Dp b.Limit 0 100000000))) with g | g
 have h := B0 g h
 refine Bi (pd 26 0 [2, 7]) [1] [_] I (Br 2 [.o 1 0] I J1 (wE I (Du b.Height (-500) 5000 _ I) (A9 2 I (Bk 40 I e (Br 2 [.o 1 0] I J1 (H8 I (Du b.Limit 0 100000000 _ I) (A9 3 I (Bk 46 I g (A9 3 I (Cx I I I I dS (Cx I I I I dS (Cx I I I I dS ?_))))))))))))
 exact Cx I I I I dS (Cx I I I I dS (Cx I I I I dS (Cx I I I I dS (Cx I I I I dS (Cx I I I I dS (Cx I I I I dS (A9 2 I (An (vI (lg ⟨true, h, I2⟩ [0]))))))))))
 have h := B8 g h
 rcases bt (decide ((j : Int) > 0)) with n | n
 have h := B0 n h
 obtain ⟨w, ⟨X, Y⟩, h⟩ := Ba h
 refine Bi (pd 26 0 [2, 7]) [1, 0] [_, _] I (Br 2 [.o 1 0] I J1 (wE I (Du b.Height (-500) 5000 _ I) (A9 2 I (Bk 40 I e (Br 2 [.o 1 0] I J1 (H8 I (Du b.Limit 0 100000000 _ I) (A9 3 I (Bk 46 I g (A9 3 I (Bk 49 I n (Br 12 [.o 1 0, .o 3 1, .x 6 w.1 (C1 w.2)] I ⟨⟨X, Ae Y⟩, I, I, J⟩ (An ?_))))))))))))
 exact vI (lg ⟨decide (b.At ≤ w.2.At), h, I2⟩ [0])
 have h := B8 n h
 refine Bi (pd 26 0 [2, 7]) [1] [_] I (Br 2 [.o 1 0] I J1 (wE I (Du b.Height (-500) 5000 _ I) (A9 2 I (Bk 40 I e (Br 2 [.o 1 0] I J1 (H8 I (Du b.Limit 0 100000000 _ I) (A9 3 I (Bk 46 I g (A9 3 I (Bk 49 I n (A9 12 I (An ?_))))))))))))
 exact vI (lg ⟨false, h, I2⟩ [0])
 rintro s ob ⟨u, h, rfl, rfl⟩
 refine Ao h I ?_ ?_
 intro Z h
 refine Aj I ?_
 obtain rfl := R _ (oi h).symm
 have h := E
 have h := Do h
 refine vP g0 ?_
 cases io h
 exact vO pr
 intro Z h
 refine vL (vH (Al 2 [.k 0 (j + 1 : Nat)] I ⟨Bj G N, J⟩ ?_))
 cases io h
 exact vI ⟨_, _, _, I, I2, J4, pk [0]⟩
 rintro F s ob ⟨rfl, rfl⟩ he
 subst he
 have h := Dn E
 have aa := Dg a.Points.length
 exact Aj I (Aa fun al am => Cm I aa (vQ (lg ⟨(), h, I2⟩ [0])))
 rintro s ob ⟨D, h, rfl, rfl⟩
 unfold L0.J1 at h
 refine Ah (fun s ob => ∃ (y : Bool), L0.J2 y = some r ∧ s = [(2, .v (.bool y))] ∧ ob = []) [] J ?_ ?_
 obtain ⟨A, ⟨ab, ac⟩, h⟩ := Ba h
 refine Bi (pd 21 0 []) [0] [_] I (Br 7 [.o 1 0, .x 2 A.1 (C1 A.2)] I ⟨⟨ab, Ae ac⟩, I, J⟩ ?_)
 rcases bt ((A.2.At == 0)) with p | p
 have h := B0 p h
 obtain ⟨B, ⟨ad, ae⟩, h⟩ := Ba h
 exact Bk 69 I p (Br 14 [.o 1 0, .o 3 0, .l 4 (a.Points.length : Int), .x 6 B.1 (C1 B.2), .o 10 0] I ⟨I, ⟨ad, Ae ae⟩, A8, I, I, J⟩ (An (vI (lg ⟨(B.2.At == a.Capacity), h, I2⟩ []))))
 have h := B8 p h
 exact Bk 69 I p (A9 14 I (An (vI (lg ⟨false, h, I2⟩ []))))
 rintro s ob ⟨y, h, rfl, rfl⟩
 unfold L0.J2 at h
 cases io h
 exact vO pr
theorem fU (a : Sg) (r : Bool) (h : Wx a = some r) : ACalls Ai 163 [.agg (Ap a)] [] (RB r) := by
 refine Ag Tryz.func163 I I I fun C hC => ?_
 refine vM (vH (vJ [] I (Bh (Ap a) 7 fun d => Af 1 I (vI (vM ?_)))))
 obtain ⟨e, b, h⟩ := Ac h
 refine vH (Al 1 [.o 0 0] I J1 (vU (iW _ _ b) (Af 2 I (vI (vP g0 ?_)))))
 cases io h
 exact vO pr
theorem gA (a : Port) (r : Bool) (h : Lo a = r) : ACalls Ai 166 [.agg (Cc a)] [] (RB r) := by
 refine Ag Tryz.func166 I I I fun C hC => ?_
 unfold Lo at h
 refine vM (vH (vJ [] I (Bh (Cc a) 3 fun b => Af 1 I (vI (vM (vH (Al 2 [.o 1 0] I J1 (vU (Du a.Pressure 0 100000000 _ I) (Af 2 I (vI (vP g0 ?_)))))))))))
 obtain rfl := h
 exact vO pr
theorem iS (a : Sn) (r : Bool) (h : Lz a = r) : ACalls Ai 169 [.agg (Bn a)] [] (RB r) := by
 refine Ag Tryz.func169 I I I fun C hC => ?_
 unfold Lz at h
 refine Aa fun f e => vH (vJ [] I (Bh (Bn a) 5 fun g => Af 1 I (vI ?_)))
 subst e
 refine Ah (fun s ob => s = [(2, .v (.bool ((!(Dp a.Head 0 100000000)) || ((!(Dp a.Fall 0 100000)) || (!(Dp a.Suction 0 100000000))))))] ∧ ob = []) [] J ?_ ?_
 refine vH (Al 2 [.o 1 0] I J1 (vU (Du a.Head 0 100000000 _ I) (Af 2 I ?_)))
 rcases bt ((!(Dp a.Head 0 100000000))) with b | b
 refine Ad 7 I b (Af 12 I (vI ?_))
 exact lf I2 ⟨(D1 (by simp only [b, bz])), J⟩ [] I
 refine Ad 7 I b (Al 2 [.o 1 0] I J1 (Bf I I I (vU (Du a.Fall 0 100000 _ I) (Af 3 I ?_))))
 rcases bt ((!(Dp a.Fall 0 100000))) with d | d
 refine Ad 13 I d (Af 6 I (vI ?_))
 exact lf I2 ⟨(D1 (by simp only [b, d, bz])), J⟩ [] I
 refine Ad 13 I d (Al 2 [.o 1 0] I J1 (Bf I I I (vU (Du a.Suction 0 100000000 _ I) (Af 3 I (vI ?_)))))
 exact lf I2 ⟨(D1 (by simp only [b, d, bz])), J⟩ [] I
 rintro s ob ⟨rfl, rfl⟩
 obtain rfl := h
 exact vO pr
theorem iV (a : Nw) (r : Bool) (h : Xp a = some r) : ACalls Ai 140 [.agg (Ab a)] [] (RB r) := by
 refine Ag Tryz.func140 I I I fun C hC => ?_
 refine Aa fun p d => vH (vJ [] I (Bh (Ab a) 6 fun t => Af 1 I (vI ?_)))
 subst d
 refine Aa fun u e => vM ?_
 obtain ⟨w, f, h⟩ := Ac h
 refine vH (Al 2 [.o 1 0] I J1 (vU (Vk _ (.v (.func (.func 163) #[] #[])) I (fun x => Wx x) (fun x r h => fU x r h) _ f) (vI (Ao h I ?_ ?_))))
 intro g h
 refine Aj I (vP g0 ?_)
 cases io h
 exact vO pr
 intro g h
 refine vL ?_
 subst e
 refine Aa fun y i => vM ?_
 obtain ⟨A, j, h⟩ := Ac h
 refine vH (Al 2 [.o 1 0] I J1 (vU (iU _ (.v (.func (.func 166) #[] #[])) I (fun x => some (Lo x)) (fun x r h => by obtain I := oi h; exact gA x _ I) _ j) (vI (Ao h I ?_ ?_))))
 intro k h
 refine Aj I (vP g0 ?_)
 cases io h
 exact vO pr
 intro k h
 refine vL ?_
 subst i
 refine vM (vM ?_)
 obtain ⟨B, l, h⟩ := Ac h
 refine vH (Al 2 [.o 1 0] I J1 (vU (gJ _ (.v (.func (.func 169) #[] #[])) I (fun x => some (Lz x)) (fun x r h => by obtain I := oi h; exact iS x _ I) _ l) (vI (Ao h I ?_ ?_))))
 intro n h
 refine Aj I (vP g0 ?_)
 cases io h
 exact vO pr
 intro n h
 refine vL (Ah (fun s ob => s = [(2, .v (.bool ((Dp a.Vapour (-100000) 100000000) && (Dp a.Settle 0 100))))] ∧ ob = []) [] J ?_ ?_)
 refine vH (Al 2 [.o 1 0] I J1 (vU (Du a.Vapour (-100000) 100000000 _ I) (Af 1 I ?_)))
 rcases bt ((Dp a.Vapour (-100000) 100000000)) with b | b
 refine Ad 15 I b (Al 2 [.o 1 0] I J1 (Bf I I I (vU (Du a.Settle 0 100 _ I) (Af 2 I (vI ?_)))))
 exact lf I2 ⟨(D1 (by simp only [b, bz])), J⟩ [] I
 refine Ad 15 I b (Af 5 I (vI ?_))
 exact lf I2 ⟨(D1 (by simp only [b, bz])), J⟩ [] I
 rintro s ob ⟨rfl, rfl⟩
 cases io h
 exact vO pr
theorem gV (a : Bt) (r : Bool) (h : Xf a = some r) : ACalls Ai 136 [.v (.string a)] [] (RB r) := by
 refine Ag Tryz.func136 I I I fun C hC => ?_
 refine Aj I (vM ?_)
 obtain ⟨d, b, h⟩ := Ac h
 refine vH (Af 1 I (vU (iX _ _ b) (Af 2 I (vI ?_))))
 cases io h
 exact vO pr
theorem Kw (a : Nw) (r : Int) (h : En a = some r) : ACalls Ai 87 [.agg (Ab a)] [] (RV (.V r)) := by
 refine Ag Tryz.func87 I I I fun C hC => ?_
 refine Aa fun Y i => vH (vJ [] I (Bh (Ab a) 6 fun d => Af 1 I (vI ?_)))
 subst i
 refine Aa fun Z j => vM ?_
 obtain ⟨r4, l, h⟩ := Ac h
 refine vH (Al 1 [.o 0 0] I J1 (vU (hM _ _ l) (Af 1 I (vI (Ao h I ?_ ?_)))))
 intro n h
 refine Aj I (vP g0 ?_)
 cases io h
 exact vO pr
 intro n h
 refine vL ?_
 subst j
 refine Ah (fun s ob => ∃ (e : Unit), En.J1 a e = some r ∧ s = [] ∧ ob = [O0 d [Ab a]]) [(1, _)] J1 ?_ ?_
 refine Aa fun ab t => ?_
 obtain ⟨ac, u, h⟩ := Ac h
 refine vH (Al 1 [.o 0 0] I J1 (vJ [] I (Bp I I I (Wm _ _ u) dS ?_)))
 rintro _ _ ⟨rfl, rfl⟩
 refine Af 1 I (vI ?_)
 subst t
 refine vN ?_
 have w : (4 : Nat) ≤ 9223372036854775806 := by decide
 obtain ⟨ad, y, f⟩ := Ac h
 refine Gi y (K2 1 9) J2 (fun (b : Nat) (g : Unit) s ob => s = [(10, .V (b : Int))] ∧ ob = [O0 d [Ab a]]) ⟨I, I⟩ ⟨I, J⟩ (pk [0]) ?_ ?_
 rintro b g ae s ob A ⟨rfl, rfl⟩ h B
 have D : decide ((b : Int) < 4) = true := decide_eq_true (by omega)
 refine Aj I (Aa fun af E => Cl I D (vL ?_))
 subst E
 refine vM (vN (vM ?_))
 obtain ⟨F, ⟨G, H⟩, h⟩ := Ba h
 refine vH (Ch (Gl (m := F.1) I I I I I I I G H (hlen := Arr.h _)) I (Af 1 I (vI (vM ?_))))
 obtain ⟨ag, K, h⟩ := Ac h
 refine vH (Af 1 I (vU (hT _ (.v (.func (.func 136) #[] #[])) I (fun x => Xf x) (fun x r h => gV x r h) _ K) (vI (Ao h I ?_ ?_))))
 intro M h
 refine Aj I ?_
 obtain rfl := B _ (oi h).symm
 have h := f
 have h := Do h
 refine vP g0 ?_
 cases io h
 exact vO pr
 intro M h
 refine vL (vH (Al 2 [.k 0 (b + 1 : Nat)] I ⟨Bj A w, J⟩ ?_))
 cases io h
 exact vI ⟨_, _, _, I, I2, J3, pk [0]⟩
 rintro g s ob ⟨rfl, rfl⟩ he
 subst he
 have h := Dn f
 have N : decide (((4 : Nat) : Int) < 4) = false := by simp
 exact Aj I (Aa fun ah ai => Cm I N (vQ (lg ⟨(), h, I2⟩ [0])))
 rintro s ob ⟨e, h, rfl, rfl⟩
 refine vM (vN (Aa fun aj O => ?_))
 obtain ⟨ak, P, h⟩ := Ac h
 refine vH (Al 1 [.o 0 0] I J1 (vU (fX _ _ P) (Af 1 I (vI ?_))))
 subst O
 refine Ao h I ?_ ?_
 intro Q h
 refine Aj I (vP g0 ?_)
 cases io h
 exact vO pr
 intro Q h
 refine Aa fun al R => ?_
 obtain ⟨am, S, h⟩ := Ac h
 refine vH (Al 1 [.o 0 0] I J1 (vU (iZ _ _ S) (Af 2 I (vI ?_))))
 subst R
 refine Ao h I ?_ ?_
 intro U h
 refine Aj I (vP g0 ?_)
 cases io h
 exact vO pr
 intro U h
 refine vM ?_
 obtain ⟨an, W, h⟩ := Ac h
 refine vH (Al 1 [.o 0 0] I J1 (vU (iV _ _ W) (Af 2 I (vI (Ao h I ?_ ?_)))))
 intro X h
 refine Aj I (vP g0 ?_)
 cases io h
 exact vO pr
 intro X h
 refine vL (Aj I (vP g0 ?_))
 cases io h
 exact vO pr
theorem Vr (d : Nat) (a : flow_streams) (j : Int) (n : Int) (p : Int) (r : flow_streams) (h : Jk a j n p = some r) : ACalls Ai 153 [.P d, .V j, .V n, .V p] [aL d [a.come.l.map cI ++ (a.leave.l.map cI ++ [])]] (E7 1 fun x os new => x = .tup [] ∧ os = [aL d [r.come.l.map cI ++ (r.leave.l.map cI ++ [])]] ∧ new = []) := by
 refine Ag Tryz.func153 I I I fun C hC => ?_
 unfold Jk at h
 refine Ah (fun s ob => ∃ (b : Int × Int × Int), Jk.J1 a b = some r ∧ s = [(1, .V b.1), (2, .V b.2.1), (3, .V b.2.2)] ∧ ob = [aL d [a.come.l.map cI ++ (a.leave.l.map cI ++ [])]]) [(0, _)] J1 ?_ ?_
 refine Aj I (Ao h I ?_ ?_)
 intro A h
 exact Yl I (lg ⟨(n, j, wr (0 - p)), h, I2⟩ [0])
 intro A h
 exact vL (lg ⟨(j, n, p), h, I2⟩ [0])
 rintro s ob ⟨b, h, rfl, rfl⟩
 unfold Jk.J1 at h
 refine Ah (fun s ob => ∃ (f : Arr Int 24), Jk.J2 a b f = some r ∧ s = [] ∧ ob = [aL d [a.come.l.map cI ++ (f.l.map cI ++ [])]]) (K3 0 2 3) J3 ?_ ?_
 refine Aj I (Ao h I ?_ ?_)
 intro B h
 obtain ⟨e, ⟨u, g⟩, h⟩ := Ba h
 exact Bi (sl 11 0 (.drop 11 .nil)) [0] [_] I (A9 4 I (vX I (I8 (m := e.1) I I I I I I u (Nq g)) I (AP.o I (Bv 0 0 (24 + e.1) I I I I (by omega) (y := .V e.2) (lV (k := 24) (by simp [Arr.h, Bq]) (Y3 g))) I (A9 4 I (vX I (I8 (m := e.1) I I I I I I u (Nq g)) I (vZ [0] I I I (vT 0 0 (24 + e.1) (es' := [a.come.l.map cI ++ ((a.leave.set e.1 (wr (e.2 + b.2.2))).l.map cI ++ [])]) I I I I (by omega) I I I (dA (Nq g) (by simp [Arr.h, Bq])) I (congrArg (fun r => [r]) (X5 (k := 24) (by simp [Arr.h, Bq]) (M6 (Wr g)))) (An (vI (lg ⟨(a.leave.set e.1 (wr (e.2 + b.2.2))), h, I2⟩ [0]))))))))))
 intro B h
 exact vL (lg ⟨a.leave, h, I2⟩ [0])
 rintro s ob ⟨f, h, rfl, rfl⟩
 refine Aj I (Ao h I ?_ ?_)
 intro D h
 obtain ⟨c, ⟨w, i⟩, h⟩ := Ba h
 refine Bi (sl 11 0 (.drop 11 .nil)) [0] [_] I (A9 4 I (vX I (I8 (m := c.1) I I I I I I w (Nq i)) I (AP.o I (Bv 0 0 (0 + c.1) I I I I (by omega) (y := .V c.2) (by rw [Nat.zero_add]; exact Y3 i)) I (A9 4 I (vX I (I8 (m := c.1) I I I I I I w (Nq i)) I (vZ [0] I I I (vT 0 0 (0 + c.1) (es' := [(a.come.set c.1 (wr (c.2 + b.2.2))).l.map cI ++ (f.l.map cI ++ [])]) I I I I (by omega) I I I (dA (Nq i) (by simp [Arr.h, Bq])) I (congrArg (fun r => [r]) (by rw [Nat.zero_add]; exact M6 (Wr i))) (An ?_))))))))
 cases io h
 exact vI ⟨.inl I, [], [aL d [(a.come.set c.1 (wr (c.2 + b.2.2))).l.map cI ++ (f.l.map cI ++ [])]], J, Cy I (Cf), ⟨[aL d [(a.come.set c.1 (wr (c.2 + b.2.2))).l.map cI ++ (f.l.map cI ++ [])]], [], I5⟩⟩
 intro D h
 cases io h
 refine vL ?_
 exact ⟨.inl I, [], [aL d [a.come.l.map cI ++ (f.l.map cI ++ [])]], J, Cy I (Cf), ⟨[aL d [a.come.l.map cI ++ (f.l.map cI ++ [])]], [], I5⟩⟩
theorem Vf (a : Nw) (c : Plan) (r : flow_streams) (h : Jh a c = some r) : ACalls Ai 131 [.agg (Ab a), .agg (Ak c)] [] (RV (.agg (Bq r))) := by
 refine Ag Tryz.func131 I I I fun C hC => ?_
 unfold Jh at h
 refine Aa fun y1 G => vH (vJ [] I (Bh (Ab a) 6 fun u => vJ [] I (Bh (Ak c) 3 fun t => vJ [] I (Bm ((Arr.rep 24 (0 : Int)).l.map cI ++ ((Arr.rep 24 (0 : Int)).l.map cI ++ [])) 48 fun i => vI ?_))))
 subst G
 refine Aa fun y5 H => vH (vJ [] I (Bm ((Arr.rep 24 (0 : Int)).l.map cI ++ ((Arr.rep 24 (0 : Int)).l.map cI ++ [])) 48 fun e => vI ?_))
 subst H
 refine Ah (fun s ob => ∃ (j : (Arr Int 24) × (Arr Int 24)), Jh.J1 a c j = some r ∧ s = [] ∧ ob = [O0 u [Ab a], O1 t [Ak c], aL i [(Arr.rep 24 (0 : Int)).l.map cI ++ ((Arr.rep 24 (0 : Int)).l.map cI ++ [])], aL e [j.1.l.map cI ++ (j.2.l.map cI ++ [])]]) (K4 2 3 4 5) J4 ?_ ?_
 refine Bl [.o 1 0, .l 2 (a.Segments.length : Int)] I ⟨A8, I, J⟩ (vN (Cu 11 I fun K => ?_))
 obtain ⟨ak, M, O⟩ := Ac h
 refine Dm M (K6 2 3 4 5 11 12) J6 (fun (n : Nat) (f : (Arr Int 24) × (Arr Int 24)) s ob => s = [(13, .V (n : Int))] ∧ ob = [O0 u [Ab a], O1 t [Ak c], aL i [(Arr.rep 24 (0 : Int)).l.map cI ++ ((Arr.rep 24 (0 : Int)).l.map cI ++ [])], aL e [f.1.l.map cI ++ (f.2.l.map cI ++ [])]]) ⟨I, I⟩ ⟨I, J⟩ (pk N4) ?_ ?_
 rintro n w f al s ob P A ⟨rfl, rfl⟩ h
 have Q := Df A
 refine Aj I (Aa fun am R => Cl I Q (vL ?_))
 subst R
 refine vM (vN (vM (vH (Al 3 [.x 1 n (Ap w)] I ⟨⟨I, Ae P⟩, J⟩ (vJ [] I (Bm W4 7 fun an => Af 1 I (vJ [4] I (A3 4 0 0 [Ap w] I (vI ?_)))))))))
 obtain ⟨B, ⟨S, U⟩, h⟩ := Ba h
 obtain ⟨ao, W, h⟩ := Ac h
 refine Bi (pd 10 0 [9]) [4, 1] [_, _] I (Br 9 [.o 1 0, .o 3 0, .o 5 1, .x 7 B.1 (rI B.2)] I ⟨⟨S, Ae U⟩, I, I, I, J⟩ (vK [3] I I I (A1 [3] (Vr e _ _ _ _ _ W) ?_)))
 refine An (vI (vH (Al 2 [.k 0 (n + 1 : Nat)] I ⟨Bj A K, J⟩ ?_)))
 cases io h
 exact vI (lg I2 N4)
 rintro f s ob ⟨rfl, rfl⟩ he
 subst he
 have h := O
 have X := Dg a.Segments.length
 exact Aj I (Aa fun ap aq => Cm I X (vQ (lg ⟨(f.1, f.2), h, I2⟩ N4)))
 rintro s ob ⟨j, h, rfl, rfl⟩
 unfold Jh.J1 at h
 refine Ah (fun s ob => ∃ (b : (Arr Int 24) × (Arr Int 24)), Jh.J2 b = some r ∧ s = [] ∧ ob = [aL i [(Arr.rep 24 (0 : Int)).l.map cI ++ ((Arr.rep 24 (0 : Int)).l.map cI ++ [])], aL e [b.1.l.map cI ++ (b.2.l.map cI ++ [])]]) (K2 4 5) J2 ?_ ?_
 refine Bl [.o 1 0, .l 2 (a.Ports.length : Int)] I ⟨A8, I, J⟩ (vN (Cu 30 I fun Y => ?_))
 obtain ⟨ar, Z, aa⟩ := Ac h
 refine Dm Z (K5 3 4 5 30 31) J5 (fun (p : Nat) (g : (Arr Int 24) × (Arr Int 24)) s ob => s = [(32, .V (p : Int))] ∧ ob = [O1 t [Ak c], aL i [(Arr.rep 24 (0 : Int)).l.map cI ++ ((Arr.rep 24 (0 : Int)).l.map cI ++ [])], aL e [g.1.l.map cI ++ (g.2.l.map cI ++ [])]]) ⟨I, I⟩ ⟨I, J⟩ (pk [1, 2, 3]) ?_ ?_
 rintro p D g au s ob ab E ⟨rfl, rfl⟩ h
 have ac := Df E
 refine Aj I (Aa fun av ad => Cl I ac (vL ?_))
 subst ad
 refine vM (vN (vM (vH (Al 3 [.x 1 p (Cc D)] I ⟨⟨I, Ae ab⟩, J⟩ (vJ [] I (Bm W6 3 fun aw => Af 1 I (vJ [3] I (A3 3 0 0 [Cc D] I (vI ?_)))))))))
 obtain ⟨F, ⟨ae, af⟩, h⟩ := Ba h
 obtain ⟨ax, ag, h⟩ := Ac h
 refine Bi (pd 8 0 [7]) [3, 0] [_, _] I (Br 7 [.o 1 0, .o 3 1, .x 5 F.1 (rI F.2)] I ⟨⟨ae, Ae af⟩, I, I, J⟩ (vK [2] I I I (A1 [2] (Vr e _ _ _ _ _ ag) ?_)))
 refine An (vI (vH (Al 2 [.k 0 (p + 1 : Nat)] I ⟨Bj E Y, J⟩ ?_)))
 cases io h
 exact vI (lg I2 N3)
 rintro g s ob ⟨rfl, rfl⟩ he
 subst he
 have h := aa
 have ah := Dg a.Ports.length
 exact Aj I (Aa fun ay az => Cm I ah (vQ (lg ⟨(g.1, g.2), h, I2⟩ [1, 2])))
 rintro s ob ⟨b, h, rfl, rfl⟩
 unfold Jh.J2 at h
 refine vM (vH (vS (Bv 1 0 0 I I I I I (y := .agg (b.1.l.map cI ++ (b.2.l.map cI ++ []))) (Mw I (by simp [Arr.h, Bq]))) I (vJ [0] I (vT 0 0 0 (es' := [b.1.l.map cI ++ (b.2.l.map cI ++ [])]) I I I I I I I (by simp [Arr.h, Bq]) (by simp [Arr.h, Bq]) I (congrArg (fun r => [r]) (Mu (by simp [Arr.h, Bq]))) (vI (Cd [0] I ?_))))))
 cases io h
 exact vO ⟨.inr I, [_], [], ⟨⟨0, _, _, _, _, _, _, _, I, I, I, I, (Mw I (by simp [Arr.h, Bq]))⟩, J⟩, Cf, I2⟩
theorem iQ (a : Int) (r : Bool) (h : Oo a = r) : ACalls Ai 130 [.V a] [] (RB r) := by
 refine Ag Tryz.func130 I I I fun C hC => ?_
 unfold Oo at h
 refine Aj I (vM (vH (Af 1 I (vU (Vx a 1000 _ I) (Af 2 I (vI ?_))))))
 obtain rfl := h
 exact vO pr
theorem Ij (e : Nw) (f : Plan) (r : Int) (h : Gp e f = some r) : ACalls Ai 86 [.agg (Ab e), .agg (Ak f)] [] (RV (.V r)) := by
 refine Ag Tryz.func86 I I I fun C hC => ?_
 refine Aa fun y1 G => vH (vJ [] I (Bh (Ab e) 6 fun w => vJ [] I (Bh (Ak f) 3 fun A => Af 1 I (vI ?_))))
 subst G
 refine Aa fun y4 H => vM ?_
 obtain ⟨r5, K, h⟩ := Ac h
 refine vH (Al 1 [.o 0 0] I J1 (vU (Kw _ _ K) (Af 1 I (vI (Aj I (Ao h I ?_ ?_))))))
 intro M h
 refine Aj I (vP g0 ?_)
 cases io h
 exact vO pr
 intro M h
 refine vL ?_
 subst H
 refine Aa fun y8 O => D2 38 (((f.Rates.length : Int) != (e.Segments.length : Int)) || (((f.Ports.length : Int) != (e.Ports.length : Int)) || ((f.Pumps.length : Int) != (e.Stations.length : Int)))) ?_ ?_
 refine vH (Al 8 [.o 1 1, .l 2 (f.Rates.length : Int), .o 4 0, .l 5 (e.Segments.length : Int)] I ⟨A8, I, A8, I, J⟩ ?_)
 rcases bt (((f.Rates.length : Int) != (e.Segments.length : Int))) with g | g
 exact Ad 21 I g (Af 17 I (vI (jf (by simp only [g, bz]) I I I2)))
 refine Ad 21 I g (Al 9 [.o 1 1, .l 2 (f.Ports.length : Int), .o 4 0, .l 5 (e.Ports.length : Int)] I ⟨A8, I, A8, I, J⟩ ?_)
 rcases bt (((f.Ports.length : Int) != (e.Ports.length : Int))) with j | j
 exact Ad 30 I j (Af 8 I (vI (jf (by simp only [g, j, bz]) I I I2)))
 exact Ad 30 I j (Al 8 [.o 1 1, .l 2 (f.Pumps.length : Int), .o 4 0, .l 5 (e.Stations.length : Int)] I ⟨A8, I, A8, I, J⟩ (vI (jf (by simp only [g, j, bz]) I I I2)))
 refine Ao h I ?_ ?_
 intro P h
 refine Aj I (vP g0 ?_)
 cases io h
 exact vO pr
 intro P h
 refine vL ?_
 subst O
 refine Ah (fun s ob => ∃ (B : Unit), Gp.J1 e f B = some r ∧ s = [] ∧ ob = [O0 w [Ab e], O1 A [Ak f]]) (K2 2 3) J2 ?_ ?_
 refine Bl [.o 1 0, .l 2 (e.Segments.length : Int)] I ⟨A8, I, J⟩ (vN (Cu 40 I fun Q => ?_))
 obtain ⟨ap, R, D⟩ := Ac h
 refine Cv R (K4 2 3 40 41) J4 (fun (n : Nat) (E : Unit) s ob => s = [(42, .V (n : Int))] ∧ ob = [O0 w [Ab e], O1 A [Ak f]]) ⟨I, I⟩ ⟨I, J⟩ (pk [0, 1]) ?_ ?_
 rintro n t E aq s ob S F ⟨rfl, rfl⟩ h U
 have W := Df F
 refine Aj I (Aa fun ar X => Cl I W (vL ?_))
 subst X
 refine vM (vN (Aa fun au Y => vH (Al 3 [.x 1 n (Ap t)] I ⟨⟨I, Ae S⟩, J⟩ (vJ [] I (Bm W4 7 fun av => Af 1 I (vJ [2] I (A3 2 0 0 [Ap t] I (vI ?_))))))))
 subst Y
 refine vM ?_
 obtain ⟨u, ⟨Z, aa⟩, h⟩ := Ba h
 refine Bi (pd 10 0 [8]) [1, 2] [_, _] I (Br 8 [.o 1 0, .x 3 u.1 (rI u.2), .o 6 1] I ⟨I, ⟨Z, Ae aa⟩, I, J⟩ (wE I (Vx u.2 (min 1000 t.Capacity) _ I) (A9 1 I (An (vI (Ao h I ?_ ?_))))))
 intro ab h
 refine Aj I ?_
 obtain rfl := U _ (oi h).symm
 have h := D
 have h := Do h
 refine vP g0 ?_
 cases io h
 exact vO pr
 intro ab h
 refine vL (vH (Al 2 [.k 0 (n + 1 : Nat)] I ⟨Bj F Q, J⟩ ?_))
 cases io h
 exact vI ⟨_, _, _, I, I2, J5, pk [0, 1]⟩
 rintro E s ob ⟨rfl, rfl⟩ he
 subst he
 have h := Dn D
 have ac := Dg e.Segments.length
 exact Aj I (Aa fun aw ax => Cm I ac (vQ (lg ⟨(), h, I2⟩ [0, 1])))
 rintro s ob ⟨B, h, rfl, rfl⟩
 refine Aa fun ay ad => vM ?_
 obtain ⟨az, ae, h⟩ := Ac h
 refine vH (Al 2 [.o 1 1] I J1 (vU (Vn _ (.v (.func (.func 130) #[] #[])) I (fun x => some (Oo x)) (fun x r h => by obtain I := oi h; exact iQ x _ I) _ ae) (vI (Ao h I ?_ ?_))))
 intro af h
 refine Aj I (vP g0 ?_)
 cases io h
 exact vO pr
 intro af h
 refine vL ?_
 subst ad
 refine Aa fun a0 ag => vM ?_
 obtain ⟨i, ah, h⟩ := Ac h
 refine vH (Al 2 [.o 0 0, .o 1 1] I J2 (vJ [] I (Bp I I I (Vf _ _ _ ah) dS ?_)))
 rintro _ _ ⟨rfl, rfl⟩
 refine vJ [] I (Bm ((Arr.rep 24 (0 : Int)).l.map cI ++ ((Arr.rep 24 (0 : Int)).l.map cI ++ [])) 48 fun a1 => vJ [2] I (vT 2 0 0 (es' := [i.come.l.map cI ++ (i.leave.l.map cI ++ [])]) I I I I I I I (by simp [Arr.h, Bq]) (by simp [Arr.h, Bq]) I (congrArg (fun r => [r]) (Mu (by simp [Arr.h, Bq]))) (vI (vM (vH (Af 1 I (vS (Bv 2 0 0 I I I I I (y := .agg (i.come.l.map cI)) (Pe I (by simp [Arr.h, Bq]))) I (Af 1 I (vS (Bv 2 0 24 I I I I I (y := .agg (i.leave.l.map cI)) (eP (k := 24) I I (by simp [Arr.h, Bq]) (Pe I (by simp [Arr.h, Bq])))) I (Ch (mZ (a := i.come) (b := i.leave) I I I I I bY I I I) I (vI (Ao h I ?_ ?_))))))))))))
 intro ai h
 refine Aj I (vP g0 ?_)
 cases io h
 exact vO pr
 intro ai h
 refine vL ?_
 subst ag
 refine vM (vM ?_)
 obtain ⟨a2, aj, h⟩ := Ac h
 refine Bi (.still 0 (.still 1 (sl 3 4 (.act 2 (.act 3 (.still 7 .nil)))))) [0, 1] [_, _] I (Br 5 [.o 0 0, .o 1 1, .o 3 0, .l 4 (e.Nodes.length : Int)] I ⟨A8, I, I, I, J⟩ (vK [] I I I (Bp I I I (gL _ _ _ aj) dS ?_)))
 rintro _ _ ⟨a3, rfl, rfl⟩
 refine vK [] I I I (Ay (By 3 I I I I) dS (A9 1 I (An (vI (Ao h I ?_ ?_)))))
 intro ak h
 refine Aj I (vP g0 ?_)
 cases io h
 exact vO pr
 intro ak h
 refine vL (Aj I (vP g0 ?_))
 cases io h
 exact vO pr
end Go.Proofs.YtmaamhgjeampmaaGreat
