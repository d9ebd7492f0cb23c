/- Walks that show what functions of the program compute; printed by a program of ours. No condition. -/
import Derived.Test.YtkhcdkioehdndaaGreatDoorZwL2
set_option maxRecDepth 100000
namespace Go.Proofs.YtkhcdkioehdndaaGreatDoor
open Go.Aw
set_option linter.unusedVariables false
set_option linter.unusedSimpArgs false
set_option maxHeartbeats 4000000
abbrev Ub : PL := sl 7 0 (sl 3 8 (.two 7 11 (.act 11 (.still 12 (.act 13 (.act 14 (.act 15 .nil))))) (.act 7 (.still 12 (.act 13 (.act 14 (.act 15 .nil)))))))
theorem Tl (a : Product) (r : Arr Int 4) (h : Gp a = r) : ACalls Ae 78 [.agg (As a)] [] (RV (.agg (r.l.map cI))) := by
 refine Aa Tryz.func78 I I I fun C hC => ?_
 unfold Gp at h
 refine Ab fun c b => Z2 (Z4 [] I (Cg (As a) 5 fun d => Z4 [] I (Bz [.V 0, .V 0, .V 0, .V 0] 4 fun e => Z3 ?_)))
 subst b
 refine Z5 (Z2 (Ao 8 [.o 1 0, .o 3 0, .o 5 0, .o 7 0] I J4 (Bi (Rs (l := [.V a.Density, .V a.Expansion, .V a.Compress, .V a.Friction]) I I I I I I) I (Z4 [1] I (Bk 1 0 0 [[.V a.Density, .V a.Expansion, .V a.Compress, .V a.Friction]] I (Z3 (Fy [1] I ?_)))))))
 obtain rfl := h
 exact Z8 ⟨.inr I, [_], [], ⟨⟨0, _, _, _, _, _, _, _, I5⟩, J⟩, Ct, I2⟩
theorem Sq (a : Product) (r : Bool) (h : Ml a = some r) : ACalls Ae 59 [.agg (As a)] [] (RB r) := by
 refine Aa Tryz.func59 I I I fun C hC => ?_
 unfold Ml at h
 refine Ab fun X B => Z2 (Z4 [] I (Cg (As a) 5 fun i => Af 1 I (Z3 ?_)))
 subst B
 refine Ab fun Y D => Z2 (Ao 1 [.o 0 0] I J1 (Z4 [] I (Az I I I (Tl a _ I) dS ?_)))
 rintro _ _ ⟨rfl, rfl⟩
 refine Z4 [] I (Bz [.V 0, .V 0, .V 0, .V 0] 4 fun n => Z4 [1] I (AX.store 1 0 0 (es' := [(Gp a).l.map cI]) I I I I I I I (by simp [Arr.h]) (by simp [Arr.h]) I (congrArg (fun r => [r]) (Nv (by simp [Arr.h]))) (Z3 ?_)))
 subst D
 refine Am (fun s ob => ∃ (t : Unit), Ml.J1 a t = some r ∧ s = [] ∧ ob = [.arr i 49 5 1 [As a]]) [(1, _)] J1 ?_ ?_
 refine Ab fun Z E => Z2 (Z4 [] I (Wi (cs := ([⟨400, 1200⟩, ⟨0, 2000⟩, ⟨0, 5000⟩, ⟨1, 2000⟩] : List product_span).flatMap Dc) (y := .agg (([⟨400, 1200⟩, ⟨0, 2000⟩, ⟨0, 5000⟩, ⟨1, 2000⟩] : List product_span).flatMap Dc)) (List.mem_singleton.2 I) I I dS (Af 1 I (Z3 ?_))))
 subst E
 refine Z6 ?_
 have F : (4 : Nat) ≤ 9223372036854775806 := by decide
 obtain ⟨aa, G, u⟩ := Ac h
 refine Fg G [(1, _), (3, _), (8, _)] J3 (fun (e : Nat) (w : Unit) s ob => s = [(9, .V (e : Int))] ∧ ob = [.arr i 49 5 1 [As a], .arr n 119 4 1 [(Gp a).l.map cI]]) ⟨I, I⟩ ⟨I, J⟩ ⟨[0, 1], I, by decide⟩ ?_ ?_
 rintro e w H s ob K ⟨rfl, rfl⟩ h M
 have N : decide ((e : Int) < 4) = true := decide_eq_true (by omega)
 refine Ak I (Ab fun ab O => B0 I N (Z7 ?_))
 subst O
 refine Z5 (Z6 (Ab fun ac P => ?_))
 obtain ⟨f, ⟨Q, R⟩, h⟩ := Bg h
 refine Z2 (Af 1 I (Bi (Ov (m := f.1) (l := ([⟨400, 1200⟩, ⟨0, 2000⟩, ⟨0, 5000⟩, ⟨1, 2000⟩] : List product_span)) (row := Dc) I I I I I (fun _ => I) I I Q R) I (Z4 [] I (Bz [.V 0, .V 0] 2 fun ad => Af 1 I (Z4 [2] I (Bk 2 0 0 [Dc f.2] I (Z3 ?_)))))))
 subst P
 refine Am (fun s ob => ∃ (j : Bool), Ml.J3 j = some H ∧ s = [(26, .v (.bool j))] ∧ ob = [.arr i 49 5 1 [As a], .arr n 119 4 1 [(Gp a).l.map cI]]) [(1, _), (3, _), (8, _), (9, _)] J4 ?_ ?_
 obtain ⟨b, ⟨A, g⟩, h⟩ := Bg h
 refine Cb (pd 14 0 []) [1, 2] [_, _] I (Aq 1 I (aC I (K2 (m := b.1) I I I I I I A (Uq g)) I (AP.o I (G9 0 0 (0 + b.1) I I I I (by omega) (y := .V b.2) (by rw [Nat.zero_add]; exact Ag g)) I (Dd 4 [.o 1 1] I J1 ?_))))
 rcases bt (decide (b.2 < f.2.least)) with d | d
 have h := C1 d h
 exact Ax 19 I d (Aq 7 I (Ay (Z3 (lg ⟨true, h, I2⟩ [0, 1]))))
 have h := C2 d h
 exact Ax 19 I d (Aq 1 I (A6 I I I I ((K2 (m := b.1) I I I I I I A (Uq g)).yd) dS (A6 I I I I (G9 0 0 (0 + b.1) I I I I (by omega) (y := .V b.2) (by rw [Nat.zero_add]; exact Ag g)) dS (Dd 4 [.o 1 1] I J1 (Ay (Z3 (lg ⟨decide (b.2 > f.2.most), h, I2⟩ [0, 1])))))))
 rintro s ob ⟨j, h, rfl, rfl⟩
 refine Av h I ?_ ?_
 intro S h
 refine Ak I ?_
 obtain rfl := M _ (oi h).symm
 have h := u
 have h := Ef h
 refine aA g0 ?_
 cases io h
 exact Z8 pr
 intro S h
 refine Z7 (Z2 (Ao 2 [.k 0 (e + 1 : Nat)] I ⟨A5 K F, J⟩ ?_))
 cases io h
 exact Z3 ⟨_, _, _, I, I2, J4, [0, 1], I, by decide⟩
 rintro w s ob ⟨rfl, rfl⟩ he
 subst he
 have h := Eo u
 have U : decide (((4 : Nat) : Int) < 4) = false := by simp
 exact Ak I (Ab fun ae af => B7 I U (aB (lg ⟨(), h, I2⟩ [0])))
 rintro s ob ⟨t, h, rfl, rfl⟩
 refine Z5 ?_
 obtain ⟨ag, W, h⟩ := Ac h
 refine Z2 (Ao 2 [.o 1 0] I J1 (By (L9 _ _ W) (Af 1 I (Z3 (aA g0 ?_)))))
 cases io h
 exact Z8 pr
theorem S8 (a : List Product) (F1 : T) {c : FuncId} {d e : List T} (o : Ho F1 = some (c, d, e)) (f : Product → Option Bool) (p : ∀ (g : Product) r, f g = some r → ACalls Ae c (d ++ [.agg (As g)] ++ e) [] (RB r)) (r : Int) (h : Jt a f = some r) : ACalls Ae 80 [Q1 a, F1] [] (RV (.V r)) := by
 refine Aa Tryz.func80 I I I fun C hC => ?_
 unfold Jt at h
 refine Ak I (Am (fun s ob => ∃ (i : Unit), Jt.J1 i = some r ∧ s = [] ∧ ob = []) [] J ?_ ?_)
 refine Bl [.l 1 (a.length : Int)] I ⟨Bc, J⟩ (Z6 (Co 6 I fun q => ?_))
 obtain ⟨G, t, j⟩ := Ac h
 refine Cd t [(0, _), (1, _), (7, _)] J3 (fun (b : Nat) (m : Unit) s ob => s = [(8, .V (b : Int))] ∧ ob = []) ⟨I, I⟩ ⟨I, J⟩ ⟨[], I, by decide⟩ ?_ ?_
 rintro b u m H s ob w n ⟨rfl, rfl⟩ h y
 have A := Do n
 refine Ak I (Ab fun K B => B0 I A (Z7 ?_))
 subst B
 refine Z5 (Z6 (Ak I (Z5 ?_)))
 obtain ⟨M, D, h⟩ := Ac h
 refine Z2 (Ao 5 [.x 3 b (As u)] I ⟨⟨I, Ag w⟩, J⟩ (Z4 [] I (Bo I (.refl _) o I (.rest _) I (p _ _ D) dS (by rintro _ _ ⟨rfl, _⟩; rfl) ?_)))
 rintro _ ⟨_, rfl, -⟩
 refine Z3 (Av h I ?_ ?_)
 intro E h
 refine Ak I ?_
 obtain rfl := y _ (oi h).symm
 have h := j
 have h := Ef h
 cases io h
 exact Z8 pr
 intro E h
 refine Z7 (Z2 (Ao 2 [.k 0 (b + 1 : Nat)] I ⟨A5 n q, J⟩ ?_))
 cases io h
 exact Z3 ⟨_, _, _, I, I2, J4, [], I, by decide⟩
 rintro m s ob ⟨rfl, rfl⟩ he
 subst he
 have h := Eo j
 have F := Dp a.length
 exact Ak I (Ab fun N O => B7 I F (aB (lg ⟨(), h, I2⟩ [])))
 rintro s ob ⟨i, h, rfl, rfl⟩
 unfold Jt.J1 at h
 refine Ak I ?_
 cases io h
 exact Z8 pr
theorem Td (a : Product) (b : Bt) (r : Bool) (h : Gm a b = r) : ACalls Ae 81 [.agg (As a), .eptr (rS b)] [] (RB r) := by
 refine Aa Tryz.func81 I I I fun C hC => ?_
 unfold Gm at h
 refine Z5 (Z2 (Z4 [] I (Cg (As a) 5 fun d => Af 1 I (Z3 (Z5 (Z2 (Ao 3 [.o 1 0] I J1 (Bi (Yp.cmpS (c := O6 a.Name b) I I I) I (Af 1 I (Z3 (aA g0 ?_)))))))))))
 obtain rfl := h
 exact Z8 pr
theorem Sm (b : List Product) (a : Bt) (r : Int) (h : Pf b a = some r) : ACalls Ae 60 [Q1 b, .v (.string a)] [] (RV (.V r)) := by
 refine Aa Tryz.func60 I I I fun C hC => ?_
 refine Z5 (Z2 (Z4 [] I (Cg [.v (.string a)] 1 fun d => Af 1 I (Z3 (Z5 ?_)))))
 obtain ⟨e, c, h⟩ := Ac h
 refine Z2 (Af 1 I (Bi (Yp.makeFunc I I) I (Z4 [] I (Bo I (.refl _) I I (.cons (.refl _) (.cons (.fn (.rest _) (.cons (.box 0 I (.rest _)) (.rest _))) (.rest _))) I (S8 _ (.fn 81 [] [.eptr (rS a)]) I (fun x => some (Gm x a)) (fun x r h => by obtain I := oi h; exact Td x a _ I) _ c) dS (by rintro _ _ ⟨rfl, _⟩; rfl) ?_))))
 rintro _ ⟨_, rfl, -⟩
 refine Af 1 I (Z3 (aA g0 ?_))
 cases io h
 exact Z8 pr
theorem So (a : List Product) (r : Int) (h : Jj a = some r) : ACalls Ae 26 [Q1 a] [] (RV (.V r)) := by
 refine Aa Tryz.func26 I I I fun C hC => ?_
 refine Ak I (Ab fun y2 y => Bl [.l 1 (a.length : Int)] I ⟨Bc, J⟩ (Av h I ?_ ?_))
 intro A h
 refine Ak I ?_
 cases io h
 exact Z8 pr
 intro A h
 refine Z7 ?_
 subst y
 refine Am (fun s ob => ∃ (e : Unit), Jj.J1 a e = some r ∧ s = [] ∧ ob = []) [(0, _)] J1 ?_ ?_
 refine Bl [.l 1 (a.length : Int)] I ⟨Bc, J⟩ (Z6 (Co 10 I fun B => ?_))
 obtain ⟨ab, D, f⟩ := Ac h
 refine Cd D [(0, _), (10, _), (11, _)] J3 (fun (b : Nat) (g : Unit) s ob => s = [(12, .V (b : Int))] ∧ ob = []) ⟨I, I⟩ ⟨I, J⟩ ⟨[], I, by decide⟩ ?_ ?_
 rintro b i g ac s ob E j ⟨rfl, rfl⟩ h F
 have G := Do j
 refine Ak I (Ab fun ad H => B0 I G (Z7 ?_))
 subst H
 refine Z5 (Z6 (Z5 (Z2 (Ao 2 [.x 0 b (As i)] I ⟨⟨I, Ag E⟩, J⟩ (Z4 [] I (Bz W3 5 fun ae => Z4 [0] I (Bk 0 0 0 [As i] I (Z3 (Z5 ?_)))))))))
 obtain ⟨af, K, h⟩ := Ac h
 refine Z2 (Ao 1 [.o 0 0] I J1 (By (Sq _ _ K) (Af 1 I (Z3 (Av h I ?_ ?_)))))
 intro M h
 refine Ak I ?_
 obtain rfl := F _ (oi h).symm
 have h := f
 have h := Ef h
 refine aA g0 ?_
 cases io h
 exact Z8 pr
 intro M h
 refine Z7 (Z2 (Ao 2 [.k 0 (b + 1 : Nat)] I ⟨A5 j B, J⟩ ?_))
 cases io h
 exact Z3 ⟨_, _, _, I, I2, J4, [], I, by decide⟩
 rintro g s ob ⟨rfl, rfl⟩ he
 subst he
 have h := Eo f
 have N := Dp a.length
 exact Ak I (Ab fun ag ah => B7 I N (aB (lg ⟨(), h, I2⟩ [])))
 rintro s ob ⟨e, h, rfl, rfl⟩
 unfold Jj.J1 at h
 refine Am (fun s ob => ∃ (n : Unit), Jj.J2 n = some r ∧ s = [] ∧ ob = []) [] J ?_ ?_
 refine Bl [.l 1 (a.length : Int)] I ⟨Bc, J⟩ (Z6 (Co 20 I fun O => ?_))
 obtain ⟨ai, P, p⟩ := Ac h
 refine Cd P [(0, _), (20, _), (21, _)] J3 (fun (d : Nat) (t : Unit) s ob => s = [(22, .V (d : Int))] ∧ ob = []) ⟨I, I⟩ ⟨I, J⟩ ⟨[], I, by decide⟩ ?_ ?_
 rintro d u t aj s ob Q w ⟨rfl, rfl⟩ h R
 have S := Do w
 refine Ak I (Ab fun ak U => B0 I S (Z7 ?_))
 subst U
 refine Z5 (Z6 (Ab fun al W => Z2 (Ao 3 [.x 1 d (As u)] I ⟨⟨I, Ag Q⟩, J⟩ (Z4 [] I (Bz W3 5 fun am => Af 1 I (Z4 [0] I (Bk 0 0 0 [As u] I (Z3 ?_))))))))
 subst W
 refine Z5 ?_
 obtain ⟨an, X, h⟩ := Ac h
 refine Z2 (Ao 3 [.o 2 0] I J1 (By (Sm _ _ _ X) (Af 2 I (Z3 (Av h I ?_ ?_)))))
 intro Y h
 refine Ak I ?_
 obtain rfl := R _ (oi h).symm
 have h := p
 have h := Ef h
 refine aA g0 ?_
 cases io h
 exact Z8 pr
 intro Y h
 refine Z7 (Z2 (Ao 2 [.k 0 (d + 1 : Nat)] I ⟨A5 w O, J⟩ ?_))
 cases io h
 exact Z3 ⟨_, _, _, I, I2, J4, [], I, by decide⟩
 rintro t s ob ⟨rfl, rfl⟩ he
 subst he
 have h := Eo p
 have Z := Dp a.length
 exact Ak I (Ab fun ao ap => B7 I Z (aB (lg ⟨(), h, I2⟩ [])))
 rintro s ob ⟨n, h, rfl, rfl⟩
 unfold Jj.J2 at h
 refine Ak I ?_
 cases io h
 exact Z8 pr
theorem S4 (e : List Piece) (n : List Batch) (f : List Product) (r : (List Product) × Int) (h : Gk e n f = some r) : ACalls Ae 27 [Q4 e, Q3 n, Q1 f] [] (fun x new => ∃ (u : Value), x = .tup [.v u, .V r.2] ∧ new = [U1 u r.1]) := by
 refine Aa Tryz.func27 I I I fun C hC => ?_
 unfold Gk at h
 refine Ak I (Ak I (Am (fun s ob => ∃ (g : List Product) (a : Value), Gk.J1 g = some r ∧ s = [(8, .v a)] ∧ ob = [U1 a g]) [] J ?_ ?_))
 refine Bl [.l 1 (e.length : Int)] I ⟨Bc, J⟩ (Z6 (Co 12 I fun B => aA (Be 49 5) ?_))
 obtain ⟨Y, D, p⟩ := Ac h
 refine Cd D [(1, _), (2, _), (12, _), (13, _)] J4 (fun (i : Nat) (j : List Product) s ob => ∃ (b : Value), s = [(14, .V (i : Int)), (8, .v b)] ∧ ob = [U1 b j]) ⟨(.slice none 0 0), I2⟩ ⟨I, I, J⟩ ⟨[0], I, by decide⟩ ?_ ?_
 rintro i w j Z s ob E y ⟨b, rfl, rfl⟩ h A
 have F := Do y
 refine Ak I (Ab fun aa G => B0 I F (Z7 ?_))
 subst G
 refine Z5 (Z6 (Ab fun ab H => Z2 (Ao 2 [.x 0 i (A3 w)] I ⟨⟨I, Ag E⟩, J⟩ (Z4 [] I (Bz [.V 0, .V 0] 2 fun ac => Z4 [1] I (Bk 1 0 0 [A3 w] I (Z3 ?_)))))))
 subst H
 refine Ab fun ad K => Bl [.o 1 1, .l 3 (n.length : Int)] I ⟨Bc, I, J⟩ (Av h I ?_ ?_)
 intro M h
 refine Ak I ?_
 obtain rfl := A _ (oi h).symm
 have h := p
 have h := Ef h
 refine aA (Be 49 5) (Fy [2] I ?_)
 cases io h
 exact Z8 ⟨.inr I, [_, _], [.us (.slice none 0 0) 49 5 ([].map As)], J2, Dh I (Ct), ⟨(.slice none 0 0), I2⟩⟩
 intro M h
 refine Z7 ?_
 subst K
 refine Ab fun ae N => ?_
 obtain ⟨c, ⟨O, P⟩, h⟩ := Bg h
 refine Qg [.o 2 1, .x 3 c.1 (Cj c.2)] I ⟨⟨O, Ag P⟩, I, J⟩ ?_
 subst N
 refine Z5 (Fx 36 (decide (c.2.Product < 0) || decide (c.2.Product ≥ (f.length : Int))) ?_ ?_)
 refine Z2 (Af 3 I ?_)
 rcases bt (decide (c.2.Product < 0)) with d | d
 exact Aj 31 I d (Af 5 I (Z3 (jf (by simp only [d, bz]) I I I2)))
 exact Aj 31 I d (Ao 5 [.l 2 (f.length : Int)] I ⟨Bc, J⟩ (Z3 (jf (by simp only [d, bz]) I I I2)))
 refine Av h I ?_ ?_
 intro Q h
 refine Ak I ?_
 obtain rfl := A _ (oi h).symm
 have h := p
 have h := Ef h
 refine aA (Be 49 5) (Fy [2] I ?_)
 cases io h
 exact Z8 ⟨.inr I, [_, _], [.us (.slice none 0 0) 49 5 ([].map As)], J2, Dh I (Ct), ⟨(.slice none 0 0), I2⟩⟩
 intro Q h
 refine Z7 ?_
 obtain ⟨t, ⟨R, S⟩, h⟩ := Bg h
 obtain ⟨af, U, h⟩ := Ac h
 refine Z2 (Ao 5 [.x 3 t.1 (As t.2)] I ⟨⟨R, Ag S⟩, J⟩ (Z4 [] I (aD 5 (([t.2] : List Product).map As) (Z4 [0] I (D7 0 I U fun W => Af 1 I (Z3 (Z2 (Ao 2 [.k 0 (i + 1 : Nat)] I ⟨A5 y B, J⟩ ?_))))))))
 cases io h
 exact Z3 ⟨_, _, _, I, ⟨W, I2⟩, J6, [0], I, by decide⟩
 rintro j s ob ⟨b, rfl, rfl⟩ he
 subst he
 have h := Eo p
 have X := Dp e.length
 exact Ak I (Ab fun ag ah => B7 I X (aB (lg ⟨j, b, h, I2⟩ [0])))
 rintro s ob ⟨g, a, h, rfl, rfl⟩
 unfold Gk.J1 at h
 refine Ak I ?_
 cases io h
 exact Z8 ⟨.inr I, [_, _], [U1 a g], J2, Dh I (Ct), ⟨a, I2⟩⟩
theorem Su (a : Bounds) (r : Bool) (h : Gi a = r) : ACalls Ae 28 [.agg (Dk a)] [] (RB r) := by
 refine Aa Tryz.func28 I I I fun C hC => ?_
 unfold Gi at h
 refine Ab fun e d => Z2 (Z4 [] I (Cg (Dk a) 2 fun f => Af 1 I (Z3 ?_)))
 subst d
 refine Am (fun s ob => s = [(2, .v (.bool (decide (a.Low ≤ a.High) && (decide (a.Low ≥ (-1125899906842624)) && decide (a.High ≤ 1125899906842624)))))] ∧ ob = []) [] J ?_ ?_
 refine Z2 (Ao 6 [.o 1 0, .o 3 0] I J2 ?_)
 rcases bt (decide (a.Low ≤ a.High)) with b | b
 refine Aj 8 I b (Ao 5 [.o 1 0] I J1 ?_)
 rcases bt (decide (a.Low ≥ (-1125899906842624))) with c | c
 refine Aj 13 I c (Ao 5 [.o 1 0] I J1 (Z3 ?_))
 exact lf I2 ⟨(Dl (by simp only [b, c, bz])), J⟩ [] I
 refine Aj 13 I c (Af 5 I (Z3 ?_))
 exact lf I2 ⟨(Dl (by simp only [b, c, bz])), J⟩ [] I
 refine Aj 8 I b (Af 10 I (Z3 ?_))
 exact lf I2 ⟨(Dl (by simp only [b, bz])), J⟩ [] I
 rintro s ob ⟨rfl, rfl⟩
 obtain rfl := h
 exact Z8 pr
theorem Tx (d : Int) (F1 : T) {e : FuncId} {f g : List T} (k : Ho F1 = some (e, f, g)) (i : Int → Option Bool) (l : ∀ (j : Int) r, i j = some r → ACalls Ae e (f ++ [.V j] ++ g) [] (RB r)) (r : Int) (h : Ka d i = some r) : ACalls Ae 84 [.V d, F1] [] (RV (.V r)) := by
 refine Aa Tryz.func84 I I I fun C hC => ?_
 unfold Ka at h
 refine Ak I (Ak I (Am (fun s ob => ∃ (b : Int), Ka.J1 b = some r ∧ s = [(5, .V b)] ∧ ob = []) [] J ?_ ?_))
 refine Z6 ?_
 obtain ⟨A, m, n⟩ := Ac h
 refine Cv m [(1, _)] J1 (fun (a : Int × Int) s ob => s = [(5, .V a.1), (6, .V a.2)] ∧ ob = []) ⟨I, I⟩ ⟨I, I, J⟩ ⟨[], I, by decide⟩ ?_
 rintro a B s ob ⟨rfl, rfl⟩ h o
 refine Ab fun D t => Ak I (Av h I ?_ ?_)
 intro u h
 refine Z7 ?_
 subst t
 refine Z6 (Z5 (Z2 (Af 3 I (Bi (Ex (c := IntKind.u64.wrap (wr (a.1 + a.2))) I I I I I) I (Bi (Xy I I) I (Bi (Ex (c := wr (((IntKind.u64.wrap (wr (a.1 + a.2))).fdiv 2))) I I I I I) I (Af 1 I (Z3 (Z5 ?_)))))))))
 obtain ⟨E, w, h⟩ := Ac h
 refine Z2 (Af 2 I (Z4 [] I (Bo I (.refl _) k I (.rest _) I (l _ _ w) dS (by rintro _ _ ⟨rfl, _⟩; rfl) ?_)))
 rintro _ ⟨_, rfl, -⟩
 refine Af 1 I (Z3 (Av h I ?_ ?_))
 intro y h
 refine Z2 (Af 3 I ?_)
 cases io h
 exact Z3 ⟨_, _, _, I, I2, J3, [], I, by decide⟩
 intro y h
 refine Z2 (Af 2 I ?_)
 cases io h
 exact Z3 ⟨_, _, _, I, I2, J3, [], I, by decide⟩
 intro u h
 obtain rfl := o _ (oi h).symm
 have h := n
 exact aB (lg ⟨a.1, h, I2⟩ [])
 rintro s ob ⟨b, h, rfl, rfl⟩
 unfold Ka.J1 at h
 refine Ak I ?_
 cases io h
 exact Z8 pr
theorem S3 (a : Int) (b : Sg) (c : Int) (r : Bool) (h : Mp a b c = some r) : ACalls Ae 85 [.V a, .eptr (Ai b), .eptr (rI c)] [] (RB r) := by
 refine Aa Tryz.func85 I I I fun C hC => ?_
 refine Ak I (Z5 ?_)
 obtain ⟨d, ⟨e, f⟩, h⟩ := Bg h
 refine Nq (pd 9 0 []) [] [] [.x 3 d.1 (A2 d.2)] I I ⟨⟨e, Ag f⟩, J⟩ ?_
 cases io h
 exact Z8 pr
theorem Sl (a : Sg) (b : Int) (r : Int) (h : Mk a b = some r) : ACalls Ae 63 [.agg (Ai a), .V b] [] (RV (.V r)) := by
 refine Aa Tryz.func63 I I I fun C hC => ?_
 refine Z5 (Z2 (Z4 [] I (Cg (Ai a) 7 fun d => Z4 [] I (Cg [.V b] 1 fun e => Af 1 I (Z3 (Z5 ?_))))))
 obtain ⟨f, c, h⟩ := Ac h
 refine Z2 (Ao 4 [.o 1 0, .l 2 (a.Points.length : Int)] I ⟨Bc, I, J⟩ (Bi (Yp.makeFunc I I) I (Z4 [] I (Bo I (.refl _) I I (.cons (.refl _) (.cons (.fn (.rest _) (.cons (.box 0 I (.rest _)) (.cons (.box 1 I (.rest _)) (.rest _)))) (.rest _))) I (Tx _ (.fn 85 [] [.eptr (Ai a), .eptr (rI b)]) I (fun x => Mp x a b) (fun x r h => S3 x a b r h) _ c) dS (by rintro _ _ ⟨rfl, _⟩; rfl) ?_))))
 rintro _ ⟨_, rfl, -⟩
 refine Af 1 I (Z3 (aA g0 ?_))
 cases io h
 exact Z8 pr
theorem Ts (e : Sg) (K : List Piece) (A : List Product) (p : Li) (r : List gradient_part) (h : Mw e K A p = some r) : ACalls Ae 30 [.agg (Ai e), Q4 K, Q1 A, Q0 p] [] (fun x new => ∃ (M : Value), x = .v M ∧ new = [U2 M r]) := by
 refine Aa Tryz.func30 I I I fun C hC => ?_
 refine Ab fun y1 S => Z2 (Z4 [] I (Cg (Ai e) 7 fun t => Af 1 I (Z3 ?_)))
 subst S
 refine Ak I (Ab fun y4 U => ?_)
 obtain ⟨N, ⟨W, X⟩, h⟩ := Bg h
 refine Nq (pd 6 0 []) [] [] [.x 1 N.1 (A3 N.2)] I I ⟨⟨W, Ag X⟩, J⟩ ?_
 subst U
 refine Am (fun s ob => ∃ (B : List gradient_part) (u : Value), Mw.J1 B = some r ∧ s = [(9, .v u)] ∧ ob = [U2 u B]) [] J ?_ ?_
 refine Ak I (Z6 (aA (Be 82 8) ?_))
 obtain ⟨a6, Y, Z⟩ := Ac h
 refine Cv Y [(1, _), (2, _), (3, _), (4, _)] J4 (fun (d : (List gradient_part) × Int × Int × Int) s ob => ∃ (g : Value), s = [(9, .v g), (10, .V d.2.1), (11, .V d.2.2.1), (12, .V d.2.2.2)] ∧ ob = [O1 t [Ai e], U2 g d.1]) ⟨(.slice none 0 0), I2⟩ ⟨I, I, I, I, J⟩ ⟨[0, 1], I, by decide⟩ ?_
 rintro d F s ob ⟨g, rfl, rfl⟩ h aa
 refine Ab fun a7 ab => Bl [.l 2 (p.length : Int)] I ⟨Bc, J⟩ (Av h I ?_ ?_)
 intro ac h
 refine Z7 ?_
 subst ab
 refine Am (fun s ob => ∃ (w : (List gradient_part) × Int × Int) (D : Value), Mw.J3 d w = some F ∧ s = [(9, .v D), (10, .V w.2.1), (11, .V w.2.2)] ∧ ob = [O1 t [Ai e], U2 D w.1]) [(1, _), (2, _), (3, _), (4, _), (12, _)] J5 ?_ ?_
 refine Z6 (Am (fun s ob => ∃ (i : Int × Int), Mw.J4 e A p d i = some F ∧ s = [(10, .V i.1), (11, .V i.2)] ∧ ob = [O1 t [Ai e], U2 g d.1]) [(1, _), (2, _), (3, _), (4, _), (9, _), (12, _)] J6 ?_ ?_)
 refine Z6 ?_
 obtain ⟨a8, ad, ae⟩ := Ac h
 refine Cv ad [(1, _), (2, _), (3, _), (4, _), (9, _), (12, _)] J6 (fun (y : Int × Int) s ob => s = [(10, .V y.1), (11, .V y.2)] ∧ ob = [O1 t [Ai e], U2 g d.1]) ⟨I, I⟩ ⟨I, I, J⟩ ⟨[0, 1], I, by decide⟩ ?_
 rintro y a9 s ob ⟨rfl, rfl⟩ h af
 refine Ab fun ba ag => Z5 ?_
 obtain ⟨O, ⟨ah, ai⟩, h⟩ := Bg h
 refine Qg [.x 2 O.1 (rI O.2)] I ⟨⟨ah, Ag ai⟩, J⟩ (Av h I ?_ ?_)
 intro aj h
 refine Z7 ?_
 subst ag
 refine Z6 (Ak I ?_)
 obtain ⟨P, ⟨ak, al⟩, h⟩ := Bg h
 refine Z2 (Ao 8 [.x 3 P.1 (A3 P.2)] I ⟨⟨ak, Ag al⟩, J⟩ ?_)
 cases io h
 exact Z3 ⟨_, _, _, I, I2, J8, [0, 1], I, by decide⟩
 intro aj h
 obtain rfl := af _ (oi h).symm
 have h := ae
 exact aB (lg ⟨(y.1, y.2), h, I2⟩ [0, 1])
 rintro s ob ⟨i, h, rfl, rfl⟩
 refine Ab fun bb am => ?_
 obtain ⟨j, ⟨Q, R⟩, h⟩ := Bg h
 obtain ⟨bc, an, h⟩ := Ac h
 refine Cb (pd 7 0 [5]) [0] [_] I (Dd 5 [.o 0 0, .x 3 j.1 (rI j.2)] I ⟨⟨Q, Ag R⟩, I, J⟩ (Nl I (Sl _ _ _ an) (Aq 1 I (Ay (Z3 ?_)))))
 subst am
 refine Am (fun s ob => ∃ (a : Int × Int × Int × Int × Int × Int) (G : Nat) (H : Nat), Mw.J5 A p d i j a = some F ∧ s = [(14, .v (.pointer (some ⟨G, 0, none⟩))), (15, .v (.pointer (some ⟨H, 0, none⟩)))] ∧ ob = [O1 t [Ai e], U2 g d.1, .arr G 35 3 1 [[.V a.1, .V a.2.1, .V a.2.2.1]], .arr H 35 3 1 [[.V a.2.2.2.1, .V a.2.2.2.2.1, .V a.2.2.2.2.2]]]) [(1, _), (2, _), (3, _), (4, _), (9, _), (10, _), (11, _), (12, _)] J8 ?_ ?_
 obtain ⟨k, ⟨ao, aq⟩, h⟩ := Bg h
 obtain ⟨n, ⟨ar, au⟩, h⟩ := Bg h
 refine Cb (sl 11 0 (.par [(11, []), (12, [])] (.act 13 (.act 14 .nil)))) [0] [_] I (Dd 11 [.o 1 0, .x 4 k.1 (A2 k.2), .o 7 0, .x 9 n.1 (A2 n.2)] I ⟨⟨ar, Ag au⟩, I, ⟨ao, Ag aq⟩, I, J⟩ (AP.any [⟨11, [], 14, .box 35 3 (W1)⟩, ⟨12, [], 15, .box 35 3 (W1)⟩] I ⟨⟨_, I, I, I, fun _ => Bz W1 3 fun b => ⟨_, I, ⟨b, I⟩, I⟩⟩, ⟨_, I, I, I, fun _ => Bz W1 3 fun b => ⟨_, I, ⟨b, I⟩, I⟩⟩, J⟩ ?_))
 intro av aw
 exact Z9 [2] I I I (Bk 2 0 0 [A2 k.2] I (Z9 [3] I I I (Bk 3 0 0 [A2 n.2] I (Ay (Z3 (lg ⟨(k.2.At, k.2.Height, k.2.Limit, n.2.At, n.2.Height, n.2.Limit), av, aw, h, I2⟩ [0, 1, 2, 3]))))))
 rintro s ob ⟨a, G, H, h, rfl, rfl⟩
 obtain ⟨E, ⟨ax, ay⟩, h⟩ := Bg h
 obtain ⟨f, ⟨az, a0⟩, h⟩ := Bg h
 obtain ⟨a1, a2, h⟩ := Ac h
 exact Cb (pd 29 0 [26, 27]) [3, 2] [_, _] I (Dd 25 [.x 3 j.1 (rI j.2), .x 8 E.1 (rI E.2), .o 12 0, .o 14 1, .o 17 0, .o 19 1, .x 23 f.1 (As f.2)] I ⟨⟨az, Ag a0⟩, I, I, I, I, ⟨ax, Ag ay⟩, ⟨Q, Ag R⟩, J⟩ (aC I (Au (l := [.V (wr (j.2 - E.2)), .V (wr (a.2.2.2.1 - a.1)), .V (wr (a.2.2.2.2.1 - a.2.1)), .v (.string f.2.Name), .V f.2.Density, .V f.2.Expansion, .V f.2.Compress, .V f.2.Friction]) P1 I) I (Z9 [] I I I (aD 8 (([(⟨wr (j.2 - E.2), wr (a.2.2.2.1 - a.1), wr (a.2.2.2.2.1 - a.2.1), f.2⟩ : gradient_part)] : List gradient_part).map Ba) (Z9 [1] I I I (D7 1 I a2 fun a3 => Jc 9 (Aq 1 I (Ay (Z3 (lg ⟨(a1, i.1, i.2), a3, h, I2⟩ [0, 1]))))))))))
 rintro s ob ⟨w, D, h, rfl, rfl⟩
 unfold Mw.J3 at h
 refine Z2 (Af 3 I ?_)
 cases io h
 exact Z3 ⟨_, _, _, I, ⟨D, I2⟩, J8, [0, 1], I, by decide⟩
 intro ac h
 obtain rfl := aa _ (oi h).symm
 have h := Z
 exact aB (lg ⟨d.1, g, h, I2⟩ [1])
 rintro s ob ⟨B, u, h, rfl, rfl⟩
 refine Ak I ?_
 obtain rfl := oi h
 exact Z8 ⟨.inr I, [_], [U2 u B], J1, Dh I (Ct), ⟨u, I2⟩⟩
theorem L7 (e : Int) (a : Int) (r : Int × Int × Bool) (h : Gn e a = some r) : ACalls Ae 86 [.V e, .V a] [] (RV (.tup [.V r.1, .V r.2.1, .v (.bool r.2.2)])) := by
 refine Aa Tryz.func86 I I I fun C hC => ?_
 unfold Gn at h
 refine Ak I (Ab fun w l => Fx 22 (decide (a < 1) || (decide (a > 1099511627776) || (decide (e < (-2305843009213693952)) || decide (e > 2305843009213693952)))) ?_ ?_)
 refine Z2 (Af 3 I ?_)
 rcases bt (decide (a < 1)) with b | b
 exact Aj 11 I b (Af 11 I (Z3 (jf (by simp only [b, bz]) I I I2)))
 refine Aj 11 I b (Af 4 I ?_)
 rcases bt (decide (a > 1099511627776)) with d | d
 exact Aj 15 I d (Af 7 I (Z3 (jf (by simp only [b, d, bz]) I I I2)))
 refine Aj 15 I d (Af 4 I ?_)
 rcases bt (decide (e < (-2305843009213693952))) with g | g
 exact Aj 19 I g (Af 3 I (Z3 (jf (by simp only [b, d, g, bz]) I I I2)))
 exact Aj 19 I g (Af 3 I (Z3 (jf (by simp only [b, d, g, bz]) I I I2)))
 refine Av h I ?_ ?_
 intro m h
 refine Ak I ?_
 cases io h
 exact Z8 ⟨.inr I, [_, _, _], [], J3, Ct, I2⟩
 intro m h
 refine Z7 ?_
 subst l
 refine Ab fun y n => ?_
 obtain ⟨i, o, h⟩ := Ac h
 obtain ⟨j, p, h⟩ := Ac h
 refine Nq (pd 8 0 []) [] [] [.f 2 (.V i), .f 5 (.V j)] I I ⟨Yp.yd (Dt (c := j) I I (Kk p)), Yp.yd (Dt (c := i) I I (Va o)), J⟩ ?_
 subst n
 refine Am (fun s ob => ∃ (k : Int × Int), Gn.J1 k = some r ∧ s = [(7, .V k.1), (8, .V k.2)] ∧ ob = []) [] J ?_ ?_
 refine Ak I (Av h I ?_ ?_)
 intro u h
 exact T6 I (lg ⟨(wr (i - 1), wr (j + a)), h, I2⟩ [])
 intro u h
 exact Z7 (lg ⟨(i, j), h, I2⟩ [])
 rintro s ob ⟨k, h, rfl, rfl⟩
 unfold Gn.J1 at h
 refine Ak I ?_
 cases io h
 exact Z8 ⟨.inr I, [_, _, _], [], J3, Ct, I2⟩
theorem L2 (a : Int) (b : Int) (r : Int) (h : Ji a b = some r) : ACalls Ae 64 [.V a, .V b] [] (RV (.V r)) := by
 refine Aa Tryz.func64 I I I fun C hC => ?_
 refine Ak I (Z5 ?_)
 obtain ⟨e, d, h⟩ := Ac h
 refine Z2 (Af 2 I (By (L7 _ _ _ d) (Af 7 I (Z3 (Ak I ?_)))))
 cases io h
 exact Z8 pr
theorem L4 (e : Int) (f : Int) (r : Int) (h : Jo e f = some r) : ACalls Ae 65 [.V e, .V f] [] (RV (.V r)) := by
 refine Aa Tryz.func65 I I I fun C hC => ?_
 refine Ak I (Ab fun k g => ?_)
 obtain ⟨a, i, h⟩ := Ac h
 refine Z2 (Af 2 I (By (L7 _ _ _ i) (Af 7 I (Z3 ?_))))
 subst g
 refine Am (fun s ob => ∃ (d : Int), Jo.J1 d = some r ∧ s = [(5, .V d)] ∧ ob = []) [] J ?_ ?_
 refine Fx 19 (a.2.2 && decide (a.2.1 > 0)) ?_ ?_
 refine Z2 (Af 2 I ?_)
 rcases bt (a.2.2) with b | b
 exact Aj 16 I b (Af 3 I (Z3 (jf (by simp only [b, bz]) I I I2)))
 exact Aj 16 I b (Af 3 I (Z3 (jf (by simp only [b, bz]) I I I2)))
 refine Av h I ?_ ?_
 intro j h
 exact T6 I (lg ⟨wr (a.1 + 1), h, I2⟩ [])
 intro j h
 exact Z7 (lg ⟨a.1, h, I2⟩ [])
 rintro s ob ⟨d, h, rfl, rfl⟩
 unfold Jo.J1 at h
 refine Ak I ?_
 cases io h
 exact Z8 pr
theorem S2 (a : gradient_part) (b : Sg) (d : Int) (r : Int × Int) (h : Mo a b d = some r) : ACalls Ae 34 [.agg (Ba a), .agg (Ai b), .V d] [] (RV (.tup [.V r.1, .V r.2])) := by
 refine Aa Tryz.func34 I I I fun C hC => ?_
 refine Ab fun k e => Z2 (Z4 [] I (Cg (Ba a) 8 fun l => Z4 [] I (Cg (Ai b) 7 fun n => Af 2 I (Z3 ?_))))
 subst e
 refine Ud (pd 18 0 []) [1, 0] [_, _] [.o 1 0, .o 4 1, .o 11 1, .o 14 0] I I J4 (Ud (pd 15 0 []) [0] [_] [.o 2 0, .o 5 0, .o 8 0, .o 11 0] I I J4 (Z5 ?_))
 obtain ⟨p, f, h⟩ := Ac h
 obtain ⟨s, g, h⟩ := Ac h
 obtain ⟨t, i, h⟩ := Ac h
 obtain ⟨u, j, h⟩ := Ac h
 refine Z2 (Af 2 I (By (L2 _ _ _ f) (Af 2 I (By (L2 _ _ _ g) (Af 3 I (By (L4 _ _ _ i) (Af 2 I (By (L4 _ _ _ j) (Af 3 I (Z3 (aA g0 ?_)))))))))))
 cases io h
 exact Z8 ⟨.inr I, [_, _], [], J2, Ct, I2⟩
theorem Sp (a : Li) (r : Li) (h : Jk a = some r) : ACalls Ae 31 [Q0 a] [] (fun x new => ∃ (b : Value), x = .v b ∧ new = [U0 b r]) := by
  refine Aa Tryz.func31 rfl rfl rfl (fun C hC => ?_)
  unfold Jk at h
  obtain ⟨e, d⟩ := F2 h
  refine Z5 ?_
  refine Z2 ?_
  refine Bi (Yp.assign rfl) rfl ?_
  refine Z3 ?_
  refine Z5 ?_
  refine Z5 ?_
  refine Z2 ?_
  refine Bi (Yp.move rfl) rfl ?_
  refine Z4 [] rfl (Wj rfl rfl rfl (Bh rfl) fun c hc => ?_)
  refine Z3 ?_
  refine AW.cond rfl rfl ?_ ?_
  · intro hb
    have hs : a = [] := by have := hc hb; simpa using this
    subst hs
    refine Z5 ?_
    refine Z2 ?_
    refine Bi (Yp.assign rfl) rfl ?_
    refine AO.ghost (Be 3 1) ?_
    refine Z3 ?_
    refine Z8 ?_
    have hr : r = [] := by simpa using d.symm
    subst hr
    exact ⟨.inr rfl, [_], [.us (.slice none 0 0) 3 1 ([].map rI)], ⟨rfl, J⟩, Dh rfl Ct, ⟨_, rfl, rfl⟩⟩
  · intro hb
    refine Z7 ?_
    refine Z5 ?_
    refine Z2 ?_
    refine Z4 [] rfl (aE (sz := 1) (es := []) rfl rfl rfl rfl rfl rfl rfl rfl rfl rfl rfl (Bh rfl) fun g => ?_)
    refine Bi (Yp.move rfl) rfl ?_
    refine Z4 [0] rfl (K7 0 (es' := r.map rI) rfl rfl rfl rfl rfl rfl rfl rfl rfl (AppSrc.list rfl) (by simpa using e) (by rw [← d]; simp) (Bh rfl) fun f => ?_)
    refine Bi (Yp.assign rfl) rfl ?_
    refine Z3 ?_
    refine Z8 ?_
    exact ⟨.inr rfl, [_], [U0 f r], ⟨rfl, J⟩, Dh rfl Ct, ⟨_, rfl, rfl⟩⟩
theorem Sf (f : Value) (n : Li) (r : Li) (h : Pe n = some r) : ACalls Ae 32 [.v f] [U0 f n] (Dz 1 fun x os new => x = .tup [] ∧ os = [U0 f r] ∧ new = []) := by
 refine Aa Tryz.func32 I I I fun C hC => ?_
 refine Ab fun K t => Z2 (Af 1 I (AO.d (Ck 0 I I I I) I (Af 3 I (Z3 ?_))))
 subst t
 refine Z6 ?_
 obtain ⟨M, u, w⟩ := Ac h
 refine Cv u [(0, _)] J1 (fun (c : Li × Int × Int) s ob => s = [(2, .V c.2.1), (3, .V c.2.2)] ∧ ob = [U0 f c.1]) ⟨I, I⟩ ⟨I, I, J⟩ ⟨[0], I, by decide⟩ ?_
 rintro c A s ob ⟨rfl, rfl⟩ h B
 refine Ab fun N D => Ak I (Av h I ?_ ?_)
 intro E h
 refine Z7 ?_
 subst D
 refine Am (fun s ob => ∃ (k : Li), Pe.J2 c k = some A ∧ s = [] ∧ ob = [U0 f k]) [(0, _), (2, _), (3, _)] J3 ?_ ?_
 refine Z6 ?_
 obtain ⟨b, ⟨F, i⟩, h⟩ := Bg h
 obtain ⟨a, ⟨l, e⟩, h⟩ := Bg h
 obtain ⟨g, ⟨o, j⟩, h⟩ := Bg h
 refine A1 0 b.1 I i fun G => A1 0 a.1 I e fun H => A1 0 a.1 I e fun p => Cb Ub [] [] I (Aq 6 I (aC I (An (m := b.1) I I I I I G I F i) I (Aq 2 I (aC I (An (m := a.1) I I I I I H I l e) I (AP.two ?_ ?_)))))
 exact Z9 [] I I I (Bv (Ar 0 b.1 0 I I I (Ag i) I (y := .V b.2) I) dS (Z9 [] I I I (Bv (Ar 0 a.1 0 I I I (Ag e) I (y := .V a.2) I) dS (aC I (An (m := a.1) I I I I I p I l e) I (Z9 [0] I I I (Bw 0 a.1 0 I I I (Ag e) I I I I (Bm I) I (Di (x := b.2) I) (Z9 [] I I I (Bv (Cw 0 (m := g.1) I I I I I I I o (Ag j)) dS (Z9 [0] I I I (Bw 0 g.1 0 I I I (Ag j) I I I I (Bm I) I (Di (x := a.2) I) (Ay (Z3 (lg ⟨((c.1.set a.1 b.2).set g.1 a.2), h, I2⟩ [0])))))))))))))
 exact Z9 [] I I I (Bv (Ar 0 a.1 0 I I I (Ag e) I (y := .V a.2) I) dS (Z9 [] I I I (Bv (Ar 0 b.1 0 I I I (Ag i) I (y := .V b.2) I) dS (aC I (An (m := a.1) I I I I I p I l e) I (Z9 [0] I I I (Bw 0 a.1 0 I I I (Ag e) I I I I (Bm I) I (Di (x := b.2) I) (Z9 [] I I I (Bv (Cw 0 (m := g.1) I I I I I I I o (Ag j)) dS (Z9 [0] I I I (Bw 0 g.1 0 I I I (Ag j) I I I I (Bm I) I (Di (x := a.2) I) (Ay (Z3 (lg ⟨((c.1.set a.1 b.2).set g.1 a.2), h, I2⟩ [0])))))))))))))
 rintro s ob ⟨k, h, rfl, rfl⟩
 unfold Pe.J2 at h
 refine Z2 (Af 6 I ?_)
 cases io h
 exact Z3 ⟨_, _, _, I, I2, J3, [0], I, by decide⟩
 intro E h
 obtain rfl := B _ (oi h).symm
 have h := w
 cases io h
 refine aB ?_
 exact ⟨.inl I, [], [U0 f c.1], J, Dh I (Ct), ⟨[U0 f c.1], [], I5⟩⟩
theorem Tw (f : Value) (n : List gradient_part) (r : List gradient_part) (h : Pl n = some r) : ACalls Ae 33 [.v f] [U2 f n] (Dz 1 fun x os new => x = .tup [] ∧ os = [U2 f r] ∧ new = []) := by
 refine Aa Tryz.func33 I I I fun C hC => ?_
 refine Ab fun K t => Z2 (Af 1 I (AO.d (Ck 0 I I I I) I (Af 3 I (Z3 ?_))))
 subst t
 refine Z6 ?_
 obtain ⟨M, u, w⟩ := Ac h
 refine Cv u [(0, _)] J1 (fun (c : (List gradient_part) × Int × Int) s ob => s = [(2, .V c.2.1), (3, .V c.2.2)] ∧ ob = [U2 f c.1]) ⟨I, I⟩ ⟨I, I, J⟩ ⟨[0], I, by decide⟩ ?_
 rintro c A s ob ⟨rfl, rfl⟩ h B
 refine Ab fun N D => Ak I (Av h I ?_ ?_)
 intro E h
 refine Z7 ?_
 subst D
 refine Am (fun s ob => ∃ (k : List gradient_part), Pl.J2 c k = some A ∧ s = [] ∧ ob = [U2 f k]) [(0, _), (2, _), (3, _)] J3 ?_ ?_
 refine Z6 ?_
 obtain ⟨b, ⟨F, i⟩, h⟩ := Bg h
 obtain ⟨a, ⟨l, e⟩, h⟩ := Bg h
 obtain ⟨g, ⟨o, j⟩, h⟩ := Bg h
 refine A1 0 b.1 I i fun G => A1 0 a.1 I e fun H => A1 0 a.1 I e fun p => Cb Ub [] [] I (Aq 6 I (aC I (An (m := b.1) I I I I I G I F i) I (Aq 2 I (aC I (An (m := a.1) I I I I I H I l e) I (AP.two ?_ ?_)))))
 exact Z9 [] I I I (Bv (Ar 0 b.1 0 I I I (Ag i) I (y := .agg (Ba b.2)) I) dS (Z9 [] I I I (Bv (Ar 0 a.1 0 I I I (Ag e) I (y := .agg (Ba a.2)) I) dS (aC I (An (m := a.1) I I I I I p I l e) I (Z9 [0] I I I (Bw 0 a.1 0 I I I (Ag e) I I I I (Bm I) I (Di (x := b.2) I) (Z9 [] I I I (Bv (Cw 0 (m := g.1) I I I I I I I o (Ag j)) dS (Z9 [0] I I I (Bw 0 g.1 0 I I I (Ag j) I I I I (Bm I) I (Di (x := a.2) I) (Ay (Z3 (lg ⟨((c.1.set a.1 b.2).set g.1 a.2), h, I2⟩ [0])))))))))))))
 exact Z9 [] I I I (Bv (Ar 0 a.1 0 I I I (Ag e) I (y := .agg (Ba a.2)) I) dS (Z9 [] I I I (Bv (Ar 0 b.1 0 I I I (Ag i) I (y := .agg (Ba b.2)) I) dS (aC I (An (m := a.1) I I I I I p I l e) I (Z9 [0] I I I (Bw 0 a.1 0 I I I (Ag e) I I I I (Bm I) I (Di (x := b.2) I) (Z9 [] I I I (Bv (Cw 0 (m := g.1) I I I I I I I o (Ag j)) dS (Z9 [0] I I I (Bw 0 g.1 0 I I I (Ag j) I I I I (Bm I) I (Di (x := a.2) I) (Ay (Z3 (lg ⟨((c.1.set a.1 b.2).set g.1 a.2), h, I2⟩ [0])))))))))))))
 rintro s ob ⟨k, h, rfl, rfl⟩
 unfold Pl.J2 at h
 refine Z2 (Af 6 I ?_)
 cases io h
 exact Z3 ⟨_, _, _, I, I2, J3, [0], I, by decide⟩
 intro E h
 obtain rfl := B _ (oi h).symm
 have h := w
 cases io h
 refine aB ?_
 exact ⟨.inl I, [], [U2 f c.1], J, Dh I (Ct), ⟨[U2 f c.1], [], I5⟩⟩
theorem P5 (f : Value) (n : List Level) (r : List Level) (h : M6 n = some r) : ACalls Ae 35 [.v f] [U3 f n] (Dz 1 fun x os new => x = .tup [] ∧ os = [U3 f r] ∧ new = []) := by
 refine Aa Tryz.func35 I I I fun C hC => ?_
 refine Ab fun K t => Z2 (Af 1 I (AO.d (Ck 0 I I I I) I (Af 3 I (Z3 ?_))))
 subst t
 refine Z6 ?_
 obtain ⟨M, u, w⟩ := Ac h
 refine Cv u [(0, _)] J1 (fun (c : (List Level) × Int × Int) s ob => s = [(2, .V c.2.1), (3, .V c.2.2)] ∧ ob = [U3 f c.1]) ⟨I, I⟩ ⟨I, I, J⟩ ⟨[0], I, by decide⟩ ?_
 rintro c A s ob ⟨rfl, rfl⟩ h B
 refine Ab fun N D => Ak I (Av h I ?_ ?_)
 intro E h
 refine Z7 ?_
 subst D
 refine Am (fun s ob => ∃ (k : List Level), M6.J2 c k = some A ∧ s = [] ∧ ob = [U3 f k]) [(0, _), (2, _), (3, _)] J3 ?_ ?_
 refine Z6 ?_
 obtain ⟨b, ⟨F, i⟩, h⟩ := Bg h
 obtain ⟨a, ⟨l, e⟩, h⟩ := Bg h
 obtain ⟨g, ⟨o, j⟩, h⟩ := Bg h
 refine A1 0 b.1 I i fun G => A1 0 a.1 I e fun H => A1 0 a.1 I e fun p => Cb Ub [] [] I (Aq 6 I (aC I (An (m := b.1) I I I I I G I F i) I (Aq 2 I (aC I (An (m := a.1) I I I I I H I l e) I (AP.two ?_ ?_)))))
 exact Z9 [] I I I (Bv (Ar 0 b.1 0 I I I (Ag i) I (y := .agg (A4 b.2)) I) dS (Z9 [] I I I (Bv (Ar 0 a.1 0 I I I (Ag e) I (y := .agg (A4 a.2)) I) dS (aC I (An (m := a.1) I I I I I p I l e) I (Z9 [0] I I I (Bw 0 a.1 0 I I I (Ag e) I I I I (Bm I) I (Di (x := b.2) I) (Z9 [] I I I (Bv (Cw 0 (m := g.1) I I I I I I I o (Ag j)) dS (Z9 [0] I I I (Bw 0 g.1 0 I I I (Ag j) I I I I (Bm I) I (Di (x := a.2) I) (Ay (Z3 (lg ⟨((c.1.set a.1 b.2).set g.1 a.2), h, I2⟩ [0])))))))))))))
 exact Z9 [] I I I (Bv (Ar 0 a.1 0 I I I (Ag e) I (y := .agg (A4 a.2)) I) dS (Z9 [] I I I (Bv (Ar 0 b.1 0 I I I (Ag i) I (y := .agg (A4 b.2)) I) dS (aC I (An (m := a.1) I I I I I p I l e) I (Z9 [0] I I I (Bw 0 a.1 0 I I I (Ag e) I I I I (Bm I) I (Di (x := b.2) I) (Z9 [] I I I (Bv (Cw 0 (m := g.1) I I I I I I I o (Ag j)) dS (Z9 [0] I I I (Bw 0 g.1 0 I I I (Ag j) I I I I (Bm I) I (Di (x := a.2) I) (Ay (Z3 (lg ⟨((c.1.set a.1 b.2).set g.1 a.2), h, I2⟩ [0])))))))))))))
 rintro s ob ⟨k, h, rfl, rfl⟩
 unfold M6.J2 at h
 refine Z2 (Af 6 I ?_)
 cases io h
 exact Z3 ⟨_, _, _, I, I2, J3, [0], I, by decide⟩
 intro E h
 obtain rfl := B _ (oi h).symm
 have h := w
 cases io h
 refine aB ?_
 exact ⟨.inl I, [], [U3 f c.1], J, Dh I (Ct), ⟨[U3 f c.1], [], I5⟩⟩
theorem Cm (g : Sg) (aa : List Piece) (ab : List Batch) (ac : List Product) (e : Int) (b : Bounds) (r : (List Level) × Int) (h : H4 g aa ab ac e b = some r) : ACalls Ae 7 [.agg (Ai g), Q4 aa, Q3 ab, Q1 ac, .V e, .agg (Dk b)] [] (fun x new => ∃ (u0 : Value), x = .tup [.v u0, .V r.2] ∧ new = [U3 u0 r.1]) := by
 refine Aa Tryz.func7 I I I fun C hC => ?_
 refine Ab fun y1 aj => Z2 (Z4 [] I (Cg (Ai g) 7 fun E => Z4 [] I (Cg (Dk b) 2 fun F => Af 2 I (Z3 ?_))))
 subst aj
 refine Ab fun y4 ak => Z5 ?_
 obtain ⟨r5, al, h⟩ := Ac h
 refine Z2 (Ao 2 [.o 0 0] I J1 (By (Tc _ _ _ al) (Af 1 I (Z3 (Ak I (Av h I ?_ ?_))))))
 intro am h
 refine Ak I (aA (Be 43 3) (Fy [2] I ?_))
 cases io h
 rotate_left
 intro am h
 refine Z7 ?_
 subst ak
 refine Ab fun y8 an => Z5 ?_
 obtain ⟨r9, ao, h⟩ := Ac h
 refine Z2 (Af 1 I (By (So _ _ ao) (Af 1 I (Z3 (Ak I (Av h I ?_ ?_))))))
 intro aq h
 refine Ak I (aA (Be 43 3) (Fy [2] I ?_))
 cases io h
 rotate_left
 intro aq h
 refine Z7 ?_
 subst an
 refine Ab fun cg ar => ?_
 obtain ⟨G, au, h⟩ := Ac h
 refine Z2 (Af 3 I (Z4 [] I (Az I I I (S4 _ _ _ _ au) dS ?_)))
 rintro _ _ ⟨av, rfl, rfl⟩
 refine Af 5 I (Z3 ?_)
 subst ar
 refine Ab fun ci aw => Z6 (Ak I (Av h I ?_ ?_))
 intro ax h
 refine Ak I (aA (Be 43 3) (Fy [3] I ?_))
 cases io h
 any_goals
  exact Z8 ⟨.inr I, [_, _], [.us (.slice none 0 0) 43 3 ([].map A4)], J2, Dh I (Ct), ⟨(.slice none 0 0), I2⟩⟩
 intro ax h
 refine Fx 49 ((e == 0) || (decide (e < (-1000)) || (decide (e > 1000) || (!(Gi b))))) ?_ ?_
 refine Z2 (Af 3 I ?_)
 rcases bt ((e == 0)) with j | j
 exact Aj 52 I j (Af 13 I (Z3 (jf (by simp only [j, bz]) I I I2)))
 refine Aj 52 I j (Af 4 I ?_)
 rcases bt (decide (e < (-1000))) with u | u
 exact Aj 56 I u (Af 9 I (Z3 (jf (by simp only [j, u, bz]) I I I2)))
 refine Aj 56 I u (Af 4 I ?_)
 rcases bt (decide (e > 1000)) with B | B
 exact Aj 60 I B (Af 5 I (Z3 (jf (by simp only [j, u, B, bz]) I I I2)))
 exact Aj 60 I B (Ao 1 [.o 0 1] I J1 (Bu I I I (By (Su b _ I) (Af 3 I (Z3 (jf (by simp only [j, u, B, bz]) I I I2))))))
 refine Av h I ?_ ?_
 intro ay h
 refine Ak I (aA (Be 43 3) (Fy [3] I ?_))
 cases io h
 exact Z8 ⟨.inr I, [_, _], [.us (.slice none 0 0) 43 3 ([].map A4)], J2, Dh I (Ct), ⟨(.slice none 0 0), I2⟩⟩
 intro ay h
 refine Z7 ?_
 subst aw
 refine Ab fun cj az => ?_
 obtain ⟨H, a0, h⟩ := Ac h
 refine Z2 (Ao 2 [.o 0 0] I J1 (Z4 [] I (Az I I I (Te _ _ _ a0) dS ?_)))
 rintro _ _ ⟨a1, rfl, rfl⟩
 refine Af 1 I (Z3 ?_)
 subst az
 refine Ab fun ck a2 => ?_
 obtain ⟨a3, a4, h⟩ := Ac h
 refine Z2 (Ao 4 [.o 0 0] I J1 (AO.ghost (A8 [2, 3] (K := [U1 av G.1, U0 a1 H]) I [(43, Q1 G.1), (16, Q1 G.1), (67, Q0 H), (18, Q0 H), (70, Q1 G.1), (71, Q0 H)] ⟨⟨_, I, .us 0 I⟩, ⟨_, I, .us 0 I⟩, ⟨_, I, .us 1 I⟩, ⟨_, I, .us 1 I⟩, ⟨_, I, .us 0 I⟩, ⟨_, I, .us 1 I⟩, J⟩ (ob' := [O1 E [Ai g], .arr F 37 2 1 [Dk b]]) (.rest _)) (Z4 [] I (Az I I I (Ts _ _ _ _ _ a4) dS ?_))))
 rintro _ _ ⟨M, rfl, rfl⟩
 refine Af 1 I (Z3 ?_)
 subst a2
 refine Ab fun cl a5 => ?_
 obtain ⟨a6, a7, h⟩ := Ac h
 refine Z2 (Af 1 I (Z4 [] I (Az I I I (Sp _ _ a7) dS ?_)))
 rintro _ _ ⟨N, rfl, rfl⟩
 refine Af 1 I (Z3 ?_)
 subst a5
 refine Am (fun s ob => ∃ (n : (List gradient_part) × Li), H4.J1 g e b n = some r ∧ s = [] ∧ ob = [O1 E [Ai g], .arr F 37 2 1 [Dk b], U2 M n.1, U0 N n.2]) [(4, _), (6, _), (11, _), (19, _), (20, _)] J5 ?_ ?_
 refine Ak I (Av h I ?_ ?_)
 intro a8 h
 refine Ab fun cm a9 => ?_
 obtain ⟨ae, ba, h⟩ := Ac h
 refine Z2 (Af 1 I (Z4 [3] I (Cf [3] (Sf N _ _ ba) ?_)))
 refine Z3 ?_
 subst a9
 refine Ab fun cn bb => ?_
 obtain ⟨bc, bd, h⟩ := Ac h
 refine Z2 (Af 1 I (Z4 [2] I (Cf [2] (Tw M _ _ bd) ?_)))
 refine Z3 ?_
 subst bb
 refine Ab fun co be => Z2 (Af 1 I (AO.d (Ck 2 I I I I) I (Af 1 I (Z3 ?_))))
 subst be
 refine Z6 (Qf 2 I fun bf => ?_)
 obtain ⟨cp, bg, bh⟩ := Ac h
 refine Kt bg [(4, _), (6, _), (11, _), (19, _), (20, _), (82, _)] J6 (fun (W : Nat) (O : List gradient_part) s ob => s = [(83, .V (W : Int))] ∧ ob = [O1 E [Ai g], .arr F 37 2 1 [Dk b], U2 M O, U0 N ae]) ⟨I, I⟩ ⟨I, J⟩ ⟨[0, 1, 2, 3], I, by decide⟩ ?_ ?_
 rintro W O cq s ob af ⟨rfl, rfl⟩ h
 have bi := Do af
 refine Ak I (Ab fun cr bj => B0 I bi (Z7 ?_))
 subst bj
 refine Z5 (Z6 (Ak I ?_))
 obtain ⟨f, ⟨ag, P⟩, h⟩ := Bg h
 refine Z2 (Af 4 I (AO.d (Cw 2 (m := f.1) I I I I I I I ag (Ag P)) I (Af 1 I (AO.d (Ar 2 f.1 2 I I I (Ag P) I (y := .V f.2.height) I) I (Af 1 I (AO.d (Cw 2 (m := f.1) I I I I I I I ag (Ag P)) I (Af 1 I (Z4 [2] I (Bw 2 f.1 2 I I I (Ag P) I I I I (Bm I) I (Di (x := (⟨f.2.length, f.2.width, wr (0 - f.2.height), f.2.liquid⟩ : gradient_part)) I) (Z3 (Z2 (Ao 2 [.k 0 (W + 1 : Nat)] I ⟨A5 af bf, J⟩ ?_))))))))))))
 cases io h
 exact Z3 (lg I2 [0, 1, 2, 3])
 rintro O s ob ⟨rfl, rfl⟩ he
 subst he
 have h := bh
 have bk := Dp bc.length
 exact Ak I (Ab fun ct cu => B7 I bk (aB (lg ⟨(O, ae), h, I2⟩ [0, 1, 2, 3])))
 intro a8 h
 exact Z7 (lg ⟨(a3, a6), h, I2⟩ [0, 1, 2, 3])
 rintro s ob ⟨n, h, rfl, rfl⟩
 refine Ab fun cv bl => ?_
 obtain ⟨w, ⟨bm, X⟩, h⟩ := Bg h
 refine A1 3 w.1 I X fun bn => Cb (pd 7 0 [5]) [3, 1] [_, _] I (Aq 1 I (aC I (An (m := w.1) I I I I I bn I bm X) I (AP.o I (Ar 0 w.1 0 I I I (Ag X) I (y := .V w.2) I) I (Dd 1 [.o 0 1] I J1 (aC I (Au (l := [.V w.2, .V b.Low, .V b.High]) C4 I) I (Z9 [] I I I (aE (sz := 3) (es := ([(⟨w.2, b⟩ : Level)] : List Level).map A4) I I I I I I I I I I I dS fun bo => Aq 1 I (Ay (Z3 ?_)))))))))
 subst bl
 refine Am (fun s ob => ∃ (Q : List Level) (t : Value), H4.J2 e Q = some r ∧ s = [(22, .v t)] ∧ ob = [U3 t Q]) [(4, _)] J1 ?_ ?_
 refine Ab fun cw bp => Z2 (Af 1 I (AO.d (Ck 2 I I I I) I (Af 1 I (Z3 ?_))))
 subst bp
 refine Z6 (Qf 2 I fun ah => ?_)
 obtain ⟨cx, bq, br⟩ := Ac h
 refine Kt bq [(4, _), (6, _), (11, _), (20, _), (103, _), (104, _)] J6 (fun (R : Nat) (a : Int × Int × (List Level)) s ob => ∃ (D : Value), s = [(105, .V (R : Int)), (22, .v D)] ∧ ob = [O1 E [Ai g], .arr F 37 2 1 [[.V a.1, .V a.2.1]], U2 M n.1, U0 N n.2, U3 D a.2.2]) ⟨bo, I2⟩ ⟨I, I, J⟩ ⟨[0, 1, 2, 3, 4], I, by decide⟩ ?_ ?_
 rintro R a cy s ob Y ⟨D, rfl, rfl⟩ h
 have bs := Do Y
 refine Ak I (Ab fun cz bu => B0 I bs (Z7 ?_))
 subst bu
 refine Z5 (Z6 (Ab fun c1 bv => ?_))
 obtain ⟨S, ⟨bw, ai⟩, h⟩ := Bg h
 refine Z2 (Af 1 I (AO.d (Cw 2 (m := S.1) I I I I I I I bw (Ag ai)) I (AO.d (Ar 2 S.1 0 I I I (Ag ai) I (y := .agg (Ba S.2)) I) I (Z4 [] I (Bz W6 8 fun c2 => Af 1 I (Z4 [5] I (Bk 5 0 0 [Ba S.2] I (Z3 ?_))))))))
 subst bv
 refine Ab fun c3 bx => ?_
 obtain ⟨i, b0, h⟩ := Ac h
 refine Z2 (Ao 6 [.o 0 5, .o 1 0] I J2 (By (S2 _ _ _ _ b0) (Af 5 I (Z3 ?_))))
 subst bx
 refine Z5 (Z2 (Ao 8 [.o 1 1, .o 5 1] I J2 (Bi (Au (l := [.V (wr (a.1 - i.2)), .V (wr (a.2.1 - i.1))]) Cr I) I (Z4 [1] I (Bk 1 0 0 [[.V (wr (a.1 - i.2)), .V (wr (a.2.1 - i.1))]] I (Z3 ?_))))))
 obtain ⟨A, ⟨b1, Z⟩, h⟩ := Bg h
 obtain ⟨c4, b4, h⟩ := Ac h
 refine A1 3 A.1 I Z fun b5 => Cb (pd 11 0 [8, 9]) [3, 1] [_, _] I (Dd 4 [.k 3 (R + 1 : Nat)] I ⟨A5 Y ah, J⟩ (aC I (An (m := A.1) I I I I I b5 I b1 Z) I (AP.o I (Ar 0 A.1 0 I I I (Ag Z) I (y := .V A.2) I) I (Dd 1 [.o 0 1] I J1 (aC I (Au (l := [.V A.2, .V (wr (a.1 - i.2)), .V (wr (a.2.1 - i.1))]) C4 I) I (Z9 [] I I I (aD 3 (([(⟨A.2, (⟨wr (a.1 - i.2), wr (a.2.1 - i.1)⟩ : Bounds)⟩ : Level)] : List Level).map A4) (Z9 [4] I I I (D7 4 I b4 fun b6 => Jc 22 (Aq 1 I (Ay (Z3 ?_))))))))))))
 refine Z2 (Ao 2 [.k 0 (R + 1 : Nat)] I ⟨A5 Y ah, J⟩ ?_)
 cases io h
 exact Z3 (lg ⟨b6, I2⟩ [0, 1, 2, 3, 4])
 rintro a s ob ⟨D, rfl, rfl⟩ he
 subst he
 have h := br
 have b7 := Dp n.1.length
 exact Ak I (Ab fun c5 c6 => B7 I b7 (aB (lg ⟨a.2.2, D, h, I2⟩ [4])))
 rintro s ob ⟨Q, t, h, rfl, rfl⟩
 unfold H4.J2 at h
 refine Am (fun s ob => ∃ (U : List Level), H4.J3 U = some r ∧ s = [] ∧ ob = [U3 t U]) [(22, _)] J1 ?_ ?_
 refine Ak I (Av h I ?_ ?_)
 intro b8 h
 obtain ⟨b9, ca, h⟩ := Ac h
 refine Z2 (Af 1 I (Z4 [0] I (Cf [0] (P5 t _ _ ca) ?_)))
 exact Z3 (lg ⟨b9, h, I2⟩ [0])
 intro b8 h
 exact Z7 (lg ⟨Q, h, I2⟩ [0])
 rintro s ob ⟨U, h, rfl, rfl⟩
 unfold H4.J3 at h
 refine Ak I ?_
 cases io h
 exact Z8 ⟨.inr I, [_, _], [U3 t U], J2, Dh I (Ct), ⟨t, I2⟩⟩
end Go.Proofs.YtkhcdkioehdndaaGreatDoor
