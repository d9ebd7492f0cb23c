/- Walks that show what functions of the program compute; printed by a program of ours. No condition. -/
import Derived.Test.YtodeekicjiengaaGreatDoorYwL0
import Derived.Test.YtodeekicjiengaaGreatDoorYwD
set_option maxRecDepth 100000
namespace Go.Proofs.YtodeekicjiengaaGreatDoor
open Go.Aw
set_option linter.unusedVariables false
set_option linter.unusedSimpArgs false
set_option maxHeartbeats 4000000
abbrev kD : PL := sl 7 0 (sl 3 8 (.two 7 11 (.act 11 (.still 12 (.act 13 (.act 14 (.act 15 .nil))))) (.act 7 (.still 12 (.act 13 (.act 14 (.act 15 .nil)))))))
theorem iU (a : Product) (r : Arr Int 4) (h : K8 a = r) : ACalls Aj 138 [.agg (Bw a)] [] (RV (.agg (r.l.map cI))) := by
 refine Ae Tryz.func138 I I I fun C hC => ?_
 unfold K8 at h
 refine Aa fun c b => tV (tX [] I (Bo (Bw a) 5 fun d => tX [] I (uF [.V 0, .V 0, .V 0, .V 0] 4 fun e => tW ?_)))
 subst b
 refine uB (tV (An 8 [.o 1 0, .o 3 0, .o 5 0, .o 7 0] I J4 (uH (dQ (l := [.V a.Density, .V a.Expansion, .V a.Compress, .V a.Friction]) I I I I I I) I (tX [1] I (A3 1 0 0 [[.V a.Density, .V a.Expansion, .V a.Compress, .V a.Friction]] I (tW (Cv [1] I ?_)))))))
 obtain rfl := h
 exact uC ⟨.inr I, [_], [], ⟨⟨0, _, _, _, _, _, _, _, I5⟩, J⟩, Cm, I2⟩
theorem fM (a : Product) (r : Bool) (h : Vm a = some r) : ACalls Aj 87 [.agg (Bw a)] [] (RB r) := by
 refine Ae Tryz.func87 I I I fun C hC => ?_
 unfold Vm at h
 refine Aa fun X B => tV (tX [] I (Bo (Bw a) 5 fun i => Af 1 I (tW ?_)))
 subst B
 refine Aa fun Y D => tV (An 1 [.o 0 0] I J1 (tX [] I (Ck I I I (iU a _ I) dS ?_)))
 rintro _ _ ⟨rfl, rfl⟩
 refine tX [] I (uF [.V 0, .V 0, .V 0, .V 0] 4 fun n => tX [1] I (uN 1 0 0 (es' := [(K8 a).l.map cI]) I I I I I I I (by simp [Arr.h, Bk]) (by simp [Arr.h, Bk]) I (congrArg (fun r => [r]) (Iw (by simp [Arr.h, Bk]))) (tW ?_)))
 subst D
 refine Ai (fun s ob => ∃ (t : Unit), Vm.J1 a t = some r ∧ s = [] ∧ ob = [.arr i 72 5 1 [Bw a]]) [(1, _)] J1 ?_ ?_
 refine Aa fun Z E => tV (tX [] I (oC (cs := ([⟨400, 1200⟩, ⟨0, 2000⟩, ⟨0, 5000⟩, ⟨1, 2000⟩] : List product_span).flatMap Ez) (y := .agg (([⟨400, 1200⟩, ⟨0, 2000⟩, ⟨0, 5000⟩, ⟨1, 2000⟩] : List product_span).flatMap Ez)) (List.mem_singleton.2 I) I I dS (Af 1 I (tW ?_))))
 subst E
 refine uA ?_
 have F : (4 : Nat) ≤ 9223372036854775806 := by decide
 obtain ⟨aa, G, u⟩ := Ac h
 refine Fi G [(1, _), (3, _), (8, _)] J3 (fun (e : Nat) (w : Unit) s ob => s = [(9, .V (e : Int))] ∧ ob = [.arr i 72 5 1 [Bw a], .arr n 189 4 1 [(K8 a).l.map cI]]) ⟨I, I⟩ ⟨I, J⟩ ⟨[0, 1], I, by decide⟩ ?_ ?_
 rintro e w H s ob K ⟨rfl, rfl⟩ h M
 have N : decide ((e : Int) < 4) = true := decide_eq_true (by omega)
 refine Ah I (Aa fun ab O => Bp I N (tZ ?_))
 subst O
 refine uB (uA (Aa fun ac P => ?_))
 obtain ⟨f, ⟨Q, R⟩, h⟩ := A6 h
 refine tV (Af 1 I (uH (Y3 (m := f.1) (l := ([⟨400, 1200⟩, ⟨0, 2000⟩, ⟨0, 5000⟩, ⟨1, 2000⟩] : List product_span)) (row := Ez) I I I I I (fun _ => I) I I Q R) I (tX [] I (uF [.V 0, .V 0] 2 fun ad => Af 1 I (tX [2] I (A3 2 0 0 [Ez f.2] I (tW ?_)))))))
 subst P
 refine Ai (fun s ob => ∃ (j : Bool), Vm.J3 j = some H ∧ s = [(26, .v (.bool j))] ∧ ob = [.arr i 72 5 1 [Bw a], .arr n 189 4 1 [(K8 a).l.map cI]]) [(1, _), (3, _), (8, _), (9, _)] J4 ?_ ?_
 obtain ⟨b, ⟨A, g⟩, h⟩ := A6 h
 refine Bz (pd 14 0 []) [1, 2] [_, _] I (Bf 1 I (uM I (Dv (m := b.1) I I I I I I A (Ep g)) I (AP.o I (C4 0 0 (0 + b.1) I I I I (by omega) (y := .V b.2) (by rw [Nat.zero_add]; exact Ag g)) I (Ca 4 [.o 1 1] I J1 ?_))))
 rcases bt (decide (b.2 < f.2.least)) with d | d
 have h := Bu d h
 exact A5 19 I d (Bf 7 I (Ap (tW (lg ⟨true, h, I2⟩ [0, 1]))))
 have h := Bv d h
 exact A5 19 I d (Bf 1 I (Fv I I I I ((Dv (m := b.1) I I I I I I A (Ep g)).yd) dS (Fv I I I I (C4 0 0 (0 + b.1) I I I I (by omega) (y := .V b.2) (by rw [Nat.zero_add]; exact Ag g)) dS (Ca 4 [.o 1 1] I J1 (Ap (tW (lg ⟨decide (b.2 > f.2.most), h, I2⟩ [0, 1])))))))
 rintro s ob ⟨j, h, rfl, rfl⟩
 refine Ar h I ?_ ?_
 intro S h
 refine Ah I ?_
 obtain rfl := M _ (oi h).symm
 have h := u
 have h := C2 h
 refine uD g0 ?_
 cases io h
 exact uC pr
 intro S h
 refine tZ (tV (An 2 [.k 0 (e + 1 : Nat)] I ⟨A0 K F, J⟩ ?_))
 cases io h
 exact tW ⟨_, _, _, I, I2, J4, [0, 1], I, by decide⟩
 rintro w s ob ⟨rfl, rfl⟩ he
 subst he
 have h := C8 u
 have U : decide (((4 : Nat) : Int) < 4) = false := by simp
 exact Ah I (Aa fun ae af => Br I U (uE (lg ⟨(), h, I2⟩ [0])))
 rintro s ob ⟨t, h, rfl, rfl⟩
 refine uB ?_
 obtain ⟨ag, W, h⟩ := Ac h
 refine tV (An 2 [.o 1 0] I J1 (Cd (Om _ _ W) (Af 1 I (tW (uD g0 ?_)))))
 cases io h
 exact uC pr
theorem gX (a : List Product) (F1 : T) {c : FuncId} {d e : List T} (o : Jd F1 = some (c, d, e)) (f : Product → Option Bool) (p : ∀ (g : Product) r, f g = some r → ACalls Aj c (d ++ [.agg (Bw g)] ++ e) [] (RB r)) (r : Int) (h : Qf a f = some r) : ACalls Aj 139 [Q2 a, F1] [] (RV (.V r)) := by
 refine Ae Tryz.func139 I I I fun C hC => ?_
 unfold Qf at h
 refine Ah I (Ai (fun s ob => ∃ (i : Unit), Qf.J1 i = some r ∧ s = [] ∧ ob = []) [] J ?_ ?_)
 refine Bh [.l 1 (a.length : Int)] I ⟨Ax, J⟩ (uA (B0 6 I fun q => ?_))
 obtain ⟨G, t, j⟩ := Ac h
 refine Bx t [(0, _), (1, _), (7, _)] J3 (fun (b : Nat) (m : Unit) s ob => s = [(8, .V (b : Int))] ∧ ob = []) ⟨I, I⟩ ⟨I, J⟩ ⟨[], I, by decide⟩ ?_ ?_
 rintro b u m H s ob w n ⟨rfl, rfl⟩ h y
 have A := Co n
 refine Ah I (Aa fun K B => Bp I A (tZ ?_))
 subst B
 refine uB (uA (Ah I (uB ?_)))
 obtain ⟨M, D, h⟩ := Ac h
 refine tV (An 5 [.x 3 b (Bw u)] I ⟨⟨I, Ag w⟩, J⟩ (tX [] I (Ch I (.refl _) o I (.rest _) I (p _ _ D) dS (by rintro _ _ ⟨rfl, _⟩; rfl) ?_)))
 rintro _ ⟨_, rfl, -⟩
 refine tW (Ar h I ?_ ?_)
 intro E h
 refine Ah I ?_
 obtain rfl := y _ (oi h).symm
 have h := j
 have h := C2 h
 cases io h
 exact uC pr
 intro E h
 refine tZ (tV (An 2 [.k 0 (b + 1 : Nat)] I ⟨A0 n q, J⟩ ?_))
 cases io h
 exact tW ⟨_, _, _, I, I2, J4, [], I, by decide⟩
 rintro m s ob ⟨rfl, rfl⟩ he
 subst he
 have h := C8 j
 have F := Cp a.length
 exact Ah I (Aa fun N O => Br I F (uE (lg ⟨(), h, I2⟩ [])))
 rintro s ob ⟨i, h, rfl, rfl⟩
 unfold Qf.J1 at h
 refine Ah I ?_
 cases io h
 exact uC pr
theorem hR (a : Product) (b : Bt) (r : Bool) (h : K4 a b = r) : ACalls Aj 140 [.agg (Bw a), .eptr (rS b)] [] (RB r) := by
 refine Ae Tryz.func140 I I I fun C hC => ?_
 unfold K4 at h
 refine uB (tV (tX [] I (Bo (Bw a) 5 fun d => Af 1 I (tW (uB (tV (An 3 [.o 1 0] I J1 (uH (Yp.cmpS (c := S0 a.Name b) I I I) I (Af 1 I (tW (uD g0 ?_)))))))))))
 obtain rfl := h
 exact uC pr
theorem fK (b : List Product) (a : Bt) (r : Int) (h : Zv b a = some r) : ACalls Aj 88 [Q2 b, .v (.string a)] [] (RV (.V r)) := by
 refine Ae Tryz.func88 I I I fun C hC => ?_
 refine uB (tV (tX [] I (Bo [.v (.string a)] 1 fun d => Af 1 I (tW (uB ?_)))))
 obtain ⟨e, c, h⟩ := Ac h
 refine tV (Af 1 I (uH (uR I I) I (tX [] I (Ch I (.refl _) I I (.cons (.refl _) (.cons (.fn (.rest _) (.cons (.box 0 I (.rest _)) (.rest _))) (.rest _))) I (gX _ (.fn 140 [] [.eptr (rS a)]) I (fun x => some (K4 x a)) (fun x r h => by obtain I := oi h; exact hR x a _ I) _ c) dS (by rintro _ _ ⟨rfl, _⟩; rfl) ?_))))
 rintro _ ⟨_, rfl, -⟩
 refine Af 1 I (tW (uD g0 ?_))
 cases io h
 exact uC pr
theorem T1 (a : List Product) (r : Int) (h : M3 a = some r) : ACalls Aj 49 [Q2 a] [] (RV (.V r)) := by
 refine Ae Tryz.func49 I I I fun C hC => ?_
 refine Ah I (Aa fun y2 y => Bh [.l 1 (a.length : Int)] I ⟨Ax, J⟩ (Ar h I ?_ ?_))
 intro A h
 refine Ah I ?_
 cases io h
 exact uC pr
 intro A h
 refine tZ ?_
 subst y
 refine Ai (fun s ob => ∃ (e : Unit), M3.J1 a e = some r ∧ s = [] ∧ ob = []) [(0, _)] J1 ?_ ?_
 refine Bh [.l 1 (a.length : Int)] I ⟨Ax, J⟩ (uA (B0 10 I fun B => ?_))
 obtain ⟨ab, D, f⟩ := Ac h
 refine Bx D [(0, _), (10, _), (11, _)] J3 (fun (b : Nat) (g : Unit) s ob => s = [(12, .V (b : Int))] ∧ ob = []) ⟨I, I⟩ ⟨I, J⟩ ⟨[], I, by decide⟩ ?_ ?_
 rintro b i g ac s ob E j ⟨rfl, rfl⟩ h F
 have G := Co j
 refine Ah I (Aa fun ad H => Bp I G (tZ ?_))
 subst H
 refine uB (uA (uB (tV (An 2 [.x 0 b (Bw i)] I ⟨⟨I, Ag E⟩, J⟩ (tX [] I (uF W5 5 fun ae => tX [0] I (A3 0 0 0 [Bw i] I (tW (uB ?_)))))))))
 obtain ⟨af, K, h⟩ := Ac h
 refine tV (An 1 [.o 0 0] I J1 (Cd (fM _ _ K) (Af 1 I (tW (Ar h I ?_ ?_)))))
 intro M h
 refine Ah I ?_
 obtain rfl := F _ (oi h).symm
 have h := f
 have h := C2 h
 refine uD g0 ?_
 cases io h
 exact uC pr
 intro M h
 refine tZ (tV (An 2 [.k 0 (b + 1 : Nat)] I ⟨A0 j B, J⟩ ?_))
 cases io h
 exact tW ⟨_, _, _, I, I2, J4, [], I, by decide⟩
 rintro g s ob ⟨rfl, rfl⟩ he
 subst he
 have h := C8 f
 have N := Cp a.length
 exact Ah I (Aa fun ag ah => Br I N (uE (lg ⟨(), h, I2⟩ [])))
 rintro s ob ⟨e, h, rfl, rfl⟩
 unfold M3.J1 at h
 refine Ai (fun s ob => ∃ (n : Unit), M3.J2 n = some r ∧ s = [] ∧ ob = []) [] J ?_ ?_
 refine Bh [.l 1 (a.length : Int)] I ⟨Ax, J⟩ (uA (B0 20 I fun O => ?_))
 obtain ⟨ai, P, p⟩ := Ac h
 refine Bx P [(0, _), (20, _), (21, _)] J3 (fun (d : Nat) (t : Unit) s ob => s = [(22, .V (d : Int))] ∧ ob = []) ⟨I, I⟩ ⟨I, J⟩ ⟨[], I, by decide⟩ ?_ ?_
 rintro d u t aj s ob Q w ⟨rfl, rfl⟩ h R
 have S := Co w
 refine Ah I (Aa fun ak U => Bp I S (tZ ?_))
 subst U
 refine uB (uA (Aa fun al W => tV (An 3 [.x 1 d (Bw u)] I ⟨⟨I, Ag Q⟩, J⟩ (tX [] I (uF W5 5 fun am => Af 1 I (tX [0] I (A3 0 0 0 [Bw u] I (tW ?_))))))))
 subst W
 refine uB ?_
 obtain ⟨an, X, h⟩ := Ac h
 refine tV (An 3 [.o 2 0] I J1 (Cd (fK _ _ _ X) (Af 2 I (tW (Ar h I ?_ ?_)))))
 intro Y h
 refine Ah I ?_
 obtain rfl := R _ (oi h).symm
 have h := p
 have h := C2 h
 refine uD g0 ?_
 cases io h
 exact uC pr
 intro Y h
 refine tZ (tV (An 2 [.k 0 (d + 1 : Nat)] I ⟨A0 w O, J⟩ ?_))
 cases io h
 exact tW ⟨_, _, _, I, I2, J4, [], I, by decide⟩
 rintro t s ob ⟨rfl, rfl⟩ he
 subst he
 have h := C8 p
 have Z := Cp a.length
 exact Ah I (Aa fun ao ap => Br I Z (uE (lg ⟨(), h, I2⟩ [])))
 rintro s ob ⟨n, h, rfl, rfl⟩
 unfold M3.J2 at h
 refine Ah I ?_
 cases io h
 exact uC pr
theorem gL (e : List Piece) (n : List Batch) (f : List Product) (r : (List Product) × Int) (h : G9 e n f = some r) : ACalls Aj 144 [Q4 e, Q3 n, Q2 f] [] (fun x new => ∃ (u : Value), x = .tup [.v u, .V r.2] ∧ new = [U4 u r.1]) := by
 refine Ae Tryz.func144 I I I fun C hC => ?_
 unfold G9 at h
 refine Ah I (Ah I (Ai (fun s ob => ∃ (g : List Product) (a : Value), G9.J1 g = some r ∧ s = [(8, .v a)] ∧ ob = [U4 a g]) [] J ?_ ?_))
 refine Bh [.l 1 (e.length : Int)] I ⟨Ax, J⟩ (uA (B0 12 I fun B => uD (Bs 72 5) ?_))
 obtain ⟨Y, D, p⟩ := Ac h
 refine Bx D [(1, _), (2, _), (12, _), (13, _)] J4 (fun (i : Nat) (j : List Product) s ob => ∃ (b : Value), s = [(14, .V (i : Int)), (8, .v b)] ∧ ob = [U4 b j]) ⟨(.slice none 0 0), I2⟩ ⟨I, I, J⟩ ⟨[0], I, by decide⟩ ?_ ?_
 rintro i w j Z s ob E y ⟨b, rfl, rfl⟩ h A
 have F := Co y
 refine Ah I (Aa fun aa G => Bp I F (tZ ?_))
 subst G
 refine uB (uA (Aa fun ab H => tV (An 2 [.x 0 i (A4 w)] I ⟨⟨I, Ag E⟩, J⟩ (tX [] I (uF [.V 0, .V 0] 2 fun ac => tX [1] I (A3 1 0 0 [A4 w] I (tW ?_)))))))
 subst H
 refine Aa fun ad K => Bh [.o 1 1, .l 3 (n.length : Int)] I ⟨Ax, I, J⟩ (Ar h I ?_ ?_)
 intro M h
 refine Ah I ?_
 obtain rfl := A _ (oi h).symm
 have h := p
 have h := C2 h
 refine uD (Bs 72 5) (Cv [2] I ?_)
 cases io h
 exact uC ⟨.inr I, [_, _], [.us (.slice none 0 0) 72 5 ([].map Bw)], J2, Cz I (Cm), ⟨(.slice none 0 0), I2⟩⟩
 intro M h
 refine tZ ?_
 subst K
 refine Aa fun ae N => ?_
 obtain ⟨c, ⟨O, P⟩, h⟩ := A6 h
 refine E2 [.o 2 1, .x 3 c.1 (D7 c.2)] I ⟨⟨O, Ag P⟩, I, J⟩ ?_
 subst N
 refine uB (Eb 36 (decide (c.2.Product < 0) || decide (c.2.Product ≥ (f.length : Int))) ?_ ?_)
 refine tV (Af 3 I ?_)
 rcases bt (decide (c.2.Product < 0)) with d | d
 exact Ad 31 I d (Af 5 I (tW (jf (by simp only [d, bz]) I I I2)))
 exact Ad 31 I d (An 5 [.l 2 (f.length : Int)] I ⟨Ax, J⟩ (tW (jf (by simp only [d, bz]) I I I2)))
 refine Ar h I ?_ ?_
 intro Q h
 refine Ah I ?_
 obtain rfl := A _ (oi h).symm
 have h := p
 have h := C2 h
 refine uD (Bs 72 5) (Cv [2] I ?_)
 cases io h
 exact uC ⟨.inr I, [_, _], [.us (.slice none 0 0) 72 5 ([].map Bw)], J2, Cz I (Cm), ⟨(.slice none 0 0), I2⟩⟩
 intro Q h
 refine tZ ?_
 obtain ⟨t, ⟨R, S⟩, h⟩ := A6 h
 obtain ⟨af, U, h⟩ := Ac h
 refine tV (An 5 [.x 3 t.1 (Bw t.2)] I ⟨⟨R, Ag S⟩, J⟩ (tX [] I (uG 5 (([t.2] : List Product).map Bw) (tX [0] I (C9 0 I U fun W => Af 1 I (tW (tV (An 2 [.k 0 (i + 1 : Nat)] I ⟨A0 y B, J⟩ ?_))))))))
 cases io h
 exact tW ⟨_, _, _, I, ⟨W, I2⟩, J6, [0], I, by decide⟩
 rintro j s ob ⟨b, rfl, rfl⟩ he
 subst he
 have h := C8 p
 have X := Cp e.length
 exact Ah I (Aa fun ag ah => Br I X (uE (lg ⟨j, b, h, I2⟩ [0])))
 rintro s ob ⟨g, a, h, rfl, rfl⟩
 unfold G9.J1 at h
 refine Ah I ?_
 cases io h
 exact uC ⟨.inr I, [_, _], [U4 a g], J2, Cz I (Cm), ⟨a, I2⟩⟩
theorem fT (a : Bounds) (r : Bool) (h : Kt a = r) : ACalls Aj 145 [.agg (Aq a)] [] (RB r) := by
 refine Ae Tryz.func145 I I I fun C hC => ?_
 unfold Kt at h
 refine Aa fun e d => tV (tX [] I (Bo (Aq a) 2 fun f => Af 1 I (tW ?_)))
 subst d
 refine Ai (fun s ob => s = [(2, .v (.bool (decide (a.Low ≤ a.High) && (decide (a.Low ≥ (-1125899906842624)) && decide (a.High ≤ 1125899906842624)))))] ∧ ob = []) [] J ?_ ?_
 refine tV (An 6 [.o 1 0, .o 3 0] I J2 ?_)
 rcases bt (decide (a.Low ≤ a.High)) with b | b
 refine Ad 8 I b (An 5 [.o 1 0] I J1 ?_)
 rcases bt (decide (a.Low ≥ (-1125899906842624))) with c | c
 refine Ad 13 I c (An 5 [.o 1 0] I J1 (tW ?_))
 exact lf I2 ⟨(Do (by simp only [b, c, bz])), J⟩ [] I
 refine Ad 13 I c (Af 5 I (tW ?_))
 exact lf I2 ⟨(Do (by simp only [b, c, bz])), J⟩ [] I
 refine Ad 8 I b (Af 10 I (tW ?_))
 exact lf I2 ⟨(Do (by simp only [b, bz])), J⟩ [] I
 rintro s ob ⟨rfl, rfl⟩
 obtain rfl := h
 exact uC pr
theorem jM (d : Int) (F1 : T) {e : FuncId} {f g : List T} (k : Jd F1 = some (e, f, g)) (i : Int → Option Bool) (l : ∀ (j : Int) r, i j = some r → ACalls Aj e (f ++ [.V j] ++ g) [] (RB r)) (r : Int) (h : Qw d i = some r) : ACalls Aj 178 [.V d, F1] [] (RV (.V r)) := by
 refine Ae Tryz.func178 I I I fun C hC => ?_
 unfold Qw at h
 refine Ah I (Ah I (Ai (fun s ob => ∃ (b : Int), Qw.J1 b = some r ∧ s = [(5, .V b)] ∧ ob = []) [] J ?_ ?_))
 refine uA ?_
 obtain ⟨A, m, n⟩ := Ac h
 refine Cs m [(1, _)] J1 (fun (a : Int × Int) s ob => s = [(5, .V a.1), (6, .V a.2)] ∧ ob = []) ⟨I, I⟩ ⟨I, I, J⟩ ⟨[], I, by decide⟩ ?_
 rintro a B s ob ⟨rfl, rfl⟩ h o
 refine Aa fun D t => Ah I (Ar h I ?_ ?_)
 intro u h
 refine tZ ?_
 subst t
 refine uA (uB (tV (Af 3 I (uH (I4 (c := IntKind.u64.wrap (wr (a.1 + a.2))) I I I I I) I (uH (qC I I) I (uH (I4 (c := wr (((IntKind.u64.wrap (wr (a.1 + a.2))).fdiv 2))) I I I I I) I (Af 1 I (tW (uB ?_)))))))))
 obtain ⟨E, w, h⟩ := Ac h
 refine tV (Af 2 I (tX [] I (Ch I (.refl _) k I (.rest _) I (l _ _ w) dS (by rintro _ _ ⟨rfl, _⟩; rfl) ?_)))
 rintro _ ⟨_, rfl, -⟩
 refine Af 1 I (tW (Ar h I ?_ ?_))
 intro y h
 refine tV (Af 3 I ?_)
 cases io h
 exact tW ⟨_, _, _, I, I2, J3, [], I, by decide⟩
 intro y h
 refine tV (Af 2 I ?_)
 cases io h
 exact tW ⟨_, _, _, I, I2, J3, [], I, by decide⟩
 intro u h
 obtain rfl := o _ (oi h).symm
 have h := n
 exact uE (lg ⟨a.1, h, I2⟩ [])
 rintro s ob ⟨b, h, rfl, rfl⟩
 unfold Qw.J1 at h
 refine Ah I ?_
 cases io h
 exact uC pr
theorem gH (a : Int) (b : Sg) (c : Int) (r : Bool) (h : Vu a b c = some r) : ACalls Aj 179 [.V a, .eptr (Ak b), .eptr (rI c)] [] (RB r) := by
 refine Ae Tryz.func179 I I I fun C hC => ?_
 refine Ah I (uB ?_)
 obtain ⟨d, ⟨e, f⟩, h⟩ := A6 h
 refine In (pd 9 0 []) [] [] [.x 3 d.1 (Bj d.2)] I I ⟨⟨e, Ag f⟩, J⟩ ?_
 cases io h
 exact uC pr
theorem fJ (a : Sg) (b : Int) (r : Int) (h : Vk a b = some r) : ACalls Aj 171 [.agg (Ak a), .V b] [] (RV (.V r)) := by
 refine Ae Tryz.func171 I I I fun C hC => ?_
 refine uB (tV (tX [] I (Bo (Ak a) 7 fun d => tX [] I (Bo [.V b] 1 fun e => Af 1 I (tW (uB ?_))))))
 obtain ⟨f, c, h⟩ := Ac h
 refine tV (An 4 [.o 1 0, .l 2 (a.Points.length : Int)] I ⟨Ax, I, J⟩ (uH (uR I I) I (tX [] I (Ch I (.refl _) I I (.cons (.refl _) (.cons (.fn (.rest _) (.cons (.box 0 I (.rest _)) (.cons (.box 1 I (.rest _)) (.rest _)))) (.rest _))) I (jM _ (.fn 179 [] [.eptr (Ak a), .eptr (rI b)]) I (fun x => Vu x a b) (fun x r h => gH x a b r h) _ c) dS (by rintro _ _ ⟨rfl, _⟩; rfl) ?_))))
 rintro _ ⟨_, rfl, -⟩
 refine Af 1 I (tW (uD g0 ?_))
 cases io h
 exact uC pr
theorem jD (e : Sg) (K : List Piece) (A : List Product) (p : Li) (r : List gradient_part) (h : V8 e K A p = some r) : ACalls Aj 147 [.agg (Ak e), Q4 K, Q2 A, Q0 p] [] (fun x new => ∃ (M : Value), x = .v M ∧ new = [U8 M r]) := by
 refine Ae Tryz.func147 I I I fun C hC => ?_
 refine Aa fun y1 S => tV (tX [] I (Bo (Ak e) 7 fun t => Af 1 I (tW ?_)))
 subst S
 refine Ah I (Aa fun y4 U => ?_)
 obtain ⟨N, ⟨W, X⟩, h⟩ := A6 h
 refine In (pd 6 0 []) [] [] [.x 1 N.1 (A4 N.2)] I I ⟨⟨W, Ag X⟩, J⟩ ?_
 subst U
 refine Ai (fun s ob => ∃ (B : List gradient_part) (u : Value), V8.J1 B = some r ∧ s = [(9, .v u)] ∧ ob = [U8 u B]) [] J ?_ ?_
 refine Ah I (uA (uD (Bs 202 8) ?_))
 obtain ⟨a6, Y, Z⟩ := Ac h
 refine Cs Y [(1, _), (2, _), (3, _), (4, _)] J4 (fun (d : (List gradient_part) × Int × Int × Int) s ob => ∃ (g : Value), s = [(9, .v g), (10, .V d.2.1), (11, .V d.2.2.1), (12, .V d.2.2.2)] ∧ ob = [O5 t [Ak e], U8 g d.1]) ⟨(.slice none 0 0), I2⟩ ⟨I, I, I, I, J⟩ ⟨[0, 1], I, by decide⟩ ?_
 rintro d F s ob ⟨g, rfl, rfl⟩ h aa
 refine Aa fun a7 ab => Bh [.l 2 (p.length : Int)] I ⟨Ax, J⟩ (Ar h I ?_ ?_)
 intro ac h
 refine tZ ?_
 subst ab
 refine Ai (fun s ob => ∃ (w : (List gradient_part) × Int × Int) (D : Value), V8.J3 d w = some F ∧ s = [(9, .v D), (10, .V w.2.1), (11, .V w.2.2)] ∧ ob = [O5 t [Ak e], U8 D w.1]) [(1, _), (2, _), (3, _), (4, _), (12, _)] J5 ?_ ?_
 refine uA (Ai (fun s ob => ∃ (i : Int × Int), V8.J4 e A p d i = some F ∧ s = [(10, .V i.1), (11, .V i.2)] ∧ ob = [O5 t [Ak e], U8 g d.1]) [(1, _), (2, _), (3, _), (4, _), (9, _), (12, _)] J6 ?_ ?_)
 refine uA ?_
 obtain ⟨a8, ad, ae⟩ := Ac h
 refine Cs ad [(1, _), (2, _), (3, _), (4, _), (9, _), (12, _)] J6 (fun (y : Int × Int) s ob => s = [(10, .V y.1), (11, .V y.2)] ∧ ob = [O5 t [Ak e], U8 g d.1]) ⟨I, I⟩ ⟨I, I, J⟩ ⟨[0, 1], I, by decide⟩ ?_
 rintro y a9 s ob ⟨rfl, rfl⟩ h af
 refine Aa fun ba ag => uB ?_
 obtain ⟨O, ⟨ah, ai⟩, h⟩ := A6 h
 refine E2 [.x 2 O.1 (rI O.2)] I ⟨⟨ah, Ag ai⟩, J⟩ (Ar h I ?_ ?_)
 intro aj h
 refine tZ ?_
 subst ag
 refine uA (Ah I ?_)
 obtain ⟨P, ⟨ak, al⟩, h⟩ := A6 h
 refine tV (An 8 [.x 3 P.1 (A4 P.2)] I ⟨⟨ak, Ag al⟩, J⟩ ?_)
 cases io h
 exact tW ⟨_, _, _, I, I2, J8, [0, 1], I, by decide⟩
 intro aj h
 obtain rfl := af _ (oi h).symm
 have h := ae
 exact uE (lg ⟨(y.1, y.2), h, I2⟩ [0, 1])
 rintro s ob ⟨i, h, rfl, rfl⟩
 refine Aa fun bb am => ?_
 obtain ⟨j, ⟨Q, R⟩, h⟩ := A6 h
 obtain ⟨bc, an, h⟩ := Ac h
 refine Bz (pd 7 0 [5]) [0] [_] I (Ca 5 [.o 0 0, .x 3 j.1 (rI j.2)] I ⟨⟨Q, Ag R⟩, I, J⟩ (Dq I (fJ _ _ _ an) (Bf 1 I (Ap (tW ?_)))))
 subst am
 refine Ai (fun s ob => ∃ (a : Int × Int × Int × Int × Int × Int) (G : Nat) (H : Nat), V8.J5 A p d i j a = some F ∧ s = [(14, .v (.pointer (some ⟨G, 0, none⟩))), (15, .v (.pointer (some ⟨H, 0, none⟩)))] ∧ ob = [O5 t [Ak e], U8 g d.1, .arr G 102 3 1 [[.V a.1, .V a.2.1, .V a.2.2.1]], .arr H 102 3 1 [[.V a.2.2.2.1, .V a.2.2.2.2.1, .V a.2.2.2.2.2]]]) [(1, _), (2, _), (3, _), (4, _), (9, _), (10, _), (11, _), (12, _)] J8 ?_ ?_
 obtain ⟨k, ⟨ao, aq⟩, h⟩ := A6 h
 obtain ⟨n, ⟨ar, au⟩, h⟩ := A6 h
 refine Bz (sl 11 0 (.par [(11, []), (12, [])] (.act 13 (.act 14 .nil)))) [0] [_] I (Ca 11 [.o 1 0, .x 4 k.1 (Bj k.2), .o 7 0, .x 9 n.1 (Bj n.2)] I ⟨⟨ar, Ag au⟩, I, ⟨ao, Ag aq⟩, I, J⟩ (AP.any [⟨11, [], 14, .box 102 3 (W1)⟩, ⟨12, [], 15, .box 102 3 (W1)⟩] I ⟨⟨_, I, I, I, fun _ => uF W1 3 fun b => ⟨_, I, ⟨b, I⟩, I⟩⟩, ⟨_, I, I, I, fun _ => uF W1 3 fun b => ⟨_, I, ⟨b, I⟩, I⟩⟩, J⟩ ?_))
 intro av aw
 exact tY [2] I I I (A3 2 0 0 [Bj k.2] I (tY [3] I I I (A3 3 0 0 [Bj n.2] I (Ap (tW (lg ⟨(k.2.At, k.2.Height, k.2.Limit, n.2.At, n.2.Height, n.2.Limit), av, aw, h, I2⟩ [0, 1, 2, 3]))))))
 rintro s ob ⟨a, G, H, h, rfl, rfl⟩
 obtain ⟨E, ⟨ax, ay⟩, h⟩ := A6 h
 obtain ⟨f, ⟨az, a0⟩, h⟩ := A6 h
 obtain ⟨a1, a2, h⟩ := Ac h
 exact Bz (pd 29 0 [26, 27]) [3, 2] [_, _] I (Ca 25 [.x 3 j.1 (rI j.2), .x 8 E.1 (rI E.2), .o 12 0, .o 14 1, .o 17 0, .o 19 1, .x 23 f.1 (Bw f.2)] I ⟨⟨az, Ag a0⟩, I, I, I, I, ⟨ax, Ag ay⟩, ⟨Q, Ag R⟩, J⟩ (uM I (Au (l := [.V (wr (j.2 - E.2)), .V (wr (a.2.2.2.1 - a.1)), .V (wr (a.2.2.2.2.1 - a.2.1)), .v (.string f.2.Name), .V f.2.Density, .V f.2.Expansion, .V f.2.Compress, .V f.2.Friction]) Y8 I) I (tY [] I I I (uG 8 (([(⟨wr (j.2 - E.2), wr (a.2.2.2.1 - a.1), wr (a.2.2.2.2.1 - a.2.1), f.2⟩ : gradient_part)] : List gradient_part).map C3) (tY [1] I I I (C9 1 I a2 fun a3 => Jj 9 (Bf 1 I (Ap (tW (lg ⟨(a1, i.1, i.2), a3, h, I2⟩ [0, 1]))))))))))
 rintro s ob ⟨w, D, h, rfl, rfl⟩
 unfold V8.J3 at h
 refine tV (Af 3 I ?_)
 cases io h
 exact tW ⟨_, _, _, I, ⟨D, I2⟩, J8, [0, 1], I, by decide⟩
 intro ac h
 obtain rfl := aa _ (oi h).symm
 have h := Z
 exact uE (lg ⟨d.1, g, h, I2⟩ [1])
 rintro s ob ⟨B, u, h, rfl, rfl⟩
 refine Ah I ?_
 obtain rfl := oi h
 exact uC ⟨.inr I, [_], [U8 u B], J1, Cz I (Cm), ⟨u, I2⟩⟩
theorem Un (e : Int) (a : Int) (r : Int × Int × Bool) (h : K6 e a = some r) : ACalls Aj 180 [.V e, .V a] [] (RV (.tup [.V r.1, .V r.2.1, .v (.bool r.2.2)])) := by
 refine Ae Tryz.func180 I I I fun C hC => ?_
 unfold K6 at h
 refine Ah I (Aa fun w l => Eb 22 (decide (a < 1) || (decide (a > 1099511627776) || (decide (e < (-2305843009213693952)) || decide (e > 2305843009213693952)))) ?_ ?_)
 refine tV (Af 3 I ?_)
 rcases bt (decide (a < 1)) with b | b
 exact Ad 11 I b (Af 11 I (tW (jf (by simp only [b, bz]) I I I2)))
 refine Ad 11 I b (Af 4 I ?_)
 rcases bt (decide (a > 1099511627776)) with d | d
 exact Ad 15 I d (Af 7 I (tW (jf (by simp only [b, d, bz]) I I I2)))
 refine Ad 15 I d (Af 4 I ?_)
 rcases bt (decide (e < (-2305843009213693952))) with g | g
 exact Ad 19 I g (Af 3 I (tW (jf (by simp only [b, d, g, bz]) I I I2)))
 exact Ad 19 I g (Af 3 I (tW (jf (by simp only [b, d, g, bz]) I I I2)))
 refine Ar h I ?_ ?_
 intro m h
 refine Ah I ?_
 cases io h
 exact uC ⟨.inr I, [_, _, _], [], J3, Cm, I2⟩
 intro m h
 refine tZ ?_
 subst l
 refine Aa fun y n => ?_
 obtain ⟨i, o, h⟩ := Ac h
 obtain ⟨j, p, h⟩ := Ac h
 refine In (pd 8 0 []) [] [] [.f 2 (.V i), .f 5 (.V j)] I I ⟨Yp.yd (El (c := j) I I (Hh p)), Yp.yd (El (c := i) I I (Rl o)), J⟩ ?_
 subst n
 refine Ai (fun s ob => ∃ (k : Int × Int), K6.J1 k = some r ∧ s = [(7, .V k.1), (8, .V k.2)] ∧ ob = []) [] J ?_ ?_
 refine Ah I (Ar h I ?_ ?_)
 intro u h
 exact Sq I (lg ⟨(wr (i - 1), wr (j + a)), h, I2⟩ [])
 intro u h
 exact tZ (lg ⟨(i, j), h, I2⟩ [])
 rintro s ob ⟨k, h, rfl, rfl⟩
 unfold K6.J1 at h
 refine Ah I ?_
 cases io h
 exact uC ⟨.inr I, [_, _, _], [], J3, Cm, I2⟩
theorem Oe (a : Int) (b : Int) (r : Int) (h : M1 a b = some r) : ACalls Aj 172 [.V a, .V b] [] (RV (.V r)) := by
 refine Ae Tryz.func172 I I I fun C hC => ?_
 refine Ah I (uB ?_)
 obtain ⟨e, d, h⟩ := Ac h
 refine tV (Af 2 I (Cd (Un _ _ _ d) (Af 7 I (tW (Ah I ?_)))))
 cases io h
 exact uC pr
theorem T7 (e : Int) (f : Int) (r : Int) (h : P2 e f = some r) : ACalls Aj 173 [.V e, .V f] [] (RV (.V r)) := by
 refine Ae Tryz.func173 I I I fun C hC => ?_
 refine Ah I (Aa fun k g => ?_)
 obtain ⟨a, i, h⟩ := Ac h
 refine tV (Af 2 I (Cd (Un _ _ _ i) (Af 7 I (tW ?_))))
 subst g
 refine Ai (fun s ob => ∃ (d : Int), P2.J1 d = some r ∧ s = [(5, .V d)] ∧ ob = []) [] J ?_ ?_
 refine Eb 19 (a.2.2 && decide (a.2.1 > 0)) ?_ ?_
 refine tV (Af 2 I ?_)
 rcases bt (a.2.2) with b | b
 exact Ad 16 I b (Af 3 I (tW (jf (by simp only [b, bz]) I I I2)))
 exact Ad 16 I b (Af 3 I (tW (jf (by simp only [b, bz]) I I I2)))
 refine Ar h I ?_ ?_
 intro j h
 exact Sq I (lg ⟨wr (a.1 + 1), h, I2⟩ [])
 intro j h
 exact tZ (lg ⟨a.1, h, I2⟩ [])
 rintro s ob ⟨d, h, rfl, rfl⟩
 unfold P2.J1 at h
 refine Ah I ?_
 cases io h
 exact uC pr
theorem gG (a : gradient_part) (b : Sg) (d : Int) (r : Int × Int) (h : Vt a b d = some r) : ACalls Aj 150 [.agg (C3 a), .agg (Ak b), .V d] [] (RV (.tup [.V r.1, .V r.2])) := by
 refine Ae Tryz.func150 I I I fun C hC => ?_
 refine Aa fun k e => tV (tX [] I (Bo (C3 a) 8 fun l => tX [] I (Bo (Ak b) 7 fun n => Af 2 I (tW ?_))))
 subst e
 refine Kf (pd 18 0 []) [1, 0] [_, _] [.o 1 0, .o 4 1, .o 11 1, .o 14 0] I I J4 (Kf (pd 15 0 []) [0] [_] [.o 2 0, .o 5 0, .o 8 0, .o 11 0] I I J4 (uB ?_))
 obtain ⟨p, f, h⟩ := Ac h
 obtain ⟨s, g, h⟩ := Ac h
 obtain ⟨t, i, h⟩ := Ac h
 obtain ⟨u, j, h⟩ := Ac h
 refine tV (Af 2 I (Cd (Oe _ _ _ f) (Af 2 I (Cd (Oe _ _ _ g) (Af 3 I (Cd (T7 _ _ _ i) (Af 2 I (Cd (T7 _ _ _ j) (Af 3 I (tW (uD g0 ?_)))))))))))
 cases io h
 exact uC ⟨.inr I, [_, _], [], J2, Cm, I2⟩
theorem T2 (a : Li) (r : Li) (h : Iq a = some r) : ACalls Aj 27 [Q0 a] [] (fun x new => ∃ (b : Value), x = .v b ∧ new = [U0 b r]) := by
  refine Ae Tryz.func27 rfl rfl rfl (fun C hC => ?_)
  unfold Iq at h
  obtain ⟨e, d⟩ := Gu h
  refine uB ?_
  refine tV ?_
  refine uH (Yp.assign rfl) rfl ?_
  refine tW ?_
  refine uB ?_
  refine uB ?_
  refine tV ?_
  refine uH (Yp.move rfl) rfl ?_
  refine tX [] rfl (oD rfl rfl rfl (Dl rfl) fun c hc => ?_)
  refine tW ?_
  refine AW.cond rfl rfl ?_ ?_
  · intro hb
    have hs : a = [] := by have := hc hb; simpa using this
    subst hs
    refine uB ?_
    refine tV ?_
    refine uH (Yp.assign rfl) rfl ?_
    refine AO.ghost (Bs 3 1) ?_
    refine tW ?_
    refine uC ?_
    have hr : r = [] := by simpa using d.symm
    subst hr
    exact ⟨.inr rfl, [_], [.us (.slice none 0 0) 3 1 ([].map rI)], ⟨rfl, J⟩, Cz rfl Cm, ⟨_, rfl, rfl⟩⟩
  · intro hb
    refine tZ ?_
    refine uB ?_
    refine tV ?_
    refine tX [] rfl (uL (sz := 1) (es := []) rfl rfl rfl rfl rfl rfl rfl rfl rfl rfl rfl (Dl rfl) fun g => ?_)
    refine uH (Yp.move rfl) rfl ?_
    refine tX [0] rfl (Sj 0 (es' := r.map rI) rfl rfl rfl rfl rfl rfl rfl rfl rfl (AppSrc.list rfl) (by simpa using e) (by rw [← d]; simp) (Dl rfl) fun f => ?_)
    refine uH (Yp.assign rfl) rfl ?_
    refine tW ?_
    refine uC ?_
    exact ⟨.inr rfl, [_], [U0 f r], ⟨rfl, J⟩, Cz rfl Cm, ⟨_, rfl, rfl⟩⟩
theorem eY (f : Value) (n : Li) (r : Li) (h : Zu n = some r) : ACalls Aj 148 [.v f] [U0 f n] (Ea 1 fun x os new => x = .tup [] ∧ os = [U0 f r] ∧ new = []) := by
 refine Ae Tryz.func148 I I I fun C hC => ?_
 refine Aa fun K t => tV (Af 1 I (uJ (C0 0 I I I I) I (Af 3 I (tW ?_))))
 subst t
 refine uA ?_
 obtain ⟨M, u, w⟩ := Ac h
 refine Cs u [(0, _)] J1 (fun (c : Li × Int × Int) s ob => s = [(2, .V c.2.1), (3, .V c.2.2)] ∧ ob = [U0 f c.1]) ⟨I, I⟩ ⟨I, I, J⟩ ⟨[0], I, by decide⟩ ?_
 rintro c A s ob ⟨rfl, rfl⟩ h B
 refine Aa fun N D => Ah I (Ar h I ?_ ?_)
 intro E h
 refine tZ ?_
 subst D
 refine Ai (fun s ob => ∃ (k : Li), Zu.J2 c k = some A ∧ s = [] ∧ ob = [U0 f k]) [(0, _), (2, _), (3, _)] J3 ?_ ?_
 refine uA ?_
 obtain ⟨b, ⟨F, i⟩, h⟩ := A6 h
 obtain ⟨a, ⟨l, e⟩, h⟩ := A6 h
 obtain ⟨g, ⟨o, j⟩, h⟩ := A6 h
 refine C7 0 b.1 I i fun G => C7 0 a.1 I e fun H => C7 0 a.1 I e fun p => Bz kD [] [] I (Bf 6 I (uM I (B8 (m := b.1) I I I I I G I F i) I (Bf 2 I (uM I (B8 (m := a.1) I I I I I H I l e) I (uK ?_ ?_)))))
 exact tY [] I I I (Ce (Bl 0 b.1 0 I I I (Ag i) I (y := .V b.2) I) dS (tY [] I I I (Ce (Bl 0 a.1 0 I I I (Ag e) I (y := .V a.2) I) dS (uM I (B8 (m := a.1) I I I I I p I l e) I (tY [0] I I I (Ci 0 a.1 0 I I I (Ag e) I I I I (Cb I) I (Dg (x := b.2) I) (tY [] I I I (Ce (Bm 0 (m := g.1) I I I I I I I o (Ag j)) dS (tY [0] I I I (Ci 0 g.1 0 I I I (Ag j) I I I I (Cb I) I (Dg (x := a.2) I) (Ap (tW (lg ⟨((c.1.set a.1 b.2).set g.1 a.2), h, I2⟩ [0])))))))))))))
 exact tY [] I I I (Ce (Bl 0 a.1 0 I I I (Ag e) I (y := .V a.2) I) dS (tY [] I I I (Ce (Bl 0 b.1 0 I I I (Ag i) I (y := .V b.2) I) dS (uM I (B8 (m := a.1) I I I I I p I l e) I (tY [0] I I I (Ci 0 a.1 0 I I I (Ag e) I I I I (Cb I) I (Dg (x := b.2) I) (tY [] I I I (Ce (Bm 0 (m := g.1) I I I I I I I o (Ag j)) dS (tY [0] I I I (Ci 0 g.1 0 I I I (Ag j) I I I I (Cb I) I (Dg (x := a.2) I) (Ap (tW (lg ⟨((c.1.set a.1 b.2).set g.1 a.2), h, I2⟩ [0])))))))))))))
 rintro s ob ⟨k, h, rfl, rfl⟩
 unfold Zu.J2 at h
 refine tV (Af 6 I ?_)
 cases io h
 exact tW ⟨_, _, _, I, I2, J3, [0], I, by decide⟩
 intro E h
 obtain rfl := B _ (oi h).symm
 have h := w
 cases io h
 refine uE ?_
 exact ⟨.inl I, [], [U0 f c.1], J, Cz I (Cm), ⟨[U0 f c.1], [], I5⟩⟩
theorem jK (f : Value) (n : List gradient_part) (r : List gradient_part) (h : Z1 n = some r) : ACalls Aj 149 [.v f] [U8 f n] (Ea 1 fun x os new => x = .tup [] ∧ os = [U8 f r] ∧ new = []) := by
 refine Ae Tryz.func149 I I I fun C hC => ?_
 refine Aa fun K t => tV (Af 1 I (uJ (C0 0 I I I I) I (Af 3 I (tW ?_))))
 subst t
 refine uA ?_
 obtain ⟨M, u, w⟩ := Ac h
 refine Cs u [(0, _)] J1 (fun (c : (List gradient_part) × Int × Int) s ob => s = [(2, .V c.2.1), (3, .V c.2.2)] ∧ ob = [U8 f c.1]) ⟨I, I⟩ ⟨I, I, J⟩ ⟨[0], I, by decide⟩ ?_
 rintro c A s ob ⟨rfl, rfl⟩ h B
 refine Aa fun N D => Ah I (Ar h I ?_ ?_)
 intro E h
 refine tZ ?_
 subst D
 refine Ai (fun s ob => ∃ (k : List gradient_part), Z1.J2 c k = some A ∧ s = [] ∧ ob = [U8 f k]) [(0, _), (2, _), (3, _)] J3 ?_ ?_
 refine uA ?_
 obtain ⟨b, ⟨F, i⟩, h⟩ := A6 h
 obtain ⟨a, ⟨l, e⟩, h⟩ := A6 h
 obtain ⟨g, ⟨o, j⟩, h⟩ := A6 h
 refine C7 0 b.1 I i fun G => C7 0 a.1 I e fun H => C7 0 a.1 I e fun p => Bz kD [] [] I (Bf 6 I (uM I (B8 (m := b.1) I I I I I G I F i) I (Bf 2 I (uM I (B8 (m := a.1) I I I I I H I l e) I (uK ?_ ?_)))))
 exact tY [] I I I (Ce (Bl 0 b.1 0 I I I (Ag i) I (y := .agg (C3 b.2)) I) dS (tY [] I I I (Ce (Bl 0 a.1 0 I I I (Ag e) I (y := .agg (C3 a.2)) I) dS (uM I (B8 (m := a.1) I I I I I p I l e) I (tY [0] I I I (Ci 0 a.1 0 I I I (Ag e) I I I I (Cb I) I (Dg (x := b.2) I) (tY [] I I I (Ce (Bm 0 (m := g.1) I I I I I I I o (Ag j)) dS (tY [0] I I I (Ci 0 g.1 0 I I I (Ag j) I I I I (Cb I) I (Dg (x := a.2) I) (Ap (tW (lg ⟨((c.1.set a.1 b.2).set g.1 a.2), h, I2⟩ [0])))))))))))))
 exact tY [] I I I (Ce (Bl 0 a.1 0 I I I (Ag e) I (y := .agg (C3 a.2)) I) dS (tY [] I I I (Ce (Bl 0 b.1 0 I I I (Ag i) I (y := .agg (C3 b.2)) I) dS (uM I (B8 (m := a.1) I I I I I p I l e) I (tY [0] I I I (Ci 0 a.1 0 I I I (Ag e) I I I I (Cb I) I (Dg (x := b.2) I) (tY [] I I I (Ce (Bm 0 (m := g.1) I I I I I I I o (Ag j)) dS (tY [0] I I I (Ci 0 g.1 0 I I I (Ag j) I I I I (Cb I) I (Dg (x := a.2) I) (Ap (tW (lg ⟨((c.1.set a.1 b.2).set g.1 a.2), h, I2⟩ [0])))))))))))))
 rintro s ob ⟨k, h, rfl, rfl⟩
 unfold Z1.J2 at h
 refine tV (Af 6 I ?_)
 cases io h
 exact tW ⟨_, _, _, I, I2, J3, [0], I, by decide⟩
 intro E h
 obtain rfl := B _ (oi h).symm
 have h := w
 cases io h
 refine uE ?_
 exact ⟨.inl I, [], [U8 f c.1], J, Cz I (Cm), ⟨[U8 f c.1], [], I5⟩⟩
theorem aV (f : Value) (n : List Level) (r : List Level) (h : Wq n = some r) : ACalls Aj 151 [.v f] [U5 f n] (Ea 1 fun x os new => x = .tup [] ∧ os = [U5 f r] ∧ new = []) := by
 refine Ae Tryz.func151 I I I fun C hC => ?_
 refine Aa fun K t => tV (Af 1 I (uJ (C0 0 I I I I) I (Af 3 I (tW ?_))))
 subst t
 refine uA ?_
 obtain ⟨M, u, w⟩ := Ac h
 refine Cs u [(0, _)] J1 (fun (c : (List Level) × Int × Int) s ob => s = [(2, .V c.2.1), (3, .V c.2.2)] ∧ ob = [U5 f c.1]) ⟨I, I⟩ ⟨I, I, J⟩ ⟨[0], I, by decide⟩ ?_
 rintro c A s ob ⟨rfl, rfl⟩ h B
 refine Aa fun N D => Ah I (Ar h I ?_ ?_)
 intro E h
 refine tZ ?_
 subst D
 refine Ai (fun s ob => ∃ (k : List Level), Wq.J2 c k = some A ∧ s = [] ∧ ob = [U5 f k]) [(0, _), (2, _), (3, _)] J3 ?_ ?_
 refine uA ?_
 obtain ⟨b, ⟨F, i⟩, h⟩ := A6 h
 obtain ⟨a, ⟨l, e⟩, h⟩ := A6 h
 obtain ⟨g, ⟨o, j⟩, h⟩ := A6 h
 refine C7 0 b.1 I i fun G => C7 0 a.1 I e fun H => C7 0 a.1 I e fun p => Bz kD [] [] I (Bf 6 I (uM I (B8 (m := b.1) I I I I I G I F i) I (Bf 2 I (uM I (B8 (m := a.1) I I I I I H I l e) I (uK ?_ ?_)))))
 exact tY [] I I I (Ce (Bl 0 b.1 0 I I I (Ag i) I (y := .agg (Ao b.2)) I) dS (tY [] I I I (Ce (Bl 0 a.1 0 I I I (Ag e) I (y := .agg (Ao a.2)) I) dS (uM I (B8 (m := a.1) I I I I I p I l e) I (tY [0] I I I (Ci 0 a.1 0 I I I (Ag e) I I I I (Cb I) I (Dg (x := b.2) I) (tY [] I I I (Ce (Bm 0 (m := g.1) I I I I I I I o (Ag j)) dS (tY [0] I I I (Ci 0 g.1 0 I I I (Ag j) I I I I (Cb I) I (Dg (x := a.2) I) (Ap (tW (lg ⟨((c.1.set a.1 b.2).set g.1 a.2), h, I2⟩ [0])))))))))))))
 exact tY [] I I I (Ce (Bl 0 a.1 0 I I I (Ag e) I (y := .agg (Ao a.2)) I) dS (tY [] I I I (Ce (Bl 0 b.1 0 I I I (Ag i) I (y := .agg (Ao b.2)) I) dS (uM I (B8 (m := a.1) I I I I I p I l e) I (tY [0] I I I (Ci 0 a.1 0 I I I (Ag e) I I I I (Cb I) I (Dg (x := b.2) I) (tY [] I I I (Ce (Bm 0 (m := g.1) I I I I I I I o (Ag j)) dS (tY [0] I I I (Ci 0 g.1 0 I I I (Ag j) I I I I (Cb I) I (Dg (x := a.2) I) (Ap (tW (lg ⟨((c.1.set a.1 b.2).set g.1 a.2), h, I2⟩ [0])))))))))))))
 rintro s ob ⟨k, h, rfl, rfl⟩
 unfold Wq.J2 at h
 refine tV (Af 6 I ?_)
 cases io h
 exact tW ⟨_, _, _, I, I2, J3, [0], I, by decide⟩
 intro E h
 obtain rfl := B _ (oi h).symm
 have h := w
 cases io h
 refine uE ?_
 exact ⟨.inl I, [], [U5 f c.1], J, Cz I (Cm), ⟨[U5 f c.1], [], I5⟩⟩
theorem fO (g : Sg) (aa : List Piece) (ab : List Batch) (ac : List Product) (e : Int) (b : Bounds) (r : (List Level) × Int) (h : F7 g aa ab ac e b = some r) : ACalls Aj 92 [.agg (Ak g), Q4 aa, Q3 ab, Q2 ac, .V e, .agg (Aq b)] [] (fun x new => ∃ (u0 : Value), x = .tup [.v u0, .V r.2] ∧ new = [U5 u0 r.1]) := by
 refine Ae Tryz.func92 I I I fun C hC => ?_
 refine Aa fun y1 aj => tV (tX [] I (Bo (Ak g) 7 fun E => tX [] I (Bo (Aq b) 2 fun F => Af 2 I (tW ?_))))
 subst aj
 refine Aa fun y4 ak => uB ?_
 obtain ⟨r5, al, h⟩ := Ac h
 refine tV (An 2 [.o 0 0] I J1 (Cd (hO _ _ _ al) (Af 1 I (tW (Ah I (Ar h I ?_ ?_))))))
 intro am h
 refine Ah I (uD (Bs 131 3) (Cv [2] I ?_))
 cases io h
 rotate_left
 intro am h
 refine tZ ?_
 subst ak
 refine Aa fun y8 an => uB ?_
 obtain ⟨r9, ao, h⟩ := Ac h
 refine tV (Af 1 I (Cd (T1 _ _ ao) (Af 1 I (tW (Ah I (Ar h I ?_ ?_))))))
 intro aq h
 refine Ah I (uD (Bs 131 3) (Cv [2] I ?_))
 cases io h
 rotate_left
 intro aq h
 refine tZ ?_
 subst an
 refine Aa fun cg ar => ?_
 obtain ⟨G, au, h⟩ := Ac h
 refine tV (Af 3 I (tX [] I (Ck I I I (gL _ _ _ _ au) dS ?_)))
 rintro _ _ ⟨av, rfl, rfl⟩
 refine Af 5 I (tW ?_)
 subst ar
 refine Aa fun ci aw => uA (Ah I (Ar h I ?_ ?_))
 intro ax h
 refine Ah I (uD (Bs 131 3) (Cv [3] I ?_))
 cases io h
 any_goals
  exact uC ⟨.inr I, [_, _], [.us (.slice none 0 0) 131 3 ([].map Ao)], J2, Cz I (Cm), ⟨(.slice none 0 0), I2⟩⟩
 intro ax h
 refine Eb 49 ((e == 0) || (decide (e < (-1000)) || (decide (e > 1000) || (!(Kt b))))) ?_ ?_
 refine tV (Af 3 I ?_)
 rcases bt ((e == 0)) with j | j
 exact Ad 52 I j (Af 13 I (tW (jf (by simp only [j, bz]) I I I2)))
 refine Ad 52 I j (Af 4 I ?_)
 rcases bt (decide (e < (-1000))) with u | u
 exact Ad 56 I u (Af 9 I (tW (jf (by simp only [j, u, bz]) I I I2)))
 refine Ad 56 I u (Af 4 I ?_)
 rcases bt (decide (e > 1000)) with B | B
 exact Ad 60 I B (Af 5 I (tW (jf (by simp only [j, u, B, bz]) I I I2)))
 exact Ad 60 I B (An 1 [.o 0 1] I J1 (Cf I I I (Cd (fT b _ I) (Af 3 I (tW (jf (by simp only [j, u, B, bz]) I I I2))))))
 refine Ar h I ?_ ?_
 intro ay h
 refine Ah I (uD (Bs 131 3) (Cv [3] I ?_))
 cases io h
 exact uC ⟨.inr I, [_, _], [.us (.slice none 0 0) 131 3 ([].map Ao)], J2, Cz I (Cm), ⟨(.slice none 0 0), I2⟩⟩
 intro ay h
 refine tZ ?_
 subst aw
 refine Aa fun cj az => ?_
 obtain ⟨H, a0, h⟩ := Ac h
 refine tV (An 2 [.o 0 0] I J1 (tX [] I (Ck I I I (hZ _ _ _ a0) dS ?_)))
 rintro _ _ ⟨a1, rfl, rfl⟩
 refine Af 1 I (tW ?_)
 subst az
 refine Aa fun ck a2 => ?_
 obtain ⟨a3, a4, h⟩ := Ac h
 refine tV (An 4 [.o 0 0] I J1 (AO.ghost (Bi [2, 3] (K := [U4 av G.1, U0 a1 H]) I [(43, Q2 G.1), (16, Q2 G.1), (67, Q0 H), (18, Q0 H), (70, Q2 G.1), (71, Q0 H)] ⟨⟨_, I, .us 0 I⟩, ⟨_, I, .us 0 I⟩, ⟨_, I, .us 1 I⟩, ⟨_, I, .us 1 I⟩, ⟨_, I, .us 0 I⟩, ⟨_, I, .us 1 I⟩, J⟩ (ob' := [O5 E [Ak g], O8 F [Aq b]]) (.rest _)) (tX [] I (Ck I I I (jD _ _ _ _ _ a4) dS ?_))))
 rintro _ _ ⟨M, rfl, rfl⟩
 refine Af 1 I (tW ?_)
 subst a2
 refine Aa fun cl a5 => ?_
 obtain ⟨a6, a7, h⟩ := Ac h
 refine tV (Af 1 I (tX [] I (Ck I I I (T2 _ _ a7) dS ?_)))
 rintro _ _ ⟨N, rfl, rfl⟩
 refine Af 1 I (tW ?_)
 subst a5
 refine Ai (fun s ob => ∃ (n : (List gradient_part) × Li), F7.J1 g e b n = some r ∧ s = [] ∧ ob = [O5 E [Ak g], O8 F [Aq b], U8 M n.1, U0 N n.2]) [(4, _), (6, _), (11, _), (19, _), (20, _)] J5 ?_ ?_
 refine Ah I (Ar h I ?_ ?_)
 intro a8 h
 refine Aa fun cm a9 => ?_
 obtain ⟨ae, ba, h⟩ := Ac h
 refine tV (Af 1 I (tX [3] I (A1 [3] (eY N _ _ ba) ?_)))
 refine tW ?_
 subst a9
 refine Aa fun cn bb => ?_
 obtain ⟨bc, bd, h⟩ := Ac h
 refine tV (Af 1 I (tX [2] I (A1 [2] (jK M _ _ bd) ?_)))
 refine tW ?_
 subst bb
 refine Aa fun co be => tV (Af 1 I (uJ (C0 2 I I I I) I (Af 1 I (tW ?_))))
 subst be
 refine uA (Ot 2 I fun bf => ?_)
 obtain ⟨cp, bg, bh⟩ := Ac h
 refine Gv bg [(4, _), (6, _), (11, _), (19, _), (20, _), (82, _)] J6 (fun (W : Nat) (O : List gradient_part) s ob => s = [(83, .V (W : Int))] ∧ ob = [O5 E [Ak g], O8 F [Aq b], U8 M O, U0 N ae]) ⟨I, I⟩ ⟨I, J⟩ ⟨[0, 1, 2, 3], I, by decide⟩ ?_ ?_
 rintro W O cq s ob af ⟨rfl, rfl⟩ h
 have bi := Co af
 refine Ah I (Aa fun cr bj => Bp I bi (tZ ?_))
 subst bj
 refine uB (uA (Ah I ?_))
 obtain ⟨f, ⟨ag, P⟩, h⟩ := A6 h
 refine tV (Af 4 I (uJ (Bm 2 (m := f.1) I I I I I I I ag (Ag P)) I (Af 1 I (uJ (Bl 2 f.1 2 I I I (Ag P) I (y := .V f.2.height) I) I (Af 1 I (uJ (Bm 2 (m := f.1) I I I I I I I ag (Ag P)) I (Af 1 I (tX [2] I (Ci 2 f.1 2 I I I (Ag P) I I I I (Cb I) I (Dg (x := (⟨f.2.length, f.2.width, wr (0 - f.2.height), f.2.liquid⟩ : gradient_part)) I) (tW (tV (An 2 [.k 0 (W + 1 : Nat)] I ⟨A0 af bf, J⟩ ?_))))))))))))
 cases io h
 exact tW (lg I2 [0, 1, 2, 3])
 rintro O s ob ⟨rfl, rfl⟩ he
 subst he
 have h := bh
 have bk := Cp bc.length
 exact Ah I (Aa fun ct cu => Br I bk (uE (lg ⟨(O, ae), h, I2⟩ [0, 1, 2, 3])))
 intro a8 h
 exact tZ (lg ⟨(a3, a6), h, I2⟩ [0, 1, 2, 3])
 rintro s ob ⟨n, h, rfl, rfl⟩
 refine Aa fun cv bl => ?_
 obtain ⟨w, ⟨bm, X⟩, h⟩ := A6 h
 refine C7 3 w.1 I X fun bn => Bz (pd 7 0 [5]) [3, 1] [_, _] I (Bf 1 I (uM I (B8 (m := w.1) I I I I I bn I bm X) I (AP.o I (Bl 0 w.1 0 I I I (Ag X) I (y := .V w.2) I) I (Ca 1 [.o 0 1] I J1 (uM I (Au (l := [.V w.2, .V b.Low, .V b.High]) E9 I) I (tY [] I I I (uL (sz := 3) (es := ([(⟨w.2, b⟩ : Level)] : List Level).map Ao) I I I I I I I I I I I dS fun bo => Bf 1 I (Ap (tW ?_)))))))))
 subst bl
 refine Ai (fun s ob => ∃ (Q : List Level) (t : Value), F7.J2 e Q = some r ∧ s = [(22, .v t)] ∧ ob = [U5 t Q]) [(4, _)] J1 ?_ ?_
 refine Aa fun cw bp => tV (Af 1 I (uJ (C0 2 I I I I) I (Af 1 I (tW ?_))))
 subst bp
 refine uA (Ot 2 I fun ah => ?_)
 obtain ⟨cx, bq, br⟩ := Ac h
 refine Gv bq [(4, _), (6, _), (11, _), (20, _), (103, _), (104, _)] J6 (fun (R : Nat) (a : Int × Int × (List Level)) s ob => ∃ (D : Value), s = [(105, .V (R : Int)), (22, .v D)] ∧ ob = [O5 E [Ak g], O8 F [[.V a.1, .V a.2.1]], U8 M n.1, U0 N n.2, U5 D a.2.2]) ⟨bo, I2⟩ ⟨I, I, J⟩ ⟨[0, 1, 2, 3, 4], I, by decide⟩ ?_ ?_
 rintro R a cy s ob Y ⟨D, rfl, rfl⟩ h
 have bs := Co Y
 refine Ah I (Aa fun cz bu => Bp I bs (tZ ?_))
 subst bu
 refine uB (uA (Aa fun c1 bv => ?_))
 obtain ⟨S, ⟨bw, ai⟩, h⟩ := A6 h
 refine tV (Af 1 I (uJ (Bm 2 (m := S.1) I I I I I I I bw (Ag ai)) I (uJ (Bl 2 S.1 0 I I I (Ag ai) I (y := .agg (C3 S.2)) I) I (tX [] I (uF W9 8 fun c2 => Af 1 I (tX [5] I (A3 5 0 0 [C3 S.2] I (tW ?_))))))))
 subst bv
 refine Aa fun c3 bx => ?_
 obtain ⟨i, b0, h⟩ := Ac h
 refine tV (An 6 [.o 0 5, .o 1 0] I J2 (Cd (gG _ _ _ _ b0) (Af 5 I (tW ?_))))
 subst bx
 refine uB (tV (An 8 [.o 1 1, .o 5 1] I J2 (uH (Au (l := [.V (wr (a.1 - i.2)), .V (wr (a.2.1 - i.1))]) Dp I) I (tX [1] I (A3 1 0 0 [[.V (wr (a.1 - i.2)), .V (wr (a.2.1 - i.1))]] I (tW ?_))))))
 obtain ⟨A, ⟨b1, Z⟩, h⟩ := A6 h
 obtain ⟨c4, b4, h⟩ := Ac h
 refine C7 3 A.1 I Z fun b5 => Bz (pd 11 0 [8, 9]) [3, 1] [_, _] I (Ca 4 [.k 3 (R + 1 : Nat)] I ⟨A0 Y ah, J⟩ (uM I (B8 (m := A.1) I I I I I b5 I b1 Z) I (AP.o I (Bl 0 A.1 0 I I I (Ag Z) I (y := .V A.2) I) I (Ca 1 [.o 0 1] I J1 (uM I (Au (l := [.V A.2, .V (wr (a.1 - i.2)), .V (wr (a.2.1 - i.1))]) E9 I) I (tY [] I I I (uG 3 (([(⟨A.2, (⟨wr (a.1 - i.2), wr (a.2.1 - i.1)⟩ : Bounds)⟩ : Level)] : List Level).map Ao) (tY [4] I I I (C9 4 I b4 fun b6 => Jj 22 (Bf 1 I (Ap (tW ?_))))))))))))
 refine tV (An 2 [.k 0 (R + 1 : Nat)] I ⟨A0 Y ah, J⟩ ?_)
 cases io h
 exact tW (lg ⟨b6, I2⟩ [0, 1, 2, 3, 4])
 rintro a s ob ⟨D, rfl, rfl⟩ he
 subst he
 have h := br
 have b7 := Cp n.1.length
 exact Ah I (Aa fun c5 c6 => Br I b7 (uE (lg ⟨a.2.2, D, h, I2⟩ [4])))
 rintro s ob ⟨Q, t, h, rfl, rfl⟩
 unfold F7.J2 at h
 refine Ai (fun s ob => ∃ (U : List Level), F7.J3 U = some r ∧ s = [] ∧ ob = [U5 t U]) [(22, _)] J1 ?_ ?_
 refine Ah I (Ar h I ?_ ?_)
 intro b8 h
 obtain ⟨b9, ca, h⟩ := Ac h
 refine tV (Af 1 I (tX [0] I (A1 [0] (aV t _ _ ca) ?_)))
 exact tW (lg ⟨b9, h, I2⟩ [0])
 intro b8 h
 exact tZ (lg ⟨Q, h, I2⟩ [0])
 rintro s ob ⟨U, h, rfl, rfl⟩
 unfold F7.J3 at h
 refine Ah I ?_
 cases io h
 exact uC ⟨.inr I, [_, _], [U5 t U], J2, Cz I (Cm), ⟨t, I2⟩⟩
theorem eV (a : Nw) (b : Plan) (r : Li × Int) (h : Ve a b = some r) : ACalls Aj 47 [.agg (Ab a), .agg (Am b)] [] (fun x new => ∃ (d : Value), x = .tup [.v d, .V r.2] ∧ new = [U0 d r.1]) := by
 refine Ae Tryz.func47 I I I fun C hC => ?_
 refine Aa fun l f => tV (tX [] I (Bo (Ab a) 6 fun n => tX [] I (Bo (Am b) 3 fun p => Af 2 I (tW ?_))))
 subst f
 refine uB (uB ?_)
 obtain ⟨s, g, h⟩ := Ac h
 refine tV (An 2 [.o 0 0, .o 1 1] I J2 (Cd (Jw _ _ _ g) (Af 1 I (tW (Ah I (Ar h I ?_ ?_))))))
 intro i h
 refine Ah I (uD (Bs 3 1) (Cv [2] I ?_))
 cases io h
 exact uC ⟨.inr I, [_, _], [.us (.slice none 0 0) 3 1 ([].map rI)], J2, Cz I (Cm), ⟨(.slice none 0 0), I2⟩⟩
 intro i h
 refine tZ (uB ?_)
 obtain ⟨j, k, h⟩ := Ac h
 refine tV (An 2 [.o 0 0, .o 1 1] I J2 (tX [] I (Ck I I I (T8 _ _ _ k) dS ?_)))
 rintro _ _ ⟨e, rfl, rfl⟩
 refine Af 2 I (tW (Cv [2] I ?_))
 cases io h
 exact uC ⟨.inr I, [_, _], [U0 e j], J2, Cz I (Cm), ⟨e, I2⟩⟩
theorem fL (a : List (List Piece)) (F1 : T) {c : FuncId} {d e : List T} (o : Jd F1 = some (c, d, e)) (f : (List Piece) → Option Bool) (p : ∀ (g : List Piece) r, f g = some r → ACalls Aj c (d ++ [Q4 g] ++ e) [] (RB r)) (r : Int) (h : Vl a f = some r) : ACalls Aj 135 [.list 1 (a.map (rL 2 A4)), F1] [] (RV (.V r)) := by
 refine Ae Tryz.func135 I I I fun C hC => ?_
 unfold Vl at h
 refine Ah I (Ai (fun s ob => ∃ (i : Unit), Vl.J1 i = some r ∧ s = [] ∧ ob = []) [] J ?_ ?_)
 refine Bh [.l 1 (a.length : Int)] I ⟨Ax, J⟩ (uA (B0 6 I fun q => ?_))
 obtain ⟨G, t, j⟩ := Ac h
 refine Bx t [(0, _), (1, _), (7, _)] J3 (fun (b : Nat) (m : Unit) s ob => s = [(8, .V (b : Int))] ∧ ob = []) ⟨I, I⟩ ⟨I, J⟩ ⟨[], I, by decide⟩ ?_ ?_
 rintro b u m H s ob w n ⟨rfl, rfl⟩ h y
 have A := Co n
 refine Ah I (Aa fun K B => Bp I A (tZ ?_))
 subst B
 refine uB (uA (Ah I (uB ?_)))
 obtain ⟨M, D, h⟩ := Ac h
 refine tV (An 5 [.x 3 b ((rL 2 A4) u)] I ⟨⟨I, Ag w⟩, J⟩ (tX [] I (Ch I (.refl _) o I (.rest _) I (p _ _ D) dS (by rintro _ _ ⟨rfl, _⟩; rfl) ?_)))
 rintro _ ⟨_, rfl, -⟩
 refine tW (Ar h I ?_ ?_)
 intro E h
 refine Ah I ?_
 obtain rfl := y _ (oi h).symm
 have h := j
 have h := C2 h
 cases io h
 exact uC pr
 intro E h
 refine tZ (tV (An 2 [.k 0 (b + 1 : Nat)] I ⟨A0 n q, J⟩ ?_))
 cases io h
 exact tW ⟨_, _, _, I, I2, J4, [], I, by decide⟩
 rintro m s ob ⟨rfl, rfl⟩ he
 subst he
 have h := C8 j
 have F := Cp a.length
 exact Ah I (Aa fun N O => Br I F (uE (lg ⟨(), h, I2⟩ [])))
 rintro s ob ⟨i, h, rfl, rfl⟩
 unfold Vl.J1 at h
 refine Ah I ?_
 cases io h
 exact uC pr
theorem jL (b : List (List Piece)) (F1 : T) {d : FuncId} {e f : List T} (i : Jd F1 = some (d, e, f)) (a : (List Piece) → Option Bool) (j : ∀ (g : List Piece) r, a g = some r → ACalls Aj d (e ++ [Q4 g] ++ f) [] (RB r)) (r : Bool) (h : Qv b a = some r) : ACalls Aj 83 [.list 1 (b.map (rL 2 A4)), F1] [] (RB r) := by
 refine Ae Tryz.func83 I I I fun C hC => ?_
 refine Ah I (uB ?_)
 obtain ⟨l, k, h⟩ := Ac h
 refine tV (Af 2 I (Cd (fL _ F1 i a j _ k) (Af 2 I (tW ?_))))
 cases io h
 exact uC pr
theorem iO (a : List Piece) (r : Bool) (h : V3 a = some r) : ACalls Aj 84 [Q4 a] [] (RB r) := by
 refine Ae Tryz.func84 I I I fun C hC => ?_
 refine Ah I (uB ?_)
 obtain ⟨d, b, h⟩ := Ac h
 refine tV (Af 1 I (Cd (Oh _ _ b) (Af 2 I (tW ?_))))
 cases io h
 exact uC pr
theorem fS (a : Nw) (b : List (List Piece)) (r : Int) (h : P3 a b = some r) : ACalls Aj 48 [.agg (Ab a), .list 1 (b.map (rL 2 A4))] [] (RV (.V r)) := by
 refine Ae Tryz.func48 I I I fun C hC => ?_
 refine Aa fun X u => tV (tX [] I (Bo (Ab a) 6 fun g => Af 1 I (tW ?_)))
 subst u
 refine Aa fun Y w => uB ?_
 obtain ⟨Z, y, h⟩ := Ac h
 refine tV (An 1 [.o 0 0] I J1 (Cd (Jy _ _ y) (Af 1 I (tW (Ah I (Ar h I ?_ ?_))))))
 intro A h
 refine Ah I (uD g0 ?_)
 cases io h
 exact uC pr
 intro A h
 refine tZ ?_
 subst w
 refine Aa fun y7 B => Ai (fun s ob => ∃ (f : Bool), P3.J1 a b f = some r ∧ s = [(22, .v (.bool f))] ∧ ob = [O0 g [Ab a]]) [(1, _), (2, _)] J2 ?_ ?_
 refine tV (An 7 [.l 1 (b.length : Int), .o 3 0, .l 4 (a.Segments.length : Int)] I ⟨Ax, I, Ax, J⟩ ?_)
 rcases bt (((b.length : Int) != (a.Segments.length : Int))) with d | d
 have h := Bu d h
 exact Ad 19 I d (Af 3 I (tW (lg ⟨true, h, I2⟩ [0])))
 have h := Bv d h
 obtain ⟨D, E, h⟩ := Ac h
 exact Ad 19 I d (Af 1 I (Cf I I I (Cd (jL _ (.v (.func (.func 84) #[] #[])) I (fun x => V3 x) (fun x r h => iO x r h) _ E) (Af 1 I (tW (lg ⟨D, h, I2⟩ [0]))))))
 rintro s ob ⟨f, h, rfl, rfl⟩
 refine Ar h I ?_ ?_
 intro F h
 refine Ah I (uD g0 ?_)
 cases io h
 exact uC pr
 intro F h
 refine tZ ?_
 subst B
 refine Ai (fun s ob => ∃ (i : Unit), P3.J2 i = some r ∧ s = [] ∧ ob = []) [] J ?_ ?_
 refine Bh [.l 1 (b.length : Int)] I ⟨Ax, J⟩ (uA (B0 23 I fun G => ?_))
 obtain ⟨ab, H, j⟩ := Ac h
 refine Bx H [(2, _), (23, _), (24, _)] J3 (fun (e : Nat) (n : Unit) s ob => s = [(25, .V (e : Int))] ∧ ob = [O0 g [Ab a]]) ⟨I, I⟩ ⟨I, J⟩ ⟨[0], I, by decide⟩ ?_ ?_
 rintro e K n ac s ob M p ⟨rfl, rfl⟩ h N
 have O := Co p
 refine Ah I (Aa fun ad P => Bp I O (tZ ?_))
 subst P
 refine uB (uA (Bh [.x 1 e ((rL 2 A4) K)] I ⟨⟨I, Ag M⟩, J⟩ (uB ?_)))
 obtain ⟨ae, Q, h⟩ := Ac h
 obtain ⟨t, ⟨R, S⟩, h⟩ := A6 h
 refine Bz (.still 0 (sl 6 2 (.act 1 (.still 8 .nil)))) [0] [_] I (Ca 7 [.o 2 0, .x 4 t.1 (Ak t.2)] I ⟨⟨R, Ag S⟩, I, J⟩ (Dq I (Ua _ _ Q) (Bf 1 I (Ap (tW (Ar h I ?_ ?_))))))
 intro U h
 refine Ah I ?_
 obtain rfl := N _ (oi h).symm
 have h := j
 have h := C2 h
 refine uD g0 ?_
 cases io h
 exact uC pr
 intro U h
 refine tZ (tV (An 2 [.k 0 (e + 1 : Nat)] I ⟨A0 p G, J⟩ ?_))
 cases io h
 exact tW ⟨_, _, _, I, I2, J4, [0], I, by decide⟩
 rintro n s ob ⟨rfl, rfl⟩ he
 subst he
 have h := C8 j
 have W := Cp b.length
 exact Ah I (Aa fun af ag => Br I W (uE (lg ⟨(), h, I2⟩ [])))
 rintro s ob ⟨i, h, rfl, rfl⟩
 unfold P3.J2 at h
 refine Ah I ?_
 cases io h
 exact uC pr
theorem J0 (a : Int) (c : Int) (r : Bool) (h : Er a c = r) : ACalls Aj 181 [.V a, .V c] [] (RB r) := by
 refine Ae Tryz.func181 I I I fun C hC => ?_
 unfold Er at h
 refine Ah I (Ai (fun s ob => s = [(4, .v (.bool (decide (a ≥ 0) && decide (a ≤ c))))] ∧ ob = []) [] J ?_ ?_)
 refine tV (Af 3 I ?_)
 rcases bt (decide (a ≥ 0)) with b | b
 refine Ad 7 I b (Af 5 I (tW ?_))
 exact lf I2 ⟨(Do (by simp only [b, bz])), J⟩ [] I
 refine Ad 7 I b (Af 5 I (tW ?_))
 exact lf I2 ⟨(Do (by simp only [b, bz])), J⟩ [] I
 rintro s ob ⟨rfl, rfl⟩
 obtain rfl := h
 exact uC pr
theorem fU (a : Sn) (r : Bool) (h : P4 a = some r) : ACalls Aj 174 [.agg (Ba a)] [] (RB r) := by
 refine Ae Tryz.func174 I I I fun C hC => ?_
 unfold P4 at h
 refine Aa fun l i => tV (tX [] I (Bo (Ba a) 5 fun n => Af 1 I (tW ?_)))
 subst i
 refine Ah I (Ai (fun s ob => ∃ (g : Bool), P4.J1 g = some r ∧ s = [(2, .v (.bool g))] ∧ ob = []) [] J ?_ ?_)
 obtain ⟨j, k, h⟩ := Ac h
 refine tV (An 2 [.o 1 0] I J1 (Cd (Om _ _ k) (Af 1 I ?_)))
 rcases bt (j) with b | b
 have h := Bu b h
 refine Ad 7 I b (An 3 [.o 2 0] I J1 (Cf I I I (Cd (J0 a.Node 23 _ I) (Af 2 I ?_))))
 rcases bt ((Er a.Node 23)) with d | d
 have h := Bu d h
 refine Ad 13 I d (An 3 [.o 2 0] I J1 (Cf I I I (Cd (J0 a.Head 100000000 _ I) (Af 2 I ?_))))
 rcases bt ((Er a.Head 100000000)) with e | e
 have h := Bu e h
 refine Ad 19 I e (An 3 [.o 2 0] I J1 (Cf I I I (Cd (J0 a.Fall 100000 _ I) (Af 2 I ?_))))
 rcases bt ((Er a.Fall 100000)) with f | f
 have h := Bu f h
 exact Ad 25 I f (An 3 [.o 2 0] I J1 (Cf I I I (Cd (J0 a.Suction 100000000 _ I) (Af 2 I (tW (lg ⟨(Er a.Suction 100000000), h, I2⟩ []))))))
 have h := Bv f h
 exact Ad 25 I f (Af 6 I (tW (lg ⟨false, h, I2⟩ [])))
 have h := Bv e h
 exact Ad 19 I e (Af 12 I (tW (lg ⟨false, h, I2⟩ [])))
 have h := Bv d h
 exact Ad 13 I d (Af 18 I (tW (lg ⟨false, h, I2⟩ [])))
 have h := Bv b h
 exact Ad 7 I b (Af 24 I (tW (lg ⟨false, h, I2⟩ [])))
 rintro s ob ⟨g, h, rfl, rfl⟩
 unfold P4.J1 at h
 cases io h
 exact uC pr
theorem hF (a : station_pump) (b : Int) (r : Int) (h : Zx a b = some r) : ACalls Aj 175 [.agg (Hp a), .V b] [] (RV (.V r)) := by
 refine Ae Tryz.func175 I I I fun C hC => ?_
 refine Aa fun f d => tV (tX [] I (Bo (Hp a) 5 fun g => Af 1 I (tW ?_)))
 subst d
 refine uB ?_
 obtain ⟨i, e, h⟩ := Ac h
 refine Bz (pd 14 0 [10]) [0] [_] I (Ca 10 [.o 2 0, .o 5 0] I J2 (Dq I (Oe _ _ _ e) (Bf 2 I (Jj 4 (Bf 1 I (Ap (tW (uD g0 ?_))))))))
 cases io h
 exact uC pr
theorem iZ (a : Sn) (b : Int) (r : Int × Int) (h : V7 a b = some r) : ACalls Aj 167 [.agg (Ba a), .V b] [] (RV (.tup [.V r.1, .V r.2])) := by
 refine Ae Tryz.func167 I I I fun C hC => ?_
 refine Aa fun n e => tV (tX [] I (Bo (Ba a) 5 fun s => Af 2 I (tW ?_)))
 subst e
 refine Aa fun t f => uB ?_
 obtain ⟨u, g, h⟩ := Ac h
 refine tV (An 1 [.o 0 0] I J1 (Cd (fU _ _ g) (Af 1 I (tW (Ar h I ?_ ?_)))))
 intro i h
 refine Ah I (uD g0 ?_)
 cases io h
 exact uC ⟨.inr I, [_, _], [], J2, Cm, I2⟩
 intro i h
 refine tZ ?_
 subst f
 refine uB (Eb 14 (decide (b < 0) || decide (b > 32000)) ?_ ?_)
 refine tV (Af 3 I ?_)
 rcases bt (decide (b < 0)) with d | d
 exact Ad 11 I d (Af 3 I (tW (jf (by simp only [d, bz]) I I I2)))
 exact Ad 11 I d (Af 3 I (tW (jf (by simp only [d, bz]) I I I2)))
 refine Ar h I ?_ ?_
 intro j h
 refine Ah I (uD g0 ?_)
 cases io h
 exact uC ⟨.inr I, [_, _], [], J2, Cm, I2⟩
 intro j h
 refine tZ (uB ?_)
 obtain ⟨w, k, h⟩ := Ac h
 refine tV (An 1 [.o 0 0] I J1 (uH (Au (l := [.v (.string a.Name), .V a.Node, .V a.Head, .V a.Fall, .V a.Suction]) Y7 I) I (Af 1 I (Cd (hF _ _ _ k) (Af 2 I (tW (uD g0 ?_)))))))
 cases io h
 exact uC ⟨.inr I, [_, _], [], J2, Cm, I2⟩
theorem eS (f : Sn) (a : Bounds) (g : Int) (r : Bounds × Int) (h : Vd f a g = some r) : ACalls Aj 141 [.agg (Ba f), .agg (Aq a), .V g] [] (RV (.tup [.agg (Aq r.1), .V r.2])) := by
 refine Ae Tryz.func141 I I I fun C hC => ?_
 refine Aa fun v i => tV (tX [] I (Bo (Ba f) 5 fun w => tX [] I (Bo (Aq a) 2 fun y => tX [] I (uF [.V 0, .V 0] 2 fun A => Af 1 I (tW ?_)))))
 subst i
 refine Aa fun B j => ?_
 obtain ⟨e, k, h⟩ := Ac h
 refine tV (An 2 [.o 0 0] I J1 (Cd (iZ _ _ _ k) (Af 5 I (tW ?_))))
 subst j
 refine Aa fun D n => Ah I (Ar h I ?_ ?_)
 intro s h
 refine uB (tV (uH (Au (l := [.V 0, .V 0]) Dp I) I (Af 1 I (tX [2] I (A3 2 0 0 [[.V 0, .V 0]] I (Af 1 I (tW (Cv [2] I ?_))))))))
 cases io h
 exact uC ⟨.inr I, [_, _], [], ⟨⟨0, _, _, _, _, _, _, _, I5⟩, I, J⟩, Cm, I2⟩
 intro s h
 refine tZ ?_
 subst n
 refine Aa fun E t => Eb 34 (decide (a.Low > a.High) || (decide (a.Low < (-1125899906842624)) || decide (a.High > 1125899906842624))) ?_ ?_
 refine tV (An 6 [.o 1 1, .o 3 1] I J2 ?_)
 rcases bt (decide (a.Low > a.High)) with b | b
 exact Ad 25 I b (Af 9 I (tW (jf (by simp only [b, bz]) I I I2)))
 refine Ad 25 I b (An 5 [.o 1 1] I J1 ?_)
 rcases bt (decide (a.Low < (-1125899906842624))) with d | d
 exact Ad 30 I d (Af 4 I (tW (jf (by simp only [b, d, bz]) I I I2)))
 exact Ad 30 I d (An 4 [.o 1 1] I J1 (tW (jf (by simp only [b, d, bz]) I I I2)))
 refine Ar h I ?_ ?_
 intro u h
 refine uB (tV (uH (Au (l := [.V 0, .V 0]) Dp I) I (tX [2] I (A3 2 0 0 [[.V 0, .V 0]] I (Af 1 I (tW (Cv [2] I ?_)))))))
 cases io h
 exact uC ⟨.inr I, [_, _], [], ⟨⟨0, _, _, _, _, _, _, _, I5⟩, I, J⟩, Cm, I2⟩
 intro u h
 refine tZ ?_
 subst t
 refine uB (tV (An 8 [.o 1 1, .o 5 1] I J2 (uH (Au (l := [.V (wr (a.Low + e.1)), .V (wr (a.High + e.1))]) Dp I) I (tX [2] I (A3 2 0 0 [[.V (wr (a.Low + e.1)), .V (wr (a.High + e.1))]] I (Af 1 I (tW (Cv [2] I ?_))))))))
 cases io h
 exact uC ⟨.inr I, [_, _], [], ⟨⟨0, _, _, _, _, _, _, _, I5⟩, I, J⟩, Cm, I2⟩
theorem gN (f : Int) (d : List Batch) (e : List Product) (r : Bool) (h : Nf f d e = some r) : ACalls Aj 52 [.V f, Q3 d, Q2 e] [] (RB r) := by
 refine Ae Tryz.func52 I I I fun C hC => ?_
 unfold Nf at h
 refine Ah I (Ai (fun s ob => ∃ (g : Bool), Nf.J1 g = some r ∧ s = [(6, .v (.bool g))] ∧ ob = []) [] J ?_ ?_)
 refine tV (An 5 [.l 2 (d.length : Int)] I ⟨Ax, J⟩ ?_)
 rcases bt (decide (f < (d.length : Int))) with b | b
 have h := Bu b h
 obtain ⟨a, ⟨i, j⟩, h⟩ := A6 h
 refine Ad 11 I b (An 8 [.x 2 a.1 (D7 a.2)] I ⟨⟨i, Ag j⟩, J⟩ ?_)
 rcases bt (decide (a.2.Product ≥ 0)) with c | c
 have h := Bu c h
 exact Ad 19 I c (An 10 [.x 2 a.1 (D7 a.2), .l 6 (e.length : Int)] I ⟨Ax, ⟨i, Ag j⟩, J⟩ (tW (lg ⟨decide (a.2.Product < (e.length : Int)), h, I2⟩ [])))
 have h := Bv c h
 exact Ad 19 I c (Af 10 I (tW (lg ⟨false, h, I2⟩ [])))
 have h := Bv b h
 exact Ad 11 I b (Af 18 I (tW (lg ⟨false, h, I2⟩ [])))
 rintro s ob ⟨g, h, rfl, rfl⟩
 unfold Nf.J1 at h
 cases io h
 exact uC pr
end Go.Proofs.YtodeekicjiengaaGreatDoor
