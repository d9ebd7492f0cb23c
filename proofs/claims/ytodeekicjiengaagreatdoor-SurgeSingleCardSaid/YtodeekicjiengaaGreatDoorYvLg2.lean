/- Walks that show what functions of the program compute; printed by a program of ours. No condition. -/
import Derived.Test.YtodeekicjiengaaGreatDoorYvLg1
set_option maxRecDepth 100000
namespace Go.Proofs.YtodeekicjiengaaGreatDoor
open Go.Aw
set_option linter.unusedVariables false
set_option linter.unusedSimpArgs false
set_option maxHeartbeats 4000000
theorem gW (a : Product) (r : Arr Int 4) (h : K5 a = r) : ACalls Aj 138 [.agg (Bw a)] [] (fun x new => x = .agg (r.l.map cI) ∧ new = []) := by
 refine Ad Tryz.func138 I I I fun C hC => ?_
 unfold K5 at h
 refine Aa fun c b => sH (sJ [] I (Bo (Bw a) 5 fun d => sJ [] I (sS [.V 0, .V 0, .V 0, .V 0] 4 fun e => sI ?_)))
 subst b
 refine sN (sH (An 8 [.o 1 0, .o 3 0, .o 5 0, .o 7 0] I J4 (sT (cM (l := [.V a.Density, .V a.Expansion, .V a.Compress, .V a.Friction]) I I I I I I) I (sJ [1] I (A3 1 0 0 [[.V a.Density, .V a.Expansion, .V a.Compress, .V a.Friction]] I (sI (Cu [1] I ?_)))))))
 obtain rfl := h
 exact sO ⟨.inr I, [_], [], ⟨⟨0, _, _, _, _, _, _, _, I5⟩, J⟩, Cm, I2⟩
theorem eI (a : Product) (r : Bool) (h : Va a = some r) : ACalls Aj 87 [.agg (Bw a)] [] (fun x new => x = .v (.bool r) ∧ new = []) := by
 refine Ad Tryz.func87 I I I fun C hC => ?_
 unfold Va at h
 refine Aa fun X B => sH (sJ [] I (Bo (Bw a) 5 fun i => Ag 1 I (sI ?_)))
 subst B
 refine Aa fun Y D => sH (An 1 [.o 0 0] I J1 (sJ [] I (Ci I I I (gW a _ I) dS ?_)))
 rintro _ _ ⟨rfl, rfl⟩
 refine sJ [] I (sS [.V 0, .V 0, .V 0, .V 0] 4 fun n => sJ [1] I (sZ 1 0 0 (es' := [(K5 a).l.map cI]) I I I I I I I (by simp [Arr.h, Bj]) (by simp [Arr.h, Bj]) I (congrArg (fun r => [r]) (Iy (by simp [Arr.h, Bj]))) (sI ?_)))
 subst D
 refine Ai (fun s ob => ∃ (t : Unit), Va.J1 a t = some r ∧ s = [] ∧ ob = [.arr i 72 5 1 [Bw a]]) [(1, _)] J1 ?_ ?_
 refine Aa fun Z E => sH (sJ [] I (mR (cs := ([⟨400, 1200⟩, ⟨0, 2000⟩, ⟨0, 5000⟩, ⟨1, 2000⟩] : List product_span).flatMap Ev) (y := .agg (([⟨400, 1200⟩, ⟨0, 2000⟩, ⟨0, 5000⟩, ⟨1, 2000⟩] : List product_span).flatMap Ev)) (List.mem_singleton.2 I) I I dS (Ag 1 I (sI ?_))))
 subst E
 refine sM ?_
 have F : (4 : Nat) ≤ 9223372036854775806 := by decide
 obtain ⟨aa, G, u⟩ := Ac h
 clear h
 refine Fe G [(1, _), (3, _), (8, _)] J3 (fun (e : Nat) (w : Unit) s ob => s = [(9, .V (e : Int))] ∧ ob = [.arr i 72 5 1 [Bw a], .arr n 189 4 1 [(K5 a).l.map cI]]) ⟨I, I⟩ ⟨I, J⟩ ⟨[0, 1], I, by decide⟩ ?_ ?_
 rintro e w H s ob K ⟨rfl, rfl⟩ h M
 have N : decide ((e : Int) < 4) = true := decide_eq_true (by omega)
 refine Ah I (Aa fun ab O => Bs I N (sL ?_))
 subst O
 refine sN (sM (Aa fun ac P => ?_))
 obtain ⟨f, ⟨Q, R⟩, h⟩ := A5 h
 refine sH (Ag 1 I (sT (Yf (m := f.1) (l := ([⟨400, 1200⟩, ⟨0, 2000⟩, ⟨0, 5000⟩, ⟨1, 2000⟩] : List product_span)) (row := Ev) I I I I I (fun _ => I) I I Q R) I (sJ [] I (sS [.V 0, .V 0] 2 fun ad => Ag 1 I (sJ [2] I (A3 2 0 0 [Ev f.2] I (sI ?_)))))))
 subst P
 refine Ai (fun s ob => ∃ (j : Bool), Va.J3 j = some H ∧ s = [(26, .v (.bool j))] ∧ ob = [.arr i 72 5 1 [Bw a], .arr n 189 4 1 [(K5 a).l.map cI]]) [(1, _), (3, _), (8, _), (9, _)] J4 ?_ ?_
 obtain ⟨b, ⟨A, g⟩, h⟩ := A5 h
 refine By (pd 14 0 []) [1, 2] [_, _] I (Bg 1 I (sY I (Du (m := b.1) I I I I I I A (Ej g)) I (AP.o I (C2 0 0 (0 + b.1) I I I I (by omega) (y := .V b.2) (by rw [Nat.zero_add]; exact Ae g)) I (B8 4 [.o 1 1] I J1 ?_))))
 rcases bt (decide (b.2 < f.2.least)) with d | d
 replace h := Bq d h
 refine A4 19 I d (Bg 7 I (Ap (sI ?_)))
 exact lg ⟨true, h, I2⟩ [0, 1]
 replace h := Br d h
 refine A4 19 I d (Bg 1 I (Fw I I I I ((Du (m := b.1) I I I I I I A (Ej g)).yd) dS (Fw I I I I (C2 0 0 (0 + b.1) I I I I (by omega) (y := .V b.2) (by rw [Nat.zero_add]; exact Ae g)) dS (B8 4 [.o 1 1] I J1 (Ap (sI ?_))))))
 exact lg ⟨decide (b.2 > f.2.most), h, I2⟩ [0, 1]
 rintro s ob ⟨j, h, rfl, rfl⟩
 refine Ar h I ?_ ?_
 intro S h
 refine Ah I ?_
 obtain rfl := M _ (oi h).symm
 replace h := u
 replace h := C1 h
 refine sP g0 ?_
 obtain rfl := oi h
 exact sO pr
 intro S h
 refine sL (sH (An 2 [.k 0 (e + 1 : Nat)] I ⟨A0 K F, J⟩ ?_))
 obtain rfl := oi h
 exact sI ⟨_, _, _, I, I2, J4, [0, 1], I, by decide⟩
 rintro w s ob ⟨rfl, rfl⟩ he
 subst he
 have h := C6 u
 have U : decide (((4 : Nat) : Int) < 4) = false := by simp
 refine Ah I (Aa fun ae af => Bu I U (sQ ?_))
 exact lg ⟨(), h, I2⟩ [0]
 rintro s ob ⟨t, h, rfl, rfl⟩
 refine sN ?_
 obtain ⟨ag, W, h⟩ := Ac h
 refine sH (An 2 [.o 1 0] I J1 (Cc (Of _ _ W) (Ag 1 I (sI (sP g0 ?_)))))
 obtain rfl := oi h
 exact sO pr
theorem fS (a : List Product) (F1 : T) {c : FuncId} {d e : List T} (o : Jf F1 = some (c, d, e)) (f : Product → Option Bool) (p : ∀ (g : Product) r, f g = some r → ACalls Aj c (d ++ [.agg (Bw g)] ++ e) [] fun x new => x = .v (.bool r) ∧ new = []) (r : Int) (h : P6 a f = some r) : ACalls Aj 139 [Q2 a, F1] [] (fun x new => x = .V r ∧ new = []) := by
 refine Ad Tryz.func139 I I I fun C hC => ?_
 unfold P6 at h
 refine Ah I (Ai (fun s ob => ∃ (i : Unit), P6.J1 i = some r ∧ s = [] ∧ ob = []) [] J ?_ ?_)
 refine Bh [.l 1 (a.length : Int)] I ⟨Ay, J⟩ (sM (Bz 6 I fun q => ?_))
 obtain ⟨G, t, j⟩ := Ac h
 clear h
 refine Bx t [(0, _), (1, _), (7, _)] J3 (fun (b : Nat) (m : Unit) s ob => s = [(8, .V (b : Int))] ∧ ob = []) ⟨I, I⟩ ⟨I, J⟩ ⟨[], I, by decide⟩ ?_ ?_
 rintro b u m H s ob w n ⟨rfl, rfl⟩ h y
 have A := Cn n
 refine Ah I (Aa fun K B => Bs I A (sL ?_))
 subst B
 refine sN (sM (Ah I (sN ?_)))
 obtain ⟨M, D, h⟩ := Ac h
 refine sH (An 5 [.x 3 b (Bw u)] I ⟨⟨I, Ae w⟩, J⟩ (sJ [] I (Cl I (.refl _) o I (.rest _) I (p _ _ D) dS (by rintro _ _ ⟨rfl, _⟩; rfl) ?_)))
 rintro _ ⟨_, rfl, -⟩
 refine sI (Ar h I ?_ ?_)
 intro E h
 refine Ah I ?_
 obtain rfl := y _ (oi h).symm
 replace h := j
 replace h := C1 h
 obtain rfl := oi h
 exact sO pr
 intro E h
 refine sL (sH (An 2 [.k 0 (b + 1 : Nat)] I ⟨A0 n q, J⟩ ?_))
 obtain rfl := oi h
 exact sI ⟨_, _, _, I, I2, J4, [], I, by decide⟩
 rintro m s ob ⟨rfl, rfl⟩ he
 subst he
 have h := C6 j
 have F := Co a.length
 refine Ah I (Aa fun N O => Bu I F (sQ ?_))
 exact lg ⟨(), h, I2⟩ []
 rintro s ob ⟨i, h, rfl, rfl⟩
 refine Ah I ?_
 obtain rfl := oi h
 exact sO pr
theorem fY (a : Product) (b : Bt) (r : Bool) (h : K1 a b = r) : ACalls Aj 140 [.agg (Bw a), .eptr (rS b)] [] (fun x new => x = .v (.bool r) ∧ new = []) := by
 refine Ad Tryz.func140 I I I fun C hC => ?_
 unfold K1 at h
 refine sN (sH (sJ [] I (Bo (Bw a) 5 fun d => Ag 1 I (sI (sN (sH (An 3 [.o 1 0] I J1 (sT (Yp.cmpS (c := Sh a.Name b) I I I) I (Ag 1 I (sI (sP g0 ?_)))))))))))
 obtain rfl := h
 exact sO pr
theorem eG (b : List Product) (a : Bt) (r : Int) (h : Y6 b a = some r) : ACalls Aj 88 [Q2 b, .v (.string a)] [] (fun x new => x = .V r ∧ new = []) := by
 refine Ad Tryz.func88 I I I fun C hC => ?_
 refine sN (sH (sJ [] I (Bo [.v (.string a)] 1 fun d => Ag 1 I (sI (sN ?_)))))
 obtain ⟨e, c, h⟩ := Ac h
 refine sH (Ag 1 I (sT (tD I I) I (sJ [] I (Cl I (.refl _) I I (.cons (.refl _) (.cons (.fn (.rest _) (.cons (.box 0 I (.rest _)) (.rest _))) (.rest _))) I (fS _ (.fn 140 [] [.eptr (rS a)]) I (fun x => some (K1 x a)) (fun x r h => by obtain I := oi h; exact fY x a _ I) _ c) dS (by rintro _ _ ⟨rfl, _⟩; rfl) ?_))))
 rintro _ ⟨_, rfl, -⟩
 refine Ag 1 I (sI (sP g0 ?_))
 obtain rfl := oi h
 exact sO pr
theorem Tn (a : List Product) (r : Int) (h : Mz a = some r) : ACalls Aj 49 [Q2 a] [] (fun x new => x = .V r ∧ new = []) := by
 refine Ad Tryz.func49 I I I fun C hC => ?_
 refine Ah I (Aa fun y2 y => Bh [.l 1 (a.length : Int)] I ⟨Ay, J⟩ (Ar h I ?_ ?_))
 intro A h
 refine Ah I ?_
 obtain rfl := oi h
 exact sO pr
 intro A h
 refine sL ?_
 subst y
 refine Ai (fun s ob => ∃ (e : Unit), Mz.J1 a e = some r ∧ s = [] ∧ ob = []) [(0, _)] J1 ?_ ?_
 refine Bh [.l 1 (a.length : Int)] I ⟨Ay, J⟩ (sM (Bz 10 I fun B => ?_))
 obtain ⟨ab, D, f⟩ := Ac h
 clear h
 refine Bx D [(0, _), (10, _), (11, _)] J3 (fun (b : Nat) (g : Unit) s ob => s = [(12, .V (b : Int))] ∧ ob = []) ⟨I, I⟩ ⟨I, J⟩ ⟨[], I, by decide⟩ ?_ ?_
 rintro b i g ac s ob E j ⟨rfl, rfl⟩ h F
 have G := Cn j
 refine Ah I (Aa fun ad H => Bs I G (sL ?_))
 subst H
 refine sN (sM (sN (sH (An 2 [.x 0 b (Bw i)] I ⟨⟨I, Ae E⟩, J⟩ (sJ [] I (sS W5 5 fun ae => sJ [0] I (A3 0 0 0 [Bw i] I (sI (sN ?_)))))))))
 obtain ⟨af, K, h⟩ := Ac h
 refine sH (An 1 [.o 0 0] I J1 (Cc (eI _ _ K) (Ag 1 I (sI (Ar h I ?_ ?_)))))
 intro M h
 refine Ah I ?_
 obtain rfl := F _ (oi h).symm
 replace h := f
 replace h := C1 h
 refine sP g0 ?_
 obtain rfl := oi h
 exact sO pr
 intro M h
 refine sL (sH (An 2 [.k 0 (b + 1 : Nat)] I ⟨A0 j B, J⟩ ?_))
 obtain rfl := oi h
 exact sI ⟨_, _, _, I, I2, J4, [], I, by decide⟩
 rintro g s ob ⟨rfl, rfl⟩ he
 subst he
 have h := C6 f
 have N := Co a.length
 refine Ah I (Aa fun ag ah => Bu I N (sQ ?_))
 exact lg ⟨(), h, I2⟩ []
 rintro s ob ⟨e, h, rfl, rfl⟩
 unfold Mz.J1 at h
 refine Ai (fun s ob => ∃ (n : Unit), Mz.J2 n = some r ∧ s = [] ∧ ob = []) [] J ?_ ?_
 refine Bh [.l 1 (a.length : Int)] I ⟨Ay, J⟩ (sM (Bz 20 I fun O => ?_))
 obtain ⟨ai, P, p⟩ := Ac h
 clear h
 refine Bx P [(0, _), (20, _), (21, _)] J3 (fun (d : Nat) (t : Unit) s ob => s = [(22, .V (d : Int))] ∧ ob = []) ⟨I, I⟩ ⟨I, J⟩ ⟨[], I, by decide⟩ ?_ ?_
 rintro d u t aj s ob Q w ⟨rfl, rfl⟩ h R
 have S := Cn w
 refine Ah I (Aa fun ak U => Bs I S (sL ?_))
 subst U
 refine sN (sM (Aa fun al W => sH (An 3 [.x 1 d (Bw u)] I ⟨⟨I, Ae Q⟩, J⟩ (sJ [] I (sS W5 5 fun am => Ag 1 I (sJ [0] I (A3 0 0 0 [Bw u] I (sI ?_))))))))
 subst W
 refine sN ?_
 obtain ⟨an, X, h⟩ := Ac h
 refine sH (An 3 [.o 2 0] I J1 (Cc (eG _ _ _ X) (Ag 2 I (sI (Ar h I ?_ ?_)))))
 intro Y h
 refine Ah I ?_
 obtain rfl := R _ (oi h).symm
 replace h := p
 replace h := C1 h
 refine sP g0 ?_
 obtain rfl := oi h
 exact sO pr
 intro Y h
 refine sL (sH (An 2 [.k 0 (d + 1 : Nat)] I ⟨A0 w O, J⟩ ?_))
 obtain rfl := oi h
 exact sI ⟨_, _, _, I, I2, J4, [], I, by decide⟩
 rintro t s ob ⟨rfl, rfl⟩ he
 subst he
 have h := C6 p
 have Z := Co a.length
 refine Ah I (Aa fun ao ap => Bu I Z (sQ ?_))
 exact lg ⟨(), h, I2⟩ []
 rintro s ob ⟨n, h, rfl, rfl⟩
 refine Ah I ?_
 obtain rfl := oi h
 exact sO pr
theorem fI (e : List Piece) (n : List Batch) (f : List Product) (r : (List Product) × Int) (h : Hd e n f = some r) : ACalls Aj 144 [Q4 e, Q3 n, Q2 f] [] (fun x new => ∃ (u : Value), x = .tup [.v u, .V r.2] ∧ new = [U7 u r.1]) := by
 refine Ad Tryz.func144 I I I fun C hC => ?_
 unfold Hd at h
 refine Ah I (Ah I (Ai (fun s ob => ∃ (g : List Product) (a : Value), Hd.J1 g = some r ∧ s = [(8, .v a)] ∧ ob = [U7 a g]) [] J ?_ ?_))
 refine Bh [.l 1 (e.length : Int)] I ⟨Ay, J⟩ (sM (Bz 12 I fun B => sP (Bv 72 5) ?_))
 obtain ⟨Y, D, p⟩ := Ac h
 clear h
 refine Bx D [(1, _), (2, _), (12, _), (13, _)] J4 (fun (i : Nat) (j : List Product) s ob => ∃ (b : Value), s = [(14, .V (i : Int)), (8, .v b)] ∧ ob = [U7 b j]) ⟨(.slice none 0 0), I2⟩ ⟨I, I, J⟩ ⟨[0], I, by decide⟩ ?_ ?_
 rintro i w j Z s ob E y ⟨b, rfl, rfl⟩ h A
 have F := Cn y
 refine Ah I (Aa fun aa G => Bs I F (sL ?_))
 subst G
 refine sN (sM (Aa fun ab H => sH (An 2 [.x 0 i (A9 w)] I ⟨⟨I, Ae E⟩, J⟩ (sJ [] I (sS [.V 0, .V 0] 2 fun ac => sJ [1] I (A3 1 0 0 [A9 w] I (sI ?_)))))))
 subst H
 refine Aa fun ad K => Bh [.o 1 1, .l 3 (n.length : Int)] I ⟨Ay, I, J⟩ (Ar h I ?_ ?_)
 intro M h
 refine Ah I ?_
 obtain rfl := A _ (oi h).symm
 replace h := p
 replace h := C1 h
 refine sP (Bv 72 5) (Cu [2] I ?_)
 obtain rfl := oi h
 exact sO ⟨.inr I, [_, _], [.us (.slice none 0 0) 72 5 ([].map Bw)], J2, Cy I (Cm), ⟨(.slice none 0 0), I2⟩⟩
 intro M h
 refine sL ?_
 subst K
 refine Aa fun ae N => ?_
 obtain ⟨c, ⟨O, P⟩, h⟩ := A5 h
 refine Ey [.o 2 1, .x 3 c.1 (D3 c.2)] I ⟨⟨O, Ae P⟩, I, J⟩ ?_
 subst N
 refine sN (Ec 36 (decide (c.2.Product < 0) || decide (c.2.Product ≥ (f.length : Int))) ?_ ?_)
 refine sH (Ag 3 I ?_)
 rcases bt (decide (c.2.Product < 0)) with d | d
 refine Af 31 I d (Ag 5 I (sI ?_))
 exact jf (by simp only [d, bz]) I I I2
 refine Af 31 I d (An 5 [.l 2 (f.length : Int)] I ⟨Ay, J⟩ (sI ?_))
 exact jf (by simp only [d, bz]) I I I2
 refine Ar h I ?_ ?_
 intro Q h
 refine Ah I ?_
 obtain rfl := A _ (oi h).symm
 replace h := p
 replace h := C1 h
 refine sP (Bv 72 5) (Cu [2] I ?_)
 obtain rfl := oi h
 exact sO ⟨.inr I, [_, _], [.us (.slice none 0 0) 72 5 ([].map Bw)], J2, Cy I (Cm), ⟨(.slice none 0 0), I2⟩⟩
 intro Q h
 refine sL ?_
 obtain ⟨t, ⟨R, S⟩, h⟩ := A5 h
 obtain ⟨af, U, h⟩ := Ac h
 refine sH (An 5 [.x 3 t.1 (Bw t.2)] I ⟨⟨R, Ae S⟩, J⟩ (sJ [] I (sR 5 (([t.2] : List Product).map Bw) (sJ [0] I (C7 0 I U fun W => Ag 1 I (sI (sH (An 2 [.k 0 (i + 1 : Nat)] I ⟨A0 y B, J⟩ ?_))))))))
 obtain rfl := oi h
 exact sI ⟨_, _, _, I, ⟨W, I2⟩, J6, [0], I, by decide⟩
 rintro j s ob ⟨b, rfl, rfl⟩ he
 subst he
 have h := C6 p
 have X := Co e.length
 refine Ah I (Aa fun ag ah => Bu I X (sQ ?_))
 exact lg ⟨j, b, h, I2⟩ [0]
 rintro s ob ⟨g, a, h, rfl, rfl⟩
 refine Ah I ?_
 obtain rfl := oi h
 exact sO ⟨.inr I, [_, _], [U7 a g], J2, Cy I (Cm), ⟨a, I2⟩⟩
theorem eP (a : Bounds) (r : Bool) (h : Ks a = r) : ACalls Aj 145 [.agg (Aq a)] [] (fun x new => x = .v (.bool r) ∧ new = []) := by
 refine Ad Tryz.func145 I I I fun C hC => ?_
 unfold Ks at h
 refine Aa fun e d => sH (sJ [] I (Bo (Aq a) 2 fun f => Ag 1 I (sI ?_)))
 subst d
 refine Ai (fun s ob => s = [(2, .v (.bool (decide (a.Low ≤ a.High) && (decide (a.Low ≥ (-1125899906842624)) && decide (a.High ≤ 1125899906842624)))))] ∧ ob = []) [] J ?_ ?_
 refine sH (An 6 [.o 1 0, .o 3 0] I J2 ?_)
 rcases bt (decide (a.Low ≤ a.High)) with b | b
 refine Af 8 I b (An 5 [.o 1 0] I J1 ?_)
 rcases bt (decide (a.Low ≥ (-1125899906842624))) with c | c
 refine Af 13 I c (An 5 [.o 1 0] I J1 (sI ?_))
 exact lf I2 ⟨(Dn (by simp only [b, c, bz])), J⟩ [] I
 refine Af 13 I c (Ag 5 I (sI ?_))
 exact lf I2 ⟨(Dn (by simp only [b, c, bz])), J⟩ [] I
 refine Af 8 I b (Ag 10 I (sI ?_))
 exact lf I2 ⟨(Dn (by simp only [b, bz])), J⟩ [] I
 rintro s ob ⟨rfl, rfl⟩
 obtain rfl := h
 exact sO pr
theorem iI (d : Int) (F1 : T) {e : FuncId} {f g : List T} (k : Jf F1 = some (e, f, g)) (i : Int → Option Bool) (l : ∀ (j : Int) r, i j = some r → ACalls Aj e (f ++ [.V j] ++ g) [] fun x new => x = .v (.bool r) ∧ new = []) (r : Int) (h : Qn d i = some r) : ACalls Aj 178 [.V d, F1] [] (fun x new => x = .V r ∧ new = []) := by
 refine Ad Tryz.func178 I I I fun C hC => ?_
 unfold Qn at h
 refine Ah I (Ah I (Ai (fun s ob => ∃ (b : Int), Qn.J1 b = some r ∧ s = [(5, .V b)] ∧ ob = []) [] J ?_ ?_))
 refine sM ?_
 obtain ⟨A, m, n⟩ := Ac h
 clear h
 refine Cs m [(1, _)] J1 (fun (a : Int × Int) s ob => s = [(5, .V a.1), (6, .V a.2)] ∧ ob = []) ⟨I, I⟩ ⟨I, I, J⟩ ⟨[], I, by decide⟩ ?_
 rintro a B s ob ⟨rfl, rfl⟩ h o
 refine Aa fun D t => Ah I (Ar h I ?_ ?_)
 intro u h
 refine sL ?_
 subst t
 refine sM (sN (sH (Ag 3 I (sT (L7 (c := IntKind.u64.wrap (wr (a.1 + a.2))) I I I I I) I (sT (oT I I) I (sT (L7 (c := wr (((IntKind.u64.wrap (wr (a.1 + a.2))).fdiv 2))) I I I I I) I (Ag 1 I (sI (sN ?_)))))))))
 obtain ⟨E, w, h⟩ := Ac h
 refine sH (Ag 2 I (sJ [] I (Cl I (.refl _) k I (.rest _) I (l _ _ w) dS (by rintro _ _ ⟨rfl, _⟩; rfl) ?_)))
 rintro _ ⟨_, rfl, -⟩
 refine Ag 1 I (sI (Ar h I ?_ ?_))
 intro y h
 refine sH (Ag 3 I ?_)
 obtain rfl := oi h
 exact sI ⟨_, _, _, I, I2, J3, [], I, by decide⟩
 intro y h
 refine sH (Ag 2 I ?_)
 obtain rfl := oi h
 exact sI ⟨_, _, _, I, I2, J3, [], I, by decide⟩
 intro u h
 obtain rfl := o _ (oi h).symm
 replace h := n
 refine sQ ?_
 exact lg ⟨a.1, h, I2⟩ []
 rintro s ob ⟨b, h, rfl, rfl⟩
 refine Ah I ?_
 obtain rfl := oi h
 exact sO pr
theorem fE (a : Int) (b : Sg) (c : Int) (r : Bool) (h : Vi a b c = some r) : ACalls Aj 179 [.V a, .eptr (Ak b), .eptr (rI c)] [] (fun x new => x = .v (.bool r) ∧ new = []) := by
 refine Ad Tryz.func179 I I I fun C hC => ?_
 refine Ah I (sN ?_)
 obtain ⟨d, ⟨e, f⟩, h⟩ := A5 h
 refine Il (pd 9 0 []) [] [] [.x 3 d.1 (Bi d.2)] I I ⟨⟨e, Ae f⟩, J⟩ ?_
 obtain rfl := oi h
 exact sO pr
theorem eF (a : Sg) (b : Int) (r : Int) (h : Uy a b = some r) : ACalls Aj 171 [.agg (Ak a), .V b] [] (fun x new => x = .V r ∧ new = []) := by
 refine Ad Tryz.func171 I I I fun C hC => ?_
 refine sN (sH (sJ [] I (Bo (Ak a) 7 fun d => sJ [] I (Bo [.V b] 1 fun e => Ag 1 I (sI (sN ?_))))))
 obtain ⟨f, c, h⟩ := Ac h
 refine sH (An 4 [.o 1 0, .l 2 (a.Points.length : Int)] I ⟨Ay, I, J⟩ (sT (tD I I) I (sJ [] I (Cl I (.refl _) I I (.cons (.refl _) (.cons (.fn (.rest _) (.cons (.box 0 I (.rest _)) (.cons (.box 1 I (.rest _)) (.rest _)))) (.rest _))) I (iI _ (.fn 179 [] [.eptr (Ak a), .eptr (rI b)]) I (fun x => Vi x a b) (fun x r h => fE x a b r h) _ c) dS (by rintro _ _ ⟨rfl, _⟩; rfl) ?_))))
 rintro _ ⟨_, rfl, -⟩
 refine Ag 1 I (sI (sP g0 ?_))
 obtain rfl := oi h
 exact sO pr
theorem hZ (e : Sg) (K : List Piece) (A : List Product) (p : Li) (r : List gradient_part) (h : Vv e K A p = some r) : ACalls Aj 147 [.agg (Ak e), Q4 K, Q2 A, Q0 p] [] (fun x new => ∃ (M : Value), x = .v M ∧ new = [U6 M r]) := by
 refine Ad Tryz.func147 I I I fun C hC => ?_
 refine Aa fun y1 S => sH (sJ [] I (Bo (Ak e) 7 fun t => Ag 1 I (sI ?_)))
 subst S
 refine Ah I (Aa fun y4 U => ?_)
 obtain ⟨N, ⟨W, X⟩, h⟩ := A5 h
 refine Il (pd 6 0 []) [] [] [.x 1 N.1 (A9 N.2)] I I ⟨⟨W, Ae X⟩, J⟩ ?_
 subst U
 refine Ai (fun s ob => ∃ (B : List gradient_part) (u : Value), Vv.J1 B = some r ∧ s = [(9, .v u)] ∧ ob = [U6 u B]) [] J ?_ ?_
 refine Ah I (sM (sP (Bv 202 8) ?_))
 obtain ⟨a6, Y, Z⟩ := Ac h
 clear h
 refine Cs Y [(1, _), (2, _), (3, _), (4, _)] J4 (fun (d : (List gradient_part) × Int × Int × Int) s ob => ∃ (g : Value), s = [(9, .v g), (10, .V d.2.1), (11, .V d.2.2.1), (12, .V d.2.2.2)] ∧ ob = [O5 t [Ak e], U6 g d.1]) ⟨(.slice none 0 0), I2⟩ ⟨I, I, I, I, J⟩ ⟨[0, 1], I, by decide⟩ ?_
 rintro d F s ob ⟨g, rfl, rfl⟩ h aa
 refine Aa fun a7 ab => Bh [.l 2 (p.length : Int)] I ⟨Ay, J⟩ (Ar h I ?_ ?_)
 intro ac h
 refine sL ?_
 subst ab
 refine Ai (fun s ob => ∃ (w : (List gradient_part) × Int × Int) (D : Value), Vv.J3 d w = some F ∧ s = [(9, .v D), (10, .V w.2.1), (11, .V w.2.2)] ∧ ob = [O5 t [Ak e], U6 D w.1]) [(1, _), (2, _), (3, _), (4, _), (12, _)] J5 ?_ ?_
 refine sM (Ai (fun s ob => ∃ (i : Int × Int), Vv.J4 e A p d i = some F ∧ s = [(10, .V i.1), (11, .V i.2)] ∧ ob = [O5 t [Ak e], U6 g d.1]) [(1, _), (2, _), (3, _), (4, _), (9, _), (12, _)] J6 ?_ ?_)
 refine sM ?_
 obtain ⟨a8, ad, ae⟩ := Ac h
 clear h
 refine Cs ad [(1, _), (2, _), (3, _), (4, _), (9, _), (12, _)] J6 (fun (y : Int × Int) s ob => s = [(10, .V y.1), (11, .V y.2)] ∧ ob = [O5 t [Ak e], U6 g d.1]) ⟨I, I⟩ ⟨I, I, J⟩ ⟨[0, 1], I, by decide⟩ ?_
 rintro y a9 s ob ⟨rfl, rfl⟩ h af
 refine Aa fun ba ag => sN ?_
 obtain ⟨O, ⟨ah, ai⟩, h⟩ := A5 h
 refine Ey [.x 2 O.1 (rI O.2)] I ⟨⟨ah, Ae ai⟩, J⟩ (Ar h I ?_ ?_)
 intro aj h
 refine sL ?_
 subst ag
 refine sM (Ah I ?_)
 obtain ⟨P, ⟨ak, al⟩, h⟩ := A5 h
 refine sH (An 8 [.x 3 P.1 (A9 P.2)] I ⟨⟨ak, Ae al⟩, J⟩ ?_)
 obtain rfl := oi h
 exact sI ⟨_, _, _, I, I2, J8, [0, 1], I, by decide⟩
 intro aj h
 obtain rfl := af _ (oi h).symm
 replace h := ae
 refine sQ ?_
 exact lg ⟨(y.1, y.2), h, I2⟩ [0, 1]
 rintro s ob ⟨i, h, rfl, rfl⟩
 refine Aa fun bb am => ?_
 obtain ⟨j, ⟨Q, R⟩, h⟩ := A5 h
 obtain ⟨bc, an, h⟩ := Ac h
 refine By (pd 7 0 [5]) [0] [_] I (B8 5 [.o 0 0, .x 3 j.1 (rI j.2)] I ⟨⟨Q, Ae R⟩, I, J⟩ (Dp I (eF _ _ _ an) (Bg 1 I (Ap (sI ?_)))))
 subst am
 refine Ai (fun s ob => ∃ (a : Int × Int × Int × Int × Int × Int) (G : Nat) (H : Nat), Vv.J5 A p d i j a = some F ∧ s = [(14, .v (.pointer (some ⟨G, 0, none⟩))), (15, .v (.pointer (some ⟨H, 0, none⟩)))] ∧ ob = [O5 t [Ak e], U6 g d.1, .arr G 102 3 1 [[.V a.1, .V a.2.1, .V a.2.2.1]], .arr H 102 3 1 [[.V a.2.2.2.1, .V a.2.2.2.2.1, .V a.2.2.2.2.2]]]) [(1, _), (2, _), (3, _), (4, _), (9, _), (10, _), (11, _), (12, _)] J8 ?_ ?_
 obtain ⟨k, ⟨ao, aq⟩, h⟩ := A5 h
 obtain ⟨n, ⟨ar, au⟩, h⟩ := A5 h
 refine By (sl 11 0 (.par [(11, []), (12, [])] (.act 13 (.act 14 .nil)))) [0] [_] I (B8 11 [.o 1 0, .x 4 k.1 (Bi k.2), .o 7 0, .x 9 n.1 (Bi n.2)] I ⟨⟨ar, Ae au⟩, I, ⟨ao, Ae aq⟩, I, J⟩ (AP.any [⟨11, [], 14, .box 102 3 (W1)⟩, ⟨12, [], 15, .box 102 3 (W1)⟩] I ⟨⟨_, I, I, I, fun _ => sS W1 3 fun b => ⟨_, I, ⟨b, I⟩, I⟩⟩, ⟨_, I, I, I, fun _ => sS W1 3 fun b => ⟨_, I, ⟨b, I⟩, I⟩⟩, J⟩ ?_))
 intro av aw
 refine sK [2] I I I (A3 2 0 0 [Bi k.2] I (sK [3] I I I (A3 3 0 0 [Bi n.2] I (Ap (sI ?_)))))
 exact lg ⟨(k.2.At, k.2.Height, k.2.Limit, n.2.At, n.2.Height, n.2.Limit), av, aw, h, I2⟩ [0, 1, 2, 3]
 rintro s ob ⟨a, G, H, h, rfl, rfl⟩
 obtain ⟨E, ⟨ax, ay⟩, h⟩ := A5 h
 obtain ⟨f, ⟨az, a0⟩, h⟩ := A5 h
 obtain ⟨a1, a2, h⟩ := Ac h
 refine By (pd 29 0 [26, 27]) [3, 2] [_, _] I (B8 25 [.x 3 j.1 (rI j.2), .x 8 E.1 (rI E.2), .o 12 0, .o 14 1, .o 17 0, .o 19 1, .x 23 f.1 (Bw f.2)] I ⟨⟨az, Ae a0⟩, I, I, I, I, ⟨ax, Ae ay⟩, ⟨Q, Ae R⟩, J⟩ (sY I (Au (l := [.V (wr (j.2 - E.2)), .V (wr (a.2.2.2.1 - a.1)), .V (wr (a.2.2.2.2.1 - a.2.1)), .v (.string f.2.Name), .V f.2.Density, .V f.2.Expansion, .V f.2.Compress, .V f.2.Friction]) Yk I) I (sK [] I I I (sR 8 (([(⟨wr (j.2 - E.2), wr (a.2.2.2.1 - a.1), wr (a.2.2.2.2.1 - a.2.1), f.2⟩ : gradient_part)] : List gradient_part).map C0) (sK [1] I I I (C7 1 I a2 fun a3 => Jl 9 (Bg 1 I (Ap (sI ?_)))))))))
 exact lg ⟨(a1, i.1, i.2), a3, h, I2⟩ [0, 1]
 rintro s ob ⟨w, D, h, rfl, rfl⟩
 refine sH (Ag 3 I ?_)
 obtain rfl := oi h
 exact sI ⟨_, _, _, I, ⟨D, I2⟩, J8, [0, 1], I, by decide⟩
 intro ac h
 obtain rfl := aa _ (oi h).symm
 replace h := Z
 refine sQ ?_
 exact lg ⟨d.1, g, h, I2⟩ [1]
 rintro s ob ⟨B, u, h, rfl, rfl⟩
 refine Ah I ?_
 obtain rfl := oi h
 exact sO ⟨.inr I, [_], [U6 u B], J1, Cy I (Cm), ⟨u, I2⟩⟩
theorem Ub (e : Int) (a : Int) (r : Int × Int × Bool) (h : K3 e a = some r) : ACalls Aj 180 [.V e, .V a] [] (fun x new => x = .tup [.V r.1, .V r.2.1, .v (.bool r.2.2)] ∧ new = []) := by
 refine Ad Tryz.func180 I I I fun C hC => ?_
 unfold K3 at h
 refine Ah I (Aa fun w l => Ec 22 (decide (a < 1) || (decide (a > 1099511627776) || (decide (e < (-2305843009213693952)) || decide (e > 2305843009213693952)))) ?_ ?_)
 refine sH (Ag 3 I ?_)
 rcases bt (decide (a < 1)) with b | b
 refine Af 11 I b (Ag 11 I (sI ?_))
 exact jf (by simp only [b, bz]) I I I2
 refine Af 11 I b (Ag 4 I ?_)
 rcases bt (decide (a > 1099511627776)) with d | d
 refine Af 15 I d (Ag 7 I (sI ?_))
 exact jf (by simp only [b, d, bz]) I I I2
 refine Af 15 I d (Ag 4 I ?_)
 rcases bt (decide (e < (-2305843009213693952))) with g | g
 refine Af 19 I g (Ag 3 I (sI ?_))
 exact jf (by simp only [b, d, g, bz]) I I I2
 refine Af 19 I g (Ag 3 I (sI ?_))
 exact jf (by simp only [b, d, g, bz]) I I I2
 refine Ar h I ?_ ?_
 intro m h
 refine Ah I ?_
 obtain rfl := oi h
 exact sO ⟨.inr I, [_, _, _], [], J3, Cm, I2⟩
 intro m h
 refine sL ?_
 subst l
 refine Aa fun y n => ?_
 obtain ⟨i, o, h⟩ := Ac h
 obtain ⟨j, p, h⟩ := Ac h
 refine Il (pd 8 0 []) [] [] [.f 2 (.V i), .f 5 (.V j)] I I ⟨Yp.yd (Em (c := j) I I (Iz p)), Yp.yd (Em (c := i) I I (Rd o)), J⟩ ?_
 subst n
 refine Ai (fun s ob => ∃ (k : Int × Int), K3.J1 k = some r ∧ s = [(7, .V k.1), (8, .V k.2)] ∧ ob = []) [] J ?_ ?_
 refine Ah I (Ar h I ?_ ?_)
 intro u h
 refine Sj I ?_
 exact lg ⟨(wr (i - 1), wr (j + a)), h, I2⟩ []
 intro u h
 refine sL ?_
 exact lg ⟨(i, j), h, I2⟩ []
 rintro s ob ⟨k, h, rfl, rfl⟩
 refine Ah I ?_
 obtain rfl := oi h
 exact sO ⟨.inr I, [_, _, _], [], J3, Cm, I2⟩
theorem N7 (a : Int) (b : Int) (r : Int) (h : Mx a b = some r) : ACalls Aj 172 [.V a, .V b] [] (fun x new => x = .V r ∧ new = []) := by
 refine Ad Tryz.func172 I I I fun C hC => ?_
 refine Ah I (sN ?_)
 obtain ⟨e, d, h⟩ := Ac h
 refine sH (Ag 2 I (Cc (Ub _ _ _ d) (Ag 7 I (sI (Ah I ?_)))))
 obtain rfl := oi h
 exact sO pr
theorem Tu (e : Int) (f : Int) (r : Int) (h : Pu e f = some r) : ACalls Aj 173 [.V e, .V f] [] (fun x new => x = .V r ∧ new = []) := by
 refine Ad Tryz.func173 I I I fun C hC => ?_
 refine Ah I (Aa fun k g => ?_)
 obtain ⟨a, i, h⟩ := Ac h
 refine sH (Ag 2 I (Cc (Ub _ _ _ i) (Ag 7 I (sI ?_))))
 subst g
 refine Ai (fun s ob => ∃ (d : Int), Pu.J1 d = some r ∧ s = [(5, .V d)] ∧ ob = []) [] J ?_ ?_
 refine Ec 19 (a.2.2 && decide (a.2.1 > 0)) ?_ ?_
 refine sH (Ag 2 I ?_)
 rcases bt (a.2.2) with b | b
 refine Af 16 I b (Ag 3 I (sI ?_))
 exact jf (by simp only [b, bz]) I I I2
 refine Af 16 I b (Ag 3 I (sI ?_))
 exact jf (by simp only [b, bz]) I I I2
 refine Ar h I ?_ ?_
 intro j h
 refine Sj I ?_
 exact lg ⟨wr (a.1 + 1), h, I2⟩ []
 intro j h
 refine sL ?_
 exact lg ⟨a.1, h, I2⟩ []
 rintro s ob ⟨d, h, rfl, rfl⟩
 refine Ah I ?_
 obtain rfl := oi h
 exact sO pr
theorem fD (a : gradient_part) (b : Sg) (d : Int) (r : Int × Int) (h : Vh a b d = some r) : ACalls Aj 150 [.agg (C0 a), .agg (Ak b), .V d] [] (fun x new => x = .tup [.V r.1, .V r.2] ∧ new = []) := by
 refine Ad Tryz.func150 I I I fun C hC => ?_
 refine Aa fun k e => sH (sJ [] I (Bo (C0 a) 8 fun l => sJ [] I (Bo (Ak b) 7 fun n => Ag 2 I (sI ?_))))
 subst e
 refine Ke (pd 18 0 []) [1, 0] [_, _] [.o 1 0, .o 4 1, .o 11 1, .o 14 0] I I J4 (Ke (pd 15 0 []) [0] [_] [.o 2 0, .o 5 0, .o 8 0, .o 11 0] I I J4 (sN ?_))
 obtain ⟨p, f, h⟩ := Ac h
 obtain ⟨s, g, h⟩ := Ac h
 obtain ⟨t, i, h⟩ := Ac h
 obtain ⟨u, j, h⟩ := Ac h
 refine sH (Ag 2 I (Cc (N7 _ _ _ f) (Ag 2 I (Cc (N7 _ _ _ g) (Ag 3 I (Cc (Tu _ _ _ i) (Ag 2 I (Cc (Tu _ _ _ j) (Ag 3 I (sI (sP g0 ?_)))))))))))
 obtain rfl := oi h
 exact sO ⟨.inr I, [_, _], [], J2, Cm, I2⟩
theorem Tp (a : Li) (r : Li) (h : Ip a = some r) : ACalls Aj 27 [Q0 a] [] (fun x new => ∃ (b : Value), x = .v b ∧ new = [U0 b r]) := by
  refine Ad Tryz.func27 rfl rfl rfl (fun C hC => ?_)
  unfold Ip at h
  obtain ⟨e, d⟩ := Gv h
  refine sN ?_
  refine sH ?_
  refine sT (Yp.assign rfl) rfl ?_
  refine sI ?_
  refine sN ?_
  refine sN ?_
  refine sH ?_
  refine sT (Yp.move rfl) rfl ?_
  refine sJ [] rfl (mS rfl rfl rfl (Dk rfl) fun c hc => ?_)
  refine sI ?_
  refine AW.cond rfl rfl ?_ ?_
  · intro hb
    have hs : a = [] := by have := hc hb; simpa using this
    subst hs
    refine sN ?_
    refine sH ?_
    refine sT (Yp.assign rfl) rfl ?_
    refine AO.ghost (Bv 3 1) ?_
    refine sI ?_
    refine sO ?_
    have hr : r = [] := by simpa using d.symm
    subst hr
    exact ⟨.inr rfl, [_], [.us (.slice none 0 0) 3 1 ([].map rI)], ⟨rfl, J⟩, Cy rfl Cm, ⟨_, rfl, rfl⟩⟩
  · intro hb
    refine sL ?_
    refine sN ?_
    refine sH ?_
    refine sJ [] rfl (sX (sz := 1) (es := []) rfl rfl rfl rfl rfl rfl rfl rfl rfl rfl rfl (Dk rfl) fun g => ?_)
    refine sT (Yp.move rfl) rfl ?_
    refine sJ [0] rfl (Sb 0 (es' := r.map rI) rfl rfl rfl rfl rfl rfl rfl rfl rfl (AppSrc.list rfl) (by simpa using e) (by rw [← d]; simp) (Dk rfl) fun f => ?_)
    refine sT (Yp.assign rfl) rfl ?_
    refine sI ?_
    refine sO ?_
    exact ⟨.inr rfl, [_], [U0 f r], ⟨rfl, J⟩, Cy rfl Cm, ⟨_, rfl, rfl⟩⟩
theorem dV (f : Value) (n : Li) (r : Li) (h : Y5 n = some r) : ACalls Aj 148 [.v f] [U0 f n] (D6 1 fun x os new => x = .tup [] ∧ os = [U0 f r] ∧ new = []) := by
 refine Ad Tryz.func148 I I I fun C hC => ?_
 refine Aa fun K t => sH (Ag 1 I (sV (Cz 0 I I I I) I (Ag 3 I (sI ?_))))
 subst t
 refine sM ?_
 obtain ⟨M, u, w⟩ := Ac h
 clear h
 refine Cs u [(0, _)] J1 (fun (c : Li × Int × Int) s ob => s = [(2, .V c.2.1), (3, .V c.2.2)] ∧ ob = [U0 f c.1]) ⟨I, I⟩ ⟨I, I, J⟩ ⟨[0], I, by decide⟩ ?_
 rintro c A s ob ⟨rfl, rfl⟩ h B
 refine Aa fun N D => Ah I (Ar h I ?_ ?_)
 intro E h
 refine sL ?_
 subst D
 refine Ai (fun s ob => ∃ (k : Li), Y5.J2 c k = some A ∧ s = [] ∧ ob = [U0 f k]) [(0, _), (2, _), (3, _)] J3 ?_ ?_
 refine sM ?_
 obtain ⟨b, ⟨F, i⟩, h⟩ := A5 h
 obtain ⟨a, ⟨l, e⟩, h⟩ := A5 h
 obtain ⟨g, ⟨o, j⟩, h⟩ := A5 h
 refine C5 0 b.1 I i fun G => C5 0 a.1 I e fun H => C5 0 a.1 I e fun p => By (sl 7 0 (sl 3 8 (.two 7 11 (.act 11 (.still 12 (.act 13 (.act 14 (.act 15 .nil))))) (.act 7 (.still 12 (.act 13 (.act 14 (.act 15 .nil)))))))) [] [] I (Bg 6 I (sY I (B0 (m := b.1) I I I I I G I F i) I (Bg 2 I (sY I (B0 (m := a.1) I I I I I H I l e) I (sW ?_ ?_)))))
 refine sK [] I I I (Ce (Bl 0 b.1 0 I I I (Ae i) I (y := .V b.2) I) dS (sK [] I I I (Ce (Bl 0 a.1 0 I I I (Ae e) I (y := .V a.2) I) dS (sY I (B0 (m := a.1) I I I I I p I l e) I (sK [0] I I I (Cg 0 a.1 0 I I I (Ae e) I I I I (Ca I) I (Df (x := b.2) I) (sK [] I I I (Ce (Bm 0 (m := g.1) I I I I I I I o (Ae j)) dS (sK [0] I I I (Cg 0 g.1 0 I I I (Ae j) I I I I (Ca I) I (Df (x := a.2) I) (Ap (sI ?_))))))))))))
 exact lg ⟨((c.1.set a.1 b.2).set g.1 a.2), h, I2⟩ [0]
 refine sK [] I I I (Ce (Bl 0 a.1 0 I I I (Ae e) I (y := .V a.2) I) dS (sK [] I I I (Ce (Bl 0 b.1 0 I I I (Ae i) I (y := .V b.2) I) dS (sY I (B0 (m := a.1) I I I I I p I l e) I (sK [0] I I I (Cg 0 a.1 0 I I I (Ae e) I I I I (Ca I) I (Df (x := b.2) I) (sK [] I I I (Ce (Bm 0 (m := g.1) I I I I I I I o (Ae j)) dS (sK [0] I I I (Cg 0 g.1 0 I I I (Ae j) I I I I (Ca I) I (Df (x := a.2) I) (Ap (sI ?_))))))))))))
 exact lg ⟨((c.1.set a.1 b.2).set g.1 a.2), h, I2⟩ [0]
 rintro s ob ⟨k, h, rfl, rfl⟩
 refine sH (Ag 6 I ?_)
 obtain rfl := oi h
 exact sI ⟨_, _, _, I, I2, J3, [0], I, by decide⟩
 intro E h
 obtain rfl := B _ (oi h).symm
 replace h := w
 obtain rfl := oi h
 refine sQ ?_
 exact ⟨.inl I, [], [U0 f c.1], J, Cy I (Cm), ⟨[U0 f c.1], [], I5⟩⟩
theorem iG (f : Value) (n : List gradient_part) (r : List gradient_part) (h : Zc n = some r) : ACalls Aj 149 [.v f] [U6 f n] (D6 1 fun x os new => x = .tup [] ∧ os = [U6 f r] ∧ new = []) := by
 refine Ad Tryz.func149 I I I fun C hC => ?_
 refine Aa fun K t => sH (Ag 1 I (sV (Cz 0 I I I I) I (Ag 3 I (sI ?_))))
 subst t
 refine sM ?_
 obtain ⟨M, u, w⟩ := Ac h
 clear h
 refine Cs u [(0, _)] J1 (fun (c : (List gradient_part) × Int × Int) s ob => s = [(2, .V c.2.1), (3, .V c.2.2)] ∧ ob = [U6 f c.1]) ⟨I, I⟩ ⟨I, I, J⟩ ⟨[0], I, by decide⟩ ?_
 rintro c A s ob ⟨rfl, rfl⟩ h B
 refine Aa fun N D => Ah I (Ar h I ?_ ?_)
 intro E h
 refine sL ?_
 subst D
 refine Ai (fun s ob => ∃ (k : List gradient_part), Zc.J2 c k = some A ∧ s = [] ∧ ob = [U6 f k]) [(0, _), (2, _), (3, _)] J3 ?_ ?_
 refine sM ?_
 obtain ⟨b, ⟨F, i⟩, h⟩ := A5 h
 obtain ⟨a, ⟨l, e⟩, h⟩ := A5 h
 obtain ⟨g, ⟨o, j⟩, h⟩ := A5 h
 refine C5 0 b.1 I i fun G => C5 0 a.1 I e fun H => C5 0 a.1 I e fun p => By (sl 7 0 (sl 3 8 (.two 7 11 (.act 11 (.still 12 (.act 13 (.act 14 (.act 15 .nil))))) (.act 7 (.still 12 (.act 13 (.act 14 (.act 15 .nil)))))))) [] [] I (Bg 6 I (sY I (B0 (m := b.1) I I I I I G I F i) I (Bg 2 I (sY I (B0 (m := a.1) I I I I I H I l e) I (sW ?_ ?_)))))
 refine sK [] I I I (Ce (Bl 0 b.1 0 I I I (Ae i) I (y := .agg (C0 b.2)) I) dS (sK [] I I I (Ce (Bl 0 a.1 0 I I I (Ae e) I (y := .agg (C0 a.2)) I) dS (sY I (B0 (m := a.1) I I I I I p I l e) I (sK [0] I I I (Cg 0 a.1 0 I I I (Ae e) I I I I (Ca I) I (Df (x := b.2) I) (sK [] I I I (Ce (Bm 0 (m := g.1) I I I I I I I o (Ae j)) dS (sK [0] I I I (Cg 0 g.1 0 I I I (Ae j) I I I I (Ca I) I (Df (x := a.2) I) (Ap (sI ?_))))))))))))
 exact lg ⟨((c.1.set a.1 b.2).set g.1 a.2), h, I2⟩ [0]
 refine sK [] I I I (Ce (Bl 0 a.1 0 I I I (Ae e) I (y := .agg (C0 a.2)) I) dS (sK [] I I I (Ce (Bl 0 b.1 0 I I I (Ae i) I (y := .agg (C0 b.2)) I) dS (sY I (B0 (m := a.1) I I I I I p I l e) I (sK [0] I I I (Cg 0 a.1 0 I I I (Ae e) I I I I (Ca I) I (Df (x := b.2) I) (sK [] I I I (Ce (Bm 0 (m := g.1) I I I I I I I o (Ae j)) dS (sK [0] I I I (Cg 0 g.1 0 I I I (Ae j) I I I I (Ca I) I (Df (x := a.2) I) (Ap (sI ?_))))))))))))
 exact lg ⟨((c.1.set a.1 b.2).set g.1 a.2), h, I2⟩ [0]
 rintro s ob ⟨k, h, rfl, rfl⟩
 refine sH (Ag 6 I ?_)
 obtain rfl := oi h
 exact sI ⟨_, _, _, I, I2, J3, [0], I, by decide⟩
 intro E h
 obtain rfl := B _ (oi h).symm
 replace h := w
 obtain rfl := oi h
 refine sQ ?_
 exact ⟨.inl I, [], [U6 f c.1], J, Cy I (Cm), ⟨[U6 f c.1], [], I5⟩⟩
theorem Z3 (f : Value) (n : List Level) (r : List Level) (h : We n = some r) : ACalls Aj 151 [.v f] [U4 f n] (D6 1 fun x os new => x = .tup [] ∧ os = [U4 f r] ∧ new = []) := by
 refine Ad Tryz.func151 I I I fun C hC => ?_
 refine Aa fun K t => sH (Ag 1 I (sV (Cz 0 I I I I) I (Ag 3 I (sI ?_))))
 subst t
 refine sM ?_
 obtain ⟨M, u, w⟩ := Ac h
 clear h
 refine Cs u [(0, _)] J1 (fun (c : (List Level) × Int × Int) s ob => s = [(2, .V c.2.1), (3, .V c.2.2)] ∧ ob = [U4 f c.1]) ⟨I, I⟩ ⟨I, I, J⟩ ⟨[0], I, by decide⟩ ?_
 rintro c A s ob ⟨rfl, rfl⟩ h B
 refine Aa fun N D => Ah I (Ar h I ?_ ?_)
 intro E h
 refine sL ?_
 subst D
 refine Ai (fun s ob => ∃ (k : List Level), We.J2 c k = some A ∧ s = [] ∧ ob = [U4 f k]) [(0, _), (2, _), (3, _)] J3 ?_ ?_
 refine sM ?_
 obtain ⟨b, ⟨F, i⟩, h⟩ := A5 h
 obtain ⟨a, ⟨l, e⟩, h⟩ := A5 h
 obtain ⟨g, ⟨o, j⟩, h⟩ := A5 h
 refine C5 0 b.1 I i fun G => C5 0 a.1 I e fun H => C5 0 a.1 I e fun p => By (sl 7 0 (sl 3 8 (.two 7 11 (.act 11 (.still 12 (.act 13 (.act 14 (.act 15 .nil))))) (.act 7 (.still 12 (.act 13 (.act 14 (.act 15 .nil)))))))) [] [] I (Bg 6 I (sY I (B0 (m := b.1) I I I I I G I F i) I (Bg 2 I (sY I (B0 (m := a.1) I I I I I H I l e) I (sW ?_ ?_)))))
 refine sK [] I I I (Ce (Bl 0 b.1 0 I I I (Ae i) I (y := .agg (Ao b.2)) I) dS (sK [] I I I (Ce (Bl 0 a.1 0 I I I (Ae e) I (y := .agg (Ao a.2)) I) dS (sY I (B0 (m := a.1) I I I I I p I l e) I (sK [0] I I I (Cg 0 a.1 0 I I I (Ae e) I I I I (Ca I) I (Df (x := b.2) I) (sK [] I I I (Ce (Bm 0 (m := g.1) I I I I I I I o (Ae j)) dS (sK [0] I I I (Cg 0 g.1 0 I I I (Ae j) I I I I (Ca I) I (Df (x := a.2) I) (Ap (sI ?_))))))))))))
 exact lg ⟨((c.1.set a.1 b.2).set g.1 a.2), h, I2⟩ [0]
 refine sK [] I I I (Ce (Bl 0 a.1 0 I I I (Ae e) I (y := .agg (Ao a.2)) I) dS (sK [] I I I (Ce (Bl 0 b.1 0 I I I (Ae i) I (y := .agg (Ao b.2)) I) dS (sY I (B0 (m := a.1) I I I I I p I l e) I (sK [0] I I I (Cg 0 a.1 0 I I I (Ae e) I I I I (Ca I) I (Df (x := b.2) I) (sK [] I I I (Ce (Bm 0 (m := g.1) I I I I I I I o (Ae j)) dS (sK [0] I I I (Cg 0 g.1 0 I I I (Ae j) I I I I (Ca I) I (Df (x := a.2) I) (Ap (sI ?_))))))))))))
 exact lg ⟨((c.1.set a.1 b.2).set g.1 a.2), h, I2⟩ [0]
 rintro s ob ⟨k, h, rfl, rfl⟩
 refine sH (Ag 6 I ?_)
 obtain rfl := oi h
 exact sI ⟨_, _, _, I, I2, J3, [0], I, by decide⟩
 intro E h
 obtain rfl := B _ (oi h).symm
 replace h := w
 obtain rfl := oi h
 refine sQ ?_
 exact ⟨.inl I, [], [U4 f c.1], J, Cy I (Cm), ⟨[U4 f c.1], [], I5⟩⟩
theorem eK (g : Sg) (aa : List Piece) (ab : List Batch) (ac : List Product) (e : Int) (b : Bounds) (r : (List Level) × Int) (h : F9 g aa ab ac e b = some r) : ACalls Aj 92 [.agg (Ak g), Q4 aa, Q3 ab, Q2 ac, .V e, .agg (Aq b)] [] (fun x new => ∃ (u0 : Value), x = .tup [.v u0, .V r.2] ∧ new = [U4 u0 r.1]) := by
 refine Ad Tryz.func92 I I I fun C hC => ?_
 refine Aa fun y1 aj => sH (sJ [] I (Bo (Ak g) 7 fun E => sJ [] I (Bo (Aq b) 2 fun F => Ag 2 I (sI ?_))))
 subst aj
 refine Aa fun y4 ak => sN ?_
 obtain ⟨r5, al, h⟩ := Ac h
 refine sH (An 2 [.o 0 0] I J1 (Cc (fX _ _ _ al) (Ag 1 I (sI (Ah I (Ar h I ?_ ?_))))))
 intro am h
 refine Ah I (sP (Bv 131 3) (Cu [2] I ?_))
 obtain rfl := oi h
 rotate_left
 intro am h
 refine sL ?_
 subst ak
 refine Aa fun y8 an => sN ?_
 obtain ⟨r9, ao, h⟩ := Ac h
 refine sH (Ag 1 I (Cc (Tn _ _ ao) (Ag 1 I (sI (Ah I (Ar h I ?_ ?_))))))
 intro aq h
 refine Ah I (sP (Bv 131 3) (Cu [2] I ?_))
 obtain rfl := oi h
 rotate_left
 intro aq h
 refine sL ?_
 subst an
 refine Aa fun cg ar => ?_
 obtain ⟨G, au, h⟩ := Ac h
 refine sH (Ag 3 I (sJ [] I (Ci I I I (fI _ _ _ _ au) dS ?_)))
 rintro _ _ ⟨av, rfl, rfl⟩
 refine Ag 5 I (sI ?_)
 subst ar
 refine Aa fun ci aw => sM (Ah I (Ar h I ?_ ?_))
 intro ax h
 refine Ah I (sP (Bv 131 3) (Cu [3] I ?_))
 obtain rfl := oi h
 any_goals
  exact sO ⟨.inr I, [_, _], [.us (.slice none 0 0) 131 3 ([].map Ao)], J2, Cy I (Cm), ⟨(.slice none 0 0), I2⟩⟩
 intro ax h
 refine Ec 49 ((e == 0) || (decide (e < (-1000)) || (decide (e > 1000) || (!(Ks b))))) ?_ ?_
 refine sH (Ag 3 I ?_)
 rcases bt ((e == 0)) with j | j
 refine Af 52 I j (Ag 13 I (sI ?_))
 exact jf (by simp only [j, bz]) I I I2
 refine Af 52 I j (Ag 4 I ?_)
 rcases bt (decide (e < (-1000))) with u | u
 refine Af 56 I u (Ag 9 I (sI ?_))
 exact jf (by simp only [j, u, bz]) I I I2
 refine Af 56 I u (Ag 4 I ?_)
 rcases bt (decide (e > 1000)) with B | B
 refine Af 60 I B (Ag 5 I (sI ?_))
 exact jf (by simp only [j, u, B, bz]) I I I2
 refine Af 60 I B (An 1 [.o 0 1] I J1 (Cd I I I (Cc (eP b _ I) (Ag 3 I (sI ?_)))))
 exact jf (by simp only [j, u, B, bz]) I I I2
 refine Ar h I ?_ ?_
 intro ay h
 refine Ah I (sP (Bv 131 3) (Cu [3] I ?_))
 obtain rfl := oi h
 exact sO ⟨.inr I, [_, _], [.us (.slice none 0 0) 131 3 ([].map Ao)], J2, Cy I (Cm), ⟨(.slice none 0 0), I2⟩⟩
 intro ay h
 refine sL ?_
 subst aw
 refine Aa fun cj az => ?_
 obtain ⟨H, a0, h⟩ := Ac h
 refine sH (An 2 [.o 0 0] I J1 (sJ [] I (Ci I I I (gA _ _ _ a0) dS ?_)))
 rintro _ _ ⟨a1, rfl, rfl⟩
 refine Ag 1 I (sI ?_)
 subst az
 refine Aa fun ck a2 => ?_
 obtain ⟨a3, a4, h⟩ := Ac h
 refine sH (An 4 [.o 0 0] I J1 (AO.ghost (Bk [2, 3] (K := [U7 av G.1, U0 a1 H]) I [(43, Q2 G.1), (16, Q2 G.1), (67, Q0 H), (18, Q0 H), (70, Q2 G.1), (71, Q0 H)] ⟨⟨_, I, .us 0 I⟩, ⟨_, I, .us 0 I⟩, ⟨_, I, .us 1 I⟩, ⟨_, I, .us 1 I⟩, ⟨_, I, .us 0 I⟩, ⟨_, I, .us 1 I⟩, J⟩ (ob' := [O5 E [Ak g], O8 F [Aq b]]) (.rest _)) (sJ [] I (Ci I I I (hZ _ _ _ _ _ a4) dS ?_))))
 rintro _ _ ⟨M, rfl, rfl⟩
 refine Ag 1 I (sI ?_)
 subst a2
 refine Aa fun cl a5 => ?_
 obtain ⟨a6, a7, h⟩ := Ac h
 refine sH (Ag 1 I (sJ [] I (Ci I I I (Tp _ _ a7) dS ?_)))
 rintro _ _ ⟨N, rfl, rfl⟩
 refine Ag 1 I (sI ?_)
 subst a5
 refine Ai (fun s ob => ∃ (n : (List gradient_part) × Li), F9.J1 g e b n = some r ∧ s = [] ∧ ob = [O5 E [Ak g], O8 F [Aq b], U6 M n.1, U0 N n.2]) [(4, _), (6, _), (11, _), (19, _), (20, _)] J5 ?_ ?_
 refine Ah I (Ar h I ?_ ?_)
 intro a8 h
 refine Aa fun cm a9 => ?_
 obtain ⟨ae, ba, h⟩ := Ac h
 refine sH (Ag 1 I (sJ [3] I (A1 [3] (dV N _ _ ba) ?_)))
 refine sI ?_
 subst a9
 refine Aa fun cn bb => ?_
 obtain ⟨bc, bd, h⟩ := Ac h
 refine sH (Ag 1 I (sJ [2] I (A1 [2] (iG M _ _ bd) ?_)))
 refine sI ?_
 subst bb
 refine Aa fun co be => sH (Ag 1 I (sV (Cz 2 I I I I) I (Ag 1 I (sI ?_))))
 subst be
 refine sM (Oi 2 I fun bf => ?_)
 obtain ⟨cp, bg, bh⟩ := Ac h
 clear h
 refine Gw bg [(4, _), (6, _), (11, _), (19, _), (20, _), (82, _)] J6 (fun (W : Nat) (O : List gradient_part) s ob => s = [(83, .V (W : Int))] ∧ ob = [O5 E [Ak g], O8 F [Aq b], U6 M O, U0 N ae]) ⟨I, I⟩ ⟨I, J⟩ ⟨[0, 1, 2, 3], I, by decide⟩ ?_ ?_
 rintro W O cq s ob af ⟨rfl, rfl⟩ h
 have bi := Cn af
 refine Ah I (Aa fun cr bj => Bs I bi (sL ?_))
 subst bj
 refine sN (sM (Ah I ?_))
 obtain ⟨f, ⟨ag, P⟩, h⟩ := A5 h
 refine sH (Ag 4 I (sV (Bm 2 (m := f.1) I I I I I I I ag (Ae P)) I (Ag 1 I (sV (Bl 2 f.1 2 I I I (Ae P) I (y := .V f.2.height) I) I (Ag 1 I (sV (Bm 2 (m := f.1) I I I I I I I ag (Ae P)) I (Ag 1 I (sJ [2] I (Cg 2 f.1 2 I I I (Ae P) I I I I (Ca I) I (Df (x := (⟨f.2.length, f.2.width, wr (0 - f.2.height), f.2.liquid⟩ : gradient_part)) I) (sI (sH (An 2 [.k 0 (W + 1 : Nat)] I ⟨A0 af bf, J⟩ ?_))))))))))))
 obtain rfl := oi h
 exact sI (lg I2 [0, 1, 2, 3])
 rintro O s ob ⟨rfl, rfl⟩ he
 subst he
 have h := bh
 have bk := Co bc.length
 refine Ah I (Aa fun ct cu => Bu I bk (sQ ?_))
 exact lg ⟨(O, ae), h, I2⟩ [0, 1, 2, 3]
 intro a8 h
 refine sL ?_
 exact lg ⟨(a3, a6), h, I2⟩ [0, 1, 2, 3]
 rintro s ob ⟨n, h, rfl, rfl⟩
 refine Aa fun cv bl => ?_
 obtain ⟨w, ⟨bm, X⟩, h⟩ := A5 h
 refine C5 3 w.1 I X fun bn => By (pd 7 0 [5]) [3, 1] [_, _] I (Bg 1 I (sY I (B0 (m := w.1) I I I I I bn I bm X) I (AP.o I (Bl 0 w.1 0 I I I (Ae X) I (y := .V w.2) I) I (B8 1 [.o 0 1] I J1 (sY I (Au (l := [.V w.2, .V b.Low, .V b.High]) E6 I) I (sK [] I I I (sX (sz := 3) (es := ([(⟨w.2, b⟩ : Level)] : List Level).map Ao) I I I I I I I I I I I dS fun bo => Bg 1 I (Ap (sI ?_)))))))))
 subst bl
 refine Ai (fun s ob => ∃ (Q : List Level) (t : Value), F9.J2 e Q = some r ∧ s = [(22, .v t)] ∧ ob = [U4 t Q]) [(4, _)] J1 ?_ ?_
 refine Aa fun cw bp => sH (Ag 1 I (sV (Cz 2 I I I I) I (Ag 1 I (sI ?_))))
 subst bp
 refine sM (Oi 2 I fun ah => ?_)
 obtain ⟨cx, bq, br⟩ := Ac h
 clear h
 refine Gw bq [(4, _), (6, _), (11, _), (20, _), (103, _), (104, _)] J6 (fun (R : Nat) (a : Int × Int × (List Level)) s ob => ∃ (D : Value), s = [(105, .V (R : Int)), (22, .v D)] ∧ ob = [O5 E [Ak g], O8 F [[.V a.1, .V a.2.1]], U6 M n.1, U0 N n.2, U4 D a.2.2]) ⟨bo, I2⟩ ⟨I, I, J⟩ ⟨[0, 1, 2, 3, 4], I, by decide⟩ ?_ ?_
 rintro R a cy s ob Y ⟨D, rfl, rfl⟩ h
 have bs := Cn Y
 refine Ah I (Aa fun cz bu => Bs I bs (sL ?_))
 subst bu
 refine sN (sM (Aa fun c1 bv => ?_))
 obtain ⟨S, ⟨bw, ai⟩, h⟩ := A5 h
 refine sH (Ag 1 I (sV (Bm 2 (m := S.1) I I I I I I I bw (Ae ai)) I (sV (Bl 2 S.1 0 I I I (Ae ai) I (y := .agg (C0 S.2)) I) I (sJ [] I (sS W9 8 fun c2 => Ag 1 I (sJ [5] I (A3 5 0 0 [C0 S.2] I (sI ?_))))))))
 subst bv
 refine Aa fun c3 bx => ?_
 obtain ⟨i, b0, h⟩ := Ac h
 refine sH (An 6 [.o 0 5, .o 1 0] I J2 (Cc (fD _ _ _ _ b0) (Ag 5 I (sI ?_))))
 subst bx
 refine sN (sH (An 8 [.o 1 1, .o 5 1] I J2 (sT (Au (l := [.V (wr (a.1 - i.2)), .V (wr (a.2.1 - i.1))]) Do I) I (sJ [1] I (A3 1 0 0 [[.V (wr (a.1 - i.2)), .V (wr (a.2.1 - i.1))]] I (sI ?_))))))
 obtain ⟨A, ⟨b1, Z⟩, h⟩ := A5 h
 obtain ⟨c4, b4, h⟩ := Ac h
 refine C5 3 A.1 I Z fun b5 => By (pd 11 0 [8, 9]) [3, 1] [_, _] I (B8 4 [.k 3 (R + 1 : Nat)] I ⟨A0 Y ah, J⟩ (sY I (B0 (m := A.1) I I I I I b5 I b1 Z) I (AP.o I (Bl 0 A.1 0 I I I (Ae Z) I (y := .V A.2) I) I (B8 1 [.o 0 1] I J1 (sY I (Au (l := [.V A.2, .V (wr (a.1 - i.2)), .V (wr (a.2.1 - i.1))]) E6 I) I (sK [] I I I (sR 3 (([(⟨A.2, (⟨wr (a.1 - i.2), wr (a.2.1 - i.1)⟩ : Bounds)⟩ : Level)] : List Level).map Ao) (sK [4] I I I (C7 4 I b4 fun b6 => Jl 22 (Bg 1 I (Ap (sI ?_))))))))))))
 refine sH (An 2 [.k 0 (R + 1 : Nat)] I ⟨A0 Y ah, J⟩ ?_)
 obtain rfl := oi h
 exact sI (lg ⟨b6, I2⟩ [0, 1, 2, 3, 4])
 rintro a s ob ⟨D, rfl, rfl⟩ he
 subst he
 have h := br
 have b7 := Co n.1.length
 refine Ah I (Aa fun c5 c6 => Bu I b7 (sQ ?_))
 exact lg ⟨a.2.2, D, h, I2⟩ [4]
 rintro s ob ⟨Q, t, h, rfl, rfl⟩
 unfold F9.J2 at h
 refine Ai (fun s ob => ∃ (U : List Level), F9.J3 U = some r ∧ s = [] ∧ ob = [U4 t U]) [(22, _)] J1 ?_ ?_
 refine Ah I (Ar h I ?_ ?_)
 intro b8 h
 obtain ⟨b9, ca, h⟩ := Ac h
 refine sH (Ag 1 I (sJ [0] I (A1 [0] (Z3 t _ _ ca) ?_)))
 exact sI (lg ⟨b9, h, I2⟩ [0])
 intro b8 h
 refine sL ?_
 exact lg ⟨Q, h, I2⟩ [0]
 rintro s ob ⟨U, h, rfl, rfl⟩
 refine Ah I ?_
 obtain rfl := oi h
 exact sO ⟨.inr I, [_, _], [U4 t U], J2, Cy I (Cm), ⟨t, I2⟩⟩
end Go.Proofs.YtodeekicjiengaaGreatDoor
