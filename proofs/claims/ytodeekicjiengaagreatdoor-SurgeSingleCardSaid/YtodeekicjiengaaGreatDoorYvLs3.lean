/- Walks that show what functions of the program compute; printed by a program of ours. No condition. -/
import Derived.Test.YtodeekicjiengaaGreatDoorYvLs1
set_option maxRecDepth 100000
namespace Go.Proofs.YtodeekicjiengaaGreatDoor
open Go.Aw
set_option linter.unusedVariables false
set_option linter.unusedSimpArgs false
set_option maxHeartbeats 4000000
theorem T5 (a : Int) (r : Bool) (h : Na a = r) : ACalls Aj 93 [.V a] [] (fun x new => x = .v (.bool r) ∧ new = []) := by
 refine Ad Tryz.func93 I I I fun C hC => ?_
 unfold Na at h
 refine Ah I (Ai (fun s ob => s = [(2, .v (.bool (decide (a < 0) || decide (a > 1125899906842624))))] ∧ ob = []) [] J ?_ ?_)
 refine sH (Ag 3 I ?_)
 rcases bt (decide (a < 0)) with b | b
 refine Af 5 I b (Ag 4 I (sI ?_))
 exact lf I2 ⟨(Dn (by simp only [b, bz])), J⟩ [] I
 refine Af 5 I b (Ag 4 I (sI ?_))
 exact lf I2 ⟨(Dn (by simp only [b, bz])), J⟩ [] I
 rintro s ob ⟨rfl, rfl⟩
 obtain rfl := h
 exact sO pr
theorem dW (a : List Bounds) (F1 : T) {c : FuncId} {d e : List T} (o : Jf F1 = some (c, d, e)) (f : Bounds → Option Bool) (p : ∀ (g : Bounds) r, f g = some r → ACalls Aj c (d ++ [.agg (Aq g)] ++ e) [] fun x new => x = .v (.bool r) ∧ new = []) (r : Int) (h : Uu a f = some r) : ACalls Aj 152 [rR a, F1] [] (fun x new => x = .V r ∧ new = []) := by
 refine Ad Tryz.func152 I I I fun C hC => ?_
 unfold Uu at h
 refine Ah I (Ai (fun s ob => ∃ (i : Unit), Uu.J1 i = some r ∧ s = [] ∧ ob = []) [] J ?_ ?_)
 refine Bh [.l 1 (a.length : Int)] I ⟨Ay, J⟩ (sM (Bz 6 I fun q => ?_))
 obtain ⟨G, t, j⟩ := Ac h
 clear h
 refine Bx t [(0, _), (1, _), (7, _)] J3 (fun (b : Nat) (m : Unit) s ob => s = [(8, .V (b : Int))] ∧ ob = []) ⟨I, I⟩ ⟨I, J⟩ ⟨[], I, by decide⟩ ?_ ?_
 rintro b u m H s ob w n ⟨rfl, rfl⟩ h y
 have A := Cn n
 refine Ah I (Aa fun K B => Bs I A (sL ?_))
 subst B
 refine sN (sM (Ah I (sN ?_)))
 obtain ⟨M, D, h⟩ := Ac h
 refine sH (An 5 [.x 3 b (Aq u)] I ⟨⟨I, Ae w⟩, J⟩ (sJ [] I (Cl I (.refl _) o I (.rest _) I (p _ _ D) dS (by rintro _ _ ⟨rfl, _⟩; rfl) ?_)))
 rintro _ ⟨_, rfl, -⟩
 refine sI (Ar h I ?_ ?_)
 intro E h
 refine Ah I ?_
 obtain rfl := y _ (oi h).symm
 replace h := j
 replace h := C1 h
 obtain rfl := oi h
 exact sO pr
 intro E h
 refine sL (sH (An 2 [.k 0 (b + 1 : Nat)] I ⟨A0 n q, J⟩ ?_))
 obtain rfl := oi h
 exact sI ⟨_, _, _, I, I2, J4, [], I, by decide⟩
 rintro m s ob ⟨rfl, rfl⟩ he
 subst he
 have h := C6 j
 have F := Co a.length
 refine Ah I (Aa fun N O => Bu I F (sQ ?_))
 exact lg ⟨(), h, I2⟩ []
 rintro s ob ⟨i, h, rfl, rfl⟩
 refine Ah I ?_
 obtain rfl := oi h
 exact sO pr
theorem eM (b : List Bounds) (F1 : T) {d : FuncId} {e f : List T} (i : Jf F1 = some (d, e, f)) (a : Bounds → Option Bool) (j : ∀ (g : Bounds) r, a g = some r → ACalls Aj d (e ++ [.agg (Aq g)] ++ f) [] fun x new => x = .v (.bool r) ∧ new = []) (r : Bool) (h : Pt b a = some r) : ACalls Aj 94 [rR b, F1] [] (fun x new => x = .v (.bool r) ∧ new = []) := by
 refine Ad Tryz.func94 I I I fun C hC => ?_
 refine Ah I (sN ?_)
 obtain ⟨l, k, h⟩ := Ac h
 refine sH (Ag 2 I (Cc (dW _ F1 i a j _ k) (Ag 2 I (sI ?_))))
 obtain rfl := oi h
 exact sO pr
theorem Tr (a : Bounds) (r : Bool) (h : Kr a = r) : ACalls Aj 96 [.agg (Aq a)] [] (fun x new => x = .v (.bool r) ∧ new = []) := by
 refine Ad Tryz.func96 I I I fun C hC => ?_
 unfold Kr at h
 refine Aa fun d c => sH (sJ [] I (Bo (Aq a) 2 fun e => Ag 1 I (sI ?_)))
 subst c
 refine Ai (fun s ob => s = [(2, .v (.bool (decide ((min a.Low a.High) ≥ (-1152921504606846976)) && decide ((max a.Low a.High) ≤ 1152921504606846976))))] ∧ ob = []) [] J ?_ ?_
 refine sH (An 7 [.o 1 0, .o 3 0] I J2 ?_)
 rcases bt (decide ((min a.Low a.High) ≥ (-1152921504606846976))) with b | b
 refine Af 9 I b (An 8 [.o 1 0, .o 3 0] I J2 (sI ?_))
 exact lf I2 ⟨(Dn (by simp only [b, bz])), J⟩ [] I
 refine Af 9 I b (Ag 8 I (sI ?_))
 exact lf I2 ⟨(Dn (by simp only [b, bz])), J⟩ [] I
 rintro s ob ⟨rfl, rfl⟩
 obtain rfl := h
 exact sO pr
theorem eB (a : Bounds) (r : Bool) (h : Pq a = r) : ACalls Aj 95 [.agg (Aq a)] [] (fun x new => x = .v (.bool r) ∧ new = []) := by
 refine Ad Tryz.func95 I I I fun C hC => ?_
 unfold Pq at h
 refine sN (sH (sJ [] I (Bo (Aq a) 2 fun b => Ag 1 I (sI (sN (sH (An 1 [.o 0 0] I J1 (Cc (Tr a _ I) (Ag 2 I (sI (sP g0 ?_)))))))))))
 obtain rfl := h
 exact sO pr
theorem iB (a : List Level) (F1 : T) {c : FuncId} {d e : List T} (o : Jf F1 = some (c, d, e)) (f : Level → Option Bool) (p : ∀ (g : Level) r, f g = some r → ACalls Aj c (d ++ [.agg (Ao g)] ++ e) [] fun x new => x = .v (.bool r) ∧ new = []) (r : Int) (h : Vx a f = some r) : ACalls Aj 153 [Q9 a, F1] [] (fun x new => x = .V r ∧ new = []) := by
 refine Ad Tryz.func153 I I I fun C hC => ?_
 unfold Vx at h
 refine Ah I (Ai (fun s ob => ∃ (i : Unit), Vx.J1 i = some r ∧ s = [] ∧ ob = []) [] J ?_ ?_)
 refine Bh [.l 1 (a.length : Int)] I ⟨Ay, J⟩ (sM (Bz 6 I fun q => ?_))
 obtain ⟨G, t, j⟩ := Ac h
 clear h
 refine Bx t [(0, _), (1, _), (7, _)] J3 (fun (b : Nat) (m : Unit) s ob => s = [(8, .V (b : Int))] ∧ ob = []) ⟨I, I⟩ ⟨I, J⟩ ⟨[], I, by decide⟩ ?_ ?_
 rintro b u m H s ob w n ⟨rfl, rfl⟩ h y
 have A := Cn n
 refine Ah I (Aa fun K B => Bs I A (sL ?_))
 subst B
 refine sN (sM (Ah I (sN ?_)))
 obtain ⟨M, D, h⟩ := Ac h
 refine sH (An 5 [.x 3 b (Ao u)] I ⟨⟨I, Ae w⟩, J⟩ (sJ [] I (Cl I (.refl _) o I (.rest _) I (p _ _ D) dS (by rintro _ _ ⟨rfl, _⟩; rfl) ?_)))
 rintro _ ⟨_, rfl, -⟩
 refine sI (Ar h I ?_ ?_)
 intro E h
 refine Ah I ?_
 obtain rfl := y _ (oi h).symm
 replace h := j
 replace h := C1 h
 obtain rfl := oi h
 exact sO pr
 intro E h
 refine sL (sH (An 2 [.k 0 (b + 1 : Nat)] I ⟨A0 n q, J⟩ ?_))
 obtain rfl := oi h
 exact sI ⟨_, _, _, I, I2, J4, [], I, by decide⟩
 rintro m s ob ⟨rfl, rfl⟩ he
 subst he
 have h := C6 j
 have F := Co a.length
 refine Ah I (Aa fun N O => Bu I F (sQ ?_))
 exact lg ⟨(), h, I2⟩ []
 rintro s ob ⟨i, h, rfl, rfl⟩
 refine Ah I ?_
 obtain rfl := oi h
 exact sO pr
theorem gN (b : List Level) (F1 : T) {d : FuncId} {e f : List T} (i : Jf F1 = some (d, e, f)) (a : Level → Option Bool) (j : ∀ (g : Level) r, a g = some r → ACalls Aj d (e ++ [.agg (Ao g)] ++ f) [] fun x new => x = .v (.bool r) ∧ new = []) (r : Bool) (h : Qe b a = some r) : ACalls Aj 97 [Q9 b, F1] [] (fun x new => x = .v (.bool r) ∧ new = []) := by
 refine Ad Tryz.func97 I I I fun C hC => ?_
 refine Ah I (sN ?_)
 obtain ⟨l, k, h⟩ := Ac h
 refine sH (Ag 2 I (Cc (iB _ F1 i a j _ k) (Ag 2 I (sI ?_))))
 obtain rfl := oi h
 exact sO pr
theorem eE (a : Level) (g : Nw) (i : Int) (r : Bool) (h : Pr a g i = some r) : ACalls Aj 98 [.agg (Ao a), .eptr (Ab g), .eptr (rI i)] [] (fun x new => x = .v (.bool r) ∧ new = []) := by
 refine Ad Tryz.func98 I I I fun C hC => ?_
 unfold Pr at h
 refine Aa fun n j => sH (sJ [] I (Bo (Ao a) 3 fun p => Ag 1 I (sI ?_)))
 subst j
 refine Ai (fun s ob => ∃ (e : Bool), Pr.J1 e = some r ∧ s = [(4, .v (.bool e))] ∧ ob = []) [] J ?_ ?_
 refine By (pd 21 0 [2]) [0] [_] I (Bg 1 I (AP.o I (C2 0 0 1 I I I I I (y := .agg (Aq a.Bounds)) I) I (Dp I (Tr a.Bounds _ I) (Bg 2 I ?_))))
 rcases bt ((!(Kr a.Bounds))) with b | b
 replace h := Bq b h
 refine A4 9 I b (Bg 15 I (Jl 4 (Bg 1 I (Ap (sI ?_)))))
 exact lg ⟨true, h, I2⟩ []
 replace h := Br b h
 refine A4 9 I b (B8 5 [.o 1 0] I J1 ?_)
 rcases bt (decide (a.At < 0)) with d | d
 replace h := Bq d h
 refine A4 14 I d (Bg 10 I (Jl 4 (Bg 1 I (Ap (sI ?_)))))
 exact lg ⟨true, h, I2⟩ []
 replace h := Br d h
 obtain ⟨f, ⟨k, l⟩, h⟩ := A5 h
 refine A4 14 I d (B8 10 [.o 1 0, .x 5 f.1 (Ak f.2)] I ⟨⟨k, Ae l⟩, I, J⟩ (Jl 4 (Bg 1 I (Ap (sI ?_)))))
 exact lg ⟨decide (a.At > f.2.Capacity), h, I2⟩ []
 rintro s ob ⟨e, h, rfl, rfl⟩
 obtain rfl := oi h
 exact sO pr
theorem fU (a : Nw) (b : Pressures) (e : Plan) (f : Li) (r : Bool) (h : Nb a b e f = some r) : ACalls Aj 54 [.agg (Ab a), .agg (A8 b), .agg (Am e), Q0 f] [] (fun x new => x = .v (.bool r) ∧ new = []) := by
 refine Ad Tryz.func54 I I I fun C hC => ?_
 unfold Nb at h
 refine Aa fun y1 K => sH (sJ [] I (Bo (Ab a) 6 fun w => sJ [] I (Bo (A8 b) 3 fun B => sJ [] I (Bo (Am e) 3 fun b4 => Ag 1 I (sI ?_)))))
 subst K
 refine Aa fun y5 M => Ai (fun s ob => ∃ (y : Bool), Nb.J1 a b f y = some r ∧ s = [(57, .v (.bool y))] ∧ ob = [O0 w [Ab a], O3 B [A8 b]]) [(3, _), (4, _), (5, _)] J3 ?_ ?_
 obtain ⟨N, O, h⟩ := Ac h
 refine sH (An 1 [.o 0 0] I J1 (Cc (Jz _ _ O) (Ag 2 I ?_)))
 rcases bt ((N != 0)) with g | g
 replace h := Bq g h
 refine Af 14 I g (Ag 43 I (sI ?_))
 exact lg ⟨true, h, I2⟩ [0, 1]
 replace h := Br g h
 refine Af 14 I g (An 9 [.o 1 2, .l 2 (e.Pumps.length : Int), .o 4 0, .l 5 (a.Stations.length : Int)] I ⟨Ay, I, Ay, I, J⟩ ?_)
 rcases bt (((e.Pumps.length : Int) != (a.Stations.length : Int))) with i | i
 replace h := Bq i h
 refine Af 23 I i (Ag 34 I (sI ?_))
 exact lg ⟨true, h, I2⟩ [0, 1]
 replace h := Br i h
 refine Af 23 I i (An 9 [.o 1 1, .l 2 (b.Known.length : Int), .o 4 0, .l 5 (a.Nodes.length : Int)] I ⟨Ay, I, Ay, I, J⟩ ?_)
 rcases bt (((b.Known.length : Int) != (a.Nodes.length : Int))) with j | j
 replace h := Bq j h
 refine Af 32 I j (Ag 25 I (sI ?_))
 exact lg ⟨true, h, I2⟩ [0, 1]
 replace h := Br j h
 refine Af 32 I j (An 9 [.o 1 1, .l 2 (b.Nodes.length : Int), .o 4 0, .l 5 (a.Nodes.length : Int)] I ⟨Ay, I, Ay, I, J⟩ ?_)
 rcases bt (((b.Nodes.length : Int) != (a.Nodes.length : Int))) with n | n
 replace h := Bq n h
 refine Af 41 I n (Ag 16 I (sI ?_))
 exact lg ⟨true, h, I2⟩ [0, 1]
 replace h := Br n h
 refine Af 41 I n (An 9 [.o 1 1, .l 2 (b.Segments.length : Int), .o 4 0, .l 5 (a.Segments.length : Int)] I ⟨Ay, I, Ay, I, J⟩ ?_)
 rcases bt (((b.Segments.length : Int) != (a.Segments.length : Int))) with t | t
 replace h := Bq t h
 refine Af 50 I t (Ag 7 I (sI ?_))
 exact lg ⟨true, h, I2⟩ [0, 1]
 replace h := Br t h
 refine Af 50 I t (An 7 [.l 1 (f.length : Int), .o 3 0, .l 4 (a.Segments.length : Int)] I ⟨Ay, I, Ay, J⟩ (sI ?_))
 exact lg ⟨((f.length : Int) != (a.Segments.length : Int)), h, I2⟩ [0, 1]
 rintro s ob ⟨y, h, rfl, rfl⟩
 refine Ar h I ?_ ?_
 intro P h
 refine Ah I (sP g0 ?_)
 obtain rfl := oi h
 exact sO pr
 intro P h
 refine sL ?_
 subst M
 refine Aa fun ak Q => Ai (fun s ob => ∃ (A : Bool), Nb.J2 a b A = some r ∧ s = [(64, .v (.bool A))] ∧ ob = [O0 w [Ab a], O3 B [A8 b]]) [(4, _), (5, _)] J2 ?_ ?_
 obtain ⟨R, D, h⟩ := Ac h
 refine sH (Ag 1 I ?_)
 rcases bt (R) with u | u
 replace h := Bq u h
 refine Cc (Jt _ (.v (.func (.func 93) #[] #[])) I (fun x => some (Na x)) (fun x r h => by obtain I := oi h; exact T5 x _ I) _ D) (Ag 1 I (Af 60 I u (Ag 4 I (sI ?_))))
 exact lg ⟨true, h, I2⟩ [0, 1]
 replace h := Br u h
 obtain ⟨S, U, h⟩ := Ac h
 refine Cc (Jt _ (.v (.func (.func 93) #[] #[])) I (fun x => some (Na x)) (fun x r h => by obtain I := oi h; exact T5 x _ I) _ D) (Ag 1 I (Af 60 I u (An 2 [.o 1 1] I J1 (Cd I I I (Cc (eM _ (.v (.func (.func 95) #[] #[])) I (fun x => some (Pq x)) (fun x r h => by obtain I := oi h; exact eB x _ I) _ U) (Ag 1 I (sI ?_)))))))
 exact lg ⟨S, h, I2⟩ [0, 1]
 rintro s ob ⟨A, h, rfl, rfl⟩
 refine Ar h I ?_ ?_
 intro W h
 refine Ah I (sP g0 ?_)
 obtain rfl := oi h
 exact sO pr
 intro W h
 refine sL ?_
 subst Q
 refine Ai (fun s ob => ∃ (E : Unit), Nb.J3 E = some r ∧ s = [] ∧ ob = []) [] J ?_ ?_
 refine Bh [.o 1 1, .l 2 (b.Segments.length : Int)] I ⟨Ay, I, J⟩ (sM (Bz 66 I fun X => ?_))
 obtain ⟨al, Y, F⟩ := Ac h
 clear h
 refine Bx Y [(4, _), (66, _), (67, _)] J3 (fun (d : Nat) (G : Unit) s ob => s = [(68, .V (d : Int))] ∧ ob = [O0 w [Ab a]]) ⟨I, I⟩ ⟨I, J⟩ ⟨[0], I, by decide⟩ ?_ ?_
 rintro d Z G am s ob aa H ⟨rfl, rfl⟩ h ab
 have ac := Cn H
 refine Ah I (Aa fun an ad => Bs I ac (sL ?_))
 subst ad
 refine sN (sM (sN (sH (An 3 [.x 1 d ((rL 3 Ao) Z)] I ⟨⟨I, Ae aa⟩, J⟩ (sJ [] I (sS [.V 0] 1 fun ao => sJ [1] I (A3 1 0 0 [[.V (d : Int)]] I (Ag 1 I (sI (sN ?_))))))))))
 obtain ⟨ap, ae, h⟩ := Ac h
 refine sH (Ag 1 I (sT (tD I I) I (sJ [] I (Cl I (.refl _) I I (.cons (.refl _) (.cons (.fn (.rest _) (.cons (.box 0 I (.rest _)) (.cons (.box 1 I (.rest _)) (.rest _)))) (.rest _))) I (gN _ (.fn 98 [] [.eptr (Ab a), .eptr (rI (d : Int))]) I (fun x => Pr x a (d : Int)) (fun x r h => eE x a (d : Int) r h) _ ae) dS (by rintro _ _ ⟨rfl, _⟩; rfl) ?_))))
 rintro _ ⟨_, rfl, -⟩
 refine sI (Ar h I ?_ ?_)
 intro af h
 refine Ah I ?_
 obtain rfl := ab _ (oi h).symm
 replace h := F
 replace h := C1 h
 refine sP g0 ?_
 obtain rfl := oi h
 exact sO pr
 intro af h
 refine sL (sH (An 2 [.k 0 (d + 1 : Nat)] I ⟨A0 H X, J⟩ ?_))
 obtain rfl := oi h
 exact sI ⟨_, _, _, I, I2, J4, [0], I, by decide⟩
 rintro G s ob ⟨rfl, rfl⟩ he
 subst he
 have h := C6 F
 have ag := Co b.Segments.length
 refine Ah I (Aa fun aq ar => Bu I ag (sQ ?_))
 exact lg ⟨(), h, I2⟩ []
 rintro s ob ⟨E, h, rfl, rfl⟩
 refine Ah I ?_
 obtain rfl := oi h
 exact sO pr
end Go.Proofs.YtodeekicjiengaaGreatDoor
