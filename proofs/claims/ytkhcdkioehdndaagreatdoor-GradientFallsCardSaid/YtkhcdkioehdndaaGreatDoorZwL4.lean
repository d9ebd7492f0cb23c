/- Walks that show what functions of the program compute; printed by a program of ours. No condition. -/
import Derived.Test.YtkhcdkioehdndaaGreatDoorZwL3
import Derived.Test.YtkhcdkioehdndaaGreatDoorZwL0
set_option maxRecDepth 100000
namespace Go.Proofs.YtkhcdkioehdndaaGreatDoor
open Go.Aw
set_option linter.unusedVariables false
set_option linter.unusedSimpArgs false
set_option maxHeartbeats 4000000
abbrev Gd : PL := .act 6 (sl 5 7 .nil)
theorem Tt (a : List Level) (F1 : T) {c : FuncId} {d e : List T} (o : Ho F1 = some (c, d, e)) (f : Level → Option Bool) (p : ∀ (g : Level) r, f g = some r → ACalls Ae c (d ++ [.agg (A4 g)] ++ e) [] (RB r)) (r : Int) (h : Pk a f = some r) : ACalls Ae 74 [Q5 a, F1] [] (RV (.V r)) := by
 refine Aa Tryz.func74 I I I fun C hC => ?_
 unfold Pk at h
 refine Ak I (Am (fun s ob => ∃ (i : Unit), Pk.J1 i = some r ∧ s = [] ∧ ob = []) [] J ?_ ?_)
 refine Bl [.l 1 (a.length : Int)] I ⟨Bc, J⟩ (Z6 (Co 6 I fun q => ?_))
 obtain ⟨G, t, j⟩ := Ac h
 refine Cd t [(0, _), (1, _), (7, _)] J3 (fun (b : Nat) (m : Unit) s ob => s = [(8, .V (b : Int))] ∧ ob = []) ⟨I, I⟩ ⟨I, J⟩ ⟨[], I, by decide⟩ ?_ ?_
 rintro b u m H s ob w n ⟨rfl, rfl⟩ h y
 have A := Do n
 refine Ak I (Ab fun K B => B0 I A (Z7 ?_))
 subst B
 refine Z5 (Z6 (Ak I (Z5 ?_)))
 obtain ⟨M, D, h⟩ := Ac h
 refine Z2 (Ao 5 [.x 3 b (A4 u)] I ⟨⟨I, Ag w⟩, J⟩ (Z4 [] I (Bo I (.refl _) o I (.rest _) I (p _ _ D) dS (by rintro _ _ ⟨rfl, _⟩; rfl) ?_)))
 rintro _ ⟨_, rfl, -⟩
 refine Z3 (Av h I ?_ ?_)
 intro E h
 refine Ak I ?_
 obtain rfl := y _ (oi h).symm
 have h := j
 have h := Ef h
 cases io h
 exact Z8 pr
 intro E h
 refine Z7 (Z2 (Ao 2 [.k 0 (b + 1 : Nat)] I ⟨A5 n q, J⟩ ?_))
 cases io h
 exact Z3 ⟨_, _, _, I, I2, J4, [], I, by decide⟩
 rintro m s ob ⟨rfl, rfl⟩ he
 subst he
 have h := Eo j
 have F := Dp a.length
 exact Ak I (Ab fun N O => B7 I F (aB (lg ⟨(), h, I2⟩ [])))
 rintro s ob ⟨i, h, rfl, rfl⟩
 unfold Pk.J1 at h
 refine Ak I ?_
 cases io h
 exact Z8 pr
theorem Ti (b : List Level) (F1 : T) {d : FuncId} {e f : List T} (i : Ho F1 = some (d, e, f)) (a : Level → Option Bool) (j : ∀ (g : Level) r, a g = some r → ACalls Ae d (e ++ [.agg (A4 g)] ++ f) [] (RB r)) (r : Bool) (h : Uu b a = some r) : ACalls Ae 50 [Q5 b, F1] [] (RB r) := by
 refine Aa Tryz.func50 I I I fun C hC => ?_
 refine Ak I (Z5 ?_)
 obtain ⟨l, k, h⟩ := Ac h
 refine Z2 (Af 2 I (By (Tt _ F1 i a j _ k) (Af 2 I (Z3 ?_))))
 cases io h
 exact Z8 pr
theorem Ta (a : Level) (c : Sg) (r : Bool) (h : Mr a c = r) : ACalls Ae 51 [.agg (A4 a), .eptr (Ai c)] [] (RB r) := by
 refine Aa Tryz.func51 I I I fun C hC => ?_
 unfold Mr at h
 refine Ab fun e d => Z2 (Z4 [] I (Cg (A4 a) 3 fun f => Af 1 I (Z3 ?_)))
 subst d
 refine Am (fun s ob => s = [(3, .v (.bool (decide (a.At < 0) || decide (a.At > c.Capacity))))] ∧ ob = []) [] J ?_ ?_
 refine Z2 (Ao 4 [.o 1 0] I J1 ?_)
 rcases bt (decide (a.At < 0)) with b | b
 refine Aj 7 I b (Af 7 I (Z3 ?_))
 exact lf I2 ⟨(Dl (by simp only [b, bz])), J⟩ [] I
 refine Aj 7 I b (Ao 7 [.o 1 0] I J1 (Z3 ?_))
 exact lf I2 ⟨(Dl (by simp only [b, bz])), J⟩ [] I
 rintro s ob ⟨rfl, rfl⟩
 obtain rfl := h
 exact Z8 pr
theorem Tb (d : Sg) (e : Int) (r : Int) (h : Ph d e = some r) : ACalls Ae 52 [.agg (Ai d), .V e] [] (RV (.V r)) := by
 refine Aa Tryz.func52 I I I fun C hC => ?_
 unfold Ph at h
 refine Ab fun Q y => Z2 (Z4 [] I (Cg (Ai d) 7 fun j => Af 1 I (Z3 ?_)))
 subst y
 refine Ak I (Am (fun s ob => ∃ (k : Int), Ph.J1 k = some r ∧ s = [(5, .V k)] ∧ ob = []) [] J ?_ ?_)
 refine Ak I (Z6 ?_)
 obtain ⟨R, A, B⟩ := Ac h
 refine Cv A [(1, _), (2, _)] J2 (fun (c : Int × Int) s ob => s = [(5, .V c.1), (6, .V c.2)] ∧ ob = [O1 j [Ai d]]) ⟨I, I⟩ ⟨I, I, J⟩ ⟨[0], I, by decide⟩ ?_
 rintro c w s ob ⟨rfl, rfl⟩ h D
 refine Ab fun S E => Bl [.o 2 0, .l 3 (d.Points.length : Int)] I ⟨Bc, I, J⟩ (Av h I ?_ ?_)
 intro F h
 refine Z7 ?_
 subst E
 refine Am (fun s ob => ∃ (n : Int), Ph.J3 c n = some w ∧ s = [(5, .V n)] ∧ ob = [O1 j [Ai d]]) [(1, _), (2, _), (6, _)] J3 ?_ ?_
 refine Z6 (Am (fun s ob => ∃ (a : Int × Int × Int × Int × Int × Int) (t : Nat) (u : Nat), Ph.J4 e c a = some w ∧ s = [(7, .v (.pointer (some ⟨t, 0, none⟩))), (8, .v (.pointer (some ⟨u, 0, none⟩)))] ∧ ob = [O1 j [Ai d], .arr t 35 3 1 [[.V a.1, .V a.2.1, .V a.2.2.1]], .arr u 35 3 1 [[.V a.2.2.2.1, .V a.2.2.2.2.1, .V a.2.2.2.2.2]]]) [(1, _), (2, _), (5, _), (6, _)] J4 ?_ ?_)
 obtain ⟨f, ⟨G, H⟩, h⟩ := Bg h
 obtain ⟨g, ⟨K, M⟩, h⟩ := Bg h
 refine Cb (sl 11 0 (.par [(11, []), (12, [])] (.act 13 (.act 14 .nil)))) [0] [_] I (Dd 11 [.o 1 0, .x 4 f.1 (A2 f.2), .o 7 0, .x 9 g.1 (A2 g.2)] I ⟨⟨K, Ag M⟩, I, ⟨G, Ag H⟩, I, J⟩ (AP.any [⟨11, [], 7, .box 35 3 (W1)⟩, ⟨12, [], 8, .box 35 3 (W1)⟩] I ⟨⟨_, I, I, I, fun _ => Bz W1 3 fun b => ⟨_, I, ⟨b, I⟩, I⟩⟩, ⟨_, I, I, I, fun _ => Bz W1 3 fun b => ⟨_, I, ⟨b, I⟩, I⟩⟩, J⟩ ?_))
 intro N O
 exact Z9 [1] I I I (Bk 1 0 0 [A2 f.2] I (Z9 [2] I I I (Bk 2 0 0 [A2 g.2] I (Ay (Z3 (lg ⟨(f.2.At, f.2.Height, f.2.Limit, g.2.At, g.2.Height, g.2.Limit), N, O, h, I2⟩ [0, 1, 2]))))))
 rintro s ob ⟨a, t, u, h, rfl, rfl⟩
 unfold Ph.J4 at h
 refine Fx 36 (decide (a.1 ≤ e) && decide (e ≤ a.2.2.2.1)) ?_ ?_
 refine Z2 (Ao 5 [.o 1 1] I J1 ?_)
 rcases bt (decide (a.1 ≤ e)) with i | i
 exact Aj 31 I i (Ao 5 [.o 2 2] I J1 (Z3 (jf (by simp only [i, bz]) I I I2)))
 exact Aj 31 I i (Af 5 I (Z3 (jf (by simp only [i, bz]) I I I2)))
 refine Av h I ?_ ?_
 intro P h
 exact Z2 (Ao 5 [.o 2 1, .o 4 2] I J2 (Bi (Vq I I I) I (Af 1 I (Z3 (lg ⟨(min (min c.1 a.2.2.1) a.2.2.2.2.2), h, I2⟩ [0])))))
 intro P h
 exact Z7 (lg ⟨c.1, h, I2⟩ [0])
 rintro s ob ⟨n, h, rfl, rfl⟩
 unfold Ph.J3 at h
 refine Z2 (Af 3 I ?_)
 cases io h
 exact Z3 ⟨_, _, _, I, I2, J4, [0], I, by decide⟩
 intro F h
 obtain rfl := D _ (oi h).symm
 have h := B
 exact aB (lg ⟨c.1, h, I2⟩ [])
 rintro s ob ⟨k, h, rfl, rfl⟩
 unfold Ph.J1 at h
 refine Ak I ?_
 cases io h
 exact Z8 pr
theorem S0 (a : Sg) (b : List Level) (e : Int) (r : Int × Int) (h : Us a b e = some r) : ACalls Ae 20 [.agg (Ai a), Q5 b, .V e] [] (RV (.tup [.V r.1, .V r.2])) := by
 refine Aa Tryz.func20 I I I fun C hC => ?_
 refine Ab fun y1 K => Z2 (Z4 [] I (Cg (Ai a) 7 fun f => Af 2 I (Z3 ?_)))
 subst K
 refine Ab fun y3 M => Z5 ?_
 obtain ⟨r4, N, h⟩ := Ac h
 refine Z2 (Ao 1 [.o 0 0] I J1 (By (L3 _ _ N) (Af 1 I (Z3 (Ak I (Av h I ?_ ?_))))))
 intro O h
 refine Ak I (aA g0 ?_)
 cases io h
 exact Z8 ⟨.inr I, [_, _], [], J2, Ct, I2⟩
 intro O h
 refine Z7 ?_
 subst M
 refine Ab fun y7 P => Am (fun s ob => ∃ (n : Bool), Us.J1 a b e n = some r ∧ s = [(24, .v (.bool n))] ∧ ob = [O1 f [Ai a]]) [(1, _), (2, _), (3, _)] J3 ?_ ?_
 rcases bt (decide ((b.length : Int) > 208)) with g | g
 have h := C1 g h
 exact Z2 (Ao 4 [.l 1 (b.length : Int)] I ⟨Bc, J⟩ (Aj 20 I g (Af 4 I (Z3 (lg ⟨true, h, I2⟩ [0])))))
 have h := C2 g h
 obtain ⟨Q, R, h⟩ := Ac h
 refine Z2 (Ao 4 [.l 1 (b.length : Int)] I ⟨Bc, J⟩ (Aj 20 I g (Af 1 I (Bu I I I (Bi (Yp.makeFunc I I) I (Bu I I I (Z4 [] I (Bo I (.refl _) I I (.cons (.refl _) (.cons (.fn (.rest _) (.cons (.box 0 I (.rest _)) (.rest _))) (.rest _))) I (Ti _ (.fn 51 [] [.eptr (Ai a)]) I (fun x => some (Mr x a)) (fun x r h => by obtain I := oi h; exact Ta x a _ I) _ R) dS (by rintro _ _ ⟨rfl, _⟩; rfl) ?_))))))))
 rintro _ ⟨_, rfl, -⟩
 exact Af 1 I (Z3 (lg ⟨Q, h, I2⟩ [0]))
 rintro s ob ⟨n, h, rfl, rfl⟩
 refine Av h I ?_ ?_
 intro S h
 refine Ak I (aA g0 ?_)
 cases io h
 exact Z8 ⟨.inr I, [_, _], [], J2, Ct, I2⟩
 intro S h
 refine Z7 ?_
 subst P
 refine Am (fun s ob => ∃ (u : Unit), Us.J2 a b e u = some r ∧ s = [] ∧ ob = [O1 f [Ai a]]) [(1, _), (2, _), (3, _)] J3 ?_ ?_
 refine Ak I (Z6 ?_)
 obtain ⟨aw, U, w⟩ := Ac h
 refine Cv U [(1, _), (2, _), (3, _)] J3 (fun (y : Int) s ob => s = [(9, .V y)] ∧ ob = [O1 f [Ai a]]) ⟨I, I⟩ ⟨I, J⟩ ⟨[0], I, by decide⟩ ?_
 rintro y ax s ob ⟨rfl, rfl⟩ h A
 refine Ab fun ay W => Bl [.l 2 (b.length : Int)] I ⟨Bc, J⟩ (Av h I ?_ ?_)
 intro X h
 refine Z7 ?_
 subst W
 refine Z5 (Z6 (Z5 ?_))
 obtain ⟨B, ⟨Y, Z⟩, h⟩ := Bg h
 obtain ⟨D, ⟨aa, ab⟩, h⟩ := Bg h
 refine Nq (pd 12 0 []) [] [] [.x 3 B.1 (A4 B.2), .x 8 D.1 (A4 D.2)] I I ⟨⟨aa, Ag ab⟩, ⟨Y, Ag Z⟩, J⟩ (Av h I ?_ ?_)
 intro ac h
 refine Ak I ?_
 obtain rfl := A _ (oi h).symm
 have h := w
 have h := Eo h
 refine aA g0 ?_
 cases io h
 exact Z8 ⟨.inr I, [_, _], [], J2, Ct, I2⟩
 intro ac h
 refine Z7 (Z2 (Af 3 I ?_))
 cases io h
 exact Z3 ⟨_, _, _, I, I2, J4, [0], I, by decide⟩
 intro X h
 obtain rfl := A _ (oi h).symm
 have h := w
 have h := Ef h
 exact aB (lg ⟨(), h, I2⟩ [0])
 rintro s ob ⟨u, h, rfl, rfl⟩
 unfold Us.J2 at h
 refine Am (fun s ob => ∃ (E : Unit), Us.J3 E = some r ∧ s = [] ∧ ob = []) [] J ?_ ?_
 refine Bl [.l 1 (b.length : Int)] I ⟨Bc, J⟩ (Z6 (Co 43 I fun ad => ?_))
 obtain ⟨az, ae, F⟩ := Ac h
 refine Cd ae [(2, _), (3, _), (43, _), (44, _)] J4 (fun (j : Nat) (G : Unit) s ob => s = [(45, .V (j : Int))] ∧ ob = [O1 f [Ai a]]) ⟨I, I⟩ ⟨I, J⟩ ⟨[0], I, by decide⟩ ?_ ?_
 rintro j d G af s ob ag H ⟨rfl, rfl⟩ h ah
 unfold Us.B4 at h
 have ai := Do H
 refine Ak I (Ab fun a0 aj => B0 I ai (Z7 ?_))
 subst aj
 refine Z5 (Z6 (Ab fun a1 ak => Z2 (Ao 2 [.x 0 j (A4 d)] I ⟨⟨I, Ag ag⟩, J⟩ (Z4 [] I (Bz W1 3 fun al => Z4 [1] I (Bk 1 0 0 [A4 d] I (Z3 ?_)))))))
 subst ak
 refine Am (fun s ob => ∃ (t : Bool), Us.J5 d t = some af ∧ s = [(63, .v (.bool t))] ∧ ob = [O1 f [Ai a], .arr al 43 3 1 [A4 d]]) [(2, _), (3, _), (11, _), (43, _), (44, _), (45, _)] J6 ?_ ?_
 obtain ⟨am, an, h⟩ := Ac h
 refine Cb (pd 15 0 [6]) [1, 0] [_, _] I (Dd 6 [.o 2 0, .o 3 1, .o 5 0] I J3 (Nl I (Tb _ _ _ an) (Aq 2 I ?_)))
 rcases bt (decide (d.Bounds.High > am)) with i | i
 have h := C1 i h
 exact Ax 57 I i (Aq 6 I (Ay (Z3 (lg ⟨true, h, I2⟩ [0, 1]))))
 have h := C2 i h
 exact Ax 57 I i (Dd 6 [.o 2 0] I J1 (Ay (Z3 (lg ⟨decide (d.Bounds.Low < e), h, I2⟩ [0, 1]))))
 rintro s ob ⟨t, h, rfl, rfl⟩
 refine Av h I ?_ ?_
 intro ao h
 refine Bl [.o 1 1] I J1 ?_
 obtain rfl := ah _ (oi h).symm
 have h := F
 have h := Ef h
 refine aA g0 ?_
 cases io h
 exact Z8 ⟨.inr I, [_, _], [], J2, Ct, I2⟩
 intro ao h
 refine Z7 (Z2 (Ao 2 [.k 0 (j + 1 : Nat)] I ⟨A5 H ad, J⟩ ?_))
 cases io h
 exact Z3 ⟨_, _, _, I, I2, J5, [0], I, by decide⟩
 rintro G s ob ⟨rfl, rfl⟩ he
 subst he
 have h := Eo F
 have ap := Dp b.length
 exact Ak I (Ab fun a2 a3 => B7 I ap (aB (lg ⟨(), h, I2⟩ [])))
 rintro s ob ⟨E, h, rfl, rfl⟩
 unfold Us.J3 at h
 refine Ak I ?_
 cases io h
 exact Z8 ⟨.inr I, [_, _], [], J2, Ct, I2⟩
theorem Ir (a : List Level) (e : List Level) (r : Bool) (h : Ut a e = some r) : ACalls Ae 19 [Q5 a, Q5 e] [] (RB r) := by
 refine Aa Tryz.func19 I I I fun C hC => ?_
 refine Ak I (Ab fun E m => Bl [.l 1 (a.length : Int), .l 3 (e.length : Int)] I ⟨Bc, Bc, J⟩ (Av h I ?_ ?_))
 intro n h
 refine Ak I ?_
 cases io h
 exact Z8 pr
 intro n h
 refine Z7 ?_
 subst m
 refine Am (fun s ob => ∃ (f : Unit), Ut.J1 f = some r ∧ s = [] ∧ ob = []) [] J ?_ ?_
 refine Bl [.l 1 (a.length : Int)] I ⟨Bc, J⟩ (Z6 (Co 11 I fun o => ?_))
 obtain ⟨F, p, g⟩ := Ac h
 refine Cd p [(0, _), (1, _), (12, _)] J3 (fun (c : Nat) (i : Unit) s ob => s = [(13, .V (c : Int))] ∧ ob = []) ⟨I, I⟩ ⟨I, J⟩ ⟨[], I, by decide⟩ ?_ ?_
 rintro c d i G s ob q j ⟨rfl, rfl⟩ h t
 have u := Do j
 refine Ak I (Ab fun H w => B0 I u (Z7 ?_))
 subst w
 refine Z5 (Z6 (Ak I (Z5 ?_)))
 obtain ⟨b, ⟨y, A⟩, h⟩ := Bg h
 refine Cb (pd 9 0 []) [] [] I (Dd 8 [.x 2 c (A4 d), .x 6 b.1 (A4 b.2)] I ⟨⟨y, Ag A⟩, ⟨I, Ag q⟩, J⟩ (aC I (Nf (r := ((d.At == b.2.At) && (((d.Bounds.Low == b.2.Bounds.Low) && ((d.Bounds.High == b.2.Bounds.High) && true)) && true))) (Nat.beq 37) (fun _ h => Nat.eq_of_beq_eq_true h ▸ Sb) I I Sa I I I I) I (Ay (Z3 (Av h I ?_ ?_)))))
 intro B h
 refine Ak I ?_
 obtain rfl := t _ (oi h).symm
 have h := g
 have h := Ef h
 cases io h
 exact Z8 pr
 intro B h
 refine Z7 (Z2 (Ao 2 [.k 0 (c + 1 : Nat)] I ⟨A5 j o, J⟩ ?_))
 cases io h
 exact Z3 ⟨_, _, _, I, I2, J4, [], I, by decide⟩
 rintro i s ob ⟨rfl, rfl⟩ he
 subst he
 have h := Eo g
 have D := Dp a.length
 exact Ak I (Ab fun K M => B7 I D (aB (lg ⟨(), h, I2⟩ [])))
 rintro s ob ⟨f, h, rfl, rfl⟩
 unfold Ut.J1 at h
 refine Ak I ?_
 cases io h
 exact Z8 pr
theorem En  (r : Sg) (h : Mv = r) : ACalls Ae 36 [] [] (RV (.agg (Ai r))) := by
 refine Aa Tryz.func36 I I I fun C hC => ?_
 unfold Mv at h
 refine Z5 (Z2 (Z4 [] I (Bz W0 7 fun b => Z3 (Z5 (Z2 (Bi (Au (l := [.V 0, .V 0, .V 600000]) D2 I) I (Bi (Au (l := [.V 100, .V 10, .V 600000]) D2 I) I (Z4 [] I (aE (sz := 3) (es := ([(⟨0, 0, 600000⟩ : Point), (⟨100, 10, 600000⟩ : Point)] : List Point).map A2) I I I I I I I I I I I dS fun a => AO.one 1 I fun c => Bi (Au (l := [.v (.string (⟨#[115]⟩ : Bt)), .V 0, .V 1, .V 100, .V 2, .V 0, .v a]) K5 (D0 I I I I (D0 I I I I (D0 I I I I (D0 I I I I (D0 I I (D5 c) I (N8))))))) I (Z4 [0] I (Bk 0 0 0 [[.v (.string (⟨#[115]⟩ : Bt)), .V 0, .V 1, .V 100, .V 2, .V 0, .v a]] I (Z3 ?_))))))))))))
 refine aA (A8 [1] (K := [.us a 35 3 (([(⟨0, 0, 600000⟩ : Point), (⟨100, 10, 600000⟩ : Point)] : List Point).map A2)]) I [] J (ob' := [O1 b [[.v (.string (⟨#[115]⟩ : Bt)), .V 0, .V 1, .V 100, .V 2, .V 0, .list 3 (([(⟨0, 0, 600000⟩ : Point), (⟨100, 10, 600000⟩ : Point)] : List Point).map A2)]]]) (.cons (.arr (.cons (.refl _) (.cons (.refl _) (.cons (.refl _) (.cons (.refl _) (.cons (.refl _) (.cons (.refl _) (.cons (.us 0 I) (.rest _))))))))) (.rest _))) ?_
 obtain rfl := h
 exact Z8 ⟨.inr I, [_], [], ⟨⟨0, _, _, _, _, _, _, _, I5⟩, J⟩, Ct, I2⟩
theorem C8  (r : List Product) (h : B9 = r) : ACalls Ae 37 [] [] (fun x new => ∃ (a : Value), x = .v a ∧ new = [U1 a r]) := by
 refine Aa Tryz.func37 I I I fun C hC => ?_
 unfold B9 at h
 refine Ak I (Z5 (Z2 (Bi (Au (l := [.v (.string (⟨#[111, 105, 108]⟩ : Bt)), .V 800, .V 0, .V 0, .V 1000]) K4 I) I (Z4 [] I (aE (sz := 5) (es := ([(⟨(⟨#[111, 105, 108]⟩ : Bt), 800, 0, 0, 1000⟩ : Product)] : List Product).map As) I I I I I I I I I I I dS fun b => Af 1 I (Z3 ?_))))))
 obtain rfl := h
 exact Z8 ⟨.inr I, [_], [.us b 49 5 (([(⟨(⟨#[111, 105, 108]⟩ : Bt), 800, 0, 0, 1000⟩ : Product)] : List Product).map As)], J1, Dh I (Ct), ⟨b, I2⟩⟩
theorem Sd  (r : Bool) (h : Mf = some r) : ACalls Ae 8 [] [] (RB r) := by
 refine Aa Tryz.func8 I I I fun C hC => ?_
 unfold Mf at h
 refine Ak I (Am (fun s ob => ∃ (m : (List Level) × Int) (o : Value), Mf.J1 m = some r ∧ s = [(1, .v o), (2, .V m.2)] ∧ ob = [U3 o m.1]) [] J ?_ ?_)
 obtain ⟨a, ⟨H, e, g, i⟩, h⟩ := Ze h
 obtain ⟨w, d, h⟩ := Ac h
 refine Cb (.still 1 (.still 5 (.three 0 2 3 (.three 2 3 4 (.par [(3, []), (4, [])] Gd) (.two 2 4 (.act 4 Gd) (.act 2 Gd)) (.two 2 3 (.act 3 Gd) (.act 2 Gd))) (.two 0 3 (.par [(3, []), (4, [])] Gd) (.act 0 (.act 4 Gd))) (.two 0 2 (.two 2 4 (.act 4 Gd) (.act 2 Gd)) (.act 0 (.act 4 Gd)))))) [] [] I (aC I (Au (l := [.V 0, .V 100]) K3 I) I (aC I (Au (l := [.V 500000, .V 500000]) Cr I) I (AP.three ?_ ?_ ?_)))
 refine Z9 [] I I I (Az I I I (En  _ I) dS ?_)
 rintro _ _ ⟨rfl, rfl⟩
 refine AP.three ?_ ?_ ?_
 refine Z9 [] I I I (aD 2 (([(⟨0, 100⟩ : Piece)] : List Piece).map A3) (AP.any [⟨3, [], 9, .us 103 4 (a.map Cj)⟩, ⟨4, [], 10, .us 49 5 (B9.map As)⟩] I ⟨⟨_, I, I, I, fun _ => Ey (sz := 4) I I I I I I I I I I e g (Fm (f := Cj) i I) dS fun v => ⟨_, I, ⟨v, I⟩, I⟩⟩, ⟨_, I, I, I, fun _ => Az I I I (C8  _ I) dS (by rintro _ _ ⟨v, rfl, rfl⟩; exact ⟨_, rfl, ⟨v, rfl⟩, rfl⟩)⟩, J⟩ ?_))
 intro c A b B
 refine Cx (A8 [0, 1] (K := [U4 c a, U1 b B9]) I [(9, Q3 a), (10, Q1 B9)] ⟨⟨_, I, .us 0 I⟩, ⟨_, I, .us 1 I⟩, J⟩ (ob' := []) (.rest _)) I (Z9 [] I I I (Az I I I (Cm _ _ _ _ _ _ _ d) dS ?_))
 rotate_left
 refine Z9 [] I I I (Ey (sz := 4) I I I I I I I I I I e g (Fm (f := Cj) i I) dS fun c => AP.two ?_ ?_)
 refine Z9 [] I I I (aD 2 (([(⟨0, 100⟩ : Piece)] : List Piece).map A3) (Z9 [] I I I (Az I I I (C8  _ I) dS ?_)))
 rintro _ _ ⟨b, rfl, rfl⟩
 refine Cx (A8 [0, 1] (K := [U4 c a, U1 b B9]) I [(9, Q3 a), (10, Q1 B9)] ⟨⟨_, I, .us 0 I⟩, ⟨_, I, .us 1 I⟩, J⟩ (ob' := []) (.rest _)) I (Z9 [] I I I (Az I I I (Cm _ _ _ _ _ _ _ d) dS ?_))
 rotate_left
 refine Z9 [] I I I (Az I I I (C8  _ I) dS ?_)
 rintro _ _ ⟨b, rfl, rfl⟩
 refine Z9 [] I I I (aD 2 (([(⟨0, 100⟩ : Piece)] : List Piece).map A3) (Cx (A8 [0, 1] (K := [U4 c a, U1 b B9]) I [(9, Q3 a), (10, Q1 B9)] ⟨⟨_, I, .us 0 I⟩, ⟨_, I, .us 1 I⟩, J⟩ (ob' := []) (.rest _)) I (Z9 [] I I I (Az I I I (Cm _ _ _ _ _ _ _ d) dS ?_))))
 rotate_left
 refine Z9 [] I I I (Az I I I (C8  _ I) dS ?_)
 rintro _ _ ⟨b, rfl, rfl⟩
 refine AP.two ?_ ?_
 refine Z9 [] I I I (aD 2 (([(⟨0, 100⟩ : Piece)] : List Piece).map A3) (Z9 [] I I I (Ey (sz := 4) I I I I I I I I I I e g (Fm (f := Cj) i I) dS fun c => Cx (A8 [0, 1] (K := [U1 b B9, U4 c a]) I [(9, Q3 a), (10, Q1 B9)] ⟨⟨_, I, .us 1 I⟩, ⟨_, I, .us 0 I⟩, J⟩ (ob' := []) (.rest _)) I (Z9 [] I I I (Az I I I (Cm _ _ _ _ _ _ _ d) dS ?_)))))
 rotate_left
 refine Z9 [] I I I (Ey (sz := 4) I I I I I I I I I I e g (Fm (f := Cj) i I) dS fun c => Z9 [] I I I (aD 2 (([(⟨0, 100⟩ : Piece)] : List Piece).map A3) (Cx (A8 [0, 1] (K := [U1 b B9, U4 c a]) I [(9, Q3 a), (10, Q1 B9)] ⟨⟨_, I, .us 1 I⟩, ⟨_, I, .us 0 I⟩, J⟩ (ob' := []) (.rest _)) I (Z9 [] I I I (Az I I I (Cm _ _ _ _ _ _ _ d) dS ?_)))))
 rotate_left
 refine Z9 [] I I I (aD 2 (([(⟨0, 100⟩ : Piece)] : List Piece).map A3) (AP.two ?_ ?_))
 refine Z9 [] I I I (Az I I I (En  _ I) dS ?_)
 rintro _ _ ⟨rfl, rfl⟩
 refine AP.any [⟨3, [], 9, .us 103 4 (a.map Cj)⟩, ⟨4, [], 10, .us 49 5 (B9.map As)⟩] I ⟨⟨_, I, I, I, fun _ => Ey (sz := 4) I I I I I I I I I I e g (Fm (f := Cj) i I) dS fun v => ⟨_, I, ⟨v, I⟩, I⟩⟩, ⟨_, I, I, I, fun _ => Az I I I (C8  _ I) dS (by rintro _ _ ⟨v, rfl, rfl⟩; exact ⟨_, rfl, ⟨v, rfl⟩, rfl⟩)⟩, J⟩ ?_
 intro c A b B
 refine Cx (A8 [0, 1] (K := [U4 c a, U1 b B9]) I [(9, Q3 a), (10, Q1 B9)] ⟨⟨_, I, .us 0 I⟩, ⟨_, I, .us 1 I⟩, J⟩ (ob' := []) (.rest _)) I (Z9 [] I I I (Az I I I (Cm _ _ _ _ _ _ _ d) dS ?_))
 rotate_left
 refine Z9 [] I I I (Ey (sz := 4) I I I I I I I I I I e g (Fm (f := Cj) i I) dS fun c => Z9 [] I I I (Az I I I (En  _ I) dS ?_))
 rintro _ _ ⟨rfl, rfl⟩
 refine Z9 [] I I I (Az I I I (C8  _ I) dS ?_)
 rintro _ _ ⟨b, rfl, rfl⟩
 refine Cx (A8 [0, 1] (K := [U4 c a, U1 b B9]) I [(9, Q3 a), (10, Q1 B9)] ⟨⟨_, I, .us 0 I⟩, ⟨_, I, .us 1 I⟩, J⟩ (ob' := []) (.rest _)) I (Z9 [] I I I (Az I I I (Cm _ _ _ _ _ _ _ d) dS ?_))
 rotate_left
 refine Z9 [] I I I (Ey (sz := 4) I I I I I I I I I I e g (Fm (f := Cj) i I) dS fun c => AP.two ?_ ?_)
 refine Z9 [] I I I (Az I I I (En  _ I) dS ?_)
 rintro _ _ ⟨rfl, rfl⟩
 refine AP.two ?_ ?_
 refine Z9 [] I I I (aD 2 (([(⟨0, 100⟩ : Piece)] : List Piece).map A3) (Z9 [] I I I (Az I I I (C8  _ I) dS ?_)))
 rintro _ _ ⟨b, rfl, rfl⟩
 refine Cx (A8 [0, 1] (K := [U4 c a, U1 b B9]) I [(9, Q3 a), (10, Q1 B9)] ⟨⟨_, I, .us 0 I⟩, ⟨_, I, .us 1 I⟩, J⟩ (ob' := []) (.rest _)) I (Z9 [] I I I (Az I I I (Cm _ _ _ _ _ _ _ d) dS ?_))
 rotate_left
 refine Z9 [] I I I (Az I I I (C8  _ I) dS ?_)
 rintro _ _ ⟨b, rfl, rfl⟩
 refine Z9 [] I I I (aD 2 (([(⟨0, 100⟩ : Piece)] : List Piece).map A3) (Cx (A8 [0, 1] (K := [U4 c a, U1 b B9]) I [(9, Q3 a), (10, Q1 B9)] ⟨⟨_, I, .us 0 I⟩, ⟨_, I, .us 1 I⟩, J⟩ (ob' := []) (.rest _)) I (Z9 [] I I I (Az I I I (Cm _ _ _ _ _ _ _ d) dS ?_))))
 rotate_left
 refine Z9 [] I I I (aD 2 (([(⟨0, 100⟩ : Piece)] : List Piece).map A3) (Z9 [] I I I (Az I I I (En  _ I) dS ?_)))
 rintro _ _ ⟨rfl, rfl⟩
 refine Z9 [] I I I (Az I I I (C8  _ I) dS ?_)
 rintro _ _ ⟨b, rfl, rfl⟩
 refine Cx (A8 [0, 1] (K := [U4 c a, U1 b B9]) I [(9, Q3 a), (10, Q1 B9)] ⟨⟨_, I, .us 0 I⟩, ⟨_, I, .us 1 I⟩, J⟩ (ob' := []) (.rest _)) I (Z9 [] I I I (Az I I I (Cm _ _ _ _ _ _ _ d) dS ?_))
 any_goals
  rintro _ _ ⟨D, rfl, rfl⟩
  refine Aq 5 I (Ay (Z3 ?_))
  exact lg ⟨(w.1, w.2), D, h, I2⟩ [0]
 rintro s ob ⟨m, o, h, rfl, rfl⟩
 refine Ab fun M E => ?_
 obtain ⟨y, F, h⟩ := Ac h
 refine Z2 (Z4 [] I (Az I I I (En  _ I) dS ?_))
 rintro _ _ ⟨rfl, rfl⟩
 refine Af 1 I (Z4 [] I (Bo I (.refl _) I I (.cons (.refl _) (.cons (.us 0 I) (.rest _))) I (S0 _ _ _ _ F) dS (by rintro _ _ ⟨rfl, _⟩; rfl) ?_))
 rintro _ ⟨_, rfl, -⟩
 refine Af 5 I (Z3 ?_)
 subst E
 refine Am (fun s ob => ∃ (t : Bool), Mf.J2 t = some r ∧ s = [(0, .v (.bool t))] ∧ ob = []) [] J ?_ ?_
 rcases bt ((m.2 == 0)) with j | j
 have h := C1 j h
 obtain ⟨G, u, h⟩ := Ac h
 rcases bt (G) with k | k
 have h := C1 k h
 rcases bt ((y.2 == 0)) with n | n
 have h := C1 n h
 refine Z2 (Af 3 I (Aj 23 I j (Af 1 I (Bu I I I (Bi (Au (l := [.V 500000, .V 500000]) Cr I) I (Bu I I I (Bi (Au (l := [.V 0, .V 500000, .V 500000]) C4 I) I (Bu I I I (Bi (Au (l := [.V 419744, .V 419744]) Cr I) I (Bu I I I (Bi (Au (l := [.V 100, .V 419744, .V 419744]) C4 I) I (Bu I I I ?_))))))))))))
 refine Z4 [] I (aD 3 (([(⟨0, (⟨500000, 500000⟩ : Bounds)⟩ : Level), (⟨100, (⟨419744, 419744⟩ : Bounds)⟩ : Level)] : List Level).map A4) (Bu I I I (Z4 [] I (Bo I (.refl _) I I (.cons (.us 0 I) (.rest _)) I (Ir _ _ _ u) dS (by rintro _ _ ⟨rfl, _⟩; rfl) ?_))))
 rintro _ ⟨_, rfl, -⟩
 exact Af 2 I (Aj 32 I k (Af 4 I (Aj 36 I n (Af 4 I (Z3 (lg ⟨(y.1 == (-1)), h, I2⟩ []))))))
 have h := C2 n h
 refine Z2 (Af 3 I (Aj 23 I j (Af 1 I (Bu I I I (Bi (Au (l := [.V 500000, .V 500000]) Cr I) I (Bu I I I (Bi (Au (l := [.V 0, .V 500000, .V 500000]) C4 I) I (Bu I I I (Bi (Au (l := [.V 419744, .V 419744]) Cr I) I (Bu I I I (Bi (Au (l := [.V 100, .V 419744, .V 419744]) C4 I) I (Bu I I I ?_))))))))))))
 refine Z4 [] I (aD 3 (([(⟨0, (⟨500000, 500000⟩ : Bounds)⟩ : Level), (⟨100, (⟨419744, 419744⟩ : Bounds)⟩ : Level)] : List Level).map A4) (Bu I I I (Z4 [] I (Bo I (.refl _) I I (.cons (.us 0 I) (.rest _)) I (Ir _ _ _ u) dS (by rintro _ _ ⟨rfl, _⟩; rfl) ?_))))
 rintro _ ⟨_, rfl, -⟩
 exact Af 2 I (Aj 32 I k (Af 4 I (Aj 36 I n (Af 4 I (Z3 (lg ⟨false, h, I2⟩ []))))))
 have h := C2 k h
 refine Z2 (Af 3 I (Aj 23 I j (Af 1 I (Bu I I I (Bi (Au (l := [.V 500000, .V 500000]) Cr I) I (Bu I I I (Bi (Au (l := [.V 0, .V 500000, .V 500000]) C4 I) I (Bu I I I (Bi (Au (l := [.V 419744, .V 419744]) Cr I) I (Bu I I I (Bi (Au (l := [.V 100, .V 419744, .V 419744]) C4 I) I (Bu I I I ?_))))))))))))
 refine Z4 [] I (aD 3 (([(⟨0, (⟨500000, 500000⟩ : Bounds)⟩ : Level), (⟨100, (⟨419744, 419744⟩ : Bounds)⟩ : Level)] : List Level).map A4) (Bu I I I (Z4 [] I (Bo I (.refl _) I I (.cons (.us 0 I) (.rest _)) I (Ir _ _ _ u) dS (by rintro _ _ ⟨rfl, _⟩; rfl) ?_))))
 rintro _ ⟨_, rfl, -⟩
 exact Af 2 I (Aj 32 I k (Af 8 I (Z3 (lg ⟨false, h, I2⟩ []))))
 have h := C2 j h
 exact Z2 (Af 3 I (Aj 23 I j (Af 17 I (Z3 (lg ⟨false, h, I2⟩ [])))))
 rintro s ob ⟨t, h, rfl, rfl⟩
 unfold Mf.J2 at h
 cases io h
 exact Z8 pr
theorem Th (a : Li) (r : KS) (h : Mt a = some r) : ACalls Ae 5 [Q0 a] [] (fun x new => ∃ (c : Nat), x = .v (.pointer (some ⟨c, 0, none⟩)) ∧ new = [O0 c [Bb r]]) := by
 refine Aa Tryz.func5 I I I fun C hC => ?_
 refine Ak I (Z5 ?_)
 obtain ⟨b, e, h⟩ := Ac h
 obtain ⟨f, g, i, j, k, n, o⟩ := Uz e
 refine Z2 (Ao 4 [.l 2 (a.length : Int)] I ⟨Bc, J⟩ (Bi (Xx f g 0 I I I I I (Zn i) ⟨_, _, I, j⟩ I k n o) I (Bi (Au (l := [Q0 b, .V 0]) P2 I) I (Z4 [] I (Cg [Q0 b, .V 0] 2 fun d => Af 1 I (Z3 ?_))))))
 obtain rfl := oi h
 exact Z8 ⟨.inr I, [_], [O0 d [[Q0 b, .V 0]]], J1, Dh I (Ct), ⟨d, I2⟩⟩
theorem Sj (b : Nat) (a : KS) (r : Int × KS) (h : Mi a = some r) : ACalls Ae 39 [.v (.pointer (some ⟨b, 0, none⟩))] [O0 b [Bb a]] (Dz 1 fun x os new => x = .V r.1 ∧ os = [O0 b [Bb r.2]] ∧ new = []) := by
 refine Aa Tryz.func39 I I I fun C hC => ?_
 refine Ak I (Ab fun j d => Ud (pd 10 0 []) [0] [_] [.o 3 0, .o 7 0, .l 8 (a.L_.length : Int)] I I ⟨Bc, I, I, J⟩ (Av h I ?_ ?_))
 intro e h
 refine Ak I ?_
 obtain rfl := oi h
 exact Z8 ⟨.inr I, [_], [O0 b [Bb a]], J1, Dh I (Ct), ⟨[O0 b [Bb a]], [], I5⟩⟩
 intro e h
 refine Z7 ?_
 subst d
 refine Ab fun k f => Z2 (Ao 7 [.o 3 0] I J1 (Z4 [0] I (Bk 0 0 1 [[Q0 a.L_, .V (wr (a.At + 1))]] I (Z3 ?_))))
 subst f
 refine Z5 ?_
 obtain ⟨c, ⟨g, i⟩, h⟩ := Bg h
 refine Nq (pd 12 0 []) [0] [_] [.o 3 0, .o 7 0, .x 9 c.1 (rI c.2)] I I ⟨⟨g, Ag i⟩, I, I, J⟩ ?_
 obtain rfl := oi h
 exact Z8 ⟨.inr I, [_], [O0 b [[Q0 a.L_, .V (wr (a.At + 1))]]], J1, Dh I (Ct), ⟨[O0 b [[Q0 a.L_, .V (wr (a.At + 1))]]], [], I5⟩⟩
theorem Tz (e : Int) (b : Int) (r : Int) (h : My e b = some r) : ACalls Ae 38 [.V e, .V b] [] (RV (.V r)) := by
 refine Aa Tryz.func38 I I I fun C hC => ?_
 refine Ak I (Ab fun m g => Ak I (Av h I ?_ ?_))
 intro i h
 refine Ak I ?_
 cases io h
 exact Z8 pr
 intro i h
 refine Z7 ?_
 subst g
 refine Ab fun n j => ?_
 obtain ⟨a, k, h⟩ := Ac h
 refine Qg [.f 2 (.V a)] I ⟨Yp.yd (Dt (c := a) I I (Kk k)), J⟩ ?_
 subst j
 refine Am (fun s ob => ∃ (d : Int), My.J1 d = some r ∧ s = [(0, .V d)] ∧ ob = []) [] J ?_ ?_
 refine Ak I (Av h I ?_ ?_)
 intro l h
 exact T6 I (lg ⟨wr (a + b), h, I2⟩ [])
 intro l h
 exact Z7 (lg ⟨a, h, I2⟩ [])
 rintro s ob ⟨d, h, rfl, rfl⟩
 unfold My.J1 at h
 refine Ak I ?_
 cases io h
 exact Z8 pr
theorem C9 (a : Nat) (b : KS) (d : Int) (r : Int × KS) (h : Et b d = some r) : ACalls Ae 10 [.v (.pointer (some ⟨a, 0, none⟩)), .V d] [O0 a [Bb b]] (Dz 1 fun x os new => x = .V r.1 ∧ os = [O0 a [Bb r.2]] ∧ new = []) := by
 refine Aa Tryz.func10 I I I fun C hC => ?_
 refine Ak I (Z5 ?_)
 obtain ⟨e, f, h⟩ := Ac h
 obtain ⟨i, g, h⟩ := Ac h
 refine Z2 (Af 1 I (Z4 [0] I (Cf [0] (Sj a _ _ f) ?_)))
 refine Af 1 I (By (Tz _ _ _ g) (Af 1 I (Z3 ?_)))
 obtain rfl := oi h
 exact Z8 ⟨.inr I, [_], [O0 a [Bb e.2]], J1, Dh I (Ct), ⟨[O0 a [Bb e.2]], [], I5⟩⟩
theorem Is (b : Bt) (a : Int) (r : Bt) (h : H9 b a = some r) : ACalls Ae 55 [.v (.string b), .V a] [] (RV (.v (.string r))) := by
 refine Aa Tryz.func55 I I I fun C hC => ?_
 refine Ak I (Z5 ?_)
 obtain ⟨g, d, h⟩ := Ac h
 obtain ⟨i, e, h⟩ := Ac h
 refine Z2 (Ao 4 [.f 2 (.V (a.tmod 26))] I ⟨Yp.yd (Dt (c := (a.tmod 26)) I I ⟨by decide, I⟩), J⟩ (Bi (Ex (c := IntKind.u8.wrap (wr (97 + (a.tmod 26)))) I I I I I) I (Z4 [] I (aE (sz := 1) (es := ([IntKind.u8.wrap (wr (97 + (a.tmod 26)))] : Li).map (rK .u8)) I I I I I I I I I I I dS fun j => Z4 [] I (T2 0 d I I I I I I I I dS (Bi (Vr I I (Vj e)) I (Af 1 I (Z3 (aA g0 ?_)))))))))
 cases io h
 exact Z8 pr
theorem C7 (a : Nat) (c : KS) (b : Li) (r : Int × KS) (h : Es c b = some r) : ACalls Ae 9 [.v (.pointer (some ⟨a, 0, none⟩)), Q0 b] [O0 a [Bb c]] (Dz 1 fun x os new => x = .V r.1 ∧ os = [O0 a [Bb r.2]] ∧ new = []) := by
 refine Aa Tryz.func9 I I I fun C hC => ?_
 refine Ak I (Z5 ?_)
 obtain ⟨d, f, h⟩ := Ac h
 obtain ⟨e, ⟨g, i⟩, h⟩ := Bg h
 refine Z2 (Ao 4 [.l 3 (b.length : Int)] I ⟨Bc, J⟩ (Z4 [0] I (Cf [0] (C9 a _ _ _ f) ?_)))
 refine Ao 3 [.x 0 e.1 (rI e.2)] I ⟨⟨g, Ag i⟩, J⟩ (Z3 ?_)
 obtain rfl := oi h
 exact Z8 ⟨.inr I, [_], [O0 a [Bb d.2]], J1, Dh I (Ct), ⟨[O0 a [Bb d.2]], [], I5⟩⟩
theorem Dn (a : Nat) (b : KS) (c : Int) (d : Int) (r : Int × KS) (h : E7 b c d = some r) : ACalls Ae 16 [.v (.pointer (some ⟨a, 0, none⟩)), .V c, .V d] [O0 a [Bb b]] (Dz 1 fun x os new => x = .V r.1 ∧ os = [O0 a [Bb r.2]] ∧ new = []) := by
 refine Aa Tryz.func16 I I I fun C hC => ?_
 refine Ak I (Z5 ?_)
 obtain ⟨e, f, h⟩ := Ac h
 refine Z2 (Af 6 I (Z4 [0] I (Cf [0] (C9 a _ _ _ f) ?_)))
 refine Af 2 I (Z3 ?_)
 obtain rfl := oi h
 exact Z8 ⟨.inr I, [_], [O0 a [Bb e.2]], J1, Dh I (Ct), ⟨[O0 a [Bb e.2]], [], I5⟩⟩
end Go.Proofs.YtkhcdkioehdndaaGreatDoor
