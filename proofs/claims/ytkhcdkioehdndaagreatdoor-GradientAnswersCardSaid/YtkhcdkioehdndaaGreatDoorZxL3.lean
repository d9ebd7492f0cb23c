/- Walks that show what functions of the program compute; printed by a program of ours. No condition. -/
import Derived.Test.YtkhcdkioehdndaaGreatDoorZxL2
import Derived.Test.YtkhcdkioehdndaaGreatDoorZxD
set_option maxRecDepth 100000
namespace Go.Proofs.YtkhcdkioehdndaaGreatDoor
open Go.Aw
set_option linter.unusedVariables false
set_option linter.unusedSimpArgs false
set_option maxHeartbeats 4000000
abbrev eA : PL := .act 7 (.still 8 (.act 11 (sl 3 12 (.act 15 (.act 16 (.still 17 (.drop 18 .nil)))))))
abbrev dZ : PL := .act 11 (.act 12 (.still 13 (.act 14 .nil)))
theorem X6 (a : Nat) (d : KS) (e : Int) (r : Product × KS) (h : Qq d e = some r) : ACalls Ah 56 [.v (.pointer (some ⟨a, 0, none⟩)), .V e] [O1 a [A3 d]] (Eg 1 fun x os new => x = .agg (Ak r.1) ∧ os = [O1 a [A3 r.2]] ∧ new = []) := by
 refine Ad Tryz.func56 I I I fun C hC => ?_
 refine Ab fun w k => gN (gP [] I (Bl W3 5 fun y => gO ?_))
 subst k
 refine gR ?_
 obtain ⟨f, n, h⟩ := Ac h
 obtain ⟨g, o, h⟩ := Ac h
 obtain ⟨i, s, h⟩ := Ac h
 obtain ⟨j, t, h⟩ := Ac h
 obtain ⟨b, u, h⟩ := Ac h
 refine gN (Af 1 I (Br (Lg _ _ _ n) (Af 1 I (gP [0] I (Bz [0] (D6 a _ _ _ _ o) ?_)))))
 refine Af 1 I (gP [] I (gY 1 (([0, 830, 2000, 1] : Li).map rI) (gP [0] I (Bz [0] (Cp a _ _ _ s) ?_))))
 refine Af 1 I (gP [] I (gY 1 (([0, 800, 5000, 3] : Li).map rI) (gP [0] I (Bz [0] (Cp a _ _ _ t) ?_))))
 refine Af 1 I (gP [] I (gY 1 (([1, 700, 1000, 1300, 2000] : Li).map rI) (gP [0] I (Bz [0] (Cp a _ _ _ u) ?_))))
 refine Bk (A4 (l := [.v (.string f), .V g.1, .V i.1, .V j.1, .V b.1]) Oc I) I (gP [1] I (Bc 1 0 0 [[.v (.string f), .V g.1, .V i.1, .V j.1, .V b.1]] I (gO ?_)))
 obtain rfl := oi h
 exact gT ⟨.inr I, [_], [O1 a [A3 b.2]], ⟨⟨1, _, _, _, _, _, _, _, I5⟩, J⟩, Dp I (Cv), ⟨[O1 a [A3 b.2]], [], I5⟩⟩
theorem Yj (b : Nat) (g : KS) (r : (List Product) × KS) (h : M1 g = some r) : ACalls Ah 23 [.v (.pointer (some ⟨b, 0, none⟩))] [O1 b [A3 g]] (Eg 1 fun x os new => ∃ (i : Value), x = .v i ∧ os = [O1 b [A3 r.2]] ∧ new = [U3 i r.1]) := by
 refine Ad Tryz.func23 I I I fun C hC => ?_
 unfold M1 at h
 refine Ai I (Ai I (Aj (fun s ob => ∃ (a : Li × Int × (List Product)) (e : Value), M1.J1 a = some r ∧ s = [(3, .v e)] ∧ ob = [O1 b [[Q2 a.1, .V a.2.1]], U3 e a.2.2]) [] J ?_ ?_))
 refine Ab fun A j => ?_
 obtain ⟨B, k, h⟩ := Ac h
 refine gN (Af 1 I (gP [0] I (Bz [0] (D6 b _ _ _ _ k) ?_)))
 refine Af 1 I (gO ?_)
 subst j
 refine gQ (gU (Be 49 5) ?_)
 obtain ⟨D, l, m⟩ := Ac h
 refine Cm l [(0, _)] J1 (fun (c : Li × Int × (List Product) × Int) s ob => ∃ (f : Value), s = [(3, .v f), (4, .V c.2.2.2)] ∧ ob = [O1 b [[Q2 c.1, .V c.2.1]], U3 f c.2.2.1]) ⟨(.slice none 0 0), I2⟩ ⟨I, I, J⟩ ⟨[0, 1], I, by decide⟩ ?_
 rintro c E s ob ⟨f, rfl, rfl⟩ h n
 refine Ab fun F o => Ai I (Ar h I ?_ ?_)
 intro p h
 refine gS ?_
 subst o
 refine gR (gQ ?_)
 obtain ⟨t, u, h⟩ := Ac h
 obtain ⟨G, w, h⟩ := Ac h
 refine gN (Af 3 I (hF (Da 1 I I I I) I (gP [0] I (Bz [0] (X6 b _ _ _ u) ?_))))
 refine gP [] I (gY 5 (([t.1] : List Product).map Ak) (gP [1] I (Dd 1 I w fun y => Af 1 I (gO (gN (Af 3 I ?_))))))
 cases io h
 exact gO ⟨_, _, _, I, ⟨y, I2⟩, J3, [0, 1], I, by decide⟩
 intro p h
 obtain rfl := n _ (oi h).symm
 have h := m
 exact gW (lg ⟨(c.1, c.2.1, c.2.2.1), f, h, I2⟩ [0, 1])
 rintro s ob ⟨a, e, h, rfl, rfl⟩
 refine Ai I ?_
 obtain rfl := oi h
 exact gT ⟨.inr I, [_], [O1 b [[Q2 a.1, .V a.2.1]], U3 e a.2.2], J1, Dp I (Dp I (Cv)), ⟨[O1 b [[Q2 a.1, .V a.2.1]]], [U3 e a.2.2], I, I, e, I3⟩⟩
theorem P9 (e : Nat) (O : KS) (P : Int) (D : Int) (r : (List Piece) × KS) (h : Hj O P D = some r) : ACalls Ah 12 [.v (.pointer (some ⟨e, 0, none⟩)), .V P, .V D] [O1 e [A3 O]] (Eg 1 fun x os new => ∃ (Q : Value), x = .v Q ∧ os = [O1 e [A3 r.2]] ∧ new = [U7 Q r.1]) := by
 refine Ad Tryz.func12 I I I fun C hC => ?_
 unfold Hj at h
 refine Ai I (Ai I (Aj (fun s ob => ∃ (g : Li × Int × (List Piece)) (u : Value), Hj.J1 g = some r ∧ s = [(7, .v u)] ∧ ob = [O1 e [[Q2 g.1, .V g.2.1]], U7 u g.2.2]) [] J ?_ ?_))
 refine gQ (gU (Be 88 2) ?_)
 obtain ⟨ax, R, S⟩ := Ac h
 refine Cm R [(0, _), (2, _)] J2 (fun (a : Li × Int × Int × (List Piece)) s ob => ∃ (t : Value), s = [(1, .V a.2.2.1), (7, .v t)] ∧ ob = [O1 e [[Q2 a.1, .V a.2.1]], U7 t a.2.2.2]) ⟨(.slice none 0 0), I2⟩ ⟨I, I, J⟩ ⟨[0, 1], I, by decide⟩ ?_
 rintro a G s ob ⟨t, rfl, rfl⟩ h U
 unfold Hj.B2 at h
 refine Ab fun ay W => Ew 15 (decide (a.2.2.1 > 0) && decide ((a.2.2.2.length : Int) < 12)) ?_ ?_
 refine gN (Af 3 I ?_)
 rcases bt (decide (a.2.2.1 > 0)) with w | w
 exact Ae 11 I w (Af 1 I (Bm I I I (hF (Da 1 I I I I) I (Af 2 I (gO (jf (by simp only [w, bz]) I I I2))))))
 exact Ae 11 I w (Af 4 I (gO (jf (by simp only [w, bz]) I I I2)))
 refine Ar h I ?_ ?_
 intro X h
 refine gS ?_
 subst W
 refine gQ (Ab fun az Y => ?_)
 obtain ⟨j, Z, h⟩ := Ac h
 obtain ⟨k, aa, h⟩ := Ac h
 refine gN (Af 2 I (gP [0] I (Bz [0] (Cz e _ _ _ Z) ?_)))
 refine Ao 5 [.f 3 (.V (wr ((wr (a.2.2.1 * 2)).tdiv 3)))] I ⟨Yp.yd (D2 (c := wr ((wr (a.2.2.1 * 2)).tdiv 3)) I I ⟨by decide, I⟩), J⟩ (gP [0] I (Bz [0] (D6 e _ _ _ _ aa) ?_))
 refine Bk (A4 (l := [.V j.1, .V k.1]) Oa I) I (gP [] I (Bl [.V 0, .V 0] 2 fun H => gP [2] I (Bc 2 0 0 [[.V j.1, .V k.1]] I (gO ?_))))
 subst Y
 refine Aj (fun s ob => ∃ (i : Int), Hj.J3 D a j k i = some G ∧ s = [] ∧ ob = [O1 e [A3 k.2], U7 t a.2.2.2, .arr H 88 2 1 [[.V j.1, .V i]]]) [(0, _), (1, _), (2, _), (7, _), (8, _)] J5 ?_ ?_
 refine gR (gN (Af 1 I (hF (Da 1 I I I I) I (Af 1 I (gO (Ar h I ?_ ?_))))))
 intro ab h
 exact gN (Af 2 I (gP [2] I (Bc 2 0 1 [[.V j.1, .V a.2.2.1]] I (gO (lg ⟨a.2.2.1, h, I2⟩ [0, 1, 2])))))
 intro ab h
 exact gS (lg ⟨k.1, h, I2⟩ [0, 1, 2])
 rintro s ob ⟨i, h, rfl, rfl⟩
 unfold Hj.J3 at h
 refine Ab fun a0 ac => gN (Ao 5 [.o 1 2] I J1 (gP [2] I (Bc 2 0 1 [[.V j.1, .V (min i a.2.2.1)]] I (gO ?_))))
 subst ac
 refine Aj (fun s ob => ∃ (E : Int), Hj.J4 a k i E = some G ∧ s = [(1, .V a.2.2.1)] ∧ ob = [O1 e [A3 k.2], U7 t a.2.2.2, .arr H 88 2 1 [[.V E, .V (min i a.2.2.1)]]]) [(0, _), (2, _), (7, _), (8, _)] J4 ?_ ?_
 refine Aj (fun s ob => ∃ (K : Bool), Hj.J5 D a j k i K = some G ∧ s = [(50, .v (.bool K))] ∧ ob = [O1 e [A3 k.2], U7 t a.2.2.2, .arr H 88 2 1 [[.V j.1, .V (min i a.2.2.1)]]]) [(0, _), (1, _), (2, _), (7, _), (8, _)] J5 ?_ ?_
 rcases bt (decide ((a.2.2.2.length : Int) > 0)) with A | A
 have h := Bp A h
 obtain ⟨B, ⟨ad, M⟩, h⟩ := A7 h
 refine F5 1 I fun ae => F5 1 I fun af => C3 1 B.1 I M fun ag => Ca (pd 15 0 []) [1, 2] [_, _] I (Bb 1 I (gZ I (F4 I I I ae) I (Bb 2 I (A0 39 I A (Bb 2 I (H5 I I I I ((F4 I I I af).yd) dS (Bb 1 I (H5 I I I I ((Bi (m := B.1) I I I I I ag I ad M).yd) dS (Bb 1 I ?_)))))))))
 exact H5 I I I I (Bx 0 B.1 0 I I I (Ag M) I (y := .V B.2.Batch) I) dS (Cg 4 [.o 1 1] I J1 (Ax (gO (lg ⟨(B.2.Batch == j.1), h, I2⟩ [0, 1, 2]))))
 have h := Bq A h
 exact F5 1 I fun ah => Ca (pd 15 0 []) [] [] I (Bb 1 I (gZ I (F4 I I I ah) I (Bb 2 I (A0 39 I A (Bb 11 I (Ax (gO (lg ⟨false, h, I2⟩ [0, 1, 2]))))))))
 rintro s ob ⟨K, h, rfl, rfl⟩
 refine Ar h I ?_ ?_
 intro ai h
 refine Ab fun a1 aj => ?_
 obtain ⟨F, ak, h⟩ := Ac h
 refine gN (Ao 6 [.o 1 2, .f 4 (.V F)] I ⟨Yp.yd (D2 (c := F) I I (Hl ak)), I, J⟩ (gP [2] I (Bc 2 0 0 [[.V F, .V (min i a.2.2.1)]] I (gO ?_))))
 subst aj
 refine Ab fun a2 al => ?_
 obtain ⟨b, ⟨N, n⟩, h⟩ := A7 h
 refine F5 1 I fun am => C3 1 b.1 I n fun an => Ca (pd 10 0 []) [1, 2] [_, _] I (Bb 2 I (gZ I (F4 I I I am) I (Bb 1 I (gZ I (Bi (m := b.1) I I I I I an I N n) I (Bb 1 I (AP.o I (Bx 0 b.1 0 I I I (Ag n) I (y := .V b.2.Batch) I) I (Cg 3 [.o 1 1] I J1 (Ax (gO ?_)))))))))
 subst al
 refine Ar h I ?_ ?_
 intro ao h
 refine gR (F5 1 I fun aq => C3 1 b.1 I n fun ar => C3 1 b.1 I n fun au => Ca (sl 12 0 (.drop 12 .nil)) [1, 2] [_, _] I (Bb 2 I (gZ I (F4 I I I aq) I (Bb 1 I (gZ I (Bi (m := b.1) I I I I I ar I N n) I (Bb 1 I (AP.o I (Bx 0 b.1 1 I I I (Ag n) I (y := .V b.2.Volume) I) I (Cg 3 [.o 1 1] I J1 (gZ I (Bi (m := b.1) I I I I I au I N n) I ?_)))))))))
 refine Bb 1 I (AP.drop [1] I I I (Cb 1 b.1 1 I I I (Ag n) I I I I (Bn I) I (Dl (x := (⟨b.2.Batch, wr (b.2.Volume + (min i a.2.2.1))⟩ : Piece)) I) (Ax (gO (A8 [.o 2 2] I J1 ?_)))))
 cases io h
 refine gW ?_
 exact ⟨_, _, _, I, ⟨t, I2⟩, J4, [0, 1], I, by decide⟩
 intro ao h
 exact gS (lg ⟨F, h, I2⟩ [0, 1, 2])
 intro ai h
 exact gS (lg ⟨j.1, h, I2⟩ [0, 1, 2])
 rintro s ob ⟨E, h, rfl, rfl⟩
 refine A8 [.o 2 2] I J1 ?_
 obtain ⟨a3, av, h⟩ := Ac h
 refine gN (Ao 2 [.o 1 2] I J1 (gP [] I (gY 2 (([(⟨E, (min i a.2.2.1)⟩ : Piece)] : List Piece).map Aq) (gP [1] I (Dd 1 I av fun aw => Af 1 I ?_)))))
 cases io h
 exact gO ⟨_, _, _, I, ⟨aw, I2⟩, J4, [0, 1], I, by decide⟩
 intro X h
 obtain rfl := U _ (oi h).symm
 have h := S
 exact gW (lg ⟨(a.1, a.2.1, a.2.2.2), t, h, I2⟩ [0, 1])
 rintro s ob ⟨g, u, h, rfl, rfl⟩
 refine Ai I ?_
 obtain rfl := oi h
 exact gT ⟨.inr I, [_], [O1 e [[Q2 g.1, .V g.2.1]], U7 u g.2.2], J1, Dp I (Dp I (Cv)), ⟨[O1 e [[Q2 g.1, .V g.2.1]]], [U7 u g.2.2], I, I, u, I3⟩⟩
theorem X8 (b : Nat) (g : KS) (i : Int) (j : Int) (r : (List Batch) × KS) (h : Mw g i j = some r) : ACalls Ah 24 [.v (.pointer (some ⟨b, 0, none⟩)), .V i, .V j] [O1 b [A3 g]] (Eg 1 fun x os new => ∃ (k : Value), x = .v k ∧ os = [O1 b [A3 r.2]] ∧ new = [U5 k r.1]) := by
 refine Ad Tryz.func24 I I I fun C hC => ?_
 unfold Mw at h
 refine Ai I (Ai I (Aj (fun s ob => ∃ (a : Li × Int × (List Batch)) (e : Value), Mw.J1 a = some r ∧ s = [(7, .v e)] ∧ ob = [O1 b [[Q2 a.1, .V a.2.1]], U5 e a.2.2]) [] J ?_ ?_))
 refine Ai I (gQ (gU (Be 103 4) ?_))
 obtain ⟨G, o, t⟩ := Ac h
 refine Cm o [(0, _), (1, _), (2, _)] J3 (fun (d : Li × Int × (List Batch) × Int) s ob => ∃ (f : Value), s = [(7, .v f), (8, .V d.2.2.2)] ∧ ob = [O1 b [[Q2 d.1, .V d.2.1]], U5 f d.2.2.1]) ⟨(.slice none 0 0), I2⟩ ⟨I, I, J⟩ ⟨[0, 1], I, by decide⟩ ?_
 rintro d H s ob ⟨f, rfl, rfl⟩ h u
 refine Ab fun K w => Ai I (Ar h I ?_ ?_)
 intro y h
 refine gS ?_
 subst w
 refine gR (gQ ?_)
 obtain ⟨m, A, h⟩ := Ac h
 obtain ⟨M, B, h⟩ := Ac h
 obtain ⟨n, D, h⟩ := Ac h
 obtain ⟨N, E, h⟩ := Ac h
 refine gN (Af 3 I (gP [0] I (Bz [0] (Cz b _ _ _ A) ?_)))
 refine Af 1 I (gP [0] I (Bz [0] (Cz b _ _ _ B) ?_))
 refine Br (Lg _ _ _ D) (Bk (A4 (l := [.V m.1, .v (.string n), .V 0, .V 1]) Sz I) I (gP [] I (gY 4 (([(⟨m.1, n, 0, 1⟩ : Batch)] : List Batch).map Cf) (gP [1] I (Dd 1 I E fun F => Af 1 I (gO (gN (Af 3 I ?_))))))))
 cases io h
 exact gO ⟨_, _, _, I, ⟨F, I2⟩, J5, [0, 1], I, by decide⟩
 intro y h
 obtain rfl := u _ (oi h).symm
 have h := t
 exact gW (lg ⟨(d.1, d.2.1, d.2.2.1), f, h, I2⟩ [0, 1])
 rintro s ob ⟨a, e, h, rfl, rfl⟩
 refine Ai I ?_
 obtain rfl := oi h
 exact gT ⟨.inr I, [_], [O1 b [[Q2 a.1, .V a.2.1]], U5 e a.2.2], J1, Dp I (Dp I (Cv)), ⟨[O1 b [[Q2 a.1, .V a.2.1]]], [U5 e a.2.2], I, I, e, I3⟩⟩
theorem Tx (b : Nat) (X : KS) (Q : Int) (E : Int) (F : Int) (r : Sg × KS) (h : Mo X Q E F = some r) : ACalls Ah 22 [.v (.pointer (some ⟨b, 0, none⟩)), .V Q, .V E, .V F] [O1 b [A3 X]] (Eg 1 fun x os new => ∃ (Y : Value), x = .agg [.v (.string r.1.Name), .V r.1.From, .V r.1.To, .V r.1.Capacity, .V r.1.Resist, .V r.1.Wave, .v Y] ∧ os = [O1 b [A3 r.2]] ∧ new = [U6 Y r.1.Points]) := by
 refine Ad Tryz.func22 I I I fun C hC => ?_
 unfold Mo at h
 refine Ab fun y2 aj => gN (gP [] I (Bl W0 7 fun G => gO ?_))
 subst aj
 refine Aj (fun s ob => ∃ (a : Li × Int × Int × Int), Mo.J1 Q a = some r ∧ s = [(2, .V a.2.2.1), (3, .V a.2.2.2)] ∧ ob = [O1 b [[Q2 a.1, .V a.2.1]], O0 G [W0]]) [(0, _), (1, _), (8, _)] J3 ?_ ?_
 refine gR ?_
 obtain ⟨H, ak, h⟩ := Ac h
 refine gN (Af 1 I (gP [0] I (Bz [0] (Cz b _ _ _ ak) ?_)))
 refine Af 1 I (gO (Ar h I ?_ ?_))
 intro al h
 exact Vh I (lg ⟨(H.2.L_, H.2.At, F, E), h, I2⟩ [0, 1])
 intro al h
 exact gS (lg ⟨(H.2.L_, H.2.At, E, F), h, I2⟩ [0, 1])
 rintro s ob ⟨a, h, rfl, rfl⟩
 refine Ab fun y8 am => ?_
 obtain ⟨g, an, h⟩ := Ac h
 obtain ⟨f, ao, h⟩ := Ac h
 obtain ⟨i, aq, h⟩ := Ac h
 obtain ⟨j, ar, h⟩ := Ac h
 refine gN (Af 1 I (Br (Lg _ _ _ an) (Af 3 I (gP [] I (gY 1 (([1, 2, 7, 20, 60, 200, 1000] : Li).map rI) (gP [0] I (Bz [0] (Cp b _ _ _ ao) ?_)))))))
 refine Af 1 I (gP [] I (gY 1 (([0, 1, 5, 1000] : Li).map rI) (gP [0] I (Bz [0] (Cp b _ _ _ aq) ?_))))
 refine Af 1 I (gP [] I (gY 1 (([0, 50, 1000, 100000] : Li).map rI) (gP [0] I (Bz [0] (Cp b _ _ _ ar) ?_))))
 refine Bk (A4 (l := [.v (.string g), .V a.2.2.1, .V a.2.2.2, .V f.1, .V i.1, .V j.1, .N]) Od I) I (gP [] I (Bl W0 7 fun R => gP [2] I (Bc 2 0 0 [[.v (.string g), .V a.2.2.1, .V a.2.2.2, .V f.1, .V i.1, .V j.1, .N]] I (gO ?_))))
 subst am
 refine Ab fun bd au => ?_
 obtain ⟨k, av, h⟩ := Ac h
 refine gN (Af 1 I (gP [] I (gY 1 (([1000000, 6000000, 100000000] : Li).map rI) (gP [0] I (Bz [0] (Cp b _ _ _ av) ?_)))))
 refine Af 1 I (gO ?_)
 subst au
 refine Ab fun be aw => ?_
 obtain ⟨Z, ax, h⟩ := Ac h
 obtain ⟨bf, aa, h⟩ := Ac h
 refine Ca (sl 3 0 (.still 4 (.act 3 (.still 5 (.act 6 (.act 7 (.still 8 (.drop 9 .nil)))))))) [2] [_] I (Cg 4 [.o 1 0] I J1 (gV [0] I I I (Bz [0] (D6 b _ _ _ _ ax) ?_)))
 refine Vi I (A4 (l := [.V 0, .V Z.1, .V k.1]) E1 I) I (gV [] I I I (gY 3 (([(⟨0, Z.1, k.1⟩ : Point)] : List Point).map A1) (gV [] I I I (Tz I I I I I I I I (AppSrc.list I) (aH (F3 aa).1) (aG (F3 aa).2) dS fun ab => Bb 1 I (AP.one 3 I fun ay => AP.drop [2] I I I (hM 2 0 6 (es' := [[.v (.string g), .V a.2.2.1, .V a.2.2.2, .V f.1, .V i.1, .V j.1, .v ab]]) I I I I I I (Dm ay) I (Bn I) I I (Ax (gO ?_))))))))
 subst aw
 refine Aj (fun s ob => ∃ (y : Li × Int × (List Point)) (S : Value), Mo.J2 a g f i j k y = some r ∧ s = [] ∧ ob = [O1 b [[Q2 y.1, .V y.2.1]], O0 G [W0], O0 R [[.v (.string g), .V a.2.2.1, .V a.2.2.2, .V f.1, .V i.1, .V j.1, .v S]], U6 S y.2.2]) [(0, _), (8, _), (9, _), (10, _)] J4 ?_ ?_
 refine Ai I (gQ ?_)
 obtain ⟨bg, az, ac⟩ := Ac h
 refine Cm az [(0, _), (8, _), (9, _), (10, _)] J4 (fun (e : Li × Int × (List Point) × Int) s ob => ∃ (n : Value), s = [(11, .V e.2.2.2)] ∧ ob = [O1 b [[Q2 e.1, .V e.2.1]], O0 G [W0], O0 R [[.v (.string g), .V a.2.2.1, .V a.2.2.2, .V f.1, .V i.1, .V j.1, .v n]], U6 n e.2.2.1]) ⟨ab, I2⟩ ⟨I, J⟩ ⟨[0, 1, 2, 3], I, by decide⟩ ?_
 rintro e a0 s ob ⟨n, rfl, rfl⟩ h ad
 unfold Mo.B3 at h
 refine Ab fun bh a1 => Aj (fun s ob => ∃ (u : Li × Int × Bool), Mo.J4 f k e u = some a0 ∧ s = [(51, .v (.bool u.2.2))] ∧ ob = [O1 b [[Q2 u.1, .V u.2.1]], O0 G [W0], O0 R [[.v (.string g), .V a.2.2.1, .V a.2.2.2, .V f.1, .V i.1, .V j.1, .v n]], U6 n e.2.2.1]) [(0, _), (8, _), (9, _), (10, _), (11, _)] J5 ?_ ?_
 rcases bt (decide ((e.2.2.1.length : Int) < 7)) with A | A
 have h := Bp A h
 obtain ⟨U, a2, h⟩ := Ac h
 refine gN (Ao 2 [.o 1 2] I J1 (hF (Da 3 I I I I) I (Af 2 I (Ae 47 I A (Af 1 I (Bm I I I (gP [0] I (Bz [0] (Cz b _ _ _ a2) ?_))))))))
 exact Af 2 I (gO (lg ⟨(U.2.L_, U.2.At, decide (U.1 > 0)), h, I2⟩ [0, 1, 2, 3]))
 have h := Bq A h
 exact gN (Ao 2 [.o 1 2] I J1 (hF (Da 3 I I I I) I (Af 2 I (Ae 47 I A (Af 4 I (gO (lg ⟨(e.1, e.2.1, false), h, I2⟩ [0, 1, 2, 3])))))))
 rintro s ob ⟨u, h, rfl, rfl⟩
 refine Ar h I ?_ ?_
 intro a3 h
 refine gS ?_
 subst a1
 refine gQ (Ab fun bi a4 => ?_)
 obtain ⟨w, a5, h⟩ := Ac h
 refine gN (Af 2 I (gP [0] I (Bz [0] (D6 b _ _ _ _ a5) ?_)))
 refine Af 2 I (gO ?_)
 subst a4
 refine Ab fun bj a6 => A8 [.o 2 2] I J1 (Ar h I ?_ ?_)
 intro a7 h
 obtain rfl := ad _ (oi h).symm
 have h := ac
 exact gW (lg ⟨(w.2.L_, w.2.At, e.2.2.1), n, h, I2⟩ [0, 1, 2, 3])
 intro a7 h
 refine gS ?_
 subst a6
 obtain ⟨K, ae, h⟩ := Ac h
 obtain ⟨M, af, h⟩ := Ac h
 obtain ⟨O, ag, h⟩ := Ac h
 obtain ⟨bk, ah, h⟩ := Ac h
 refine Ca (sl 4 0 (.still 5 (.still 9 (.still 10 (.two 4 6 (.act 6 eA) (.act 4 eA)))))) [2] [_] I (Cg 7 [.o 1 0] I J1 (AP.two ?_ ?_))
 refine gV [0] I I I (Bz [0] (D6 b _ _ _ _ ae) ?_)
 refine gV [] I I I (gY 1 (([1, 1, 10] : Li).map rI) (gV [0] I I I (Bz [0] (Cp b _ _ _ af) ?_)))
 refine Bb 1 I (gV [0] I I I (Bz [0] (Cz b _ _ _ ag) ?_))
 refine Bb 2 I (Vi I (A4 (l := [.V (wr (e.2.2.2 + w.1)), .V (wr (K.1 * M.1)), .V (wr (k.1 - (wr (O.1 * 1000))))]) E1 I) I (gV [] I I I (gY 3 (([(⟨wr (e.2.2.2 + w.1), wr (K.1 * M.1), wr (k.1 - (wr (O.1 * 1000)))⟩ : Point)] : List Point).map A1) (gV [3] I I I (Dd 3 I ah fun B => Bb 1 I (AP.one 3 I fun W => AP.drop [2] I I I (hM 2 0 6 (es' := [[.v (.string g), .V a.2.2.1, .V a.2.2.2, .V f.1, .V i.1, .V j.1, .v B]]) I I I I I I (Dm W) I (Bn I) I I (Ax ?_))))))))
 cases io h
 exact gO ⟨_, _, _, I, ⟨B, I2⟩, J5, [0, 1, 2, 3], I, by decide⟩
 refine gV [] I I I (gY 1 (([1, 1, 10] : Li).map rI) (gV [0] I I I (Bz [0] (D6 b _ _ _ _ ae) ?_)))
 refine gV [0] I I I (Bz [0] (Cp b _ _ _ af) ?_)
 refine Bb 1 I (gV [0] I I I (Bz [0] (Cz b _ _ _ ag) ?_))
 refine Bb 2 I (Vi I (A4 (l := [.V (wr (e.2.2.2 + w.1)), .V (wr (K.1 * M.1)), .V (wr (k.1 - (wr (O.1 * 1000))))]) E1 I) I (gV [] I I I (gY 3 (([(⟨wr (e.2.2.2 + w.1), wr (K.1 * M.1), wr (k.1 - (wr (O.1 * 1000)))⟩ : Point)] : List Point).map A1) (gV [3] I I I (Dd 3 I ah fun B => Bb 1 I (AP.one 3 I fun W => AP.drop [2] I I I (hM 2 0 6 (es' := [[.v (.string g), .V a.2.2.1, .V a.2.2.2, .V f.1, .V i.1, .V j.1, .v B]]) I I I I I I (Dm W) I (Bn I) I I (Ax ?_))))))))
 cases io h
 exact gO ⟨_, _, _, I, ⟨B, I2⟩, J5, [0, 1, 2, 3], I, by decide⟩
 intro a3 h
 obtain rfl := ad _ (oi h).symm
 have h := ac
 exact gW (lg ⟨(u.1, u.2.1, e.2.2.1), n, h, I2⟩ [0, 1, 2, 3])
 rintro s ob ⟨y, S, h, rfl, rfl⟩
 refine gR ?_
 obtain ⟨P, a8, h⟩ := Ac h
 obtain ⟨ai, a9, h⟩ := Ac h
 refine Ca (sl 5 0 (.still 6 (.act 5 (.still 7 (.act 8 (.act 9 (.still 10 (.drop 11 .nil)))))))) [2] [_] I (Cg 6 [.o 1 0, .o 3 0] I J2 (gV [0] I I I (Bz [0] (D6 b _ _ _ _ a8) ?_)))
 refine Vi I (A4 (l := [.V f.1, .V P.1, .V k.1]) E1 I) I (gV [] I I I (gY 3 (([(⟨f.1, P.1, k.1⟩ : Point)] : List Point).map A1) (gV [3] I I I (Dd 3 I a9 fun D => Bb 1 I (AP.one 3 I fun ba => AP.drop [2] I I I (hM 2 0 6 (es' := [[.v (.string g), .V a.2.2.1, .V a.2.2.2, .V f.1, .V i.1, .V j.1, .v D]]) I I I I I I (Dm ba) I (Bn I) I I (Ax (gO (gR (gN (Ao 1 [.o 0 2] I J1 (gP [1] I (Bc 1 0 0 [[.v (.string g), .V a.2.2.1, .V a.2.2.2, .V f.1, .V i.1, .V j.1, .v D]] I (gO ?_))))))))))))))
 refine Em [0, 3, 1] I ?_
 obtain rfl := oi h
 exact gT ⟨.inr I, [_], [O1 b [A3 P.2], U6 D ai], ⟨⟨2, _, _, _, _, _, _, _, I5⟩, J⟩, Dp I (Dp I (Cv)), ⟨[O1 b [A3 P.2]], [U6 D ai], I, I, D, I3⟩⟩
theorem W8 (b : Nat) (e : KS) (r : Sg × (List Piece) × (List Batch) × (List Product) × KS) (h : Qi e = some r) : ACalls Ah 6 [.v (.pointer (some ⟨b, 0, none⟩))] [O1 b [A3 e]] (Eg 1 fun x os new => x = .tup [.agg (Aa r.1), Q0 r.2.1, Q1 r.2.2.1, Q3 r.2.2.2.1] ∧ os = [O1 b [A3 r.2.2.2.2]] ∧ new = []) := by
 refine Ad Tryz.func6 I I I fun C hC => ?_
 refine Ab fun B i => gN (gP [] I (Bl W0 7 fun j => Af 3 I (gO ?_)))
 subst i
 refine Ab fun D k => ?_
 obtain ⟨a, l, h⟩ := Ac h
 refine gN (Af 1 I (gP [0] I (Mb [0] (Tx b _ _ _ _ _ l) ?_)))
 rintro _ _ _ - ⟨d, rfl, rfl, rfl⟩
 refine gP [] I (Bl W0 7 fun n => gP [3] I (Bc 3 0 0 [[.v (.string a.1.Name), .V a.1.From, .V a.1.To, .V a.1.Capacity, .V a.1.Resist, .V a.1.Wave, .v d]] I (gO ?_)))
 subst k
 refine Ab fun E p => ?_
 obtain ⟨f, s, h⟩ := Ac h
 refine gN (Af 1 I (gP [0] I (Mb [0] (Yj b _ _ s) ?_)))
 rintro _ _ _ - ⟨t, rfl, rfl, rfl⟩
 refine Af 1 I (gO ?_)
 subst p
 refine gR ?_
 obtain ⟨g, u, h⟩ := Ac h
 obtain ⟨c, w, h⟩ := Ac h
 refine F5 4 I fun y => Ca (sl 4 0 (sl 3 5 (.still 9 (.act 4 (.act 8 (.act 10 (sl 3 11 .nil))))))) [3] [_] I (Cg 6 [.o 0 0, .o 3 0] I J2 (gZ I (F4 I I I y) I (Bb 1 I (gV [0] I I I (Mb [0] (P9 b _ _ _ _ u) ?_)))))
 rintro _ _ _ - ⟨z, rfl, rfl, rfl⟩
 refine gV [0] I I I (Mb [0] (X8 b _ _ _ _ w) ?_)
 rintro _ _ _ - ⟨A, rfl, rfl, rfl⟩
 refine gV [1] I I I (Bc 1 0 0 [[.v (.string a.1.Name), .V a.1.From, .V a.1.To, .V a.1.Capacity, .V a.1.Resist, .V a.1.Wave, .v d]] I (L8 3 (Bb 1 I (L8 4 (Bb 2 I (Ax (gO (gU (Ba [2, 4, 5, 6] (K := [U6 d a.1.Points, U3 t f.1, U7 z g.1, U5 A c.1]) I [(3, Q0 g.1), (4, Q1 c.1), (5, Q3 f.1)] ⟨⟨_, I, .us 2 I⟩, ⟨_, I, .us 3 I⟩, ⟨_, I, .us 1 I⟩, J⟩ (ob' := [O1 b [A3 c.2], O0 j [Aa a.1], O0 n [[.v (.string a.1.Name), .V a.1.From, .V a.1.To, .V a.1.Capacity, .V a.1.Resist, .V a.1.Wave, .v d]]]) (.cons (.same _) (.cons (.arr (.cons (.refl _) (.cons (.refl _) (.cons (.refl _) (.cons (.refl _) (.cons (.refl _) (.cons (.refl _) (.cons (.us 0 I) (.rest _))))))))) (.rest _)))) (Em [0, 1] I ?_)))))))))
 cases io h
 exact gT ⟨.inr I, [_, _, _, _], [O1 b [A3 c.2]], ⟨⟨1, _, _, _, _, _, _, _, I5⟩, I, I, I, J⟩, Dp I (Cv), ⟨[O1 b [A3 c.2]], [], I5⟩⟩
theorem P6 (a : Nat) (d : KS) (r : Bounds × KS) (h : My d = some r) : ACalls Ah 17 [.v (.pointer (some ⟨a, 0, none⟩))] [O1 a [A3 d]] (Eg 1 fun x os new => x = .agg (Al r.1) ∧ os = [O1 a [A3 r.2]] ∧ new = []) := by
 refine Ad Tryz.func17 I I I fun C hC => ?_
 refine Ab fun n f => gN (gP [] I (Bl [.V 0, .V 0] 2 fun o => gO ?_))
 subst f
 refine Ab fun s g => ?_
 obtain ⟨b, i, h⟩ := Ac h
 refine gN (Af 1 I (gP [] I (gY 1 (([0, 300000, 5000000, (-1000)] : Li).map rI) (gP [0] I (Bz [0] (Cp a _ _ _ i) ?_)))))
 refine Af 1 I (gO ?_)
 subst g
 refine gR ?_
 obtain ⟨e, j, h⟩ := Ac h
 obtain ⟨c, k, h⟩ := Ac h
 refine gN (Af 3 I (gP [0] I (Bz [0] (Cz a _ _ _ j) ?_)))
 refine Af 1 I (gP [0] I (Bz [0] (Cz a _ _ _ k) ?_))
 refine Af 2 I (Bk (A4 (l := [.V b.1, .V (wr (b.1 + (wr (e.1 * c.1))))]) C8 I) I (gP [1] I (Bc 1 0 0 [[.V b.1, .V (wr (b.1 + (wr (e.1 * c.1))))]] I (gO ?_))))
 obtain rfl := oi h
 exact gT ⟨.inr I, [_], [O1 a [A3 c.2]], ⟨⟨1, _, _, _, _, _, _, _, I5⟩, J⟩, Dp I (Cv), ⟨[O1 a [A3 c.2]], [], I5⟩⟩
theorem Px (a : Li) (c : Li) (r : Bool) (h : Ms a c = some r) : ACalls Ah 15 [Q2 a, Q2 c] [] (RB r) := by
 refine Ad Tryz.func15 I I I fun C hC => ?_
 refine Ai I (Ab fun E j => A8 [.l 1 (a.length : Int), .l 3 (c.length : Int)] I ⟨A2, A2, J⟩ (Ar h I ?_ ?_))
 intro m h
 refine Ai I ?_
 cases io h
 exact gT pr
 intro m h
 refine gS ?_
 subst j
 refine Aj (fun s ob => ∃ (d : Unit), Ms.J1 d = some r ∧ s = [] ∧ ob = []) [] J ?_ ?_
 refine A8 [.l 1 (a.length : Int)] I ⟨A2, J⟩ (gQ (B0 11 I fun n => ?_))
 obtain ⟨F, o, e⟩ := Ac h
 refine Bh o [(0, _), (1, _), (12, _)] J3 (fun (b : Nat) (f : Unit) s ob => s = [(13, .V (b : Int))] ∧ ob = []) ⟨I, I⟩ ⟨I, J⟩ ⟨[], I, by decide⟩ ?_ ?_
 rintro b p f G s ob q g ⟨rfl, rfl⟩ h t
 have u := Cr g
 refine Ai I (Ab fun H w => Bf I u (gS ?_))
 subst w
 refine gR (gQ (Ai I (gR ?_)))
 obtain ⟨i, ⟨y, A⟩, h⟩ := A7 h
 refine Ll (pd 9 0 []) [] [] [.x 2 b (rI p), .x 6 i.1 (rI i.2)] I I ⟨⟨y, Ag A⟩, ⟨I, Ag q⟩, J⟩ (Ar h I ?_ ?_)
 intro B h
 refine Ai I ?_
 obtain rfl := t _ (oi h).symm
 have h := e
 have h := Cq h
 cases io h
 exact gT pr
 intro B h
 refine gS (gN (Ao 2 [.k 0 (b + 1 : Nat)] I ⟨Az g n, J⟩ ?_))
 cases io h
 exact gO ⟨_, _, _, I, I2, J4, [], I, by decide⟩
 rintro f s ob ⟨rfl, rfl⟩ he
 subst he
 have h := C0 e
 have D := Cs a.length
 exact Ai I (Ab fun K M => Bg I D (gW (lg ⟨(), h, I2⟩ [])))
 rintro s ob ⟨d, h, rfl, rfl⟩
 unfold Ms.J1 at h
 refine Ai I ?_
 cases io h
 exact gT pr
theorem Xe (b : Sg) (i : List Piece) (E : List Batch) (t : Int) (A : Int) (n : Bounds) (u : List Level) (a7 : Li) (r : Bool) (h : Mj b i E t A n u a7 = some r) : ACalls Ah 4 [.agg (Aa b), Q0 i, Q1 E, .V t, .V A, .agg (Al n), Q4 u, Q2 a7] [] (RB r) := by
 refine Ad Tryz.func4 I I I fun C hC => ?_
 unfold Mj at h
 refine Ab fun y1 cz => gN (gP [] I (Cc (Aa b) 7 fun X => gP [] I (Cc (Al n) 2 fun g => Af 1 I (gO ?_))))
 subst cz
 refine Bs (s' := [(1, Q0 i), (2, Q1 E), (3, .V t), (4, .V A), (6, Q4 u), (7, Q2 a7), (8, .v (.pointer (some ⟨X, 0, none⟩))), (13, .v (.pointer (some ⟨g, 0, none⟩)))]) (ob' := [O0 X [Aa b], O2 g [Al n]]) ⟨J8, [0, 1], I, by decide⟩ (Ab fun y4 c1 => Ew 79 (decide ((b.Points.length : Int) > 30) || (decide ((i.length : Int) > 60) || (decide ((E.length : Int) > 60) || (decide ((u.length : Int) > 300) || decide ((b.Name.size : Int) > 60))))) ?_ ?_)
 refine gN (Ao 5 [.o 1 0, .l 2 (b.Points.length : Int)] I ⟨A2, I, J⟩ ?_)
 rcases bt (decide ((b.Points.length : Int) > 30)) with ak | ak
 exact Ae 59 I ak (Af 20 I (gO (jf (by simp only [ak, bz]) I I I2)))
 refine Ae 59 I ak (Ao 5 [.l 1 (i.length : Int)] I ⟨A2, J⟩ ?_)
 rcases bt (decide ((i.length : Int) > 60)) with aq | aq
 exact Ae 64 I aq (Af 15 I (gO (jf (by simp only [ak, aq, bz]) I I I2)))
 refine Ae 64 I aq (Ao 5 [.l 1 (E.length : Int)] I ⟨A2, J⟩ ?_)
 rcases bt (decide ((E.length : Int) > 60)) with au | au
 exact Ae 69 I au (Af 10 I (gO (jf (by simp only [ak, aq, au, bz]) I I I2)))
 refine Ae 69 I au (Ao 5 [.l 1 (u.length : Int)] I ⟨A2, J⟩ ?_)
 rcases bt (decide ((u.length : Int) > 300)) with ay | ay
 exact Ae 74 I ay (Af 5 I (gO (jf (by simp only [ak, aq, au, ay, bz]) I I I2)))
 exact Ae 74 I ay (Ao 5 [.o 1 0] I J1 (gO (jf (by simp only [ak, aq, au, ay, bz]) I I I2)))
 refine Ar h I ?_ ?_
 intro c2 h
 refine gR ?_
 obtain ⟨f6, c3, h⟩ := Ac h
 refine gN (Br (Pn  _ c3) (Af 1 I (gO (gU g0 ?_))))
 cases io h
 exact gT pr
 intro c2 h
 refine gS ?_
 subst c1
 refine Bs (s' := [(1, Q0 i), (2, Q1 E), (3, .V t), (4, .V A), (6, Q4 u), (7, Q2 a7), (8, .v (.pointer (some ⟨X, 0, none⟩))), (13, .v (.pointer (some ⟨g, 0, none⟩)))]) (ob' := [O0 X [Aa b], O2 g [Al n]]) ⟨J8, [0, 1], I, by decide⟩ (Ab fun f7 c4 => ?_)
 obtain ⟨c5, c6, h⟩ := Ac h
 refine gN (Af 1 I (gP [] I (A5 I I I (X9 _ _ c6) dS ?_)))
 rintro _ _ ⟨e, rfl, rfl⟩
 refine Af 1 I (gO ?_)
 subst c4
 refine Bs (s' := [(1, Q0 i), (2, Q1 E), (3, .V t), (4, .V A), (6, Q4 u), (8, .v (.pointer (some ⟨X, 0, none⟩))), (13, .v (.pointer (some ⟨g, 0, none⟩))), (17, .v (.pointer (some ⟨e, 0, none⟩)))]) (ob' := [O0 X [Aa b], O2 g [Al n], O1 e [A3 c5]]) ⟨J8, [0, 1, 2], I, by decide⟩ (Ab fun f8 c7 => ?_)
 obtain ⟨a, c8, h⟩ := Ac h
 refine gN (Af 1 I (gP [2] I (Bz [2] (W8 e _ _ c8) ?_)))
 refine Af 5 I (gP [] I (Bl W0 7 fun j => gP [3] I (Bc 3 0 0 [Aa a.1] I (Af 3 I (gO ?_)))))
 subst c7
 refine Bs (s' := [(1, Q0 i), (2, Q1 E), (3, .V t), (4, .V A), (6, Q4 u), (8, .v (.pointer (some ⟨X, 0, none⟩))), (13, .v (.pointer (some ⟨g, 0, none⟩))), (17, .v (.pointer (some ⟨e, 0, none⟩))), (18, .v (.pointer (some ⟨j, 0, none⟩))), (19, Q0 a.2.1), (20, Q1 a.2.2.1), (21, Q3 a.2.2.2.1)]) (ob' := [O0 X [Aa b], O2 g [Al n], O1 e [A3 a.2.2.2.2], O0 j [Aa a.1]]) ⟨gD, [0, 1, 2, 3], I, by decide⟩ (Ab fun f9 c9 => gN (Ao 1 [.o 0 3] I J1 (gP [] I (Bl W0 7 fun ai => gP [4] I (Bc 4 0 0 [Aa a.1] I (gO ?_))))))
 subst c9
 refine Bs (s' := [(1, Q0 i), (2, Q1 E), (3, .V t), (4, .V A), (6, Q4 u), (8, .v (.pointer (some ⟨X, 0, none⟩))), (13, .v (.pointer (some ⟨g, 0, none⟩))), (17, .v (.pointer (some ⟨e, 0, none⟩))), (18, .v (.pointer (some ⟨j, 0, none⟩))), (19, Q0 a.2.1), (20, Q1 a.2.2.1), (21, Q3 a.2.2.2.1), (22, .v (.pointer (some ⟨ai, 0, none⟩)))]) (ob' := [O0 X [Aa b], O2 g [Al n], O1 e [A3 a.2.2.2.2], O0 j [Aa a.1], O0 ai [Aa a.1]]) ⟨fU, [0, 1, 2, 3, 4], I, by decide⟩ (Ab fun ga da => ?_)
 obtain ⟨bi, db, h⟩ := Ac h
 refine gN (gP [] I (gX (sz := 3) (es := ([] : List Point).map A1) I I I I I I I I I I I dS fun gb => Ao 2 [.o 1 3] I J1 (gP [5] I (Dd 5 I db fun al => Af 1 I (AO.one 5 I fun dc => gP [4] I (hM 4 0 6 (es' := [[.v (.string a.1.Name), .V a.1.From, .V a.1.To, .V a.1.Capacity, .V a.1.Resist, .V a.1.Wave, .v al]]) I I I I I I (Dm dc) I (Bn I) I I (gO ?_)))))))
 subst da
 refine Bs (s' := [(1, Q0 i), (2, Q1 E), (3, .V t), (4, .V A), (6, Q4 u), (8, .v (.pointer (some ⟨X, 0, none⟩))), (13, .v (.pointer (some ⟨g, 0, none⟩))), (17, .v (.pointer (some ⟨e, 0, none⟩))), (18, .v (.pointer (some ⟨j, 0, none⟩))), (19, Q0 a.2.1), (20, Q1 a.2.2.1), (21, Q3 a.2.2.2.1), (22, .v (.pointer (some ⟨ai, 0, none⟩)))]) (ob' := [O0 X [Aa b], O2 g [Al n], O1 e [A3 a.2.2.2.2], O0 j [Aa a.1], O0 ai [[.v (.string a.1.Name), .V a.1.From, .V a.1.To, .V a.1.Capacity, .V a.1.Resist, .V a.1.Wave, .v al]], U6 al bi]) ⟨fU, [0, 1, 2, 3, 4, 5], I, by decide⟩ (Aj (fun s ob => ∃ (f : Li × Int × (List Point)), Mj.J1 b i E t A n u a f = some r ∧ s = [] ∧ ob = [O0 X [Aa b], O2 g [Al n], O1 e [[Q2 f.1, .V f.2.1]], O0 j [Aa a.1], O0 ai [[.v (.string a.1.Name), .V a.1.From, .V a.1.To, .V a.1.Capacity, .V a.1.Resist, .V a.1.Wave, .v al]], U6 al f.2.2]) [(1, _), (2, _), (3, _), (4, _), (6, _), (8, _), (13, _), (17, _), (18, _), (19, _), (20, _), (21, _), (22, _)] fU ?_ ?_)
 obtain ⟨gc, bv, h⟩ := Ac h
 obtain ⟨am, bw, h⟩ := Ac h
 obtain ⟨ab, ⟨bx, az⟩, h⟩ := A7 h
 refine F5 5 I fun dd => C3 5 ab.1 I az fun b0 => Ca (sl 6 0 (sl 3 7 (.two 6 10 (.act 10 dZ) (.act 6 dZ)))) [4, 3] [_, _] I (Cg 5 [.o 1 0, .o 4 0] I J2 (gZ I (F4 I I I dd) I (Cg 3 [.o 2 1] I J1 (AP.two ?_ ?_))))
 refine gV [2] I I I (Bz [2] (Cz e _ _ _ bv) ?_)
 refine gV [] I I I (gY 1 (([0, 1, (-1), a.1.Capacity] : Li).map rI) (gV [2] I I I (Bz [2] (Cp e _ _ _ bw) ?_)))
 exact gV [] I I I (Cl (Yp.yd (Bi (m := ab.1) I I I I I b0 I bx az)) dS (Bb 1 I (gV [5] I I I (Cb 5 ab.1 0 I I I (Ag az) I I I I (Bn I) I (Dl (x := (⟨am.1, ab.2.Height, ab.2.Limit⟩ : Point)) I) (Ax (gO (lg ⟨(am.2.L_, am.2.At, (bi.set ab.1 (⟨am.1, ab.2.Height, ab.2.Limit⟩ : Point))), h, I2⟩ [0, 1, 2, 3, 4, 5])))))))
 refine gV [] I I I (gY 1 (([0, 1, (-1), a.1.Capacity] : Li).map rI) (gV [2] I I I (Bz [2] (Cz e _ _ _ bv) ?_)))
 refine gV [2] I I I (Bz [2] (Cp e _ _ _ bw) ?_)
 exact gV [] I I I (Cl (Yp.yd (Bi (m := ab.1) I I I I I b0 I bx az)) dS (Bb 1 I (gV [5] I I I (Cb 5 ab.1 0 I I I (Ag az) I I I I (Bn I) I (Dl (x := (⟨am.1, ab.2.Height, ab.2.Limit⟩ : Point)) I) (Ax (gO (lg ⟨(am.2.L_, am.2.At, (bi.set ab.1 (⟨am.1, ab.2.Height, ab.2.Limit⟩ : Point))), h, I2⟩ [0, 1, 2, 3, 4, 5])))))))
 rintro s ob ⟨f, h, rfl, rfl⟩
 refine Ab fun gd de => ?_
 obtain ⟨M, df, h⟩ := Ac h
 refine gN (gP [] I (gX (sz := 5) (es := ([] : List Product).map Ak) I I I I I I I I I I I dS fun ge => Af 1 I (gP [6] I (Dd 6 I df fun a8 => Af 1 I (gO ?_)))))
 subst de
 refine Bs (s' := [(1, Q0 i), (2, Q1 E), (3, .V t), (4, .V A), (6, Q4 u), (8, .v (.pointer (some ⟨X, 0, none⟩))), (13, .v (.pointer (some ⟨g, 0, none⟩))), (17, .v (.pointer (some ⟨e, 0, none⟩))), (18, .v (.pointer (some ⟨j, 0, none⟩))), (19, Q0 a.2.1), (20, Q1 a.2.2.1), (21, Q3 a.2.2.2.1), (22, .v (.pointer (some ⟨ai, 0, none⟩))), (23, .v a8)]) (ob' := [O0 X [Aa b], O2 g [Al n], O1 e [[Q2 f.1, .V f.2.1]], O0 j [Aa a.1], O0 ai [[.v (.string a.1.Name), .V a.1.From, .V a.1.To, .V a.1.Capacity, .V a.1.Resist, .V a.1.Wave, .v al]], U6 al f.2.2, U3 a8 M]) ⟨fY, [0, 1, 2, 3, 4, 5, 6], I, by decide⟩ (Ab fun gf dg => ?_)
 obtain ⟨F, ⟨b1, a9⟩, h⟩ := A7 h
 obtain ⟨G, dh, h⟩ := Ac h
 refine gN (Af 3 I (hF (Co 6 (m := F.1) I I I I I I I b1 (Ag a9)) I (hF (Bx 6 F.1 0 I I I (Ag a9) I (y := .agg (Ak F.2)) I) I (gP [2] I (Bz [2] (Ww e _ _ _ dh) ?_)))))
 refine hF (Co 6 (m := F.1) I I I I I I I b1 (Ag a9)) I (gP [6] I (Cb 6 F.1 0 I I I (Ag a9) I I I I (Bn I) I (Dl (x := G.1) I) (gO ?_)))
 subst dg
 refine Aj (fun s ob => ∃ (b4 : Unit), Mj.J2 b4 = some r ∧ s = [] ∧ ob = []) [] J ?_ ?_
 refine Ab fun gg di => gN (Ao 3 [.o 0 0, .o 1 3, .o 2 4] I J3 (AO.ghost (Ba [5] (K := [U6 al f.2.2]) I [(122, .agg [.v (.string a.1.Name), .V a.1.From, .V a.1.To, .V a.1.Capacity, .V a.1.Resist, .V a.1.Wave, Q6 f.2.2])] ⟨⟨_, I, .agg (.cons (.refl _) (.cons (.refl _) (.cons (.refl _) (.cons (.refl _) (.cons (.refl _) (.cons (.refl _) (.cons (.us 0 I) (.rest _))))))))⟩, J⟩ (ob' := [O0 X [Aa b], O2 g [Al n], O1 e [A3 G.2], O0 j [Aa a.1], O0 ai [[.v (.string a.1.Name), .V a.1.From, .V a.1.To, .V a.1.Capacity, .V a.1.Resist, .V a.1.Wave, Q6 f.2.2]], .us a8 49 5 ((M.set F.1 G.1).map Ak)]) (.cons (.same _) (.cons (.same _) (.cons (.same _) (.cons (.same _) (.cons (.arr (.cons (.refl _) (.cons (.refl _) (.cons (.refl _) (.cons (.refl _) (.cons (.refl _) (.cons (.refl _) (.cons (.us 0 I) (.rest _))))))))) (.rest _))))))) (gP [] I (gX (sz := 7) (es := ([b, a.1, (⟨a.1.Name, a.1.From, a.1.To, a.1.Capacity, a.1.Resist, a.1.Wave, f.2.2⟩ : Sg)] : List Sg).map Aa) I I I I I I I I I I I dS fun p => hF (Da 6 I I I I) I (Af 1 I ?_)))))
 refine gO ?_
 subst di
 refine gQ (Lk 6 I fun dj => gU (Ba [5] (K := [.us a8 49 5 ((M.set F.1 G.1).map Ak)]) I [(23, .list 5 ((M.set F.1 G.1).map Ak)), (113, .list 5 ((M.set F.1 G.1).map Ak)), (115, .list 5 ((M.set F.1 G.1).map Ak))] ⟨⟨_, I, .us 0 I⟩, ⟨_, I, .us 0 I⟩, ⟨_, I, .us 0 I⟩, J⟩ (ob' := [O0 X [Aa b], O2 g [Al n], O1 e [A3 G.2], O0 j [Aa a.1], O0 ai [[.v (.string a.1.Name), .V a.1.From, .V a.1.To, .V a.1.Capacity, .V a.1.Resist, .V a.1.Wave, Q6 f.2.2]], .us p 28 7 (([b, a.1, (⟨a.1.Name, a.1.From, a.1.To, a.1.Capacity, a.1.Resist, a.1.Wave, f.2.2⟩ : Sg)] : List Sg).map Aa)]) (.rest _)) ?_)
 obtain ⟨gh, dk, a0⟩ := Ac h
 refine Do dk [(1, _), (2, _), (3, _), (4, _), (6, _), (13, _), (17, _), (18, _), (19, _), (20, _), (21, _), (23, _), (123, _), (124, _)] fY (fun (Q : Nat) (ah : Li × Int) s ob => s = [(125, .V (Q : Int))] ∧ ob = [O2 g [Al n], O1 e [[Q2 ah.1, .V ah.2]], O0 j [Aa a.1], .us p 28 7 (([b, a.1, (⟨a.1.Name, a.1.From, a.1.To, a.1.Capacity, a.1.Resist, a.1.Wave, f.2.2⟩ : Sg)] : List Sg).map Aa)]) ⟨I, I⟩ ⟨I, J⟩ ⟨[1, 2, 3, 5], I, by decide⟩ ?_ ?_
 rintro Q ah b5 s ob b6 ⟨rfl, rfl⟩ h ba
 unfold Mj.B3 at h
 have dl := Cr b6
 refine Ai I (Bs (s' := [(1, Q0 i), (2, Q1 E), (3, .V t), (4, .V A), (6, Q4 u), (13, .v (.pointer (some ⟨g, 0, none⟩))), (17, .v (.pointer (some ⟨e, 0, none⟩))), (18, .v (.pointer (some ⟨j, 0, none⟩))), (19, Q0 a.2.1), (20, Q1 a.2.2.1), (21, Q3 a.2.2.2.1), (23, .list 5 ((M.set F.1 G.1).map Ak)), (123, .v p), (124, .V (([b, a.1, (⟨a.1.Name, a.1.From, a.1.To, a.1.Capacity, a.1.Resist, a.1.Wave, f.2.2⟩ : Sg)] : List Sg).length : Int)), (125, .V (Q : Int)), (126, .v (.bool (decide ((Q : Int) < (([b, a.1, (⟨a.1.Name, a.1.From, a.1.To, a.1.Capacity, a.1.Resist, a.1.Wave, f.2.2⟩ : Sg)] : List Sg).length : Int)))))]) (ob' := [O2 g [Al n], O1 e [[Q2 ah.1, .V ah.2]], O0 j [Aa a.1], .us p 28 7 (([b, a.1, (⟨a.1.Name, a.1.From, a.1.To, a.1.Capacity, a.1.Resist, a.1.Wave, f.2.2⟩ : Sg)] : List Sg).map Aa)]) ⟨⟨I, I, I, I, I, I, I, I, I, I, I, I, I, I, I, I, J⟩, [0, 1, 2, 3], I, by decide⟩ (Ab fun gi dm => Bf I dl (gS ?_)))
 subst dm
 refine Bs (s' := [(1, Q0 i), (2, Q1 E), (3, .V t), (4, .V A), (6, Q4 u), (13, .v (.pointer (some ⟨g, 0, none⟩))), (17, .v (.pointer (some ⟨e, 0, none⟩))), (18, .v (.pointer (some ⟨j, 0, none⟩))), (19, Q0 a.2.1), (20, Q1 a.2.2.1), (21, Q3 a.2.2.2.1), (23, .list 5 ((M.set F.1 G.1).map Ak)), (123, .v p), (124, .V (([b, a.1, (⟨a.1.Name, a.1.From, a.1.To, a.1.Capacity, a.1.Resist, a.1.Wave, f.2.2⟩ : Sg)] : List Sg).length : Int)), (125, .V (Q : Int))]) (ob' := [O2 g [Al n], O1 e [[Q2 ah.1, .V ah.2]], O0 j [Aa a.1], .us p 28 7 (([b, a.1, (⟨a.1.Name, a.1.From, a.1.To, a.1.Capacity, a.1.Resist, a.1.Wave, f.2.2⟩ : Sg)] : List Sg).map Aa)]) ⟨fX, [0, 1, 2, 3], I, by decide⟩ (Aj (fun s ob => ∃ (bb : Li × Int), Mj.J4 bb = some b5 ∧ s = [] ∧ ob = [O2 g [Al n], O1 e [[Q2 bb.1, .V bb.2]], O0 j [Aa a.1], .us p 28 7 (([b, a.1, (⟨a.1.Name, a.1.From, a.1.To, a.1.Capacity, a.1.Resist, a.1.Wave, f.2.2⟩ : Sg)] : List Sg).map Aa)]) [(1, _), (2, _), (3, _), (4, _), (6, _), (13, _), (17, _), (18, _), (19, _), (20, _), (21, _), (23, _), (123, _), (124, _), (125, _)] fX ?_ ?_)
 refine gQ (Ab fun gj dn => ?_)
 obtain ⟨B, ⟨dp, b7⟩, h⟩ := A7 h
 refine gN (hF (Co 3 (m := B.1) I I I I I I I dp (Ag b7)) I (hF (Bx 3 B.1 0 I I I (Ag b7) I (y := .agg (Aa B.2)) I) I (gP [] I (Bl W0 7 fun w => gP [4] I (Bc 4 0 0 [Aa B.2] I (gO ?_))))))
 subst dn
 refine Aj (fun s ob => ∃ (bc : Li × Int), Mj.J5 A u a B bc = some b5 ∧ s = [] ∧ ob = [O2 g [Al n], O1 e [[Q2 bc.1, .V bc.2]], O0 j [Aa a.1], .us p 28 7 (([b, a.1, (⟨a.1.Name, a.1.From, a.1.To, a.1.Capacity, a.1.Resist, a.1.Wave, f.2.2⟩ : Sg)] : List Sg).map Aa), O0 w [Aa B.2]]) [(1, _), (2, _), (3, _), (4, _), (6, _), (13, _), (17, _), (18, _), (19, _), (20, _), (21, _), (23, _), (25, _), (123, _), (124, _), (125, _)] ⟨I, I, I, I, I, I, I, I, I, I, I, I, I, I, I, I, J⟩ ?_ ?_
 refine Ab fun gk dq => ?_
 obtain ⟨D, dr, h⟩ := Ac h
 refine gN (Ao 5 [.o 4 2] I J1 (gP [1] I (Mb [1] (P9 e _ _ _ _ dr) ?_)))
 rintro _ _ _ - ⟨ds, rfl, rfl, rfl⟩
 refine AO.ghost (Ba [5] (K := [U7 ds D.1]) I [(134, Q0 D.1)] ⟨⟨_, I, .us 0 I⟩, J⟩ (ob' := [O2 g [Al n], O1 e [A3 D.2], O0 j [Aa a.1], .us p 28 7 (([b, a.1, (⟨a.1.Name, a.1.From, a.1.To, a.1.Capacity, a.1.Resist, a.1.Wave, f.2.2⟩ : Sg)] : List Sg).map Aa), O0 w [Aa B.2]]) (.rest _)) (gP [] I (gX (sz := 1) (es := ([i, a.2.1, D.1] : List (List Piece)).map (rL 2 Aq)) I I I I I I I I I I I dS fun H => hF (Da 5 I I I I) I (Af 1 I (gO ?_))))
 subst dq
 refine gQ (Lk 5 I fun dt => ?_)
 obtain ⟨gl, du, bd⟩ := Ac h
 refine Do du [(1, _), (2, _), (3, _), (4, _), (6, _), (13, _), (17, _), (18, _), (19, _), (20, _), (21, _), (23, _), (25, _), (123, _), (124, _), (125, _), (135, _), (136, _)] ⟨I, I, I, I, I, I, I, I, I, I, I, I, I, I, I, I, I, I, J⟩ (fun (aa : Nat) (Y : Li × Int) s ob => s = [(137, .V (aa : Int))] ∧ ob = [O2 g [Al n], O1 e [[Q2 Y.1, .V Y.2]], O0 j [Aa a.1], .us p 28 7 (([b, a.1, (⟨a.1.Name, a.1.From, a.1.To, a.1.Capacity, a.1.Resist, a.1.Wave, f.2.2⟩ : Sg)] : List Sg).map Aa), O0 w [Aa B.2], .us H 29 1 (([i, a.2.1, D.1] : List (List Piece)).map (rL 2 Aq))]) ⟨I, I⟩ ⟨I, J⟩ ⟨[0, 1, 2, 3, 4, 5], I, by decide⟩ ?_ ?_
 rintro aa Y b8 s ob b9 ⟨rfl, rfl⟩ h bj
 unfold Mj.B9 at h
 have dv := Cr b9
 refine Ai I (Bs (s' := [(1, Q0 i), (2, Q1 E), (3, .V t), (4, .V A), (6, Q4 u), (13, .v (.pointer (some ⟨g, 0, none⟩))), (17, .v (.pointer (some ⟨e, 0, none⟩))), (18, .v (.pointer (some ⟨j, 0, none⟩))), (19, Q0 a.2.1), (20, Q1 a.2.2.1), (21, Q3 a.2.2.2.1), (23, .list 5 ((M.set F.1 G.1).map Ak)), (25, .v (.pointer (some ⟨w, 0, none⟩))), (123, .v p), (124, .V (([b, a.1, (⟨a.1.Name, a.1.From, a.1.To, a.1.Capacity, a.1.Resist, a.1.Wave, f.2.2⟩ : Sg)] : List Sg).length : Int)), (125, .V (Q : Int)), (135, .v H), (136, .V (([i, a.2.1, D.1] : List (List Piece)).length : Int)), (137, .V (aa : Int)), (138, .v (.bool (decide ((aa : Int) < (([i, a.2.1, D.1] : List (List Piece)).length : Int)))))]) (ob' := [O2 g [Al n], O1 e [[Q2 Y.1, .V Y.2]], O0 j [Aa a.1], .us p 28 7 (([b, a.1, (⟨a.1.Name, a.1.From, a.1.To, a.1.Capacity, a.1.Resist, a.1.Wave, f.2.2⟩ : Sg)] : List Sg).map Aa), O0 w [Aa B.2], .us H 29 1 (([i, a.2.1, D.1] : List (List Piece)).map (rL 2 Aq))]) ⟨⟨I, I, I, I, I, I, I, I, I, I, I, I, I, I, I, I, I, I, I, I, J⟩, [0, 1, 2, 3, 4, 5], I, by decide⟩ ?_)
 refine Ab fun gm dw => Bf I dv (gS ?_)
 subst dw
 refine Bs (s' := [(1, Q0 i), (2, Q1 E), (3, .V t), (4, .V A), (6, Q4 u), (13, .v (.pointer (some ⟨g, 0, none⟩))), (17, .v (.pointer (some ⟨e, 0, none⟩))), (18, .v (.pointer (some ⟨j, 0, none⟩))), (19, Q0 a.2.1), (20, Q1 a.2.2.1), (21, Q3 a.2.2.2.1), (23, .list 5 ((M.set F.1 G.1).map Ak)), (25, .v (.pointer (some ⟨w, 0, none⟩))), (123, .v p), (124, .V (([b, a.1, (⟨a.1.Name, a.1.From, a.1.To, a.1.Capacity, a.1.Resist, a.1.Wave, f.2.2⟩ : Sg)] : List Sg).length : Int)), (125, .V (Q : Int)), (135, .v H), (136, .V (([i, a.2.1, D.1] : List (List Piece)).length : Int)), (137, .V (aa : Int))]) (ob' := [O2 g [Al n], O1 e [[Q2 Y.1, .V Y.2]], O0 j [Aa a.1], .us p 28 7 (([b, a.1, (⟨a.1.Name, a.1.From, a.1.To, a.1.Capacity, a.1.Resist, a.1.Wave, f.2.2⟩ : Sg)] : List Sg).map Aa), O0 w [Aa B.2], .us H 29 1 (([i, a.2.1, D.1] : List (List Piece)).map (rL 2 Aq))]) ⟨⟨I, I, I, I, I, I, I, I, I, I, I, I, I, I, I, I, I, I, I, J⟩, [0, 1, 2, 3, 4, 5], I, by decide⟩ (Aj (fun s ob => ∃ (be : Li × Int), Mj.J10 be = some b8 ∧ s = [] ∧ ob = [O2 g [Al n], O1 e [[Q2 be.1, .V be.2]], O0 j [Aa a.1], .us p 28 7 (([b, a.1, (⟨a.1.Name, a.1.From, a.1.To, a.1.Capacity, a.1.Resist, a.1.Wave, f.2.2⟩ : Sg)] : List Sg).map Aa), O0 w [Aa B.2], .us H 29 1 (([i, a.2.1, D.1] : List (List Piece)).map (rL 2 Aq))]) [(1, _), (2, _), (3, _), (4, _), (6, _), (13, _), (17, _), (18, _), (19, _), (20, _), (21, _), (23, _), (25, _), (123, _), (124, _), (125, _), (135, _), (136, _), (137, _)] ⟨I, I, I, I, I, I, I, I, I, I, I, I, I, I, I, I, I, I, I, J⟩ ?_ ?_)
 refine gQ (Ab fun gn dx => ?_)
 obtain ⟨ac, ⟨dy, ca⟩, h⟩ := A7 h
 refine gN (hF (Co 5 (m := ac.1) I I I I I I I dy (Ag ca)) I (hF (Bx 5 ac.1 0 I I I (Ag ca) I (y := Q0 ac.2) I) I (Af 1 I (gO ?_))))
 subst dx
 refine Ab fun go dz => ?_
 obtain ⟨d0, d1, h⟩ := Ac h
 refine gN (Ao 2 [.o 0 4] I J1 (gP [] I (A5 I I I (X1 _ _ _ d1) dS ?_)))
 rintro _ _ ⟨gp, rfl, rfl⟩
 refine Af 5 I (gO ?_)
 subst dz
 refine Ab fun gq d2 => ?_
 obtain ⟨d3, d4, h⟩ := Ac h
 refine gN (Ao 2 [.o 0 4] I J1 (gP [] I (A5 I I I (Xd _ _ _ d4) dS ?_)))
 rintro _ _ ⟨rfl, rfl⟩
 refine Af 5 I (gO ?_)
 subst d2
 refine Ab fun gr d5 => Aj (fun s ob => ∃ (bk : Bool), Mj.J11 E t n a M F G B Y ac bk = some b8 ∧ s = [(161, .v (.bool bk))] ∧ ob = [O2 g [Al n], O1 e [[Q2 Y.1, .V Y.2]], O0 j [Aa a.1], .us p 28 7 (([b, a.1, (⟨a.1.Name, a.1.From, a.1.To, a.1.Capacity, a.1.Resist, a.1.Wave, f.2.2⟩ : Sg)] : List Sg).map Aa), O0 w [Aa B.2], .us H 29 1 (([i, a.2.1, D.1] : List (List Piece)).map (rL 2 Aq))]) [(1, _), (2, _), (3, _), (4, _), (6, _), (13, _), (17, _), (18, _), (19, _), (20, _), (21, _), (23, _), (25, _), (27, _), (123, _), (124, _), (125, _), (135, _), (136, _), (137, _)] ⟨I, I, I, I, I, I, I, I, I, I, I, I, I, I, I, I, I, I, I, I, J⟩ ?_ ?_
 obtain ⟨d6, cb, h⟩ := Ac h
 rcases bt ((!d6)) with a1 | a1
 have h := Bp a1 h
 refine gN (Af 2 I (gP [] I (By I (.refl _) I I (.cons (.us 6 I) (.rest _)) I (Px _ _ _ cb) dS (by rintro _ _ ⟨rfl, _⟩; rfl) ?_)))
 rintro _ ⟨_, rfl, -⟩
 exact Af 2 I (Ae 157 I a1 (Af 4 I (gO (lg ⟨true, h, I2⟩ [0, 1, 2, 3, 4, 5]))))
 have h := Bq a1 h
 refine gN (Af 2 I (gP [] I (By I (.refl _) I I (.cons (.us 6 I) (.rest _)) I (Px _ _ _ cb) dS (by rintro _ _ ⟨rfl, _⟩; rfl) ?_)))
 rintro _ ⟨_, rfl, -⟩
 exact Af 2 I (Ae 157 I a1 (Af 4 I (gO (lg ⟨(d0.2 != d3.2), h, I2⟩ [0, 1, 2, 3, 4, 5]))))
 rintro s ob ⟨bk, h, rfl, rfl⟩
 refine Ar h I ?_ ?_
 intro d7 h
 refine Ai I ?_
 obtain rfl := bj _ (oi h).symm
 have h := bd
 have h := Cq h
 obtain rfl := ba _ (oi h).symm
 have h := a0
 have h := Cq h
 refine gU g0 ?_
 cases io h
 exact gT pr
 intro d7 h
 refine gS ?_
 subst d5
 refine Bs (s' := [(1, Q0 i), (2, Q1 E), (3, .V t), (4, .V A), (6, Q4 u), (13, .v (.pointer (some ⟨g, 0, none⟩))), (17, .v (.pointer (some ⟨e, 0, none⟩))), (18, .v (.pointer (some ⟨j, 0, none⟩))), (19, Q0 a.2.1), (20, Q1 a.2.2.1), (21, Q3 a.2.2.2.1), (23, .list 5 ((M.set F.1 G.1).map Ak)), (25, .v (.pointer (some ⟨w, 0, none⟩))), (27, Q0 ac.2), (123, .v p), (124, .V (([b, a.1, (⟨a.1.Name, a.1.From, a.1.To, a.1.Capacity, a.1.Resist, a.1.Wave, f.2.2⟩ : Sg)] : List Sg).length : Int)), (125, .V (Q : Int)), (135, .v H), (136, .V (([i, a.2.1, D.1] : List (List Piece)).length : Int)), (137, .V (aa : Int))]) (ob' := [O2 g [Al n], O1 e [[Q2 Y.1, .V Y.2]], O0 j [Aa a.1], .us p 28 7 (([b, a.1, (⟨a.1.Name, a.1.From, a.1.To, a.1.Capacity, a.1.Resist, a.1.Wave, f.2.2⟩ : Sg)] : List Sg).map Aa), O0 w [Aa B.2], .us H 29 1 (([i, a.2.1, D.1] : List (List Piece)).map (rL 2 Aq))]) ⟨⟨I, I, I, I, I, I, I, I, I, I, I, I, I, I, I, I, I, I, I, I, J⟩, [0, 1, 2, 3, 4, 5], I, by decide⟩ (Ab fun gs d8 => ?_)
 obtain ⟨P, d9, h⟩ := Ac h
 obtain ⟨O, ea, h⟩ := Ac h
 refine gN (Af 2 I (gP [1] I (Bz [1] (D6 e _ _ _ _ d9) ?_)))
 refine Af 1 I (gP [] I (gY 1 (([1000, 1001, (-1000), 0] : Li).map rI) (gP [1] I (Bz [1] (Cp e _ _ _ ea) ?_))))
 refine gP [] I (gX (sz := 1) (es := ([t, P.1, O.1] : Li).map rI) I I I I I I I I I I I dS fun U => hF (Da 6 I I I I) I (Af 1 I (gO ?_)))
 subst d8
 refine Bs (s' := [(1, Q0 i), (2, Q1 E), (3, .V t), (4, .V A), (6, Q4 u), (13, .v (.pointer (some ⟨g, 0, none⟩))), (17, .v (.pointer (some ⟨e, 0, none⟩))), (18, .v (.pointer (some ⟨j, 0, none⟩))), (19, Q0 a.2.1), (20, Q1 a.2.2.1), (21, Q3 a.2.2.2.1), (23, .list 5 ((M.set F.1 G.1).map Ak)), (25, .v (.pointer (some ⟨w, 0, none⟩))), (27, Q0 ac.2), (123, .v p), (124, .V (([b, a.1, (⟨a.1.Name, a.1.From, a.1.To, a.1.Capacity, a.1.Resist, a.1.Wave, f.2.2⟩ : Sg)] : List Sg).length : Int)), (125, .V (Q : Int)), (135, .v H), (136, .V (([i, a.2.1, D.1] : List (List Piece)).length : Int)), (137, .V (aa : Int)), (168, .v U), (169, .V (([t, P.1, O.1] : Li).length : Int)), (170, .V 0)]) (ob' := [O2 g [Al n], O1 e [A3 O.2], O0 j [Aa a.1], .us p 28 7 (([b, a.1, (⟨a.1.Name, a.1.From, a.1.To, a.1.Capacity, a.1.Resist, a.1.Wave, f.2.2⟩ : Sg)] : List Sg).map Aa), O0 w [Aa B.2], .us H 29 1 (([i, a.2.1, D.1] : List (List Piece)).map (rL 2 Aq)), .us U 3 1 (([t, P.1, O.1] : Li).map rI)]) ⟨⟨I, I, I, I, I, I, I, I, I, I, I, I, I, I, I, I, I, I, I, I, I, I, I, J⟩, [0, 1, 2, 3, 4, 5, 6], I, by decide⟩ ?_
 refine gQ (Lk 6 I fun eb => ?_)
 obtain ⟨gt, ec, bl⟩ := Ac h
 refine Do ec [(1, _), (2, _), (3, _), (4, _), (6, _), (13, _), (17, _), (18, _), (19, _), (20, _), (21, _), (23, _), (25, _), (27, _), (123, _), (124, _), (125, _), (135, _), (136, _), (137, _), (168, _), (169, _)] ⟨I, I, I, I, I, I, I, I, I, I, I, I, I, I, I, I, I, I, I, I, I, I, J⟩ (fun (ag : Nat) (af : Li × Int) s ob => s = [(170, .V (ag : Int))] ∧ ob = [O2 g [Al n], O1 e [[Q2 af.1, .V af.2]], O0 j [Aa a.1], .us p 28 7 (([b, a.1, (⟨a.1.Name, a.1.From, a.1.To, a.1.Capacity, a.1.Resist, a.1.Wave, f.2.2⟩ : Sg)] : List Sg).map Aa), O0 w [Aa B.2], .us H 29 1 (([i, a.2.1, D.1] : List (List Piece)).map (rL 2 Aq)), .us U 3 1 (([t, P.1, O.1] : Li).map rI)]) ⟨I, I⟩ ⟨I, J⟩ ⟨[0, 1, 2, 3, 4, 5, 6], I, by decide⟩ ?_ ?_
 rintro ag af bm s ob cc ⟨rfl, rfl⟩ h cd
 unfold Mj.B12 at h
 have ed := Cr cc
 refine Ai I (Bs (s' := [(1, Q0 i), (2, Q1 E), (3, .V t), (4, .V A), (6, Q4 u), (13, .v (.pointer (some ⟨g, 0, none⟩))), (17, .v (.pointer (some ⟨e, 0, none⟩))), (18, .v (.pointer (some ⟨j, 0, none⟩))), (19, Q0 a.2.1), (20, Q1 a.2.2.1), (21, Q3 a.2.2.2.1), (23, .list 5 ((M.set F.1 G.1).map Ak)), (25, .v (.pointer (some ⟨w, 0, none⟩))), (27, Q0 ac.2), (123, .v p), (124, .V (([b, a.1, (⟨a.1.Name, a.1.From, a.1.To, a.1.Capacity, a.1.Resist, a.1.Wave, f.2.2⟩ : Sg)] : List Sg).length : Int)), (125, .V (Q : Int)), (135, .v H), (136, .V (([i, a.2.1, D.1] : List (List Piece)).length : Int)), (137, .V (aa : Int)), (168, .v U), (169, .V (([t, P.1, O.1] : Li).length : Int)), (170, .V (ag : Int)), (171, .v (.bool (decide ((ag : Int) < (([t, P.1, O.1] : Li).length : Int)))))]) (ob' := [O2 g [Al n], O1 e [[Q2 af.1, .V af.2]], O0 j [Aa a.1], .us p 28 7 (([b, a.1, (⟨a.1.Name, a.1.From, a.1.To, a.1.Capacity, a.1.Resist, a.1.Wave, f.2.2⟩ : Sg)] : List Sg).map Aa), O0 w [Aa B.2], .us H 29 1 (([i, a.2.1, D.1] : List (List Piece)).map (rL 2 Aq)), .us U 3 1 (([t, P.1, O.1] : Li).map rI)]) ⟨⟨I, I, I, I, I, I, I, I, I, I, I, I, I, I, I, I, I, I, I, I, I, I, I, I, J⟩, [0, 1, 2, 3, 4, 5, 6], I, by decide⟩ ?_)
 refine Ab fun gu ee => Bf I ed (gS ?_)
 subst ee
 refine Bs (s' := [(1, Q0 i), (2, Q1 E), (3, .V t), (4, .V A), (6, Q4 u), (13, .v (.pointer (some ⟨g, 0, none⟩))), (17, .v (.pointer (some ⟨e, 0, none⟩))), (18, .v (.pointer (some ⟨j, 0, none⟩))), (19, Q0 a.2.1), (20, Q1 a.2.2.1), (21, Q3 a.2.2.2.1), (23, .list 5 ((M.set F.1 G.1).map Ak)), (25, .v (.pointer (some ⟨w, 0, none⟩))), (27, Q0 ac.2), (123, .v p), (124, .V (([b, a.1, (⟨a.1.Name, a.1.From, a.1.To, a.1.Capacity, a.1.Resist, a.1.Wave, f.2.2⟩ : Sg)] : List Sg).length : Int)), (125, .V (Q : Int)), (135, .v H), (136, .V (([i, a.2.1, D.1] : List (List Piece)).length : Int)), (137, .V (aa : Int)), (168, .v U), (169, .V (([t, P.1, O.1] : Li).length : Int)), (170, .V (ag : Int))]) (ob' := [O2 g [Al n], O1 e [[Q2 af.1, .V af.2]], O0 j [Aa a.1], .us p 28 7 (([b, a.1, (⟨a.1.Name, a.1.From, a.1.To, a.1.Capacity, a.1.Resist, a.1.Wave, f.2.2⟩ : Sg)] : List Sg).map Aa), O0 w [Aa B.2], .us H 29 1 (([i, a.2.1, D.1] : List (List Piece)).map (rL 2 Aq)), .us U 3 1 (([t, P.1, O.1] : Li).map rI)]) ⟨⟨I, I, I, I, I, I, I, I, I, I, I, I, I, I, I, I, I, I, I, I, I, I, I, J⟩, [0, 1, 2, 3, 4, 5, 6], I, by decide⟩ ?_
 refine Aj (fun s ob => ∃ (bf : Li × Int), Mj.J13 bf = some bm ∧ s = [] ∧ ob = [O2 g [Al n], O1 e [[Q2 bf.1, .V bf.2]], O0 j [Aa a.1], .us p 28 7 (([b, a.1, (⟨a.1.Name, a.1.From, a.1.To, a.1.Capacity, a.1.Resist, a.1.Wave, f.2.2⟩ : Sg)] : List Sg).map Aa), O0 w [Aa B.2], .us H 29 1 (([i, a.2.1, D.1] : List (List Piece)).map (rL 2 Aq)), .us U 3 1 (([t, P.1, O.1] : Li).map rI)]) [(1, _), (2, _), (3, _), (4, _), (6, _), (13, _), (17, _), (18, _), (19, _), (20, _), (21, _), (23, _), (25, _), (27, _), (123, _), (124, _), (125, _), (135, _), (136, _), (137, _), (168, _), (169, _), (170, _)] ⟨I, I, I, I, I, I, I, I, I, I, I, I, I, I, I, I, I, I, I, I, I, I, I, J⟩ ?_ ?_
 refine gQ (Ab fun gv ef => ?_)
 obtain ⟨an, ⟨eg, ce⟩, h⟩ := A7 h
 refine gN (hF (Co 6 (m := an.1) I I I I I I I eg (Ag ce)) I (hF (Bx 6 an.1 0 I I I (Ag ce) I (y := .V an.2) I) I (Af 1 I (gO ?_))))
 subst ef
 refine Aj (fun s ob => ∃ (ae : Li × Int), Mj.J14 E n M F G B ac an ae = some bm ∧ s = [] ∧ ob = [O2 g [Al n], O1 e [[Q2 ae.1, .V ae.2]], O0 j [Aa a.1], .us p 28 7 (([b, a.1, (⟨a.1.Name, a.1.From, a.1.To, a.1.Capacity, a.1.Resist, a.1.Wave, f.2.2⟩ : Sg)] : List Sg).map Aa), O0 w [Aa B.2], .us H 29 1 (([i, a.2.1, D.1] : List (List Piece)).map (rL 2 Aq)), .us U 3 1 (([t, P.1, O.1] : Li).map rI)]) [(1, _), (2, _), (3, _), (4, _), (6, _), (13, _), (17, _), (18, _), (19, _), (20, _), (21, _), (23, _), (25, _), (27, _), (33, _), (123, _), (124, _), (125, _), (135, _), (136, _), (137, _), (168, _), (169, _), (170, _)] ⟨I, I, I, I, I, I, I, I, I, I, I, I, I, I, I, I, I, I, I, I, I, I, I, I, J⟩ ?_ ?_
 refine Ab fun gw eh => ?_
 obtain ⟨W, ei, h⟩ := Ac h
 refine Ca (.still 0 (.still 1 (.still 3 (.still 6 (.act 2 (.act 4 (.act 5 .nil))))))) [0] [_] I (Cg 2 [.o 0 0] I J1 (gZ I (A4 (l := [.V 1125899906842624, .V 1125899906842625]) C8 I) I (Bb 1 I (gV [1] I I I (Bz [1] (P6 e _ _ ei) ?_)))))
 refine gV [] I I I (gX (sz := 2) (es := ([n, W.1, (⟨1125899906842624, 1125899906842625⟩ : Bounds)] : List Bounds).map Al) I I I I I I I I I I I dS fun ao => gV [] I I I (Cl (Da 7 I I I I) dS (Ax (gO ?_))))
 subst eh
 refine gQ (Lk 7 I fun ej => ?_)
 obtain ⟨gx, ek, cf⟩ := Ac h
 refine Do ek [(1, _), (2, _), (3, _), (4, _), (6, _), (13, _), (17, _), (18, _), (19, _), (20, _), (21, _), (23, _), (25, _), (27, _), (33, _), (123, _), (124, _), (125, _), (135, _), (136, _), (137, _), (168, _), (169, _), (170, _), (178, _), (179, _)] ⟨I, I, I, I, I, I, I, I, I, I, I, I, I, I, I, I, I, I, I, I, I, I, I, I, I, I, J⟩ (fun (av : Nat) (ci : Unit) s ob => s = [(180, .V (av : Int))] ∧ ob = [O2 g [Al n], O1 e [A3 W.2], O0 j [Aa a.1], .us p 28 7 (([b, a.1, (⟨a.1.Name, a.1.From, a.1.To, a.1.Capacity, a.1.Resist, a.1.Wave, f.2.2⟩ : Sg)] : List Sg).map Aa), O0 w [Aa B.2], .us H 29 1 (([i, a.2.1, D.1] : List (List Piece)).map (rL 2 Aq)), .us U 3 1 (([t, P.1, O.1] : Li).map rI), .us ao 37 2 (([n, W.1, (⟨1125899906842624, 1125899906842625⟩ : Bounds)] : List Bounds).map Al)]) ⟨I, I⟩ ⟨I, J⟩ ⟨[0, 1, 2, 3, 4, 5, 6, 7], I, by decide⟩ ?_ ?_
 rintro av ci el s ob cj ⟨rfl, rfl⟩ h em
 have en := Cr cj
 refine Ai I (Bs (s' := [(1, Q0 i), (2, Q1 E), (3, .V t), (4, .V A), (6, Q4 u), (13, .v (.pointer (some ⟨g, 0, none⟩))), (17, .v (.pointer (some ⟨e, 0, none⟩))), (18, .v (.pointer (some ⟨j, 0, none⟩))), (19, Q0 a.2.1), (20, Q1 a.2.2.1), (21, Q3 a.2.2.2.1), (23, .list 5 ((M.set F.1 G.1).map Ak)), (25, .v (.pointer (some ⟨w, 0, none⟩))), (27, Q0 ac.2), (33, .V an.2), (123, .v p), (124, .V (([b, a.1, (⟨a.1.Name, a.1.From, a.1.To, a.1.Capacity, a.1.Resist, a.1.Wave, f.2.2⟩ : Sg)] : List Sg).length : Int)), (125, .V (Q : Int)), (135, .v H), (136, .V (([i, a.2.1, D.1] : List (List Piece)).length : Int)), (137, .V (aa : Int)), (168, .v U), (169, .V (([t, P.1, O.1] : Li).length : Int)), (170, .V (ag : Int)), (178, .v ao), (179, .V (([n, W.1, (⟨1125899906842624, 1125899906842625⟩ : Bounds)] : List Bounds).length : Int)), (180, .V (av : Int)), (181, .v (.bool (decide ((av : Int) < (([n, W.1, (⟨1125899906842624, 1125899906842625⟩ : Bounds)] : List Bounds).length : Int)))))]) (ob' := [O2 g [Al n], O1 e [A3 W.2], O0 j [Aa a.1], .us p 28 7 (([b, a.1, (⟨a.1.Name, a.1.From, a.1.To, a.1.Capacity, a.1.Resist, a.1.Wave, f.2.2⟩ : Sg)] : List Sg).map Aa), O0 w [Aa B.2], .us H 29 1 (([i, a.2.1, D.1] : List (List Piece)).map (rL 2 Aq)), .us U 3 1 (([t, P.1, O.1] : Li).map rI), .us ao 37 2 (([n, W.1, (⟨1125899906842624, 1125899906842625⟩ : Bounds)] : List Bounds).map Al)]) ⟨⟨I, I, I, I, I, I, I, I, I, I, I, I, I, I, I, I, I, I, I, I, I, I, I, I, I, I, I, I, J⟩, [0, 1, 2, 3, 4, 5, 6, 7], I, by decide⟩ ?_)
 refine Ab fun gy eo => Bf I en (gS ?_)
 subst eo
 refine Bs (s' := [(1, Q0 i), (2, Q1 E), (3, .V t), (4, .V A), (6, Q4 u), (13, .v (.pointer (some ⟨g, 0, none⟩))), (17, .v (.pointer (some ⟨e, 0, none⟩))), (18, .v (.pointer (some ⟨j, 0, none⟩))), (19, Q0 a.2.1), (20, Q1 a.2.2.1), (21, Q3 a.2.2.2.1), (23, .list 5 ((M.set F.1 G.1).map Ak)), (25, .v (.pointer (some ⟨w, 0, none⟩))), (27, Q0 ac.2), (33, .V an.2), (123, .v p), (124, .V (([b, a.1, (⟨a.1.Name, a.1.From, a.1.To, a.1.Capacity, a.1.Resist, a.1.Wave, f.2.2⟩ : Sg)] : List Sg).length : Int)), (125, .V (Q : Int)), (135, .v H), (136, .V (([i, a.2.1, D.1] : List (List Piece)).length : Int)), (137, .V (aa : Int)), (168, .v U), (169, .V (([t, P.1, O.1] : Li).length : Int)), (170, .V (ag : Int)), (178, .v ao), (179, .V (([n, W.1, (⟨1125899906842624, 1125899906842625⟩ : Bounds)] : List Bounds).length : Int)), (180, .V (av : Int))]) (ob' := [O2 g [Al n], O1 e [A3 W.2], O0 j [Aa a.1], .us p 28 7 (([b, a.1, (⟨a.1.Name, a.1.From, a.1.To, a.1.Capacity, a.1.Resist, a.1.Wave, f.2.2⟩ : Sg)] : List Sg).map Aa), O0 w [Aa B.2], .us H 29 1 (([i, a.2.1, D.1] : List (List Piece)).map (rL 2 Aq)), .us U 3 1 (([t, P.1, O.1] : Li).map rI), .us ao 37 2 (([n, W.1, (⟨1125899906842624, 1125899906842625⟩ : Bounds)] : List Bounds).map Al)]) ⟨⟨I, I, I, I, I, I, I, I, I, I, I, I, I, I, I, I, I, I, I, I, I, I, I, I, I, I, I, J⟩, [0, 1, 2, 3, 4, 5, 6, 7], I, by decide⟩ ?_
 refine gR (gQ (Ab fun gz ep => ?_))
 obtain ⟨bg, ⟨eq, ck⟩, h⟩ := A7 h
 refine gN (hF (Co 7 (m := bg.1) I I I I I I I eq (Ag ck)) I (hF (Bx 7 bg.1 0 I I I (Ag ck) I (y := .agg (Al bg.2)) I) I (gP [] I (Bl [.V 0, .V 0] 2 fun g1 => gP [8] I (Bc 8 0 0 [Al bg.2] I (gO ?_))))))
 subst ep
 refine Ab fun g2 er => ?_
 obtain ⟨et, eu, h⟩ := Ac h
 refine gN (Ao 6 [.o 0 4, .o 5 8] I J2 (gP [] I (A5 I I I (Dj _ _ _ _ _ _ _ eu) dS ?_)))
 rintro _ _ ⟨g3, rfl, rfl⟩
 refine Af 5 I (gO ?_)
 subst er
 refine Ab fun g4 ev => ?_
 obtain ⟨ew, ex, h⟩ := Ac h
 refine gN (Ao 6 [.o 0 4, .o 5 8] I J2 (gP [] I (A5 I I I (Lf _ _ _ _ _ _ _ ex) dS ?_)))
 rintro _ _ ⟨g5, rfl, rfl⟩
 refine Af 5 I (gO ?_)
 subst ev
 refine Aj (fun s ob => ∃ (bn : Bool), Mj.J17 bn = some el ∧ s = [(212, .v (.bool bn))] ∧ ob = [O2 g [Al n], O1 e [A3 W.2], O0 j [Aa a.1], .us p 28 7 (([b, a.1, (⟨a.1.Name, a.1.From, a.1.To, a.1.Capacity, a.1.Resist, a.1.Wave, f.2.2⟩ : Sg)] : List Sg).map Aa), O0 w [Aa B.2], .us H 29 1 (([i, a.2.1, D.1] : List (List Piece)).map (rL 2 Aq)), .us U 3 1 (([t, P.1, O.1] : Li).map rI), .us ao 37 2 (([n, W.1, (⟨1125899906842624, 1125899906842625⟩ : Bounds)] : List Bounds).map Al)]) [(1, _), (2, _), (3, _), (4, _), (6, _), (13, _), (17, _), (18, _), (19, _), (20, _), (21, _), (23, _), (25, _), (27, _), (33, _), (123, _), (124, _), (125, _), (135, _), (136, _), (137, _), (168, _), (169, _), (170, _), (178, _), (179, _), (180, _)] ⟨I, I, I, I, I, I, I, I, I, I, I, I, I, I, I, I, I, I, I, I, I, I, I, I, I, I, I, J⟩ ?_ ?_
 obtain ⟨ey, cl, h⟩ := Ac h
 rcases bt ((!ey)) with a2 | a2
 have h := Bp a2 h
 refine gN (Af 2 I (gP [] I (By I (.refl _) I I (.cons (.us 9 I) (.cons (.us 10 I) (.rest _))) I (Ez _ _ _ cl) dS (by rintro _ _ ⟨rfl, _⟩; rfl) ?_)))
 rintro _ ⟨_, rfl, -⟩
 exact Af 2 I (Ae 208 I a2 (Af 4 I (gO (lg ⟨true, h, I2⟩ [0, 1, 2, 3, 4, 5, 6, 7]))))
 have h := Bq a2 h
 refine gN (Af 2 I (gP [] I (By I (.refl _) I I (.cons (.us 9 I) (.cons (.us 10 I) (.rest _))) I (Ez _ _ _ cl) dS (by rintro _ _ ⟨rfl, _⟩; rfl) ?_)))
 rintro _ ⟨_, rfl, -⟩
 exact Af 2 I (Ae 208 I a2 (Af 4 I (gO (lg ⟨(et.2 != ew.2), h, I2⟩ [0, 1, 2, 3, 4, 5, 6, 7]))))
 rintro s ob ⟨bn, h, rfl, rfl⟩
 refine Ar h I ?_ ?_
 intro ez h
 refine Ai I ?_
 obtain rfl := em _ (oi h).symm
 have h := cf
 have h := Cq h
 obtain rfl := cd _ (oi h).symm
 have h := bl
 have h := Cq h
 obtain rfl := bj _ (oi h).symm
 have h := bd
 have h := Cq h
 obtain rfl := ba _ (oi h).symm
 have h := a0
 have h := Cq h
 refine gU g0 ?_
 cases io h
 exact gT pr
 intro ez h
 refine gS (gN (Ao 2 [.k 0 (av + 1 : Nat)] I ⟨Az cj ej, J⟩ ?_))
 cases io h
 exact gO ⟨_, _, _, I, I2, ⟨I, I, I, I, I, I, I, I, I, I, I, I, I, I, I, I, I, I, I, I, I, I, I, I, I, I, I, J⟩, [0, 1, 2, 3, 4, 5, 6, 7], I, by decide⟩
 rintro ci s ob ⟨rfl, rfl⟩ he
 subst he
 have h := C0 cf
 have e0 := Cs (([n, W.1, (⟨1125899906842624, 1125899906842625⟩ : Bounds)] : List Bounds).length)
 refine Ai I (Bs (s' := [(1, Q0 i), (2, Q1 E), (3, .V t), (4, .V A), (6, Q4 u), (13, .v (.pointer (some ⟨g, 0, none⟩))), (17, .v (.pointer (some ⟨e, 0, none⟩))), (18, .v (.pointer (some ⟨j, 0, none⟩))), (19, Q0 a.2.1), (20, Q1 a.2.2.1), (21, Q3 a.2.2.2.1), (23, .list 5 ((M.set F.1 G.1).map Ak)), (25, .v (.pointer (some ⟨w, 0, none⟩))), (27, Q0 ac.2), (33, .V an.2), (123, .v p), (124, .V (([b, a.1, (⟨a.1.Name, a.1.From, a.1.To, a.1.Capacity, a.1.Resist, a.1.Wave, f.2.2⟩ : Sg)] : List Sg).length : Int)), (125, .V (Q : Int)), (135, .v H), (136, .V (([i, a.2.1, D.1] : List (List Piece)).length : Int)), (137, .V (aa : Int)), (168, .v U), (169, .V (([t, P.1, O.1] : Li).length : Int)), (170, .V (ag : Int)), (178, .v ao), (179, .V (([n, W.1, (⟨1125899906842624, 1125899906842625⟩ : Bounds)] : List Bounds).length : Int)), (180, .V ((([n, W.1, (⟨1125899906842624, 1125899906842625⟩ : Bounds)] : List Bounds).length : Nat) : Int)), (181, .v (.bool (decide (((([n, W.1, (⟨1125899906842624, 1125899906842625⟩ : Bounds)] : List Bounds).length : Nat) : Int) < (([n, W.1, (⟨1125899906842624, 1125899906842625⟩ : Bounds)] : List Bounds).length : Int)))))]) (ob' := [O2 g [Al n], O1 e [A3 W.2], O0 j [Aa a.1], .us p 28 7 (([b, a.1, (⟨a.1.Name, a.1.From, a.1.To, a.1.Capacity, a.1.Resist, a.1.Wave, f.2.2⟩ : Sg)] : List Sg).map Aa), O0 w [Aa B.2], .us H 29 1 (([i, a.2.1, D.1] : List (List Piece)).map (rL 2 Aq)), .us U 3 1 (([t, P.1, O.1] : Li).map rI), .us ao 37 2 (([n, W.1, (⟨1125899906842624, 1125899906842625⟩ : Bounds)] : List Bounds).map Al)]) ⟨⟨I, I, I, I, I, I, I, I, I, I, I, I, I, I, I, I, I, I, I, I, I, I, I, I, I, I, I, I, J⟩, [0, 1, 2, 3, 4, 5, 6, 7], I, by decide⟩ ?_)
 exact Ab fun g6 g7 => Bg I e0 (gW (lg ⟨(W.2.L_, W.2.At), h, I2⟩ [0, 1, 2, 3, 4, 5, 6]))
 rintro s ob ⟨ae, h, rfl, rfl⟩
 refine Ab fun g8 e1 => ?_
 obtain ⟨a3, e2, h⟩ := Ac h
 refine gN (Ao 6 [.o 0 4, .o 5 0] I J2 (gP [] I (A5 I I I (Dj _ _ _ _ _ _ _ e2) dS ?_)))
 rintro _ _ ⟨bh, rfl, rfl⟩
 refine Af 5 I (gO ?_)
 subst e1
 refine Bs (s' := [(1, Q0 i), (2, Q1 E), (3, .V t), (4, .V A), (6, Q4 u), (13, .v (.pointer (some ⟨g, 0, none⟩))), (17, .v (.pointer (some ⟨e, 0, none⟩))), (18, .v (.pointer (some ⟨j, 0, none⟩))), (19, Q0 a.2.1), (20, Q1 a.2.2.1), (21, Q3 a.2.2.2.1), (23, .list 5 ((M.set F.1 G.1).map Ak)), (25, .v (.pointer (some ⟨w, 0, none⟩))), (27, Q0 ac.2), (33, .V an.2), (40, .v bh), (41, .V a3.2), (123, .v p), (124, .V (([b, a.1, (⟨a.1.Name, a.1.From, a.1.To, a.1.Capacity, a.1.Resist, a.1.Wave, f.2.2⟩ : Sg)] : List Sg).length : Int)), (125, .V (Q : Int)), (135, .v H), (136, .V (([i, a.2.1, D.1] : List (List Piece)).length : Int)), (137, .V (aa : Int)), (168, .v U), (169, .V (([t, P.1, O.1] : Li).length : Int)), (170, .V (ag : Int))]) (ob' := [O2 g [Al n], O1 e [[Q2 ae.1, .V ae.2]], O0 j [Aa a.1], .us p 28 7 (([b, a.1, (⟨a.1.Name, a.1.From, a.1.To, a.1.Capacity, a.1.Resist, a.1.Wave, f.2.2⟩ : Sg)] : List Sg).map Aa), O0 w [Aa B.2], .us H 29 1 (([i, a.2.1, D.1] : List (List Piece)).map (rL 2 Aq)), .us U 3 1 (([t, P.1, O.1] : Li).map rI), U2 bh a3.1]) ⟨⟨I, I, I, I, I, I, I, I, I, I, I, I, I, I, I, I, I, I, I, I, I, I, I, I, I, I, J⟩, [0, 1, 2, 3, 4, 5, 6, 7], I, by decide⟩ ?_
 refine Ab fun g9 e3 => ?_
 obtain ⟨bo, e4, h⟩ := Ac h
 refine gN (Ao 6 [.o 0 4, .o 5 0] I J2 (gP [] I (A5 I I I (Lf _ _ _ _ _ _ _ e4) dS ?_)))
 rintro _ _ ⟨cm, rfl, rfl⟩
 refine Af 5 I (gO ?_)
 subst e3
 refine Bs (s' := [(1, Q0 i), (2, Q1 E), (3, .V t), (4, .V A), (6, Q4 u), (13, .v (.pointer (some ⟨g, 0, none⟩))), (17, .v (.pointer (some ⟨e, 0, none⟩))), (18, .v (.pointer (some ⟨j, 0, none⟩))), (19, Q0 a.2.1), (20, Q1 a.2.2.1), (21, Q3 a.2.2.2.1), (23, .list 5 ((M.set F.1 G.1).map Ak)), (25, .v (.pointer (some ⟨w, 0, none⟩))), (27, Q0 ac.2), (40, .v bh), (41, .V a3.2), (42, .v cm), (43, .V bo.2), (123, .v p), (124, .V (([b, a.1, (⟨a.1.Name, a.1.From, a.1.To, a.1.Capacity, a.1.Resist, a.1.Wave, f.2.2⟩ : Sg)] : List Sg).length : Int)), (125, .V (Q : Int)), (135, .v H), (136, .V (([i, a.2.1, D.1] : List (List Piece)).length : Int)), (137, .V (aa : Int)), (168, .v U), (169, .V (([t, P.1, O.1] : Li).length : Int)), (170, .V (ag : Int))]) (ob' := [O2 g [Al n], O1 e [[Q2 ae.1, .V ae.2]], O0 j [Aa a.1], .us p 28 7 (([b, a.1, (⟨a.1.Name, a.1.From, a.1.To, a.1.Capacity, a.1.Resist, a.1.Wave, f.2.2⟩ : Sg)] : List Sg).map Aa), O0 w [Aa B.2], .us H 29 1 (([i, a.2.1, D.1] : List (List Piece)).map (rL 2 Aq)), .us U 3 1 (([t, P.1, O.1] : Li).map rI), U2 bh a3.1, U2 cm bo.1]) ⟨⟨I, I, I, I, I, I, I, I, I, I, I, I, I, I, I, I, I, I, I, I, I, I, I, I, I, I, I, J⟩, [0, 1, 2, 3, 4, 5, 6, 7, 8], I, by decide⟩ ?_
 refine Aj (fun s ob => ∃ (bp : Bool), Mj.J15 ae bp = some bm ∧ s = [(242, .v (.bool bp))] ∧ ob = [O2 g [Al n], O1 e [[Q2 ae.1, .V ae.2]], O0 j [Aa a.1], .us p 28 7 (([b, a.1, (⟨a.1.Name, a.1.From, a.1.To, a.1.Capacity, a.1.Resist, a.1.Wave, f.2.2⟩ : Sg)] : List Sg).map Aa), O0 w [Aa B.2], .us H 29 1 (([i, a.2.1, D.1] : List (List Piece)).map (rL 2 Aq)), .us U 3 1 (([t, P.1, O.1] : Li).map rI)]) [(1, _), (2, _), (3, _), (4, _), (6, _), (13, _), (17, _), (18, _), (19, _), (20, _), (21, _), (23, _), (25, _), (27, _), (123, _), (124, _), (125, _), (135, _), (136, _), (137, _), (168, _), (169, _), (170, _)] ⟨I, I, I, I, I, I, I, I, I, I, I, I, I, I, I, I, I, I, I, I, I, I, I, J⟩ ?_ ?_
 obtain ⟨e5, cn, h⟩ := Ac h
 rcases bt ((!e5)) with a4 | a4
 have h := Bp a4 h
 refine gN (Af 2 I (gP [] I (By I (.refl _) I I (.cons (.us 7 I) (.cons (.us 8 I) (.rest _))) I (Ez _ _ _ cn) dS (by rintro _ _ ⟨rfl, _⟩; rfl) ?_)))
 rintro _ ⟨_, rfl, -⟩
 exact Af 2 I (Ae 238 I a4 (Af 4 I (gO (lg ⟨true, h, I2⟩ [0, 1, 2, 3, 4, 5, 6]))))
 have h := Bq a4 h
 refine gN (Af 2 I (gP [] I (By I (.refl _) I I (.cons (.us 7 I) (.cons (.us 8 I) (.rest _))) I (Ez _ _ _ cn) dS (by rintro _ _ ⟨rfl, _⟩; rfl) ?_)))
 rintro _ ⟨_, rfl, -⟩
 exact Af 2 I (Ae 238 I a4 (Af 4 I (gO (lg ⟨(a3.2 != bo.2), h, I2⟩ [0, 1, 2, 3, 4, 5, 6]))))
 rintro s ob ⟨bp, h, rfl, rfl⟩
 refine Ar h I ?_ ?_
 intro e6 h
 refine Ai I ?_
 obtain rfl := cd _ (oi h).symm
 have h := bl
 have h := Cq h
 obtain rfl := bj _ (oi h).symm
 have h := bd
 have h := Cq h
 obtain rfl := ba _ (oi h).symm
 have h := a0
 have h := Cq h
 refine gU g0 ?_
 cases io h
 exact gT pr
 intro e6 h
 exact gS (lg ⟨(ae.1, ae.2), h, I2⟩ [0, 1, 2, 3, 4, 5, 6])
 rintro s ob ⟨bf, h, rfl, rfl⟩
 unfold Mj.J13 at h
 refine gN (Ao 2 [.k 0 (ag + 1 : Nat)] I ⟨Az cc eb, J⟩ ?_)
 cases io h
 exact gO ⟨_, _, _, I, I2, ⟨I, I, I, I, I, I, I, I, I, I, I, I, I, I, I, I, I, I, I, I, I, I, I, J⟩, [0, 1, 2, 3, 4, 5, 6], I, by decide⟩
 rintro af s ob ⟨rfl, rfl⟩ he
 subst he
 have h := C0 bl
 have e7 := Cs (([t, P.1, O.1] : Li).length)
 refine Ai I (Bs (s' := [(1, Q0 i), (2, Q1 E), (3, .V t), (4, .V A), (6, Q4 u), (13, .v (.pointer (some ⟨g, 0, none⟩))), (17, .v (.pointer (some ⟨e, 0, none⟩))), (18, .v (.pointer (some ⟨j, 0, none⟩))), (19, Q0 a.2.1), (20, Q1 a.2.2.1), (21, Q3 a.2.2.2.1), (23, .list 5 ((M.set F.1 G.1).map Ak)), (25, .v (.pointer (some ⟨w, 0, none⟩))), (27, Q0 ac.2), (123, .v p), (124, .V (([b, a.1, (⟨a.1.Name, a.1.From, a.1.To, a.1.Capacity, a.1.Resist, a.1.Wave, f.2.2⟩ : Sg)] : List Sg).length : Int)), (125, .V (Q : Int)), (135, .v H), (136, .V (([i, a.2.1, D.1] : List (List Piece)).length : Int)), (137, .V (aa : Int)), (168, .v U), (169, .V (([t, P.1, O.1] : Li).length : Int)), (170, .V ((([t, P.1, O.1] : Li).length : Nat) : Int)), (171, .v (.bool (decide (((([t, P.1, O.1] : Li).length : Nat) : Int) < (([t, P.1, O.1] : Li).length : Int)))))]) (ob' := [O2 g [Al n], O1 e [[Q2 af.1, .V af.2]], O0 j [Aa a.1], .us p 28 7 (([b, a.1, (⟨a.1.Name, a.1.From, a.1.To, a.1.Capacity, a.1.Resist, a.1.Wave, f.2.2⟩ : Sg)] : List Sg).map Aa), O0 w [Aa B.2], .us H 29 1 (([i, a.2.1, D.1] : List (List Piece)).map (rL 2 Aq)), .us U 3 1 (([t, P.1, O.1] : Li).map rI)]) ⟨⟨I, I, I, I, I, I, I, I, I, I, I, I, I, I, I, I, I, I, I, I, I, I, I, I, J⟩, [0, 1, 2, 3, 4, 5, 6], I, by decide⟩ ?_)
 exact Ab fun ha hb => Bg I e7 (gW (lg ⟨(af.1, af.2), h, I2⟩ [0, 1, 2, 3, 4, 5]))
 rintro s ob ⟨be, h, rfl, rfl⟩
 unfold Mj.J10 at h
 refine gN (Ao 2 [.k 0 (aa + 1 : Nat)] I ⟨Az b9 dt, J⟩ ?_)
 cases io h
 exact gO ⟨_, _, _, I, I2, ⟨I, I, I, I, I, I, I, I, I, I, I, I, I, I, I, I, I, I, I, J⟩, [0, 1, 2, 3, 4, 5], I, by decide⟩
 rintro Y s ob ⟨rfl, rfl⟩ he
 subst he
 have h := C0 bd
 have e8 := Cs (([i, a.2.1, D.1] : List (List Piece)).length)
 refine Ai I (Bs (s' := [(1, Q0 i), (2, Q1 E), (3, .V t), (4, .V A), (6, Q4 u), (13, .v (.pointer (some ⟨g, 0, none⟩))), (17, .v (.pointer (some ⟨e, 0, none⟩))), (18, .v (.pointer (some ⟨j, 0, none⟩))), (19, Q0 a.2.1), (20, Q1 a.2.2.1), (21, Q3 a.2.2.2.1), (23, .list 5 ((M.set F.1 G.1).map Ak)), (25, .v (.pointer (some ⟨w, 0, none⟩))), (123, .v p), (124, .V (([b, a.1, (⟨a.1.Name, a.1.From, a.1.To, a.1.Capacity, a.1.Resist, a.1.Wave, f.2.2⟩ : Sg)] : List Sg).length : Int)), (125, .V (Q : Int)), (135, .v H), (136, .V (([i, a.2.1, D.1] : List (List Piece)).length : Int)), (137, .V ((([i, a.2.1, D.1] : List (List Piece)).length : Nat) : Int)), (138, .v (.bool (decide (((([i, a.2.1, D.1] : List (List Piece)).length : Nat) : Int) < (([i, a.2.1, D.1] : List (List Piece)).length : Int)))))]) (ob' := [O2 g [Al n], O1 e [[Q2 Y.1, .V Y.2]], O0 j [Aa a.1], .us p 28 7 (([b, a.1, (⟨a.1.Name, a.1.From, a.1.To, a.1.Capacity, a.1.Resist, a.1.Wave, f.2.2⟩ : Sg)] : List Sg).map Aa), O0 w [Aa B.2], .us H 29 1 (([i, a.2.1, D.1] : List (List Piece)).map (rL 2 Aq))]) ⟨⟨I, I, I, I, I, I, I, I, I, I, I, I, I, I, I, I, I, I, I, I, J⟩, [0, 1, 2, 3, 4, 5], I, by decide⟩ ?_)
 exact Ab fun hc hd => Bg I e8 (gW (lg ⟨(Y.1, Y.2), h, I2⟩ [0, 1, 2, 3, 4]))
 rintro s ob ⟨bc, h, rfl, rfl⟩
 refine Ab fun hf e9 => ?_
 obtain ⟨ad, fa, h⟩ := Ac h
 obtain ⟨R, fb, h⟩ := Ac h
 refine Ca (pd 12 0 [5, 6]) [2] [_] I (Cg 5 [.o 0 0] I J1 (gV [1] I I I (Bz [1] (P6 e _ _ fa) ?_)))
 refine gV [] I I I (A5 I I I (Lf _ _ _ _ _ _ _ fb) dS ?_)
 rintro _ _ ⟨a5, rfl, rfl⟩
 refine Bb 5 I (Ax (gO ?_))
 subst e9
 refine Bs (s' := [(1, Q0 i), (2, Q1 E), (3, .V t), (4, .V A), (6, Q4 u), (13, .v (.pointer (some ⟨g, 0, none⟩))), (17, .v (.pointer (some ⟨e, 0, none⟩))), (18, .v (.pointer (some ⟨j, 0, none⟩))), (19, Q0 a.2.1), (20, Q1 a.2.2.1), (21, Q3 a.2.2.2.1), (23, .list 5 ((M.set F.1 G.1).map Ak)), (25, .v (.pointer (some ⟨w, 0, none⟩))), (44, .v a5), (123, .v p), (124, .V (([b, a.1, (⟨a.1.Name, a.1.From, a.1.To, a.1.Capacity, a.1.Resist, a.1.Wave, f.2.2⟩ : Sg)] : List Sg).length : Int)), (125, .V (Q : Int))]) (ob' := [O2 g [Al n], O1 e [A3 ad.2], O0 j [Aa a.1], .us p 28 7 (([b, a.1, (⟨a.1.Name, a.1.From, a.1.To, a.1.Capacity, a.1.Resist, a.1.Wave, f.2.2⟩ : Sg)] : List Sg).map Aa), O0 w [Aa B.2], U2 a5 R.1]) ⟨⟨I, I, I, I, I, I, I, I, I, I, I, I, I, I, I, I, I, J⟩, [0, 1, 2, 3, 4, 5], I, by decide⟩ (Ab fun hg fc => ?_)
 obtain ⟨hh, co, h⟩ := Ac h
 obtain ⟨S, fd, h⟩ := Ac h
 refine gN (gP [] I (gX (sz := 3) (es := ([] : List Level).map Ay) I I I I I I I I I I I dS fun hi => Af 1 I (gP [6] I (Ja 6 I I I I I I I I I (Of 5 I I) (Uy (F3 co).1) (Ux (F3 co).2) dS fun hj => Af 1 I (gP [6] I (Dd 6 I fd fun bq => Af 1 I (gO ?_)))))))
 subst fc
 refine Bs (s' := [(1, Q0 i), (2, Q1 E), (3, .V t), (4, .V A), (6, Q4 u), (13, .v (.pointer (some ⟨g, 0, none⟩))), (17, .v (.pointer (some ⟨e, 0, none⟩))), (18, .v (.pointer (some ⟨j, 0, none⟩))), (19, Q0 a.2.1), (20, Q1 a.2.2.1), (21, Q3 a.2.2.2.1), (23, .list 5 ((M.set F.1 G.1).map Ak)), (25, .v (.pointer (some ⟨w, 0, none⟩))), (44, .v a5), (46, .v bq), (123, .v p), (124, .V (([b, a.1, (⟨a.1.Name, a.1.From, a.1.To, a.1.Capacity, a.1.Resist, a.1.Wave, f.2.2⟩ : Sg)] : List Sg).length : Int)), (125, .V (Q : Int))]) (ob' := [O2 g [Al n], O1 e [A3 ad.2], O0 j [Aa a.1], .us p 28 7 (([b, a.1, (⟨a.1.Name, a.1.From, a.1.To, a.1.Capacity, a.1.Resist, a.1.Wave, f.2.2⟩ : Sg)] : List Sg).map Aa), O0 w [Aa B.2], U2 a5 R.1, U2 bq S]) ⟨⟨I, I, I, I, I, I, I, I, I, I, I, I, I, I, I, I, I, I, J⟩, [0, 1, 2, 3, 4, 5, 6], I, by decide⟩ (Ab fun hk fe => gN (Af 3 I (AO.ghost (Ba [5, 6] (K := [U2 a5 R.1, U2 bq S]) I [(44, Q4 R.1), (46, Q4 S), (261, Q4 R.1), (262, Q4 S)] ⟨⟨_, I, .us 0 I⟩, ⟨_, I, .us 1 I⟩, ⟨_, I, .us 0 I⟩, ⟨_, I, .us 1 I⟩, J⟩ (ob' := [O2 g [Al n], O1 e [A3 ad.2], O0 j [Aa a.1], .us p 28 7 (([b, a.1, (⟨a.1.Name, a.1.From, a.1.To, a.1.Capacity, a.1.Resist, a.1.Wave, f.2.2⟩ : Sg)] : List Sg).map Aa), O0 w [Aa B.2]]) (.rest _)) ?_)))
 refine gP [] I (gX (sz := 1) (es := ([u, R.1, S] : List (List Level)).map (rL 3 Ay)) I I I I I I I I I I I dS fun Z => hF (Da 5 I I I I) I (Af 1 I (gO ?_)))
 subst fe
 refine Bs (s' := [(1, Q0 i), (2, Q1 E), (3, .V t), (4, .V A), (6, Q4 u), (13, .v (.pointer (some ⟨g, 0, none⟩))), (17, .v (.pointer (some ⟨e, 0, none⟩))), (18, .v (.pointer (some ⟨j, 0, none⟩))), (19, Q0 a.2.1), (20, Q1 a.2.2.1), (21, Q3 a.2.2.2.1), (23, .list 5 ((M.set F.1 G.1).map Ak)), (25, .v (.pointer (some ⟨w, 0, none⟩))), (123, .v p), (124, .V (([b, a.1, (⟨a.1.Name, a.1.From, a.1.To, a.1.Capacity, a.1.Resist, a.1.Wave, f.2.2⟩ : Sg)] : List Sg).length : Int)), (125, .V (Q : Int)), (263, .v Z), (264, .V (([u, R.1, S] : List (List Level)).length : Int)), (265, .V 0)]) (ob' := [O2 g [Al n], O1 e [A3 ad.2], O0 j [Aa a.1], .us p 28 7 (([b, a.1, (⟨a.1.Name, a.1.From, a.1.To, a.1.Capacity, a.1.Resist, a.1.Wave, f.2.2⟩ : Sg)] : List Sg).map Aa), O0 w [Aa B.2], .us Z 38 1 (([u, R.1, S] : List (List Level)).map (rL 3 Ay))]) ⟨⟨I, I, I, I, I, I, I, I, I, I, I, I, I, I, I, I, I, I, I, J⟩, [0, 1, 2, 3, 4, 5], I, by decide⟩ (gQ (Lk 5 I fun ff => ?_))
 obtain ⟨hl, fg, cp⟩ := Ac h
 refine Do fg [(1, _), (2, _), (3, _), (4, _), (6, _), (13, _), (17, _), (18, _), (19, _), (20, _), (21, _), (23, _), (25, _), (123, _), (124, _), (125, _), (263, _), (264, _)] ⟨I, I, I, I, I, I, I, I, I, I, I, I, I, I, I, I, I, I, J⟩ (fun (aj : Nat) (cq : Unit) s ob => s = [(265, .V (aj : Int))] ∧ ob = [O2 g [Al n], O1 e [A3 ad.2], O0 j [Aa a.1], .us p 28 7 (([b, a.1, (⟨a.1.Name, a.1.From, a.1.To, a.1.Capacity, a.1.Resist, a.1.Wave, f.2.2⟩ : Sg)] : List Sg).map Aa), O0 w [Aa B.2], .us Z 38 1 (([u, R.1, S] : List (List Level)).map (rL 3 Ay))]) ⟨I, I⟩ ⟨I, J⟩ ⟨[0, 1, 2, 3, 4, 5], I, by decide⟩ ?_ ?_
 rintro aj cq fh s ob cr ⟨rfl, rfl⟩ h fi
 unfold Mj.B6 at h
 have fj := Cr cr
 refine Ai I (Bs (s' := [(1, Q0 i), (2, Q1 E), (3, .V t), (4, .V A), (6, Q4 u), (13, .v (.pointer (some ⟨g, 0, none⟩))), (17, .v (.pointer (some ⟨e, 0, none⟩))), (18, .v (.pointer (some ⟨j, 0, none⟩))), (19, Q0 a.2.1), (20, Q1 a.2.2.1), (21, Q3 a.2.2.2.1), (23, .list 5 ((M.set F.1 G.1).map Ak)), (25, .v (.pointer (some ⟨w, 0, none⟩))), (123, .v p), (124, .V (([b, a.1, (⟨a.1.Name, a.1.From, a.1.To, a.1.Capacity, a.1.Resist, a.1.Wave, f.2.2⟩ : Sg)] : List Sg).length : Int)), (125, .V (Q : Int)), (263, .v Z), (264, .V (([u, R.1, S] : List (List Level)).length : Int)), (265, .V (aj : Int)), (266, .v (.bool (decide ((aj : Int) < (([u, R.1, S] : List (List Level)).length : Int)))))]) (ob' := [O2 g [Al n], O1 e [A3 ad.2], O0 j [Aa a.1], .us p 28 7 (([b, a.1, (⟨a.1.Name, a.1.From, a.1.To, a.1.Capacity, a.1.Resist, a.1.Wave, f.2.2⟩ : Sg)] : List Sg).map Aa), O0 w [Aa B.2], .us Z 38 1 (([u, R.1, S] : List (List Level)).map (rL 3 Ay))]) ⟨⟨I, I, I, I, I, I, I, I, I, I, I, I, I, I, I, I, I, I, I, I, J⟩, [0, 1, 2, 3, 4, 5], I, by decide⟩ ?_)
 refine Ab fun hm fk => Bf I fj (gS ?_)
 subst fk
 refine Bs (s' := [(1, Q0 i), (2, Q1 E), (3, .V t), (4, .V A), (6, Q4 u), (13, .v (.pointer (some ⟨g, 0, none⟩))), (17, .v (.pointer (some ⟨e, 0, none⟩))), (18, .v (.pointer (some ⟨j, 0, none⟩))), (19, Q0 a.2.1), (20, Q1 a.2.2.1), (21, Q3 a.2.2.2.1), (23, .list 5 ((M.set F.1 G.1).map Ak)), (25, .v (.pointer (some ⟨w, 0, none⟩))), (123, .v p), (124, .V (([b, a.1, (⟨a.1.Name, a.1.From, a.1.To, a.1.Capacity, a.1.Resist, a.1.Wave, f.2.2⟩ : Sg)] : List Sg).length : Int)), (125, .V (Q : Int)), (263, .v Z), (264, .V (([u, R.1, S] : List (List Level)).length : Int)), (265, .V (aj : Int))]) (ob' := [O2 g [Al n], O1 e [A3 ad.2], O0 j [Aa a.1], .us p 28 7 (([b, a.1, (⟨a.1.Name, a.1.From, a.1.To, a.1.Capacity, a.1.Resist, a.1.Wave, f.2.2⟩ : Sg)] : List Sg).map Aa), O0 w [Aa B.2], .us Z 38 1 (([u, R.1, S] : List (List Level)).map (rL 3 Ay))]) ⟨⟨I, I, I, I, I, I, I, I, I, I, I, I, I, I, I, I, I, I, I, J⟩, [0, 1, 2, 3, 4, 5], I, by decide⟩ (Aj (fun s ob => ∃ (ct : Unit), Mj.J7 ct = some fh ∧ s = [] ∧ ob = [O2 g [Al n], O1 e [A3 ad.2], O0 j [Aa a.1], .us p 28 7 (([b, a.1, (⟨a.1.Name, a.1.From, a.1.To, a.1.Capacity, a.1.Resist, a.1.Wave, f.2.2⟩ : Sg)] : List Sg).map Aa), O0 w [Aa B.2], .us Z 38 1 (([u, R.1, S] : List (List Level)).map (rL 3 Ay))]) [(1, _), (2, _), (3, _), (4, _), (6, _), (13, _), (17, _), (18, _), (19, _), (20, _), (21, _), (23, _), (25, _), (123, _), (124, _), (125, _), (263, _), (264, _), (265, _)] ⟨I, I, I, I, I, I, I, I, I, I, I, I, I, I, I, I, I, I, I, J⟩ ?_ ?_)
 refine gQ (Ab fun hn fl => ?_)
 obtain ⟨aw, ⟨fm, cu⟩, h⟩ := A7 h
 refine gN (hF (Co 5 (m := aw.1) I I I I I I I fm (Ag cu)) I (hF (Bx 5 aw.1 0 I I I (Ag cu) I (y := Q4 aw.2) I) I (Af 1 I (gO ?_))))
 subst fl
 refine Ab fun ho fn => gN (Af 1 I (gP [] I (gX (sz := 1) (es := ([A, 0, 1000000] : Li).map rI) I I I I I I I I I I I dS fun ar => hF (Da 6 I I I I) I (Af 1 I (gO ?_)))))
 subst fn
 refine gQ (Lk 6 I fun fo => ?_)
 obtain ⟨hp, fp, cv⟩ := Ac h
 refine Do fp [(1, _), (2, _), (3, _), (4, _), (6, _), (13, _), (17, _), (18, _), (19, _), (20, _), (21, _), (23, _), (25, _), (48, _), (123, _), (124, _), (125, _), (263, _), (264, _), (265, _), (270, _), (271, _)] ⟨I, I, I, I, I, I, I, I, I, I, I, I, I, I, I, I, I, I, I, I, I, I, J⟩ (fun (ax : Nat) (cw : Unit) s ob => s = [(272, .V (ax : Int))] ∧ ob = [O2 g [Al n], O1 e [A3 ad.2], O0 j [Aa a.1], .us p 28 7 (([b, a.1, (⟨a.1.Name, a.1.From, a.1.To, a.1.Capacity, a.1.Resist, a.1.Wave, f.2.2⟩ : Sg)] : List Sg).map Aa), O0 w [Aa B.2], .us Z 38 1 (([u, R.1, S] : List (List Level)).map (rL 3 Ay)), .us ar 3 1 (([A, 0, 1000000] : Li).map rI)]) ⟨I, I⟩ ⟨I, J⟩ ⟨[0, 1, 2, 3, 4, 5, 6], I, by decide⟩ ?_ ?_
 rintro ax cw hq s ob cx ⟨rfl, rfl⟩ h fq
 have fr := Cr cx
 refine Ai I (Bs (s' := [(1, Q0 i), (2, Q1 E), (3, .V t), (4, .V A), (6, Q4 u), (13, .v (.pointer (some ⟨g, 0, none⟩))), (17, .v (.pointer (some ⟨e, 0, none⟩))), (18, .v (.pointer (some ⟨j, 0, none⟩))), (19, Q0 a.2.1), (20, Q1 a.2.2.1), (21, Q3 a.2.2.2.1), (23, .list 5 ((M.set F.1 G.1).map Ak)), (25, .v (.pointer (some ⟨w, 0, none⟩))), (48, Q4 aw.2), (123, .v p), (124, .V (([b, a.1, (⟨a.1.Name, a.1.From, a.1.To, a.1.Capacity, a.1.Resist, a.1.Wave, f.2.2⟩ : Sg)] : List Sg).length : Int)), (125, .V (Q : Int)), (263, .v Z), (264, .V (([u, R.1, S] : List (List Level)).length : Int)), (265, .V (aj : Int)), (270, .v ar), (271, .V (([A, 0, 1000000] : Li).length : Int)), (272, .V (ax : Int)), (273, .v (.bool (decide ((ax : Int) < (([A, 0, 1000000] : Li).length : Int)))))]) (ob' := [O2 g [Al n], O1 e [A3 ad.2], O0 j [Aa a.1], .us p 28 7 (([b, a.1, (⟨a.1.Name, a.1.From, a.1.To, a.1.Capacity, a.1.Resist, a.1.Wave, f.2.2⟩ : Sg)] : List Sg).map Aa), O0 w [Aa B.2], .us Z 38 1 (([u, R.1, S] : List (List Level)).map (rL 3 Ay)), .us ar 3 1 (([A, 0, 1000000] : Li).map rI)]) ⟨⟨I, I, I, I, I, I, I, I, I, I, I, I, I, I, I, I, I, I, I, I, I, I, I, I, J⟩, [0, 1, 2, 3, 4, 5, 6], I, by decide⟩ ?_)
 refine Ab fun hr fs => Bf I fr (gS ?_)
 subst fs
 refine Bs (s' := [(1, Q0 i), (2, Q1 E), (3, .V t), (4, .V A), (6, Q4 u), (13, .v (.pointer (some ⟨g, 0, none⟩))), (17, .v (.pointer (some ⟨e, 0, none⟩))), (18, .v (.pointer (some ⟨j, 0, none⟩))), (19, Q0 a.2.1), (20, Q1 a.2.2.1), (21, Q3 a.2.2.2.1), (23, .list 5 ((M.set F.1 G.1).map Ak)), (25, .v (.pointer (some ⟨w, 0, none⟩))), (48, Q4 aw.2), (123, .v p), (124, .V (([b, a.1, (⟨a.1.Name, a.1.From, a.1.To, a.1.Capacity, a.1.Resist, a.1.Wave, f.2.2⟩ : Sg)] : List Sg).length : Int)), (125, .V (Q : Int)), (263, .v Z), (264, .V (([u, R.1, S] : List (List Level)).length : Int)), (265, .V (aj : Int)), (270, .v ar), (271, .V (([A, 0, 1000000] : Li).length : Int)), (272, .V (ax : Int))]) (ob' := [O2 g [Al n], O1 e [A3 ad.2], O0 j [Aa a.1], .us p 28 7 (([b, a.1, (⟨a.1.Name, a.1.From, a.1.To, a.1.Capacity, a.1.Resist, a.1.Wave, f.2.2⟩ : Sg)] : List Sg).map Aa), O0 w [Aa B.2], .us Z 38 1 (([u, R.1, S] : List (List Level)).map (rL 3 Ay)), .us ar 3 1 (([A, 0, 1000000] : Li).map rI)]) ⟨⟨I, I, I, I, I, I, I, I, I, I, I, I, I, I, I, I, I, I, I, I, I, I, I, J⟩, [0, 1, 2, 3, 4, 5, 6], I, by decide⟩ ?_
 refine gR (gQ (Ab fun hs ft => ?_))
 obtain ⟨br, ⟨fu, cy⟩, h⟩ := A7 h
 refine gN (hF (Co 6 (m := br.1) I I I I I I I fu (Ag cy)) I (hF (Bx 6 br.1 0 I I I (Ag cy) I (y := .V br.2) I) I (Af 1 I (gO ?_))))
 subst ft
 refine Ab fun ht fv => ?_
 obtain ⟨bs, fw, h⟩ := Ac h
 refine gN (Ao 3 [.o 0 4] I J1 (Br (Pv _ _ _ _ fw) (Af 5 I (gO ?_))))
 subst fv
 refine Ab fun hu fx => ?_
 obtain ⟨bu, fy, h⟩ := Ac h
 refine gN (Ao 3 [.o 0 4] I J1 (Br (Xn _ _ _ _ fy) (Af 5 I (gO ?_))))
 subst fx
 refine Ew 297 ((bs.1 != bu.1) || (bs.2 != bu.2)) ?_ ?_
 refine gN (Af 4 I ?_)
 rcases bt ((bs.1 != bu.1)) with a6 | a6
 exact Ae 293 I a6 (Af 4 I (gO (jf (by simp only [a6, bz]) I I I2)))
 exact Ae 293 I a6 (Af 4 I (gO (jf (by simp only [a6, bz]) I I I2)))
 refine Ar h I ?_ ?_
 intro fz h
 refine Ai I ?_
 obtain rfl := fq _ (oi h).symm
 have h := cv
 have h := Cq h
 obtain rfl := fi _ (oi h).symm
 have h := cp
 have h := Cq h
 obtain rfl := ba _ (oi h).symm
 have h := a0
 have h := Cq h
 refine gU g0 ?_
 cases io h
 exact gT pr
 intro fz h
 refine gS (gN (Ao 2 [.k 0 (ax + 1 : Nat)] I ⟨Az cx fo, J⟩ ?_))
 cases io h
 exact gO ⟨_, _, _, I, I2, ⟨I, I, I, I, I, I, I, I, I, I, I, I, I, I, I, I, I, I, I, I, I, I, I, J⟩, [0, 1, 2, 3, 4, 5, 6], I, by decide⟩
 rintro cw s ob ⟨rfl, rfl⟩ he
 subst he
 have h := C0 cv
 have f0 := Cs (([A, 0, 1000000] : Li).length)
 refine Ai I (Bs (s' := [(1, Q0 i), (2, Q1 E), (3, .V t), (4, .V A), (6, Q4 u), (13, .v (.pointer (some ⟨g, 0, none⟩))), (17, .v (.pointer (some ⟨e, 0, none⟩))), (18, .v (.pointer (some ⟨j, 0, none⟩))), (19, Q0 a.2.1), (20, Q1 a.2.2.1), (21, Q3 a.2.2.2.1), (23, .list 5 ((M.set F.1 G.1).map Ak)), (25, .v (.pointer (some ⟨w, 0, none⟩))), (48, Q4 aw.2), (123, .v p), (124, .V (([b, a.1, (⟨a.1.Name, a.1.From, a.1.To, a.1.Capacity, a.1.Resist, a.1.Wave, f.2.2⟩ : Sg)] : List Sg).length : Int)), (125, .V (Q : Int)), (263, .v Z), (264, .V (([u, R.1, S] : List (List Level)).length : Int)), (265, .V (aj : Int)), (270, .v ar), (271, .V (([A, 0, 1000000] : Li).length : Int)), (272, .V ((([A, 0, 1000000] : Li).length : Nat) : Int)), (273, .v (.bool (decide (((([A, 0, 1000000] : Li).length : Nat) : Int) < (([A, 0, 1000000] : Li).length : Int)))))]) (ob' := [O2 g [Al n], O1 e [A3 ad.2], O0 j [Aa a.1], .us p 28 7 (([b, a.1, (⟨a.1.Name, a.1.From, a.1.To, a.1.Capacity, a.1.Resist, a.1.Wave, f.2.2⟩ : Sg)] : List Sg).map Aa), O0 w [Aa B.2], .us Z 38 1 (([u, R.1, S] : List (List Level)).map (rL 3 Ay)), .us ar 3 1 (([A, 0, 1000000] : Li).map rI)]) ⟨⟨I, I, I, I, I, I, I, I, I, I, I, I, I, I, I, I, I, I, I, I, I, I, I, I, J⟩, [0, 1, 2, 3, 4, 5, 6], I, by decide⟩ ?_)
 exact Ab fun hv hw => Bg I f0 (gW (lg ⟨(), h, I2⟩ [0, 1, 2, 3, 4, 5]))
 rintro s ob ⟨ct, h, rfl, rfl⟩
 unfold Mj.J7 at h
 refine gN (Ao 2 [.k 0 (aj + 1 : Nat)] I ⟨Az cr ff, J⟩ ?_)
 cases io h
 exact gO ⟨_, _, _, I, I2, ⟨I, I, I, I, I, I, I, I, I, I, I, I, I, I, I, I, I, I, I, J⟩, [0, 1, 2, 3, 4, 5], I, by decide⟩
 rintro cq s ob ⟨rfl, rfl⟩ he
 subst he
 have h := C0 cp
 have f1 := Cs (([u, R.1, S] : List (List Level)).length)
 refine Ai I (Bs (s' := [(1, Q0 i), (2, Q1 E), (3, .V t), (4, .V A), (6, Q4 u), (13, .v (.pointer (some ⟨g, 0, none⟩))), (17, .v (.pointer (some ⟨e, 0, none⟩))), (18, .v (.pointer (some ⟨j, 0, none⟩))), (19, Q0 a.2.1), (20, Q1 a.2.2.1), (21, Q3 a.2.2.2.1), (23, .list 5 ((M.set F.1 G.1).map Ak)), (25, .v (.pointer (some ⟨w, 0, none⟩))), (123, .v p), (124, .V (([b, a.1, (⟨a.1.Name, a.1.From, a.1.To, a.1.Capacity, a.1.Resist, a.1.Wave, f.2.2⟩ : Sg)] : List Sg).length : Int)), (125, .V (Q : Int)), (263, .v Z), (264, .V (([u, R.1, S] : List (List Level)).length : Int)), (265, .V ((([u, R.1, S] : List (List Level)).length : Nat) : Int)), (266, .v (.bool (decide (((([u, R.1, S] : List (List Level)).length : Nat) : Int) < (([u, R.1, S] : List (List Level)).length : Int)))))]) (ob' := [O2 g [Al n], O1 e [A3 ad.2], O0 j [Aa a.1], .us p 28 7 (([b, a.1, (⟨a.1.Name, a.1.From, a.1.To, a.1.Capacity, a.1.Resist, a.1.Wave, f.2.2⟩ : Sg)] : List Sg).map Aa), O0 w [Aa B.2], .us Z 38 1 (([u, R.1, S] : List (List Level)).map (rL 3 Ay))]) ⟨⟨I, I, I, I, I, I, I, I, I, I, I, I, I, I, I, I, I, I, I, I, J⟩, [0, 1, 2, 3, 4, 5], I, by decide⟩ ?_)
 exact Ab fun hx hy => Bg I f1 (gW (lg ⟨(ad.2.L_, ad.2.At), h, I2⟩ [0, 1, 2, 3]))
 rintro s ob ⟨bb, h, rfl, rfl⟩
 unfold Mj.J4 at h
 refine gN (Ao 2 [.k 0 (Q + 1 : Nat)] I ⟨Az b6 dj, J⟩ ?_)
 cases io h
 exact gO ⟨_, _, _, I, I2, fX, [0, 1, 2, 3], I, by decide⟩
 rintro ah s ob ⟨rfl, rfl⟩ he
 subst he
 have h := C0 a0
 have f2 := Cs (([b, a.1, (⟨a.1.Name, a.1.From, a.1.To, a.1.Capacity, a.1.Resist, a.1.Wave, f.2.2⟩ : Sg)] : List Sg).length)
 refine Ai I (Bs (s' := [(1, Q0 i), (2, Q1 E), (3, .V t), (4, .V A), (6, Q4 u), (13, .v (.pointer (some ⟨g, 0, none⟩))), (17, .v (.pointer (some ⟨e, 0, none⟩))), (18, .v (.pointer (some ⟨j, 0, none⟩))), (19, Q0 a.2.1), (20, Q1 a.2.2.1), (21, Q3 a.2.2.2.1), (23, .list 5 ((M.set F.1 G.1).map Ak)), (123, .v p), (124, .V (([b, a.1, (⟨a.1.Name, a.1.From, a.1.To, a.1.Capacity, a.1.Resist, a.1.Wave, f.2.2⟩ : Sg)] : List Sg).length : Int)), (125, .V ((([b, a.1, (⟨a.1.Name, a.1.From, a.1.To, a.1.Capacity, a.1.Resist, a.1.Wave, f.2.2⟩ : Sg)] : List Sg).length : Nat) : Int)), (126, .v (.bool (decide (((([b, a.1, (⟨a.1.Name, a.1.From, a.1.To, a.1.Capacity, a.1.Resist, a.1.Wave, f.2.2⟩ : Sg)] : List Sg).length : Nat) : Int) < (([b, a.1, (⟨a.1.Name, a.1.From, a.1.To, a.1.Capacity, a.1.Resist, a.1.Wave, f.2.2⟩ : Sg)] : List Sg).length : Int)))))]) (ob' := [O2 g [Al n], O1 e [[Q2 ah.1, .V ah.2]], O0 j [Aa a.1], .us p 28 7 (([b, a.1, (⟨a.1.Name, a.1.From, a.1.To, a.1.Capacity, a.1.Resist, a.1.Wave, f.2.2⟩ : Sg)] : List Sg).map Aa)]) ⟨⟨I, I, I, I, I, I, I, I, I, I, I, I, I, I, I, I, J⟩, [0, 1, 2, 3], I, by decide⟩ ?_)
 exact Ab fun hz h0 => Bg I f2 (gW (lg ⟨(), h, I2⟩ []))
 rintro s ob ⟨b4, h, rfl, rfl⟩
 refine gR ?_
 obtain ⟨h1, f3, h⟩ := Ac h
 refine gN (Br (Pn  _ f3) (Af 1 I (gO ?_)))
 cases io h
 exact gT pr
end Go.Proofs.YtkhcdkioehdndaaGreatDoor
