/- Walks that show what functions of the program compute; printed by a program of ours. No condition. -/
import Derived.Test.YtkhcdkioehdndaaGreatDoorZwL4
import Derived.Test.YtkhcdkioehdndaaGreatDoorZwD
set_option maxRecDepth 100000
namespace Go.Proofs.YtkhcdkioehdndaaGreatDoor
open Go.Aw
set_option linter.unusedVariables false
set_option linter.unusedSimpArgs false
set_option maxHeartbeats 4000000
abbrev Ye : PL := .act 7 (.still 8 (.act 11 (sl 3 12 (.act 15 (.act 16 (.still 17 (.drop 18 .nil)))))))
theorem Tf (a : Nat) (d : KS) (e : Int) (r : Product × KS) (h : Ms d e = some r) : ACalls Ae 56 [.v (.pointer (some ⟨a, 0, none⟩)), .V e] [O0 a [Bb d]] (Dz 1 fun x os new => x = .agg (As r.1) ∧ os = [O0 a [Bb r.2]] ∧ new = []) := by
 refine Aa Tryz.func56 I I I fun C hC => ?_
 refine Ab fun w k => Z2 (Z4 [] I (Bz W3 5 fun y => Z3 ?_))
 subst k
 refine Z5 ?_
 obtain ⟨f, n, h⟩ := Ac h
 obtain ⟨g, o, h⟩ := Ac h
 obtain ⟨i, s, h⟩ := Ac h
 obtain ⟨j, t, h⟩ := Ac h
 obtain ⟨b, u, h⟩ := Ac h
 refine Z2 (Af 1 I (By (Is _ _ _ n) (Af 1 I (Z4 [0] I (Cf [0] (Dn a _ _ _ _ o) ?_)))))
 refine Af 1 I (Z4 [] I (aD 1 (([0, 830, 2000, 1] : Li).map rI) (Z4 [0] I (Cf [0] (C7 a _ _ _ s) ?_))))
 refine Af 1 I (Z4 [] I (aD 1 (([0, 800, 5000, 3] : Li).map rI) (Z4 [0] I (Cf [0] (C7 a _ _ _ t) ?_))))
 refine Af 1 I (Z4 [] I (aD 1 (([1, 700, 1000, 1300, 2000] : Li).map rI) (Z4 [0] I (Cf [0] (C7 a _ _ _ u) ?_))))
 refine Bi (Au (l := [.v (.string f), .V g.1, .V i.1, .V j.1, .V b.1]) K4 I) I (Z4 [1] I (Bk 1 0 0 [[.v (.string f), .V g.1, .V i.1, .V j.1, .V b.1]] I (Z3 ?_)))
 obtain rfl := oi h
 exact Z8 ⟨.inr I, [_], [O0 a [Bb b.2]], ⟨⟨1, _, _, _, _, _, _, _, I5⟩, J⟩, Dh I (Ct), ⟨[O0 a [Bb b.2]], [], I5⟩⟩
theorem Tm (b : Nat) (g : KS) (r : (List Product) × KS) (h : Jy g = some r) : ACalls Ae 23 [.v (.pointer (some ⟨b, 0, none⟩))] [O0 b [Bb g]] (Dz 1 fun x os new => ∃ (i : Value), x = .v i ∧ os = [O0 b [Bb r.2]] ∧ new = [U1 i r.1]) := by
 refine Aa Tryz.func23 I I I fun C hC => ?_
 unfold Jy at h
 refine Ak I (Ak I (Am (fun s ob => ∃ (a : Li × Int × (List Product)) (e : Value), Jy.J1 a = some r ∧ s = [(3, .v e)] ∧ ob = [O0 b [[Q0 a.1, .V a.2.1]], U1 e a.2.2]) [] J ?_ ?_))
 refine Ab fun A j => ?_
 obtain ⟨B, k, h⟩ := Ac h
 refine Z2 (Af 1 I (Z4 [0] I (Cf [0] (Dn b _ _ _ _ k) ?_)))
 refine Af 1 I (Z3 ?_)
 subst j
 refine Z6 (aA (Be 49 5) ?_)
 obtain ⟨D, l, m⟩ := Ac h
 refine Cv l [(0, _)] J1 (fun (c : Li × Int × (List Product) × Int) s ob => ∃ (f : Value), s = [(3, .v f), (4, .V c.2.2.2)] ∧ ob = [O0 b [[Q0 c.1, .V c.2.1]], U1 f c.2.2.1]) ⟨(.slice none 0 0), I2⟩ ⟨I, I, J⟩ ⟨[0, 1], I, by decide⟩ ?_
 rintro c E s ob ⟨f, rfl, rfl⟩ h n
 refine Ab fun F o => Ak I (Av h I ?_ ?_)
 intro p h
 refine Z7 ?_
 subst o
 refine Z5 (Z6 ?_)
 obtain ⟨t, u, h⟩ := Ac h
 obtain ⟨G, w, h⟩ := Ac h
 refine Z2 (Af 3 I (AO.d (Ck 1 I I I I) I (Z4 [0] I (Cf [0] (Tf b _ _ _ u) ?_))))
 refine Z4 [] I (aD 5 (([t.1] : List Product).map As) (Z4 [1] I (D7 1 I w fun y => Af 1 I (Z3 (Z2 (Af 3 I ?_))))))
 cases io h
 exact Z3 ⟨_, _, _, I, ⟨y, I2⟩, J3, [0, 1], I, by decide⟩
 intro p h
 obtain rfl := n _ (oi h).symm
 have h := m
 exact aB (lg ⟨(c.1, c.2.1, c.2.2.1), f, h, I2⟩ [0, 1])
 rintro s ob ⟨a, e, h, rfl, rfl⟩
 refine Ak I ?_
 obtain rfl := oi h
 exact Z8 ⟨.inr I, [_], [O0 b [[Q0 a.1, .V a.2.1]], U1 e a.2.2], J1, Dh I (Dh I (Ct)), ⟨[O0 b [[Q0 a.1, .V a.2.1]]], [U1 e a.2.2], I, I, e, I3⟩⟩
theorem Tp (e : Nat) (O : KS) (P : Int) (D : Int) (r : (List Piece) × KS) (h : Jz O P D = some r) : ACalls Ae 12 [.v (.pointer (some ⟨e, 0, none⟩)), .V P, .V D] [O0 e [Bb O]] (Dz 1 fun x os new => ∃ (Q : Value), x = .v Q ∧ os = [O0 e [Bb r.2]] ∧ new = [U7 Q r.1]) := by
 refine Aa Tryz.func12 I I I fun C hC => ?_
 unfold Jz at h
 refine Ak I (Ak I (Am (fun s ob => ∃ (g : Li × Int × (List Piece)) (u : Value), Jz.J1 g = some r ∧ s = [(7, .v u)] ∧ ob = [O0 e [[Q0 g.1, .V g.2.1]], U7 u g.2.2]) [] J ?_ ?_))
 refine Z6 (aA (Be 88 2) ?_)
 obtain ⟨ax, R, S⟩ := Ac h
 refine Cv R [(0, _), (2, _)] J2 (fun (a : Li × Int × Int × (List Piece)) s ob => ∃ (t : Value), s = [(1, .V a.2.2.1), (7, .v t)] ∧ ob = [O0 e [[Q0 a.1, .V a.2.1]], U7 t a.2.2.2]) ⟨(.slice none 0 0), I2⟩ ⟨I, I, J⟩ ⟨[0, 1], I, by decide⟩ ?_
 rintro a G s ob ⟨t, rfl, rfl⟩ h U
 unfold Jz.B2 at h
 refine Ab fun ay W => Fx 15 (decide (a.2.2.1 > 0) && decide ((a.2.2.2.length : Int) < 12)) ?_ ?_
 refine Z2 (Af 3 I ?_)
 rcases bt (decide (a.2.2.1 > 0)) with w | w
 exact Aj 11 I w (Af 1 I (Bu I I I (AO.d (Ck 1 I I I I) I (Af 2 I (Z3 (jf (by simp only [w, bz]) I I I2))))))
 exact Aj 11 I w (Af 4 I (Z3 (jf (by simp only [w, bz]) I I I2)))
 refine Av h I ?_ ?_
 intro X h
 refine Z7 ?_
 subst W
 refine Z6 (Ab fun az Y => ?_)
 obtain ⟨j, Z, h⟩ := Ac h
 obtain ⟨k, aa, h⟩ := Ac h
 refine Z2 (Af 2 I (Z4 [0] I (Cf [0] (C9 e _ _ _ Z) ?_)))
 refine Ao 5 [.f 3 (.V (wr ((wr (a.2.2.1 * 2)).tdiv 3)))] I ⟨Yp.yd (Dt (c := wr ((wr (a.2.2.1 * 2)).tdiv 3)) I I ⟨by decide, I⟩), J⟩ (Z4 [0] I (Cf [0] (Dn e _ _ _ _ aa) ?_))
 refine Bi (Au (l := [.V j.1, .V k.1]) K3 I) I (Z4 [] I (Bz [.V 0, .V 0] 2 fun H => Z4 [2] I (Bk 2 0 0 [[.V j.1, .V k.1]] I (Z3 ?_))))
 subst Y
 refine Am (fun s ob => ∃ (i : Int), Jz.J3 D a j k i = some G ∧ s = [] ∧ ob = [O0 e [Bb k.2], U7 t a.2.2.2, .arr H 88 2 1 [[.V j.1, .V i]]]) [(0, _), (1, _), (2, _), (7, _), (8, _)] J5 ?_ ?_
 refine Z5 (Z2 (Af 1 I (AO.d (Ck 1 I I I I) I (Af 1 I (Z3 (Av h I ?_ ?_))))))
 intro ab h
 exact Z2 (Af 2 I (Z4 [2] I (Bk 2 0 1 [[.V j.1, .V a.2.2.1]] I (Z3 (lg ⟨a.2.2.1, h, I2⟩ [0, 1, 2])))))
 intro ab h
 exact Z7 (lg ⟨k.1, h, I2⟩ [0, 1, 2])
 rintro s ob ⟨i, h, rfl, rfl⟩
 unfold Jz.J3 at h
 refine Ab fun a0 ac => Z2 (Ao 5 [.o 1 2] I J1 (Z4 [2] I (Bk 2 0 1 [[.V j.1, .V (min i a.2.2.1)]] I (Z3 ?_))))
 subst ac
 refine Am (fun s ob => ∃ (E : Int), Jz.J4 a k i E = some G ∧ s = [(1, .V a.2.2.1)] ∧ ob = [O0 e [Bb k.2], U7 t a.2.2.2, .arr H 88 2 1 [[.V E, .V (min i a.2.2.1)]]]) [(0, _), (2, _), (7, _), (8, _)] J4 ?_ ?_
 refine Am (fun s ob => ∃ (K : Bool), Jz.J5 D a j k i K = some G ∧ s = [(50, .v (.bool K))] ∧ ob = [O0 e [Bb k.2], U7 t a.2.2.2, .arr H 88 2 1 [[.V j.1, .V (min i a.2.2.1)]]]) [(0, _), (1, _), (2, _), (7, _), (8, _)] J5 ?_ ?_
 rcases bt (decide ((a.2.2.2.length : Int) > 0)) with A | A
 have h := C1 A h
 obtain ⟨B, ⟨ad, M⟩, h⟩ := Bg h
 refine Ff 1 I fun ae => Ff 1 I fun af => A1 1 B.1 I M fun ag => Cb (pd 15 0 []) [1, 2] [_, _] I (Aq 1 I (aC I (Fe I I I ae) I (Aq 2 I (Ax 39 I A (Aq 2 I (A6 I I I I ((Fe I I I af).yd) dS (Aq 1 I (A6 I I I I ((An (m := B.1) I I I I I ag I ad M).yd) dS (Aq 1 I ?_)))))))))
 exact A6 I I I I (Ar 0 B.1 0 I I I (Ag M) I (y := .V B.2.Batch) I) dS (Dd 4 [.o 1 1] I J1 (Ay (Z3 (lg ⟨(B.2.Batch == j.1), h, I2⟩ [0, 1, 2]))))
 have h := C2 A h
 exact Ff 1 I fun ah => Cb (pd 15 0 []) [] [] I (Aq 1 I (aC I (Fe I I I ah) I (Aq 2 I (Ax 39 I A (Aq 11 I (Ay (Z3 (lg ⟨false, h, I2⟩ [0, 1, 2]))))))))
 rintro s ob ⟨K, h, rfl, rfl⟩
 refine Av h I ?_ ?_
 intro ai h
 refine Ab fun a1 aj => ?_
 obtain ⟨F, ak, h⟩ := Ac h
 refine Z2 (Ao 6 [.o 1 2, .f 4 (.V F)] I ⟨Yp.yd (Dt (c := F) I I (Kk ak)), I, J⟩ (Z4 [2] I (Bk 2 0 0 [[.V F, .V (min i a.2.2.1)]] I (Z3 ?_))))
 subst aj
 refine Ab fun a2 al => ?_
 obtain ⟨b, ⟨N, n⟩, h⟩ := Bg h
 refine Ff 1 I fun am => A1 1 b.1 I n fun an => Cb (pd 10 0 []) [1, 2] [_, _] I (Aq 2 I (aC I (Fe I I I am) I (Aq 1 I (aC I (An (m := b.1) I I I I I an I N n) I (Aq 1 I (AP.o I (Ar 0 b.1 0 I I I (Ag n) I (y := .V b.2.Batch) I) I (Dd 3 [.o 1 1] I J1 (Ay (Z3 ?_)))))))))
 subst al
 refine Av h I ?_ ?_
 intro ao h
 refine Z5 (Ff 1 I fun aq => A1 1 b.1 I n fun ar => A1 1 b.1 I n fun au => Cb (sl 12 0 (.drop 12 .nil)) [1, 2] [_, _] I (Aq 2 I (aC I (Fe I I I aq) I (Aq 1 I (aC I (An (m := b.1) I I I I I ar I N n) I (Aq 1 I (AP.o I (Ar 0 b.1 1 I I I (Ag n) I (y := .V b.2.Volume) I) I (Dd 3 [.o 1 1] I J1 (aC I (An (m := b.1) I I I I I au I N n) I ?_)))))))))
 refine Aq 1 I (AP.drop [1] I I I (Bw 1 b.1 1 I I I (Ag n) I I I I (Bm I) I (Di (x := (⟨b.2.Batch, wr (b.2.Volume + (min i a.2.2.1))⟩ : Piece)) I) (Ay (Z3 (Bl [.o 2 2] I J1 ?_)))))
 cases io h
 refine aB ?_
 exact ⟨_, _, _, I, ⟨t, I2⟩, J4, [0, 1], I, by decide⟩
 intro ao h
 exact Z7 (lg ⟨F, h, I2⟩ [0, 1, 2])
 intro ai h
 exact Z7 (lg ⟨j.1, h, I2⟩ [0, 1, 2])
 rintro s ob ⟨E, h, rfl, rfl⟩
 refine Bl [.o 2 2] I J1 ?_
 obtain ⟨a3, av, h⟩ := Ac h
 refine Z2 (Ao 2 [.o 1 2] I J1 (Z4 [] I (aD 2 (([(⟨E, (min i a.2.2.1)⟩ : Piece)] : List Piece).map A3) (Z4 [1] I (D7 1 I av fun aw => Af 1 I ?_)))))
 cases io h
 exact Z3 ⟨_, _, _, I, ⟨aw, I2⟩, J4, [0, 1], I, by decide⟩
 intro X h
 obtain rfl := U _ (oi h).symm
 have h := S
 exact aB (lg ⟨(a.1, a.2.1, a.2.2.2), t, h, I2⟩ [0, 1])
 rintro s ob ⟨g, u, h, rfl, rfl⟩
 refine Ak I ?_
 obtain rfl := oi h
 exact Z8 ⟨.inr I, [_], [O0 e [[Q0 g.1, .V g.2.1]], U7 u g.2.2], J1, Dh I (Dh I (Ct)), ⟨[O0 e [[Q0 g.1, .V g.2.1]]], [U7 u g.2.2], I, I, u, I3⟩⟩
theorem Tg (b : Nat) (g : KS) (i : Int) (j : Int) (r : (List Batch) × KS) (h : Jw g i j = some r) : ACalls Ae 24 [.v (.pointer (some ⟨b, 0, none⟩)), .V i, .V j] [O0 b [Bb g]] (Dz 1 fun x os new => ∃ (k : Value), x = .v k ∧ os = [O0 b [Bb r.2]] ∧ new = [U4 k r.1]) := by
 refine Aa Tryz.func24 I I I fun C hC => ?_
 unfold Jw at h
 refine Ak I (Ak I (Am (fun s ob => ∃ (a : Li × Int × (List Batch)) (e : Value), Jw.J1 a = some r ∧ s = [(7, .v e)] ∧ ob = [O0 b [[Q0 a.1, .V a.2.1]], U4 e a.2.2]) [] J ?_ ?_))
 refine Ak I (Z6 (aA (Be 103 4) ?_))
 obtain ⟨G, o, t⟩ := Ac h
 refine Cv o [(0, _), (1, _), (2, _)] J3 (fun (d : Li × Int × (List Batch) × Int) s ob => ∃ (f : Value), s = [(7, .v f), (8, .V d.2.2.2)] ∧ ob = [O0 b [[Q0 d.1, .V d.2.1]], U4 f d.2.2.1]) ⟨(.slice none 0 0), I2⟩ ⟨I, I, J⟩ ⟨[0, 1], I, by decide⟩ ?_
 rintro d H s ob ⟨f, rfl, rfl⟩ h u
 refine Ab fun K w => Ak I (Av h I ?_ ?_)
 intro y h
 refine Z7 ?_
 subst w
 refine Z5 (Z6 ?_)
 obtain ⟨m, A, h⟩ := Ac h
 obtain ⟨M, B, h⟩ := Ac h
 obtain ⟨n, D, h⟩ := Ac h
 obtain ⟨N, E, h⟩ := Ac h
 refine Z2 (Af 3 I (Z4 [0] I (Cf [0] (C9 b _ _ _ A) ?_)))
 refine Af 1 I (Z4 [0] I (Cf [0] (C9 b _ _ _ B) ?_))
 refine By (Is _ _ _ D) (Bi (Au (l := [.V m.1, .v (.string n), .V 0, .V 1]) Oz I) I (Z4 [] I (aD 4 (([(⟨m.1, n, 0, 1⟩ : Batch)] : List Batch).map Cj) (Z4 [1] I (D7 1 I E fun F => Af 1 I (Z3 (Z2 (Af 3 I ?_))))))))
 cases io h
 exact Z3 ⟨_, _, _, I, ⟨F, I2⟩, J5, [0, 1], I, by decide⟩
 intro y h
 obtain rfl := u _ (oi h).symm
 have h := t
 exact aB (lg ⟨(d.1, d.2.1, d.2.2.1), f, h, I2⟩ [0, 1])
 rintro s ob ⟨a, e, h, rfl, rfl⟩
 refine Ak I ?_
 obtain rfl := oi h
 exact Z8 ⟨.inr I, [_], [O0 b [[Q0 a.1, .V a.2.1]], U4 e a.2.2], J1, Dh I (Dh I (Ct)), ⟨[O0 b [[Q0 a.1, .V a.2.1]]], [U4 e a.2.2], I, I, e, I3⟩⟩
theorem P4 (b : Nat) (X : KS) (Q : Int) (E : Int) (F : Int) (r : Sg × KS) (h : Jp X Q E F = some r) : ACalls Ae 22 [.v (.pointer (some ⟨b, 0, none⟩)), .V Q, .V E, .V F] [O0 b [Bb X]] (Dz 1 fun x os new => ∃ (Y : Value), x = .agg [.v (.string r.1.Name), .V r.1.From, .V r.1.To, .V r.1.Capacity, .V r.1.Resist, .V r.1.Wave, .v Y] ∧ os = [O0 b [Bb r.2]] ∧ new = [U6 Y r.1.Points]) := by
 refine Aa Tryz.func22 I I I fun C hC => ?_
 unfold Jp at h
 refine Ab fun y2 aj => Z2 (Z4 [] I (Bz W0 7 fun G => Z3 ?_))
 subst aj
 refine Am (fun s ob => ∃ (a : Li × Int × Int × Int), Jp.J1 Q a = some r ∧ s = [(2, .V a.2.2.1), (3, .V a.2.2.2)] ∧ ob = [O0 b [[Q0 a.1, .V a.2.1]], O1 G [W0]]) [(0, _), (1, _), (8, _)] J3 ?_ ?_
 refine Z5 ?_
 obtain ⟨H, ak, h⟩ := Ac h
 refine Z2 (Af 1 I (Z4 [0] I (Cf [0] (C9 b _ _ _ ak) ?_)))
 refine Af 1 I (Z3 (Av h I ?_ ?_))
 intro al h
 exact T6 I (lg ⟨(H.2.L_, H.2.At, F, E), h, I2⟩ [0, 1])
 intro al h
 exact Z7 (lg ⟨(H.2.L_, H.2.At, E, F), h, I2⟩ [0, 1])
 rintro s ob ⟨a, h, rfl, rfl⟩
 refine Ab fun y8 am => ?_
 obtain ⟨g, an, h⟩ := Ac h
 obtain ⟨f, ao, h⟩ := Ac h
 obtain ⟨i, aq, h⟩ := Ac h
 obtain ⟨j, ar, h⟩ := Ac h
 refine Z2 (Af 1 I (By (Is _ _ _ an) (Af 3 I (Z4 [] I (aD 1 (([1, 2, 7, 20, 60, 200, 1000] : Li).map rI) (Z4 [0] I (Cf [0] (C7 b _ _ _ ao) ?_)))))))
 refine Af 1 I (Z4 [] I (aD 1 (([0, 1, 5, 1000] : Li).map rI) (Z4 [0] I (Cf [0] (C7 b _ _ _ aq) ?_))))
 refine Af 1 I (Z4 [] I (aD 1 (([0, 50, 1000, 100000] : Li).map rI) (Z4 [0] I (Cf [0] (C7 b _ _ _ ar) ?_))))
 refine Bi (Au (l := [.v (.string g), .V a.2.2.1, .V a.2.2.2, .V f.1, .V i.1, .V j.1, .N]) K5 I) I (Z4 [] I (Bz W0 7 fun R => Z4 [2] I (Bk 2 0 0 [[.v (.string g), .V a.2.2.1, .V a.2.2.2, .V f.1, .V i.1, .V j.1, .N]] I (Z3 ?_))))
 subst am
 refine Ab fun bd au => ?_
 obtain ⟨k, av, h⟩ := Ac h
 refine Z2 (Af 1 I (Z4 [] I (aD 1 (([1000000, 6000000, 100000000] : Li).map rI) (Z4 [0] I (Cf [0] (C7 b _ _ _ av) ?_)))))
 refine Af 1 I (Z3 ?_)
 subst au
 refine Ab fun be aw => ?_
 obtain ⟨Z, ax, h⟩ := Ac h
 obtain ⟨bf, aa, h⟩ := Ac h
 refine Cb (sl 3 0 (.still 4 (.act 3 (.still 5 (.act 6 (.act 7 (.still 8 (.drop 9 .nil)))))))) [2] [_] I (Dd 4 [.o 1 0] I J1 (Z9 [0] I I I (Cf [0] (Dn b _ _ _ _ ax) ?_)))
 refine Wu I (Au (l := [.V 0, .V Z.1, .V k.1]) D2 I) I (Z9 [] I I I (aD 3 (([(⟨0, Z.1, k.1⟩ : Point)] : List Point).map A2) (Z9 [] I I I (P7 I I I I I I I I (AppSrc.list I) (Vn (F2 aa).1) (Vm (F2 aa).2) dS fun ab => Aq 1 I (AP.one 3 I fun ay => AP.drop [2] I I I (AX.store 2 0 6 (es' := [[.v (.string g), .V a.2.2.1, .V a.2.2.2, .V f.1, .V i.1, .V j.1, .v ab]]) I I I I I I (D5 ay) I (Bm I) I I (Ay (Z3 ?_))))))))
 subst aw
 refine Am (fun s ob => ∃ (y : Li × Int × (List Point)) (S : Value), Jp.J2 a g f i j k y = some r ∧ s = [] ∧ ob = [O0 b [[Q0 y.1, .V y.2.1]], O1 G [W0], O1 R [[.v (.string g), .V a.2.2.1, .V a.2.2.2, .V f.1, .V i.1, .V j.1, .v S]], U6 S y.2.2]) [(0, _), (8, _), (9, _), (10, _)] J4 ?_ ?_
 refine Ak I (Z6 ?_)
 obtain ⟨bg, az, ac⟩ := Ac h
 refine Cv az [(0, _), (8, _), (9, _), (10, _)] J4 (fun (e : Li × Int × (List Point) × Int) s ob => ∃ (n : Value), s = [(11, .V e.2.2.2)] ∧ ob = [O0 b [[Q0 e.1, .V e.2.1]], O1 G [W0], O1 R [[.v (.string g), .V a.2.2.1, .V a.2.2.2, .V f.1, .V i.1, .V j.1, .v n]], U6 n e.2.2.1]) ⟨ab, I2⟩ ⟨I, J⟩ ⟨[0, 1, 2, 3], I, by decide⟩ ?_
 rintro e a0 s ob ⟨n, rfl, rfl⟩ h ad
 unfold Jp.B3 at h
 refine Ab fun bh a1 => Am (fun s ob => ∃ (u : Li × Int × Bool), Jp.J4 f k e u = some a0 ∧ s = [(51, .v (.bool u.2.2))] ∧ ob = [O0 b [[Q0 u.1, .V u.2.1]], O1 G [W0], O1 R [[.v (.string g), .V a.2.2.1, .V a.2.2.2, .V f.1, .V i.1, .V j.1, .v n]], U6 n e.2.2.1]) [(0, _), (8, _), (9, _), (10, _), (11, _)] J5 ?_ ?_
 rcases bt (decide ((e.2.2.1.length : Int) < 7)) with A | A
 have h := C1 A h
 obtain ⟨U, a2, h⟩ := Ac h
 refine Z2 (Ao 2 [.o 1 2] I J1 (AO.d (Ck 3 I I I I) I (Af 2 I (Aj 47 I A (Af 1 I (Bu I I I (Z4 [0] I (Cf [0] (C9 b _ _ _ a2) ?_))))))))
 exact Af 2 I (Z3 (lg ⟨(U.2.L_, U.2.At, decide (U.1 > 0)), h, I2⟩ [0, 1, 2, 3]))
 have h := C2 A h
 exact Z2 (Ao 2 [.o 1 2] I J1 (AO.d (Ck 3 I I I I) I (Af 2 I (Aj 47 I A (Af 4 I (Z3 (lg ⟨(e.1, e.2.1, false), h, I2⟩ [0, 1, 2, 3])))))))
 rintro s ob ⟨u, h, rfl, rfl⟩
 refine Av h I ?_ ?_
 intro a3 h
 refine Z7 ?_
 subst a1
 refine Z6 (Ab fun bi a4 => ?_)
 obtain ⟨w, a5, h⟩ := Ac h
 refine Z2 (Af 2 I (Z4 [0] I (Cf [0] (Dn b _ _ _ _ a5) ?_)))
 refine Af 2 I (Z3 ?_)
 subst a4
 refine Ab fun bj a6 => Bl [.o 2 2] I J1 (Av h I ?_ ?_)
 intro a7 h
 obtain rfl := ad _ (oi h).symm
 have h := ac
 exact aB (lg ⟨(w.2.L_, w.2.At, e.2.2.1), n, h, I2⟩ [0, 1, 2, 3])
 intro a7 h
 refine Z7 ?_
 subst a6
 obtain ⟨K, ae, h⟩ := Ac h
 obtain ⟨M, af, h⟩ := Ac h
 obtain ⟨O, ag, h⟩ := Ac h
 obtain ⟨bk, ah, h⟩ := Ac h
 refine Cb (sl 4 0 (.still 5 (.still 9 (.still 10 (.two 4 6 (.act 6 Ye) (.act 4 Ye)))))) [2] [_] I (Dd 7 [.o 1 0] I J1 (AP.two ?_ ?_))
 refine Z9 [0] I I I (Cf [0] (Dn b _ _ _ _ ae) ?_)
 refine Z9 [] I I I (aD 1 (([1, 1, 10] : Li).map rI) (Z9 [0] I I I (Cf [0] (C7 b _ _ _ af) ?_)))
 refine Aq 1 I (Z9 [0] I I I (Cf [0] (C9 b _ _ _ ag) ?_))
 refine Aq 2 I (Wu I (Au (l := [.V (wr (e.2.2.2 + w.1)), .V (wr (K.1 * M.1)), .V (wr (k.1 - (wr (O.1 * 1000))))]) D2 I) I (Z9 [] I I I (aD 3 (([(⟨wr (e.2.2.2 + w.1), wr (K.1 * M.1), wr (k.1 - (wr (O.1 * 1000)))⟩ : Point)] : List Point).map A2) (Z9 [3] I I I (D7 3 I ah fun B => Aq 1 I (AP.one 3 I fun W => AP.drop [2] I I I (AX.store 2 0 6 (es' := [[.v (.string g), .V a.2.2.1, .V a.2.2.2, .V f.1, .V i.1, .V j.1, .v B]]) I I I I I I (D5 W) I (Bm I) I I (Ay ?_))))))))
 cases io h
 exact Z3 ⟨_, _, _, I, ⟨B, I2⟩, J5, [0, 1, 2, 3], I, by decide⟩
 refine Z9 [] I I I (aD 1 (([1, 1, 10] : Li).map rI) (Z9 [0] I I I (Cf [0] (Dn b _ _ _ _ ae) ?_)))
 refine Z9 [0] I I I (Cf [0] (C7 b _ _ _ af) ?_)
 refine Aq 1 I (Z9 [0] I I I (Cf [0] (C9 b _ _ _ ag) ?_))
 refine Aq 2 I (Wu I (Au (l := [.V (wr (e.2.2.2 + w.1)), .V (wr (K.1 * M.1)), .V (wr (k.1 - (wr (O.1 * 1000))))]) D2 I) I (Z9 [] I I I (aD 3 (([(⟨wr (e.2.2.2 + w.1), wr (K.1 * M.1), wr (k.1 - (wr (O.1 * 1000)))⟩ : Point)] : List Point).map A2) (Z9 [3] I I I (D7 3 I ah fun B => Aq 1 I (AP.one 3 I fun W => AP.drop [2] I I I (AX.store 2 0 6 (es' := [[.v (.string g), .V a.2.2.1, .V a.2.2.2, .V f.1, .V i.1, .V j.1, .v B]]) I I I I I I (D5 W) I (Bm I) I I (Ay ?_))))))))
 cases io h
 exact Z3 ⟨_, _, _, I, ⟨B, I2⟩, J5, [0, 1, 2, 3], I, by decide⟩
 intro a3 h
 obtain rfl := ad _ (oi h).symm
 have h := ac
 exact aB (lg ⟨(u.1, u.2.1, e.2.2.1), n, h, I2⟩ [0, 1, 2, 3])
 rintro s ob ⟨y, S, h, rfl, rfl⟩
 refine Z5 ?_
 obtain ⟨P, a8, h⟩ := Ac h
 obtain ⟨ai, a9, h⟩ := Ac h
 refine Cb (sl 5 0 (.still 6 (.act 5 (.still 7 (.act 8 (.act 9 (.still 10 (.drop 11 .nil)))))))) [2] [_] I (Dd 6 [.o 1 0, .o 3 0] I J2 (Z9 [0] I I I (Cf [0] (Dn b _ _ _ _ a8) ?_)))
 refine Wu I (Au (l := [.V f.1, .V P.1, .V k.1]) D2 I) I (Z9 [] I I I (aD 3 (([(⟨f.1, P.1, k.1⟩ : Point)] : List Point).map A2) (Z9 [3] I I I (D7 3 I a9 fun D => Aq 1 I (AP.one 3 I fun ba => AP.drop [2] I I I (AX.store 2 0 6 (es' := [[.v (.string g), .V a.2.2.1, .V a.2.2.2, .V f.1, .V i.1, .V j.1, .v D]]) I I I I I I (D5 ba) I (Bm I) I I (Ay (Z3 (Z5 (Z2 (Ao 1 [.o 0 2] I J1 (Z4 [1] I (Bk 1 0 0 [[.v (.string g), .V a.2.2.1, .V a.2.2.2, .V f.1, .V i.1, .V j.1, .v D]] I (Z3 ?_))))))))))))))
 refine Fy [0, 3, 1] I ?_
 obtain rfl := oi h
 exact Z8 ⟨.inr I, [_], [O0 b [Bb P.2], U6 D ai], ⟨⟨2, _, _, _, _, _, _, _, I5⟩, J⟩, Dh I (Dh I (Ct)), ⟨[O0 b [Bb P.2]], [U6 D ai], I, I, D, I3⟩⟩
theorem P3 (b : Nat) (e : KS) (r : Sg × (List Piece) × (List Batch) × (List Product) × KS) (h : Mj e = some r) : ACalls Ae 6 [.v (.pointer (some ⟨b, 0, none⟩))] [O0 b [Bb e]] (Dz 1 fun x os new => ∃ (f : Value), x = .tup [.agg [.v (.string r.1.Name), .V r.1.From, .V r.1.To, .V r.1.Capacity, .V r.1.Resist, .V r.1.Wave, .v f], Q4 r.2.1, Q3 r.2.2.1, Q1 r.2.2.2.1] ∧ os = [O0 b [Bb r.2.2.2.2]] ∧ new = [U6 f r.1.Points]) := by
 refine Aa Tryz.func6 I I I fun C hC => ?_
 refine Ab fun D j => Z2 (Z4 [] I (Bz W0 7 fun k => Af 3 I (Z3 ?_)))
 subst j
 refine Ab fun E l => ?_
 obtain ⟨a, n, h⟩ := Ac h
 refine Z2 (Af 1 I (Z4 [0] I (Jg [0] (P4 b _ _ _ _ _ n) ?_)))
 rintro _ _ _ - ⟨c, rfl, rfl, rfl⟩
 refine Z4 [] I (Bz W0 7 fun p => Z4 [3] I (Bk 3 0 0 [[.v (.string a.1.Name), .V a.1.From, .V a.1.To, .V a.1.Capacity, .V a.1.Resist, .V a.1.Wave, .v c]] I (Z3 ?_)))
 subst l
 refine Ab fun F s => ?_
 obtain ⟨g, t, h⟩ := Ac h
 refine Z2 (Af 1 I (Z4 [0] I (Jg [0] (Tm b _ _ t) ?_)))
 rintro _ _ _ - ⟨u, rfl, rfl, rfl⟩
 refine Af 1 I (Z3 ?_)
 subst s
 refine Z5 ?_
 obtain ⟨i, w, h⟩ := Ac h
 obtain ⟨d, y, h⟩ := Ac h
 refine Ff 4 I fun z => Cb (sl 4 0 (sl 3 5 (.still 9 (.act 4 (.act 8 (.act 10 (sl 3 11 .nil))))))) [3] [_] I (Dd 6 [.o 0 0, .o 3 0] I J2 (aC I (Fe I I I z) I (Aq 1 I (Z9 [0] I I I (Jg [0] (Tp b _ _ _ _ w) ?_)))))
 rintro _ _ _ - ⟨A, rfl, rfl, rfl⟩
 refine Z9 [0] I I I (Jg [0] (Tg b _ _ _ _ y) ?_)
 rintro _ _ _ - ⟨B, rfl, rfl, rfl⟩
 refine Z9 [1] I I I (Bk 1 0 0 [[.v (.string a.1.Name), .V a.1.From, .V a.1.To, .V a.1.Capacity, .V a.1.Resist, .V a.1.Wave, .v c]] I (Jc 3 (Aq 1 I (Jc 4 (Aq 2 I (Ay (Z3 (aA (A8 [4, 5, 6] (K := [U1 u g.1, U7 A i.1, U4 B d.1]) I [(3, Q4 i.1), (4, Q3 d.1), (5, Q1 g.1)] ⟨⟨_, I, .us 1 I⟩, ⟨_, I, .us 2 I⟩, ⟨_, I, .us 0 I⟩, J⟩ (ob' := [O0 b [Bb d.2], O1 k [[.v (.string a.1.Name), .V a.1.From, .V a.1.To, .V a.1.Capacity, .V a.1.Resist, .V a.1.Wave, .v c]], U6 c a.1.Points, O1 p [[.v (.string a.1.Name), .V a.1.From, .V a.1.To, .V a.1.Capacity, .V a.1.Resist, .V a.1.Wave, .v c]]]) (.rest _)) (Fy [0, 2, 1] I ?_)))))))))
 cases io h
 exact Z8 ⟨.inr I, [_, _, _, _], [O0 b [Bb d.2], U6 c a.1.Points], ⟨⟨2, _, _, _, _, _, _, _, I5⟩, I, I, I, J⟩, Dh I (Dh I (Ct)), ⟨[O0 b [Bb d.2]], [U6 c a.1.Points], I, I, c, I3⟩⟩
theorem Sv (ad : Li) (n : Int) (u : Int) (r : Bool) (h : Mm ad n u = some r) : ACalls Ae 3 [Q0 ad, .v (.int .u16 n), .v (.int .u16 u)] [] (RB r) := by
 refine Aa Tryz.func3 I I I fun C hC => ?_
 refine Ak I (Ab fun y2 am => ?_)
 obtain ⟨r3, an, h⟩ := Ac h
 refine Z2 (Af 1 I (Z4 [] I (Az I I I (Th _ _ an) dS ?_)))
 rintro _ _ ⟨b5, rfl, rfl⟩
 refine Af 1 I (Z3 ?_)
 subst am
 refine Ab fun y6 ap => ?_
 obtain ⟨b, aq, h⟩ := Ac h
 refine Z2 (Af 1 I (Z4 [0] I (Jg [0] (P3 b5 _ _ aq) ?_)))
 rintro _ _ _ - ⟨D, rfl, rfl, rfl⟩
 refine Af 5 I (Z4 [] I (Bz W0 7 fun U => Z4 [2] I (Bk 2 0 0 [[.v (.string b.1.Name), .V b.1.From, .V b.1.To, .V b.1.Capacity, .V b.1.Resist, .V b.1.Wave, .v D]] I (Af 3 I (Z3 ?_)))))
 subst ap
 refine Am (fun s ob => ∃ (E : List Point), Mm.J1 n u b E = some r ∧ s = [] ∧ ob = [U6 D E, O1 U [[.v (.string b.1.Name), .V b.1.From, .V b.1.To, .V b.1.Capacity, .V b.1.Resist, .V b.1.Wave, .v D]]]) [(1, _), (2, _), (8, _), (9, _), (10, _), (11, _)] J6 ?_ ?_
 refine Ab fun ci ar => Z2 (Ao 2 [.o 1 2] I J1 (AO.d (Ck 1 I I I I) I (Af 1 I (Z3 ?_))))
 subst ar
 refine Z6 (Qf 1 I fun au => ?_)
 obtain ⟨cj, av, aw⟩ := Ac h
 refine Kt av [(1, _), (2, _), (8, _), (9, _), (10, _), (11, _), (32, _)] J7 (fun (aa : Nat) (W : List Point) s ob => s = [(33, .V (aa : Int))] ∧ ob = [U6 D W, O1 U [[.v (.string b.1.Name), .V b.1.From, .V b.1.To, .V b.1.Capacity, .V b.1.Resist, .V b.1.Wave, .v D]]]) ⟨I, I⟩ ⟨I, J⟩ ⟨[1, 2], I, by decide⟩ ?_ ?_
 rintro aa W ck s ob ae ⟨rfl, rfl⟩ h
 have ax := Do ae
 refine Ak I (Ab fun cl ay => B0 I ax (Z7 ?_))
 subst ay
 refine Z5 (Z6 (Ak I ?_))
 obtain ⟨X, ⟨az, af⟩, h⟩ := Bg h
 refine Z2 (Ao 3 [.o 1 1] I J1 (AO.d (Cw 0 (m := X.1) I I I I I I I az (Ag af)) I (Af 1 I (Z4 [0] I (Bw 0 X.1 1 I I I (Ag af) I I I I (Bm I) I (Di (x := (⟨X.2.At, 7, X.2.Limit⟩ : Point)) I) (Z3 (Z2 (Ao 2 [.k 0 (aa + 1 : Nat)] I ⟨A5 ae au, J⟩ ?_))))))))
 cases io h
 exact Z3 (lg I2 [0, 1])
 rintro W s ob ⟨rfl, rfl⟩ he
 subst he
 have h := aw
 have a0 := Dp b.1.Points.length
 exact Ak I (Ab fun cm cn => B7 I a0 (aB (lg ⟨W, h, I2⟩ [0, 1])))
 rintro s ob ⟨E, h, rfl, rfl⟩
 unfold Mm.J1 at h
 refine Ab fun co a1 => Z2 (Af 1 I (Bi (Ex (c := wr (n)) I I I I I) I (Af 1 I (Bi (Ex (c := wr (u)) I I I I I) I (Ao 4 [.f 1 (.V ((min (wr (n)) (wr (u))).tmod 1000))] I ⟨Yp.yd (Dt (c := ((min (wr (n)) (wr (u))).tmod 1000)) I I ⟨by decide, I⟩), J⟩ (Bi (Ex (c := wr (n)) I I I I I) I (Af 1 I (Bi (Ex (c := wr (u)) I I I I I) I (Ao 5 [.f 1 (.V ((max (wr (n)) (wr (u))).tmod 1000))] I ⟨Yp.yd (Dt (c := ((max (wr (n)) (wr (u))).tmod 1000)) I I ⟨by decide, I⟩), J⟩ (Z3 ?_))))))))))
 subst a1
 refine Am (fun s ob => ∃ (Y : Int × Int), Mm.J2 b E Y = some r ∧ s = [(13, .V Y.1), (14, .V Y.2)] ∧ ob = [U6 D E, O1 U [[.v (.string b.1.Name), .V b.1.From, .V b.1.To, .V b.1.Capacity, .V b.1.Resist, .V b.1.Wave, .v D]]]) [(8, _), (9, _), (10, _), (11, _)] J4 ?_ ?_
 refine Ak I (Av h I ?_ ?_)
 intro a2 h
 exact T6 I (lg ⟨(wr (1 + ((max (wr (n)) (wr (u))).tmod 1000)), wr (1 + ((min (wr (n)) (wr (u))).tmod 1000))), h, I2⟩ [0, 1])
 intro a2 h
 exact Z7 (lg ⟨(wr (1 + ((min (wr (n)) (wr (u))).tmod 1000)), wr (1 + ((max (wr (n)) (wr (u))).tmod 1000))), h, I2⟩ [0, 1])
 rintro s ob ⟨Y, h, rfl, rfl⟩
 refine Ab fun cp a3 => Z2 (Bi (Au (l := [.V 5000000, .V 5000000]) Cr I) I (Z4 [] I (Bz [.V 0, .V 0] 2 fun a4 => Z4 [2] I (Bk 2 0 0 [[.V 5000000, .V 5000000]] I (Z3 ?_)))))
 subst a3
 refine Ab fun cq a5 => ?_
 obtain ⟨F, a6, h⟩ := Ac h
 refine Z2 (Ao 6 [.o 0 1, .o 5 2] I J2 (AO.ghost (A8 [0] (K := [U6 D E]) I [(63, .agg [.v (.string b.1.Name), .V b.1.From, .V b.1.To, .V b.1.Capacity, .V b.1.Resist, .V b.1.Wave, Q6 E])] ⟨⟨_, I, .agg (.cons (.refl _) (.cons (.refl _) (.cons (.refl _) (.cons (.refl _) (.cons (.refl _) (.cons (.refl _) (.cons (.us 0 I) (.rest _))))))))⟩, J⟩ (ob' := [O1 U [[.v (.string b.1.Name), .V b.1.From, .V b.1.To, .V b.1.Capacity, .V b.1.Resist, .V b.1.Wave, Q6 E]], .arr a4 37 2 1 [[.V 5000000, .V 5000000]]]) (.cons (.arr (.cons (.refl _) (.cons (.refl _) (.cons (.refl _) (.cons (.refl _) (.cons (.refl _) (.cons (.refl _) (.cons (.us 0 I) (.rest _))))))))) (.rest _))) (Z4 [] I (Az I I I (Cm _ _ _ _ _ _ _ a6) dS ?_))))
 rintro _ _ ⟨ag, rfl, rfl⟩
 refine Af 5 I (Z3 ?_)
 subst a5
 refine Ab fun cr a7 => ?_
 obtain ⟨O, a8, h⟩ := Ac h
 refine Z2 (Ao 6 [.o 0 0, .o 5 1] I J2 (Z4 [] I (Az I I I (Cm _ _ _ _ _ _ _ a8) dS ?_)))
 rintro _ _ ⟨ah, rfl, rfl⟩
 refine Af 5 I (Z3 ?_)
 subst a7
 refine Ab fun ct a9 => Fx 99 ((F.2 != 0) || ((O.2 != 0) || (((F.1.length : Int) != (O.1.length : Int)) || decide ((F.1.length : Int) < 2)))) ?_ ?_
 refine Z2 (Af 3 I ?_)
 rcases bt ((F.2 != 0)) with H | H
 exact Aj 84 I H (Af 15 I (Z3 (jf (by simp only [H, bz]) I I I2)))
 refine Aj 84 I H (Af 4 I ?_)
 rcases bt ((O.2 != 0)) with P | P
 exact Aj 88 I P (Af 11 I (Z3 (jf (by simp only [H, P, bz]) I I I2)))
 refine Aj 88 I P (Af 1 I (Bu I I I (AO.d (Ck 2 I I I I) I (Af 1 I (Bu I I I (AO.d (Ck 3 I I I I) I (Af 3 I ?_)))))))
 rcases bt (((F.1.length : Int) != (O.1.length : Int))) with R | R
 exact Aj 95 I R (Af 4 I (Z3 (jf (by simp only [H, P, R, bz]) I I I2)))
 exact Aj 95 I R (Af 1 I (Bu I I I (AO.d (Ck 2 I I I I) I (Af 2 I (Z3 (jf (by simp only [H, P, R, bz]) I I I2))))))
 refine Av h I ?_ ?_
 intro ba h
 refine Ak I (aA g0 ?_)
 cases io h
 exact Z8 pr
 intro ba h
 refine Z7 ?_
 subst a9
 refine Am (fun s ob => ∃ (ai : Unit), Mm.J3 ai = some r ∧ s = [] ∧ ob = []) [] J ?_ ?_
 refine Ab fun cu bb => Z2 (Af 1 I (AO.d (Ck 2 I I I I) I (Af 1 I (Z3 ?_))))
 subst bb
 refine Z6 (Qf 2 I fun bc => ?_)
 obtain ⟨cv, bd, aj⟩ := Ac h
 refine Fg bd [(16, _), (18, _), (101, _)] J3 (fun (Z : Nat) (ak : Unit) s ob => s = [(102, .V (Z : Int))] ∧ ob = [U3 ag F.1, U3 ah O.1]) ⟨I, I⟩ ⟨I, J⟩ ⟨[2, 3], I, by decide⟩ ?_ ?_
 rintro Z ak be s ob al ⟨rfl, rfl⟩ h bf
 unfold Mm.B4 at h
 have bg := Do al
 refine Ak I (Ab fun cw bh => B0 I bg (Z7 ?_))
 subst bh
 refine Z5 (Z6 (Ak I (Am (fun s ob => ∃ (ab : Bool), Mm.J5 ab = some be ∧ s = [(168, .v (.bool ab))] ∧ ob = [U3 ag F.1, U3 ah O.1]) [(16, _), (18, _), (101, _), (102, _)] J4 ?_ ?_)))
 obtain ⟨e, ⟨A, i⟩, h⟩ := Bg h
 obtain ⟨a, ⟨w, g⟩, h⟩ := Bg h
 rcases bt (decide (e.2.Bounds.High > a.2.Bounds.High)) with G | G
 have h := C1 G h
 refine A1 1 e.1 I i fun bi => A1 0 a.1 I g fun bj => Cb (pd 64 0 []) [1, 0] [_, _] I (Aq 2 I (aC I (An (m := e.1) I I I I I bi I A i) I (Aq 2 I (AP.o I (Ar 0 e.1 2 I I I (Ag i) I (y := .V e.2.Bounds.High) I) I (Aq 2 I (aC I (An (m := a.1) I I I I I bj I w g) I (Aq 2 I (AP.o I (Ar 1 a.1 2 I I I (Ag g) I (y := .V a.2.Bounds.High) I) I (Aq 2 I (Ax 118 I G ?_))))))))))
 refine Aq 18 I (Ad I I I I dS (Ad I I I I dS (Ad I I I I dS (Ad I I I I dS (Ad I I I I dS (Ad I I I I dS (Ad I I I I dS (Ad I I I I dS (Ad I I I I dS (Ad I I I I dS (Ad I I I I dS (Ad I I I I dS ?_))))))))))))
 refine Ad I I I I dS (Ad I I I I dS (Ad I I I I dS (Ad I I I I dS (Ad I I I I dS (Ad I I I I dS (Ad I I I I dS (Ad I I I I dS (Ad I I I I dS (Ad I I I I dS (Ad I I I I dS (Ad I I I I dS (Ad I I I I dS ?_))))))))))))
 exact Ad I I I I dS (Ad I I I I dS (Ad I I I I dS (Ad I I I I dS (Ad I I I I dS (Aq 2 I (Ay (Z3 (lg ⟨true, h, I2⟩ [0, 1]))))))))
 have h := C2 G h
 rcases bt (decide (e.2.Bounds.Low > a.2.Bounds.Low)) with M | M
 have h := C1 M h
 refine A1 1 e.1 I i fun bk => A1 0 a.1 I g fun bl => A1 1 e.1 I i fun bm => A1 0 a.1 I g fun bn => Cb (pd 64 0 []) [1, 0] [_, _] I (Aq 2 I (aC I (An (m := e.1) I I I I I bk I A i) I (Aq 2 I (AP.o I (Ar 0 e.1 2 I I I (Ag i) I (y := .V e.2.Bounds.High) I) I (Aq 2 I (aC I (An (m := a.1) I I I I I bl I w g) I (Aq 2 I (AP.o I (Ar 1 a.1 2 I I I (Ag g) I (y := .V a.2.Bounds.High) I) I ?_))))))))
 refine Aq 2 I (Ax 118 I G (Aq 2 I (A6 I I I I ((An (m := e.1) I I I I I bm I A i).yd) dS (Aq 2 I (A6 I I I I (Ar 0 e.1 1 I I I (Ag i) I (y := .V e.2.Bounds.Low) I) dS (Aq 2 I (A6 I I I I ((An (m := a.1) I I I I I bn I w g).yd) dS (Aq 2 I (A6 I I I I (Ar 1 a.1 1 I I I (Ag g) I (y := .V a.2.Bounds.Low) I) dS (Aq 3 I (Ax 133 I M (Aq 3 I ?_))))))))))))
 refine Ad I I I I dS (Ad I I I I dS (Ad I I I I dS (Ad I I I I dS (Ad I I I I dS (Ad I I I I dS (Ad I I I I dS (Ad I I I I dS (Ad I I I I dS (Ad I I I I dS (Ad I I I I dS (Ad I I I I dS (Ad I I I I dS ?_))))))))))))
 refine Ad I I I I dS (Ad I I I I dS (Ad I I I I dS (Ad I I I I dS (Ad I I I I dS (Ad I I I I dS (Ad I I I I dS (Ad I I I I dS (Ad I I I I dS (Ad I I I I dS (Ad I I I I dS (Ad I I I I dS (Ad I I I I dS ?_))))))))))))
 exact Ad I I I I dS (Ad I I I I dS (Ad I I I I dS (Ad I I I I dS (Aq 2 I (Ay (Z3 (lg ⟨true, h, I2⟩ [0, 1])))))))
 have h := C2 M h
 rcases bt (decide ((Z : Int) > 0)) with Q | Q
 have h := C1 Q h
 obtain ⟨j, ⟨ac, B⟩, h⟩ := Bg h
 rcases bt (decide (a.2.Bounds.High > j.2.Bounds.High)) with S | S
 have h := C1 S h
 refine A1 1 e.1 I i fun bo => A1 0 a.1 I g fun bp => A1 1 e.1 I i fun bq => A1 0 a.1 I g fun br => A1 0 a.1 I g fun bs => A1 0 j.1 I B fun bu => Cb (pd 64 0 []) [1, 0] [_, _] I (Aq 2 I (aC I (An (m := e.1) I I I I I bo I A i) I (Aq 2 I (AP.o I (Ar 0 e.1 2 I I I (Ag i) I (y := .V e.2.Bounds.High) I) I (Aq 2 I (aC I (An (m := a.1) I I I I I bp I w g) I ?_))))))
 refine Aq 2 I (AP.o I (Ar 1 a.1 2 I I I (Ag g) I (y := .V a.2.Bounds.High) I) I (Aq 2 I (Ax 118 I G (Aq 2 I (A6 I I I I ((An (m := e.1) I I I I I bq I A i).yd) dS (Aq 2 I (A6 I I I I (Ar 0 e.1 1 I I I (Ag i) I (y := .V e.2.Bounds.Low) I) dS (Aq 2 I (A6 I I I I ((An (m := a.1) I I I I I br I w g).yd) dS (Aq 2 I (A6 I I I I (Ar 1 a.1 1 I I I (Ag g) I (y := .V a.2.Bounds.Low) I) dS (Aq 3 I ?_))))))))))))
 refine Ax 133 I M (Aq 3 I (Ax 136 I Q (Aq 2 I (A6 I I I I ((An (m := a.1) I I I I I bs I w g).yd) dS (Aq 2 I (A6 I I I I (Ar 1 a.1 2 I I I (Ag g) I (y := .V a.2.Bounds.High) I) dS (Aq 3 I (A6 I I I I ((An (m := j.1) I I I I I bu I ac B).yd) dS (Aq 2 I (A6 I I I I (Ar 1 j.1 2 I I I (Ag B) I (y := .V j.2.Bounds.High) I) dS (Aq 2 I (Ax 151 I S ?_))))))))))))
 exact Aq 17 I (Ay (Z3 (lg ⟨true, h, I2⟩ [0, 1])))
 have h := C2 S h
 refine A1 1 e.1 I i fun bv => A1 0 a.1 I g fun bw => A1 1 e.1 I i fun bx => A1 0 a.1 I g fun b0 => A1 0 a.1 I g fun b1 => A1 0 j.1 I B fun b2 => A1 0 a.1 I g fun b3 => A1 0 j.1 I B fun b4 => Cb (pd 64 0 []) [1, 0] [_, _] I (Aq 2 I (aC I (An (m := e.1) I I I I I bv I A i) I (Aq 2 I (AP.o I (Ar 0 e.1 2 I I I (Ag i) I (y := .V e.2.Bounds.High) I) I ?_))))
 refine Aq 2 I (aC I (An (m := a.1) I I I I I bw I w g) I (Aq 2 I (AP.o I (Ar 1 a.1 2 I I I (Ag g) I (y := .V a.2.Bounds.High) I) I (Aq 2 I (Ax 118 I G (Aq 2 I (A6 I I I I ((An (m := e.1) I I I I I bx I A i).yd) dS (Aq 2 I (A6 I I I I (Ar 0 e.1 1 I I I (Ag i) I (y := .V e.2.Bounds.Low) I) dS (Aq 2 I (A6 I I I I ((An (m := a.1) I I I I I b0 I w g).yd) dS (Aq 2 I ?_))))))))))))
 refine A6 I I I I (Ar 1 a.1 1 I I I (Ag g) I (y := .V a.2.Bounds.Low) I) dS (Aq 3 I (Ax 133 I M (Aq 3 I (Ax 136 I Q (Aq 2 I (A6 I I I I ((An (m := a.1) I I I I I b1 I w g).yd) dS (Aq 2 I (A6 I I I I (Ar 1 a.1 2 I I I (Ag g) I (y := .V a.2.Bounds.High) I) dS (Aq 3 I (A6 I I I I ((An (m := j.1) I I I I I b2 I ac B).yd) dS (Aq 2 I (A6 I I I I (Ar 1 j.1 2 I I I (Ag B) I (y := .V j.2.Bounds.High) I) dS ?_))))))))))))
 exact Aq 2 I (Ax 151 I S (Aq 2 I (A6 I I I I ((An (m := a.1) I I I I I b3 I w g).yd) dS (Aq 2 I (A6 I I I I (Ar 1 a.1 1 I I I (Ag g) I (y := .V a.2.Bounds.Low) I) dS (Aq 3 I (A6 I I I I ((An (m := j.1) I I I I I b4 I ac B).yd) dS (Aq 2 I (A6 I I I I (Ar 1 j.1 1 I I I (Ag B) I (y := .V j.2.Bounds.Low) I) dS (Aq 4 I (Ay (Z3 (lg ⟨decide (a.2.Bounds.Low > j.2.Bounds.Low), h, I2⟩ [0, 1])))))))))))))
 have h := C2 Q h
 refine A1 1 e.1 I i fun b6 => A1 0 a.1 I g fun b7 => A1 1 e.1 I i fun b8 => A1 0 a.1 I g fun b9 => Cb (pd 64 0 []) [1, 0] [_, _] I (Aq 2 I (aC I (An (m := e.1) I I I I I b6 I A i) I (Aq 2 I (AP.o I (Ar 0 e.1 2 I I I (Ag i) I (y := .V e.2.Bounds.High) I) I (Aq 2 I (aC I (An (m := a.1) I I I I I b7 I w g) I (Aq 2 I (AP.o I (Ar 1 a.1 2 I I I (Ag g) I (y := .V a.2.Bounds.High) I) I ?_))))))))
 refine Aq 2 I (Ax 118 I G (Aq 2 I (A6 I I I I ((An (m := e.1) I I I I I b8 I A i).yd) dS (Aq 2 I (A6 I I I I (Ar 0 e.1 1 I I I (Ag i) I (y := .V e.2.Bounds.Low) I) dS (Aq 2 I (A6 I I I I ((An (m := a.1) I I I I I b9 I w g).yd) dS (Aq 2 I (A6 I I I I (Ar 1 a.1 1 I I I (Ag g) I (y := .V a.2.Bounds.Low) I) dS (Aq 3 I (Ax 133 I M (Aq 3 I ?_))))))))))))
 refine Ax 136 I Q (Aq 15 I (Ad I I I I dS (Ad I I I I dS (Ad I I I I dS (Ad I I I I dS (Ad I I I I dS (Ad I I I I dS (Ad I I I I dS (Ad I I I I dS (Ad I I I I dS (Ad I I I I dS (Ad I I I I dS ?_))))))))))))
 exact Ad I I I I dS (Ad I I I I dS (Ad I I I I dS (Aq 3 I (Ay (Z3 (lg ⟨false, h, I2⟩ [0, 1]))))))
 rintro s ob ⟨ab, h, rfl, rfl⟩
 refine Av h I ?_ ?_
 intro ca h
 refine Ak I ?_
 obtain rfl := bf _ (oi h).symm
 have h := aj
 have h := Ef h
 refine aA g0 ?_
 cases io h
 exact Z8 pr
 intro ca h
 refine Z7 (Z2 (Ao 2 [.k 0 (Z + 1 : Nat)] I ⟨A5 al bc, J⟩ ?_))
 cases io h
 exact Z3 ⟨_, _, _, I, I2, J4, [0, 1], I, by decide⟩
 rintro ak s ob ⟨rfl, rfl⟩ he
 subst he
 have h := Eo aj
 have cb := Dp F.1.length
 exact Ak I (Ab fun cx cy => B7 I cb (aB (lg ⟨(), h, I2⟩ [])))
 rintro s ob ⟨ai, h, rfl, rfl⟩
 refine Z5 ?_
 obtain ⟨cz, cc, h⟩ := Ac h
 refine Z2 (By (Sd  _ cc) (Af 1 I (Z3 ?_)))
 cases io h
 exact Z8 pr
end Go.Proofs.YtkhcdkioehdndaaGreatDoor
