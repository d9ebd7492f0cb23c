/- Walks that show what functions of the program compute; printed by a program of ours. No condition. -/
import Derived.Test.YtodeekicjiengaaGreatDoorYvL4
import Derived.Test.YtodeekicjiengaaGreatDoorYvD
set_option maxRecDepth 100000
namespace Go.Proofs.YtodeekicjiengaaGreatDoor
open Go.Aw
set_option linter.unusedVariables false
set_option linter.unusedSimpArgs false
set_option maxHeartbeats 4000000
theorem gF (a : Nat) (d : KS) (e : Int) (r : Product × KS) (h : Vn d e = some r) : ACalls Aj 21 [.v (.pointer (some ⟨a, 0, none⟩)), .V e] [O2 a [Cp d]] (D6 1 fun x os new => x = .agg (Bw r.1) ∧ os = [O2 a [Cp r.2]] ∧ new = []) := by
 refine Ad Tryz.func21 I I I fun C hC => ?_
 refine Aa fun w k => sH (sJ [] I (sS W5 5 fun y => sI ?_))
 subst k
 refine sN ?_
 obtain ⟨f, n, h⟩ := Ac h
 obtain ⟨g, o, h⟩ := Ac h
 obtain ⟨i, s, h⟩ := Ac h
 obtain ⟨j, t, h⟩ := Ac h
 obtain ⟨b, u, h⟩ := Ac h
 refine sH (Ag 1 I (Cc (C3 _ _ _ n) (Ag 1 I (sJ [0] I (A1 [0] (Ea a _ _ _ _ o) ?_)))))
 refine Ag 1 I (sJ [] I (sR 1 (([0, 830, 2000, 1] : Li).map rI) (sJ [0] I (A1 [0] (Al a _ _ _ s) ?_))))
 refine Ag 1 I (sJ [] I (sR 1 (([0, 800, 5000, 3] : Li).map rI) (sJ [0] I (A1 [0] (Al a _ _ _ t) ?_))))
 refine Ag 1 I (sJ [] I (sR 1 (([1, 700, 1000, 1300, 2000] : Li).map rI) (sJ [0] I (A1 [0] (Al a _ _ _ u) ?_))))
 refine sT (Au (l := [.v (.string f), .V g.1, .V i.1, .V j.1, .V b.1]) Zz I) I (sJ [1] I (A3 1 0 0 [[.v (.string f), .V g.1, .V i.1, .V j.1, .V b.1]] I (sI ?_)))
 obtain rfl := oi h
 exact sO ⟨.inr I, [_], [O2 a [Cp b.2]], ⟨⟨1, _, _, _, _, _, _, _, I5⟩, J⟩, Cy I (Cm), ⟨[O2 a [Cp b.2]], [], I5⟩⟩
theorem gX (b : Nat) (g : KS) (r : (List Product) × KS) (h : Qh g = some r) : ACalls Aj 8 [.v (.pointer (some ⟨b, 0, none⟩))] [O2 b [Cp g]] (D6 1 fun x os new => ∃ (i : Value), x = .v i ∧ os = [O2 b [Cp r.2]] ∧ new = [U7 i r.1]) := by
 refine Ad Tryz.func8 I I I fun C hC => ?_
 unfold Qh at h
 refine Ah I (Ah I (Ai (fun s ob => ∃ (a : Li × Int × (List Product)) (e : Value), Qh.J1 a = some r ∧ s = [(3, .v e)] ∧ ob = [O2 b [[Q0 a.1, .V a.2.1]], U7 e a.2.2]) [] J ?_ ?_))
 refine Aa fun A j => ?_
 obtain ⟨B, k, h⟩ := Ac h
 refine sH (Ag 1 I (sJ [0] I (A1 [0] (Ea b _ _ _ _ k) ?_)))
 refine Ag 1 I (sI ?_)
 subst j
 refine sM (sP (Bv 72 5) ?_)
 obtain ⟨D, l, m⟩ := Ac h
 clear h
 refine Cs l [(0, _)] J1 (fun (c : Li × Int × (List Product) × Int) s ob => ∃ (f : Value), s = [(3, .v f), (4, .V c.2.2.2)] ∧ ob = [O2 b [[Q0 c.1, .V c.2.1]], U7 f c.2.2.1]) ⟨(.slice none 0 0), I2⟩ ⟨I, I, J⟩ ⟨[0, 1], I, by decide⟩ ?_
 rintro c E s ob ⟨f, rfl, rfl⟩ h n
 refine Aa fun F o => Ah I (Ar h I ?_ ?_)
 intro p h
 refine sL ?_
 subst o
 refine sN (sM ?_)
 obtain ⟨t, u, h⟩ := Ac h
 obtain ⟨G, w, h⟩ := Ac h
 refine sH (Ag 3 I (sV (Cz 1 I I I I) I (sJ [0] I (A1 [0] (gF b _ _ _ u) ?_))))
 refine sJ [] I (sR 5 (([t.1] : List Product).map Bw) (sJ [1] I (C7 1 I w fun y => Ag 1 I (sI (sH (Ag 3 I ?_))))))
 obtain rfl := oi h
 exact sI ⟨_, _, _, I, ⟨y, I2⟩, J3, [0, 1], I, by decide⟩
 intro p h
 obtain rfl := n _ (oi h).symm
 replace h := m
 refine sQ ?_
 exact lg ⟨(c.1, c.2.1, c.2.2.1), f, h, I2⟩ [0, 1]
 rintro s ob ⟨a, e, h, rfl, rfl⟩
 refine Ah I ?_
 obtain rfl := oi h
 exact sO ⟨.inr I, [_], [O2 b [[Q0 a.1, .V a.2.1]], U7 e a.2.2], J1, Cy I (Cy I (Cm)), ⟨[O2 b [[Q0 a.1, .V a.2.1]]], [U7 e a.2.2], I, I, e, I3⟩⟩
theorem hO (e : Nat) (O : KS) (P : Int) (D : Int) (r : (List Piece) × KS) (h : Qj O P D = some r) : ACalls Aj 22 [.v (.pointer (some ⟨e, 0, none⟩)), .V P, .V D] [O2 e [Cp O]] (D6 1 fun x os new => ∃ (Q : Value), x = .v Q ∧ os = [O2 e [Cp r.2]] ∧ new = [U9 Q r.1]) := by
 refine Ad Tryz.func22 I I I fun C hC => ?_
 unfold Qj at h
 refine Ah I (Ah I (Ai (fun s ob => ∃ (g : Li × Int × (List Piece)) (u : Value), Qj.J1 g = some r ∧ s = [(7, .v u)] ∧ ob = [O2 e [[Q0 g.1, .V g.2.1]], U9 u g.2.2]) [] J ?_ ?_))
 refine sM (sP (Bv 105 2) ?_)
 obtain ⟨ax, R, S⟩ := Ac h
 clear h
 refine Cs R [(0, _), (2, _)] J2 (fun (a : Li × Int × Int × (List Piece)) s ob => ∃ (t : Value), s = [(1, .V a.2.2.1), (7, .v t)] ∧ ob = [O2 e [[Q0 a.1, .V a.2.1]], U9 t a.2.2.2]) ⟨(.slice none 0 0), I2⟩ ⟨I, I, J⟩ ⟨[0, 1], I, by decide⟩ ?_
 rintro a G s ob ⟨t, rfl, rfl⟩ h U
 unfold Qj.B2 at h
 refine Aa fun ay W => Ec 15 (decide (a.2.2.1 > 0) && decide ((a.2.2.2.length : Int) < 12)) ?_ ?_
 refine sH (Ag 3 I ?_)
 rcases bt (decide (a.2.2.1 > 0)) with w | w
 refine Af 11 I w (Ag 1 I (Cd I I I (sV (Cz 1 I I I I) I (Ag 2 I (sI ?_)))))
 exact jf (by simp only [w, bz]) I I I2
 refine Af 11 I w (Ag 4 I (sI ?_))
 exact jf (by simp only [w, bz]) I I I2
 refine Ar h I ?_ ?_
 intro X h
 refine sL ?_
 subst W
 refine sM (Aa fun az Y => ?_)
 obtain ⟨j, Z, h⟩ := Ac h
 obtain ⟨k, aa, h⟩ := Ac h
 refine sH (Ag 2 I (sJ [0] I (A1 [0] (Di e _ _ _ Z) ?_)))
 refine An 5 [.f 3 (.V (wr ((wr (a.2.2.1 * 2)).tdiv 3)))] I ⟨Yp.yd (Em (c := wr ((wr (a.2.2.1 * 2)).tdiv 3)) I I ⟨by decide, I⟩), J⟩ (sJ [0] I (A1 [0] (Ea e _ _ _ _ aa) ?_))
 refine sT (Au (l := [.V j.1, .V k.1]) Ym I) I (sJ [] I (sS [.V 0, .V 0] 2 fun H => sJ [2] I (A3 2 0 0 [[.V j.1, .V k.1]] I (sI ?_))))
 subst Y
 refine Ai (fun s ob => ∃ (i : Int), Qj.J3 D a j k i = some G ∧ s = [] ∧ ob = [O2 e [Cp k.2], U9 t a.2.2.2, .arr H 105 2 1 [[.V j.1, .V i]]]) [(0, _), (1, _), (2, _), (7, _), (8, _)] J5 ?_ ?_
 refine sN (sH (Ag 1 I (sV (Cz 1 I I I I) I (Ag 1 I (sI (Ar h I ?_ ?_))))))
 intro ab h
 refine sH (Ag 2 I (sJ [2] I (A3 2 0 1 [[.V j.1, .V a.2.2.1]] I (sI ?_))))
 exact lg ⟨a.2.2.1, h, I2⟩ [0, 1, 2]
 intro ab h
 refine sL ?_
 exact lg ⟨k.1, h, I2⟩ [0, 1, 2]
 rintro s ob ⟨i, h, rfl, rfl⟩
 unfold Qj.J3 at h
 refine Aa fun a0 ac => sH (An 5 [.o 1 2] I J1 (sJ [2] I (A3 2 0 1 [[.V j.1, .V (min i a.2.2.1)]] I (sI ?_))))
 subst ac
 refine Ai (fun s ob => ∃ (E : Int), Qj.J4 a k i E = some G ∧ s = [(1, .V a.2.2.1)] ∧ ob = [O2 e [Cp k.2], U9 t a.2.2.2, .arr H 105 2 1 [[.V E, .V (min i a.2.2.1)]]]) [(0, _), (2, _), (7, _), (8, _)] J4 ?_ ?_
 refine Ai (fun s ob => ∃ (K : Bool), Qj.J5 D a j k i K = some G ∧ s = [(50, .v (.bool K))] ∧ ob = [O2 e [Cp k.2], U9 t a.2.2.2, .arr H 105 2 1 [[.V j.1, .V (min i a.2.2.1)]]]) [(0, _), (1, _), (2, _), (7, _), (8, _)] J5 ?_ ?_
 rcases bt (decide ((a.2.2.2.length : Int) > 0)) with A | A
 replace h := Bq A h
 obtain ⟨B, ⟨ad, M⟩, h⟩ := A5 h
 refine E2 1 I fun ae => E2 1 I fun af => C5 1 B.1 I M fun ag => By (pd 15 0 []) [1, 2] [_, _] I (Bg 1 I (sY I (E1 I I I ae) I (Bg 2 I (A4 39 I A (Bg 2 I (Fw I I I I ((E1 I I I af).yd) dS (Bg 1 I (Fw I I I I ((B0 (m := B.1) I I I I I ag I ad M).yd) dS (Bg 1 I ?_)))))))))
 refine Fw I I I I (Bl 0 B.1 0 I I I (Ae M) I (y := .V B.2.Batch) I) dS (B8 4 [.o 1 1] I J1 (Ap (sI ?_)))
 exact lg ⟨(B.2.Batch == j.1), h, I2⟩ [0, 1, 2]
 replace h := Br A h
 refine E2 1 I fun ah => By (pd 15 0 []) [] [] I (Bg 1 I (sY I (E1 I I I ah) I (Bg 2 I (A4 39 I A (Bg 11 I (Ap (sI ?_)))))))
 exact lg ⟨false, h, I2⟩ [0, 1, 2]
 rintro s ob ⟨K, h, rfl, rfl⟩
 refine Ar h I ?_ ?_
 intro ai h
 refine Aa fun a1 aj => ?_
 obtain ⟨F, ak, h⟩ := Ac h
 refine sH (An 6 [.o 1 2, .f 4 (.V F)] I ⟨Yp.yd (Em (c := F) I I (Iz ak)), I, J⟩ (sJ [2] I (A3 2 0 0 [[.V F, .V (min i a.2.2.1)]] I (sI ?_))))
 subst aj
 refine Aa fun a2 al => ?_
 obtain ⟨b, ⟨N, n⟩, h⟩ := A5 h
 refine E2 1 I fun am => C5 1 b.1 I n fun an => By (pd 10 0 []) [1, 2] [_, _] I (Bg 2 I (sY I (E1 I I I am) I (Bg 1 I (sY I (B0 (m := b.1) I I I I I an I N n) I (Bg 1 I (AP.o I (Bl 0 b.1 0 I I I (Ae n) I (y := .V b.2.Batch) I) I (B8 3 [.o 1 1] I J1 (Ap (sI ?_)))))))))
 subst al
 refine Ar h I ?_ ?_
 intro ao h
 refine sN (E2 1 I fun aq => C5 1 b.1 I n fun ar => C5 1 b.1 I n fun au => By (sl 12 0 (.drop 12 .nil)) [1, 2] [_, _] I (Bg 2 I (sY I (E1 I I I aq) I (Bg 1 I (sY I (B0 (m := b.1) I I I I I ar I N n) I (Bg 1 I (AP.o I (Bl 0 b.1 1 I I I (Ae n) I (y := .V b.2.Volume) I) I (B8 3 [.o 1 1] I J1 (sY I (B0 (m := b.1) I I I I I au I N n) I ?_)))))))))
 refine Bg 1 I (tB [1] I I I (Cg 1 b.1 1 I I I (Ae n) I I I I (Ca I) I (Df (x := (⟨b.2.Batch, wr (b.2.Volume + (min i a.2.2.1))⟩ : Piece)) I) (Ap (sI (Bh [.o 2 2] I J1 ?_)))))
 obtain rfl := oi h
 refine sQ ?_
 exact ⟨_, _, _, I, ⟨t, I2⟩, J4, [0, 1], I, by decide⟩
 intro ao h
 refine sL ?_
 exact lg ⟨F, h, I2⟩ [0, 1, 2]
 intro ai h
 refine sL ?_
 exact lg ⟨j.1, h, I2⟩ [0, 1, 2]
 rintro s ob ⟨E, h, rfl, rfl⟩
 refine Bh [.o 2 2] I J1 ?_
 obtain ⟨a3, av, h⟩ := Ac h
 refine sH (An 2 [.o 1 2] I J1 (sJ [] I (sR 2 (([(⟨E, (min i a.2.2.1)⟩ : Piece)] : List Piece).map A9) (sJ [1] I (C7 1 I av fun aw => Ag 1 I ?_)))))
 obtain rfl := oi h
 exact sI ⟨_, _, _, I, ⟨aw, I2⟩, J4, [0, 1], I, by decide⟩
 intro X h
 obtain rfl := U _ (oi h).symm
 replace h := S
 refine sQ ?_
 exact lg ⟨(a.1, a.2.1, a.2.2.2), t, h, I2⟩ [0, 1]
 rintro s ob ⟨g, u, h, rfl, rfl⟩
 refine Ah I ?_
 obtain rfl := oi h
 exact sO ⟨.inr I, [_], [O2 e [[Q0 g.1, .V g.2.1]], U9 u g.2.2], J1, Cy I (Cy I (Cm)), ⟨[O2 e [[Q0 g.1, .V g.2.1]]], [U9 u g.2.2], I, I, u, I3⟩⟩
theorem gK (b : Nat) (g : KS) (i : Int) (j : Int) (r : (List Batch) × KS) (h : Qd g i j = some r) : ACalls Aj 10 [.v (.pointer (some ⟨b, 0, none⟩)), .V i, .V j] [O2 b [Cp g]] (D6 1 fun x os new => ∃ (k : Value), x = .v k ∧ os = [O2 b [Cp r.2]] ∧ new = [U8 k r.1]) := by
 refine Ad Tryz.func10 I I I fun C hC => ?_
 unfold Qd at h
 refine Ah I (Ah I (Ai (fun s ob => ∃ (a : Li × Int × (List Batch)) (e : Value), Qd.J1 a = some r ∧ s = [(7, .v e)] ∧ ob = [O2 b [[Q0 a.1, .V a.2.1]], U8 e a.2.2]) [] J ?_ ?_))
 refine Ah I (sM (sP (Bv 77 4) ?_))
 obtain ⟨G, o, t⟩ := Ac h
 clear h
 refine Cs o [(0, _), (1, _), (2, _)] J3 (fun (d : Li × Int × (List Batch) × Int) s ob => ∃ (f : Value), s = [(7, .v f), (8, .V d.2.2.2)] ∧ ob = [O2 b [[Q0 d.1, .V d.2.1]], U8 f d.2.2.1]) ⟨(.slice none 0 0), I2⟩ ⟨I, I, J⟩ ⟨[0, 1], I, by decide⟩ ?_
 rintro d H s ob ⟨f, rfl, rfl⟩ h u
 refine Aa fun K w => Ah I (Ar h I ?_ ?_)
 intro y h
 refine sL ?_
 subst w
 refine sN (sM ?_)
 obtain ⟨m, A, h⟩ := Ac h
 obtain ⟨M, B, h⟩ := Ac h
 obtain ⟨n, D, h⟩ := Ac h
 obtain ⟨N, E, h⟩ := Ac h
 refine sH (Ag 3 I (sJ [0] I (A1 [0] (Di b _ _ _ A) ?_)))
 refine Ag 1 I (sJ [0] I (A1 [0] (Di b _ _ _ B) ?_))
 refine Cc (C3 _ _ _ D) (sT (Au (l := [.V m.1, .v (.string n), .V 0, .V 1]) Zy I) I (sJ [] I (sR 4 (([(⟨m.1, n, 0, 1⟩ : Batch)] : List Batch).map D3) (sJ [1] I (C7 1 I E fun F => Ag 1 I (sI (sH (Ag 3 I ?_))))))))
 obtain rfl := oi h
 exact sI ⟨_, _, _, I, ⟨F, I2⟩, J5, [0, 1], I, by decide⟩
 intro y h
 obtain rfl := u _ (oi h).symm
 replace h := t
 refine sQ ?_
 exact lg ⟨(d.1, d.2.1, d.2.2.1), f, h, I2⟩ [0, 1]
 rintro s ob ⟨a, e, h, rfl, rfl⟩
 refine Ah I ?_
 obtain rfl := oi h
 exact sO ⟨.inr I, [_], [O2 b [[Q0 a.1, .V a.2.1]], U8 e a.2.2], J1, Cy I (Cy I (Cm)), ⟨[O2 b [[Q0 a.1, .V a.2.1]]], [U8 e a.2.2], I, I, e, I3⟩⟩
theorem iL (b : Nat) (n : KS) (f : Nw) (p : Int) (r : (List (List Piece)) × KS) (h : Qp n f p = some r) : ACalls Aj 9 [.v (.pointer (some ⟨b, 0, none⟩)), .agg (Ab f), .V p] [O2 b [Cp n]] (D6 1 fun x os new => ∃ (t : Value), x = .v t ∧ os = [O2 b [Cp r.2]] ∧ new = [.us t 74 1 (r.1.map (rL 2 A9))]) := by
 refine Ad Tryz.func9 I I I fun C hC => ?_
 unfold Qp at h
 refine Aa fun R w => sH (sJ [] I (Bo (Ab f) 6 fun S => Ag 1 I (sI ?_)))
 subst w
 refine Ah I (Ai (fun s ob => ∃ (a : Li × Int × (List (List Piece))) (d : Value), Qp.J1 a = some r ∧ s = [(7, .v d)] ∧ ob = [O2 b [[Q0 a.1, .V a.2.1]], .us d 74 1 (a.2.2.map (rL 2 A9))]) [] J ?_ ?_)
 refine Bh [.o 1 1, .l 2 (f.Segments.length : Int)] I ⟨Ay, I, J⟩ (sM (Bz 11 I fun y => sP (Bv 74 1) ?_))
 obtain ⟨U, A, B⟩ := Ac h
 clear h
 refine Ct A [(0, _), (2, _), (11, _), (12, _)] J4 (fun (g : Nat) (c : Li × Int × (List (List Piece))) s ob => ∃ (e : Value), s = [(13, .V (g : Int)), (7, .v e)] ∧ ob = [O2 b [[Q0 c.1, .V c.2.1]], .us e 74 1 (c.2.2.map (rL 2 A9))]) ⟨(.slice none 0 0), I2⟩ ⟨I, I, J⟩ ⟨[0, 2], I, by decide⟩ ?_ ?_
 rintro g j c W s ob D u ⟨e, rfl, rfl⟩ h
 have E := Cn u
 refine Ah I (Aa fun X F => Bs I E (sL ?_))
 subst F
 refine sN (sM (sN (sH (An 2 [.x 0 g (Ak j)] I ⟨⟨I, Ae D⟩, J⟩ (sJ [] I (sS W2 7 fun G => sJ [2] I (A3 2 0 0 [Ak j] I (sI ?_))))))))
 obtain ⟨i, H, h⟩ := Ac h
 obtain ⟨Y, M, h⟩ := Ac h
 refine sH (An 5 [.o 3 2] I J1 (sJ [0] I (Ik [0] (hO b _ _ _ _ H) ?_)))
 rintro _ _ _ - ⟨O, rfl, rfl, rfl⟩
 refine AO.ghost (Bk [3] (K := [U9 O i.1]) I [(22, Q4 i.1)] ⟨⟨_, I, .us 0 I⟩, J⟩ (ob' := [O2 b [Cp i.2], .us e 74 1 (c.2.2.map (rL 2 A9)), O5 G [Ak j]]) (.rest _)) (sJ [] I (sR 1 (([i.1] : List (List Piece)).map (rL 2 A9)) (sJ [1] I (C7 1 I M fun P => Ag 1 I (sI (sH (An 2 [.k 0 (g + 1 : Nat)] I ⟨A0 u y, J⟩ ?_)))))))
 obtain rfl := oi h
 exact sI (lg ⟨P, I2⟩ [0, 1])
 rintro c s ob ⟨e, rfl, rfl⟩ he
 subst he
 have h := B
 have Q := Co f.Segments.length
 refine Ah I (Aa fun Z aa => Bu I Q (sQ ?_))
 exact lg ⟨(c.1, c.2.1, c.2.2), e, h, I2⟩ [0, 1]
 rintro s ob ⟨a, d, h, rfl, rfl⟩
 refine Ah I ?_
 obtain rfl := oi h
 exact sO ⟨.inr I, [_], [O2 b [[Q0 a.1, .V a.2.1]], .us d 74 1 (a.2.2.map (rL 2 A9))], J1, Cy I (Cy I (Cm)), ⟨[O2 b [[Q0 a.1, .V a.2.1]]], [.us d 74 1 (a.2.2.map (rL 2 A9))], I, I, d, I3⟩⟩
end Go.Proofs.YtodeekicjiengaaGreatDoor
