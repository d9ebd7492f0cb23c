/- Walks that show what functions of the program compute; printed by a program of ours. No condition. -/
import Derived.Test.YtncfbhnecmnfpaaDoorLg3
import Derived.Test.YtncfbhnecmnfpaaDoorL4
import Derived.Test.YtncfbhnecmnfpaaDoorDw
namespace Go.Proofs.YtncfbhnecmnfpaaDoor
open Go.Aw
set_option linter.unusedVariables false
set_option linter.unusedSimpArgs false
set_option maxRecDepth 100000
set_option maxHeartbeats 4000000

theorem L.keep_Src_Product_ok (b0 : Nat) (s_0 : batchlinekeep_Src) (n_1 : Int) (r : Product × batchlinekeep_Src) (h : L.keep_Src_Product s_0 n_1 = some r) : ACalls Tryd.env 6 [.v (.pointer (some ⟨b0, 0, none⟩)), .v (.int .i64 n_1)] [.arr b0 51 2 1 [batchlinekeep_Src.row s_0]] (Gives 1 (fun x os new => x = .agg (Product.row r.1) ∧ os = [.arr b0 51 2 1 [batchlinekeep_Src.row r.2]] ∧ new = [])) := by
 refine ACalls.of_body Tryd.func6 rfl rfl rfl (fun C hC => ?_)
 unfold L.keep_Src_Product at h
 refine AW.seqG (fun y1 hy1 => (AW.region (AO.act [] I (AX.alloc (cs := [.v (.string ⟨#[]⟩), .v (.int .i64 0), .v (.int .i64 0), .v (.int .i64 0), .v (.int .i64 0)]) (m := 5) I I I I I (dst_some I) (fun b2 => (AO.nil ?_))))))
 subst hy1
 refine AW.seq ?_
 obtain ⟨r3, hx4, h⟩ := ob_some h
 obtain ⟨r5, hx6, h⟩ := ob_some h
 obtain ⟨r8, hx9, h⟩ := ob_some h
 obtain ⟨r11, hx12, h⟩ := ob_some h
 obtain ⟨r14, hx15, h⟩ := ob_some h
 refine AW.region (AO.q 1 I (AO.c (L.keep_name_ok (⟨#[112]⟩ : ByteArray) n_1 _ hx4) (AO.q 1 I (AO.act [0] I (AX.cg [0] (L.keep_Src_Range_ok b0 s_0 400 1200 _ hx6) ?_)))))
 rintro _ _ _ - ⟨rfl, rfl, rfl⟩
 refine AO.q 1 I (AO.act [] I (AX.lt 1 (([0, 830, 2000, 1] : List Int).map rI) (AO.act [0] I (AX.cg [0] (L.keep_Src_Pick_ok b0 r5.2 ([0, 830, 2000, 1] : List Int) _ hx9) ?_))))
 rintro _ _ _ - ⟨rfl, rfl, rfl⟩
 refine AO.q 1 I (AO.act [] I (AX.lt 1 (([0, 800, 5000, 3] : List Int).map rI) (AO.act [0] I (AX.cg [0] (L.keep_Src_Pick_ok b0 r8.2 ([0, 800, 5000, 3] : List Int) _ hx12) ?_))))
 rintro _ _ _ - ⟨rfl, rfl, rfl⟩
 refine AO.q 1 I (AO.act [] I (AX.lt 1 (([1, 700, 1000, 1300, 2000] : List Int).map rI) (AO.act [0] I (AX.cg [0] (L.keep_Src_Pick_ok b0 r11.2 ([1, 700, 1000, 1300, 2000] : List Int) _ hx15) ?_))))
 rintro _ _ _ - ⟨rfl, rfl, rfl⟩
 refine AO.p (Yp.buildP (l := [.v (.string r3), .v (.int .i64 r5.1), .v (.int .i64 r8.1), .v (.int .i64 r11.1), .v (.int .i64 r14.1)]) Tryd.bld31 I) I (AO.act [1] I (AX.store 1 0 0 (es' := [[.v (.string r3), .v (.int .i64 r5.1), .v (.int .i64 r8.1), .v (.int .i64 r11.1), .v (.int .i64 r14.1)]]) I I I I I I I I (le_ble I) I I (AO.nil ?_)))
 obtain rfl := Option.some.inj h
 exact AW.ret ⟨.inr I, [_], [.arr b0 51 2 1 [batchlinekeep_Src.row r14.2]], ⟨⟨1, _, _, _, _, _, _, _, I, I, I, I, I⟩, trivial⟩, sl_c I (sl_n), ⟨[.arr b0 51 2 1 [batchlinekeep_Src.row r14.2]], [], I, I, I, I, I⟩⟩

theorem L.law19_GradientWhole_ok (l_0 : List Int) (rate_1 : Int) (r : Bool) (h : L.law19_GradientWhole l_0 rate_1 = some r) : ACalls Tryd.env 3 [.list 1 (l_0.map rI), .v (.int .i16 rate_1)] [] (fun x new => x = .v (.bool r) ∧ new = []) := by
 refine ACalls.of_body Tryd.func3 rfl rfl rfl (fun C hC => ?_)
 unfold L.law19_GradientWhole at h
 refine AW.z I (AW.seqG (fun y2 hy2 => ?_))
 obtain ⟨r3, hx4, h⟩ := ob_some h
 refine AW.region (AO.q 1 I (AO.act [] I (AX.call0 I I I (L.keep_New_ok l_0 _ hx4) (dst_some I) ?_)))
 rintro _ _ ⟨b5, rfl, rfl⟩
 refine AO.q 1 I (AO.nil ?_)
 subst hy2
 refine AW.seqG (fun y6 hy6 => ?_)
 obtain ⟨r7, hx8, h⟩ := ob_some h
 refine AW.region (AO.q 1 I (AO.act [0] I (AX.cg [0] (L.keep_Src_Segment_ok b5 r3 0 0 1 _ hx8) ?_)))
 rintro _ _ _ - ⟨rfl, rfl, rfl⟩
 refine AO.act [] I (AX.alloc (cs := [.v (.string ⟨#[]⟩), .v (.int .i64 0), .v (.int .i64 0), .v (.int .i64 0), .v (.int .i64 0), .v (.int .i64 0), .v (.slice none 0 0)]) (m := 7) I I I I I (dst_some I) (fun b9 => (AO.act [1] I (AX.store 1 0 0 (es' := [Segment.row r7.1]) I I I I I I I I (le_ble I) I I (AO.nil ?_)))))
 subst hy6
 refine AW.seqG (fun y10 hy10 => ?_)
 obtain ⟨r11, hx12, h⟩ := ob_some h
 refine AW.region (AO.q 1 I (AO.act [0] I (AX.cg [0] (L.keep_Src_Product_ok b5 r7.2 0 _ hx12) ?_)))
 rintro _ _ _ - ⟨rfl, rfl, rfl⟩
 refine AO.act [] I (AX.buildSlice (sz := 5) (es := ([r11.1] : List Product).map Product.row) I I I I I I I I I I I (dst_some I) (fun v13 => (AO.q 1 I (AO.nil ?_))))
 subst hy10
 refine AW.seqG (fun y14 hy14 => (AW.region (AO.q 1 I (AO.p (Yp.convI (c := wr (rate_1)) I I I I I) I (AO.r 2 [.f 0 (.v (.int .i64 ((wr (rate_1)).tmod 1001)))] I ⟨Yp.yd (Yp.binI (c := ((wr (rate_1)).tmod 1001)) I I ⟨by decide, I⟩), trivial⟩ (AO.nil ?_))))))
 subst hy14
 refine AW.cutX (fun s ob => ∃ (j16 : Int), L.law19_GradientWhole.J1 r7 r11 j16 = some r ∧ s = [(8, .v (.int .i64 j16))] ∧ ob = [.arr b9 28 7 1 [Segment.row r7.1], .us v13 31 5 (([r11.1] : List Product).map Product.row)]) [(6, _), (7, _)] ⟨I, I, trivial⟩ ?_ ?_
 refine AW.z I (AW.ch h I ?_ ?_)
 intro hc72 h
 refine AW.t I ?_
 exact lg ⟨5, h, I, I⟩ [1, 2]
 intro hc72 h
 refine AW.skip ?_
 exact lg ⟨((wr (rate_1)).tmod 1001), h, I, I⟩ [1, 2]
 rintro s ob ⟨j16, h, rfl, rfl⟩
 unfold L.law19_GradientWhole.J1 at h
 refine AW.seqG (fun y17 hy17 => (AW.region (AO.r 2 [.o 1 0] I ⟨I, trivial⟩ (AO.p (Yp.buildP (l := [.v (.int .i64 0), .v (.int .i64 r7.1.Capacity)]) Tryd.bld35 I) I (AO.act [] I (AX.buildSlice (sz := 2) (es := ([(⟨0, r7.1.Capacity⟩ : Piece)] : List Piece).map Piece.row) I I I I I I I I I I I (dst_some I) (fun v18 => (AO.q 1 I (AO.nil ?_)))))))))
 subst hy17
 refine AW.seqG (fun y19 hy19 => ?_)
 obtain ⟨l20, hx21, h⟩ := ob_some h
 obtain ⟨m22, hx21i, hx21m, hx21r⟩ := mk_some hx21
 obtain ⟨r24, hx25, h⟩ := ob_some h
 refine AW.rd (.still 0 (.still 1 (.still 3 (.still 4 (.still 5 (.act 2 (.act 6 (.still 7 (.still 8 (.still 9 (.still 10 (.still 11 .nil)))))))))))) [0] [_] I (AP.r 4 [.o 0 0] I ⟨I, trivial⟩ (AP.op I (Yp.buildP (l := [.v (.int .i64 0), .v (.int .i64 0)]) Tryd.bld43 I) I (AP.act [] I I I (AX.makeU (sz := 4) I I I I I I I I I I hx21i hx21m (rep_map (f := Batch.row) hx21r I) (dst_some I) (fun v23 => (AP.ghostS (Ghost.freeze [1, 2, 3] (K := [.us v13 31 5 (([r11.1] : List Product).map Product.row), .us v18 35 2 (([(⟨0, r7.1.Capacity⟩ : Piece)] : List Piece).map Piece.row), .us v23 85 4 (l20.map Batch.row)]) I [(7, .list 5 (([r11.1] : List Product).map Product.row)), (32, .list 2 (([(⟨0, r7.1.Capacity⟩ : Piece)] : List Piece).map Piece.row)), (9, .list 2 (([(⟨0, r7.1.Capacity⟩ : Piece)] : List Piece).map Piece.row)), (35, .list 2 (([(⟨0, r7.1.Capacity⟩ : Piece)] : List Piece).map Piece.row)), (36, .list 4 (l20.map Batch.row)), (37, .list 5 (([r11.1] : List Product).map Product.row))] ⟨⟨_, I, .us 0 I⟩, ⟨_, I, .us 1 I⟩, ⟨_, I, .us 1 I⟩, ⟨_, I, .us 1 I⟩, ⟨_, I, .us 2 I⟩, ⟨_, I, .us 0 I⟩, trivial⟩ (ob' := [.arr b9 28 7 1 [Segment.row r7.1]]) (.rest _)) I (AP.act [] I I I (AX.call0 I I I (L.gradient_Along_ok r7.1 ([(⟨0, r7.1.Capacity⟩ : Piece)] : List Piece) l20 ([r11.1] : List Product) j16 (⟨0, 0⟩ : Bounds) _ hx25) (dst_some I) ?_))))))))
 rintro _ _ ⟨v26, rfl, rfl⟩
 refine AP.q 5 I (AP.ofAO (AO.nil ?_))
 subst hy19
 refine AW.seqG (fun y27 hy27 => (AW.cutX (fun s ob => s = [(52, .v (.bool ((r24.2 != 0) || ((r24.1.length : Int) != (r7.1.Points.length : Int)))))] ∧ ob = [.arr b9 28 7 1 [Segment.row r7.1], .us v26 47 3 (r24.1.map Level.row)]) [(6, _), (7, _), (8, _), (10, _)] ⟨I, I, I, I, trivial⟩ ?_ ?_))
 rcases Bool.eq_false_or_eq_true ((r24.2 != 0)) with hg30 | hg30
 refine AW.region (AO.q 3 I (AO.known 45 I hg30 (AO.q 7 I (AO.nil ?_))))
 exact lf ⟨I, I⟩ ⟨(get_b (by simp only [hg30, bz])), I, I, I, I, trivial⟩ [0, 1] I
 refine AW.region (AO.q 3 I (AO.known 45 I hg30 (AO.q 1 I (AO.gt I I I (AO.d (Yd.lenUM 1 I I I I) I (AO.r 5 [.o 1 0, .l 2 (r7.1.Points.length : Int)] I ⟨len_m, I, trivial⟩ (AO.nil ?_)))))))
 exact lf ⟨I, I⟩ ⟨(get_b (by simp only [hg30, bz])), I, I, I, I, trivial⟩ [0, 1] I
 rintro s ob ⟨rfl, rfl⟩
 refine AW.ch h I ?_ ?_
 intro hc31 h
 refine AW.z I (AW.ghost (Ghost.pick [] (K := []) I (by decide)) ?_)
 obtain rfl := Option.some.inj h
 exact AW.ret ⟨.inr I, [_], [], ⟨I, trivial⟩, sl_n, I, I⟩
 intro hc31 h
 refine AW.skip ?_
 subst hy27
 refine AW.cutX (fun s ob => ∃ (j38 : Int × Int × Int × Int × Int × Int) (b39 : Nat) (b40 : Nat), L.law19_GradientWhole.J2 r7 r11 j16 r24 j38 = some r ∧ s = [(12, .v (.pointer (some ⟨b39, 0, none⟩))), (13, .v (.pointer (some ⟨b40, 0, none⟩)))] ∧ ob = [.arr b9 28 7 1 [Segment.row r7.1], .us v26 47 3 (r24.1.map Level.row), .arr b39 45 3 1 [[.v (.int .i64 j38.1), .v (.int .i64 j38.2.1), .v (.int .i64 j38.2.2.1)]], .arr b40 45 3 1 [[.v (.int .i64 j38.2.2.2.1), .v (.int .i64 j38.2.2.2.2.1), .v (.int .i64 j38.2.2.2.2.2)]]]) [(6, _), (7, _), (8, _), (10, _)] ⟨I, I, I, I, trivial⟩ ?_ ?_
 obtain ⟨p66, hp67, h⟩ := ob_some h
 obtain ⟨hp67i, hp67x⟩ := ix_some hp67
 obtain ⟨p68, hp69, h⟩ := ob_some h
 obtain ⟨hp69i, hp69x⟩ := ix_some hp69
 refine AW.rd (.still 0 (.still 1 (.still 2 (.still 3 (.still 4 (.still 5 (.still 6 (.still 7 (.still 8 (.still 9 (.still 10 (.still 11 (.two 12 13 (.act 13 (.act 14 (.act 15 .nil))) (.act 12 (.act 14 (.act 15 .nil)))))))))))))))) [0] [_] I (AP.r 12 [.o 1 0, .x 2 p66.1 (Point.row p66.2), .o 5 0, .o 7 0, .l 8 (r7.1.Points.length : Int), .x 10 p68.1 (Point.row p68.2)] I ⟨⟨hp69i, map_get hp69x⟩, len_m, I, I, ⟨hp67i, map_get hp67x⟩, I, trivial⟩ (AP.two ?_ ?_))
 refine AP.act [] I I I (AX.alloc (cs := [.v (.int .i64 0), .v (.int .i64 0), .v (.int .i64 0)]) (m := 3) I I I I I (dst_some I) (fun b70 => (AP.act [] I I I (AX.alloc (cs := [.v (.int .i64 0), .v (.int .i64 0), .v (.int .i64 0)]) (m := 3) I I I I I (dst_some I) (fun b71 => (AP.act [2] I I I (AX.store 2 0 0 (es' := [Point.row p66.2]) I I I I I I I I (le_ble I) I I (AP.act [3] I I I (AX.store 3 0 0 (es' := [Point.row p68.2]) I I I I I I I I (le_ble I) I I (AP.ofAO (AO.nil ?_)))))))))))
 exact lg ⟨(p66.2.At, p66.2.Height, p66.2.Limit, p68.2.At, p68.2.Height, p68.2.Limit), b70, b71, h, I, I⟩ [0, 1, 2, 3]
 refine AP.act [] I I I (AX.alloc (cs := [.v (.int .i64 0), .v (.int .i64 0), .v (.int .i64 0)]) (m := 3) I I I I I (dst_some I) (fun b71 => (AP.act [] I I I (AX.alloc (cs := [.v (.int .i64 0), .v (.int .i64 0), .v (.int .i64 0)]) (m := 3) I I I I I (dst_some I) (fun b70 => (AP.act [3] I I I (AX.store 3 0 0 (es' := [Point.row p66.2]) I I I I I I I I (le_ble I) I I (AP.act [2] I I I (AX.store 2 0 0 (es' := [Point.row p68.2]) I I I I I I I I (le_ble I) I I (AP.ofAO (AO.nil ?_)))))))))))
 exact lg ⟨(p66.2.At, p66.2.Height, p66.2.Limit, p68.2.At, p68.2.Height, p68.2.Limit), b70, b71, h, I, I⟩ [0, 1, 3, 2]
 rintro s ob ⟨j38, b39, b40, h, rfl, rfl⟩
 unfold L.law19_GradientWhole.J2 at h
 refine AW.seqG (fun y41 hy41 => ?_)
 obtain ⟨p42, hp43, h⟩ := ob_some h
 obtain ⟨hp43i, hp43x⟩ := ix_some hp43
 refine AW.formL 1 I (fun hf45 => (AW.form 1 p42.1 I hp43x (fun hf46 => (AW.rd (pd 15 0 [12, 13]) [1, 3, 2] [_, _, _] I (AP.q 2 I (AP.op I (Yp.lenUf I I I hf45) I (AP.q 1 I (AP.op I (Yp.indexUf (m := p42.1) I I I I I hf46 I hp43i hp43x) I (AP.q 1 I (AP.o I (Yd.loadU 0 p42.1 1 I I I (map_get hp43x) I (y := .agg (Bounds.row p42.2.Bounds)) I) I (AP.r 5 [.o 1 1, .o 3 2] I ⟨I, I, trivial⟩ (AP.act [] I I I (AX.alloc (cs := [.v (.int .i64 0), .v (.int .i64 0)]) (m := 2) I I I I I (dst_some I) (fun b44 => (AP.act [4] I I I (AX.store 4 0 0 (es' := [Bounds.row p42.2.Bounds]) I I I I I I I I (le_ble I) I I (AP.q 1 I ?_)))))))))))))))))
 refine AP.ofAO (AO.nil ?_)
 subst hy41
 refine AW.cutX (fun s ob => ∃ (j50 : Int × Int × Int), L.law19_GradientWhole.J3 r7 r11 j16 j50 = some r ∧ s = [(15, .v (.int .i64 j50.2.2))] ∧ ob = [.arr b9 28 7 1 [Segment.row r7.1], .arr b44 43 2 1 [[.v (.int .i64 j50.1), .v (.int .i64 j50.2.1)]]]) [(6, _), (7, _), (8, _), (14, _)] ⟨I, I, I, I, trivial⟩ ?_ ?_
 refine AW.z I (AW.ch h I ?_ ?_)
 intro hc63 h
 obtain ⟨p64, hp65, h⟩ := ob_some h
 obtain ⟨hp65i, hp65x⟩ := ix_some hp65
 refine AW.region (AO.q 1 I (AO.d (Yd.indexU 1 (m := p64.1) I I I I I I I hp65i (map_get hp65x)) I (AO.q 1 I (AO.d (Yd.loadU 1 p64.1 1 I I I (map_get hp65x) I (y := .agg (Bounds.row p64.2.Bounds)) I) I (AO.q 2 I (AO.act [4] I (AX.store 4 0 0 (es' := [Bounds.row p64.2.Bounds]) I I I I I I I I (le_ble I) I I (AO.q 1 I (AO.nil ?_)))))))))
 exact lg ⟨(p64.2.Bounds.Low, p64.2.Bounds.High, wr (0 - (wr (j38.2.2.2.2.1 - j38.2.1)))), h, I, I⟩ [0, 4]
 intro hc63 h
 refine AW.skip ?_
 exact lg ⟨(p42.2.Bounds.Low, p42.2.Bounds.High, wr (j38.2.2.2.2.1 - j38.2.1)), h, I, I⟩ [0, 4]
 rintro s ob ⟨j50, h, rfl, rfl⟩
 unfold L.law19_GradientWhole.J3 at h
 refine AW.seqG (fun y51 hy51 => ?_)
 obtain ⟨p52, hp53, h⟩ := ob_some h
 obtain ⟨hp53i, hp53x⟩ := ix_some hp53
 refine AW.dt (pd 20 0 []) [0] [_] [.o 1 0, .x 3 p52.1 (Product.row p52.2), .x 12 p52.1 (Product.row p52.2)] I I ⟨⟨hp53i, map_get hp53x⟩, ⟨hp53i, map_get hp53x⟩, I, trivial⟩ ?_
 subst hy51
 refine AW.cutX (fun s ob => ∃ (j58 : Bool), L.law19_GradientWhole.J4 j58 = some r ∧ s = [(4, .v (.bool j58))] ∧ ob = []) [] trivial ?_ ?_
 rcases Bool.eq_false_or_eq_true (decide ((wr ((-1000) * j50.2.1)) ≤ (wr ((wr ((wr ((wr (r7.1.Resist * p52.2.Friction)) * j16)) * j16)) + (wr ((wr (p52.2.Density * 9807)) * j50.2.2)))))) with hg59 | hg59
 replace h := ife_t hg59 h
 rcases Bool.eq_false_or_eq_true (decide ((wr ((wr ((wr ((wr (r7.1.Resist * p52.2.Friction)) * j16)) * j16)) + (wr ((wr (p52.2.Density * 9807)) * j50.2.2)))) ≤ (wr ((-1000) * j50.1)))) with hg60 | hg60
 replace h := ife_t hg60 h
 obtain ⟨r61, hx62, h⟩ := ob_some h
 refine AW.region (AO.r 6 [.o 1 1] I ⟨I, trivial⟩ (AO.known 109 I hg59 (AO.r 7 [.o 2 1] I ⟨I, trivial⟩ (AO.known 116 I hg60 (AO.gt I I I (AO.c (L.law19_awake_ok  _ hx62) (AO.q 2 I (AO.nil ?_))))))))
 exact lg ⟨r61, h, I, I⟩ []
 replace h := ife_f hg60 h
 refine AW.region (AO.r 6 [.o 1 1] I ⟨I, trivial⟩ (AO.known 109 I hg59 (AO.r 7 [.o 2 1] I ⟨I, trivial⟩ (AO.known 116 I hg60 (AO.q 3 I (AO.nil ?_))))))
 exact lg ⟨false, h, I, I⟩ []
 replace h := ife_f hg59 h
 refine AW.region (AO.r 6 [.o 1 1] I ⟨I, trivial⟩ (AO.known 109 I hg59 (AO.q 10 I (AO.nil ?_))))
 exact lg ⟨false, h, I, I⟩ []
 rintro s ob ⟨j58, h, rfl, rfl⟩
 unfold L.law19_GradientWhole.J4 at h
 obtain rfl := Option.some.inj h
 exact AW.ret ⟨.inr I, [_], [], ⟨I, trivial⟩, sl_n, I, I⟩

end Go.Proofs.YtncfbhnecmnfpaaDoor
