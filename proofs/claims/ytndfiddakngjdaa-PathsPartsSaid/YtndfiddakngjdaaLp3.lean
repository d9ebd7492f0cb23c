/- Walks that show what functions of the program compute; printed by a program of ours. No condition. -/
import Derived.Test.YtndfiddakngjdaaLp1
namespace Go.Proofs.Ytndfiddakngjdaa
open Go.Aw
set_option linter.unusedVariables false
set_option linter.unusedSimpArgs false
set_option maxRecDepth 100000
set_option maxHeartbeats 4000000

theorem L.law25_awake_ok  (r : Bool) (h : L.law25_awake = some r) : ACalls Try.env 24 [] [] (fun x new => x = .v (.bool r) ∧ new = []) := by
 refine ACalls.of_body Try.func24 rfl rfl rfl (fun C hC => ?_)
 unfold L.law25_awake at h
 refine AW.z I (AW.seqG (fun y2 hy2 => (AW.region (AO.act [] I (AX.buildSlice (sz := 1) (es := ([(⟨#[97]⟩ : ByteArray), (⟨#[98]⟩ : ByteArray)] : List ByteArray).map rS) I I I I I I I I I I I (dst_some I) (fun v3 => (AO.p (Yp.buildP (l := [.v (.int .i64 0), .v (.int .i64 0), .v (.int .i64 1000)]) Try.bld108 I) I (AO.p (Yp.buildP (l := [.v (.int .i64 10), .v (.int .i64 0), .v (.int .i64 1000)]) Try.bld108 I) I (AO.act [] I (AX.buildSlice (sz := 3) (es := ([(⟨0, 0, 1000⟩ : Point), (⟨10, 0, 1000⟩ : Point)] : List Point).map Point.row) I I I I I I I I I I I (dst_some I) (fun v4 => (AO.one 1 I (fun v4o => (AO.p (Yp.buildP (l := [.v (.string (⟨#[103]⟩ : ByteArray)), .v (.int .i64 0), .v (.int .i64 1), .v (.int .i64 10), .v (.int .i64 0), .v (.int .i64 0), .v v4]) Try.bld42 (fill_step I I I I (fill_step I I I I (fill_step I I I I (fill_step I I I I (fill_step I I (cells_v v4o) I (fill_nil))))))) I (AO.ghost (Ghost.freeze [1] (K := [.us v4 108 3 (([(⟨0, 0, 1000⟩ : Point), (⟨10, 0, 1000⟩ : Point)] : List Point).map Point.row)]) I [(7, .list 3 (([(⟨0, 0, 1000⟩ : Point), (⟨10, 0, 1000⟩ : Point)] : List Point).map Point.row)), (8, .agg [.v (.string (⟨#[103]⟩ : ByteArray)), .v (.int .i64 0), .v (.int .i64 1), .v (.int .i64 10), .v (.int .i64 0), .v (.int .i64 0), .list 3 (([(⟨0, 0, 1000⟩ : Point), (⟨10, 0, 1000⟩ : Point)] : List Point).map Point.row)])] ⟨⟨_, I, .us 0 I⟩, ⟨_, I, .agg (.cons (.refl _) (.cons (.refl _) (.cons (.refl _) (.cons (.refl _) (.cons (.refl _) (.cons (.refl _) (.cons (.us 0 I) (.rest _))))))))⟩, trivial⟩ (ob' := [.us v3 9 1 (([(⟨#[97]⟩ : ByteArray), (⟨#[98]⟩ : ByteArray)] : List ByteArray).map rS)]) (.rest _)) ?_)))))))))))))))
 refine AO.act [] I (AX.buildSlice (sz := 7) (es := ([(⟨(⟨#[103]⟩ : ByteArray), 0, 1, 10, 0, 0, ([(⟨0, 0, 1000⟩ : Point), (⟨10, 0, 1000⟩ : Point)] : List Point)⟩ : Segment)] : List Segment).map Segment.row) I I I I I I I I I I I (dst_some I) (fun v5 => (AO.p (Yp.buildP (l := [.v (.string (⟨#[112]⟩ : ByteArray)), .v (.int .i64 0), .v (.int .i64 0)]) Try.bld95 I) I (AO.p (Yp.buildP (l := [.v (.string (⟨#[113]⟩ : ByteArray)), .v (.int .i64 0), .v (.int .i64 0)]) Try.bld95 I) I (AO.p (Yp.buildP (l := [.v (.string (⟨#[114]⟩ : ByteArray)), .v (.int .i64 0), .v (.int .i64 0)]) Try.bld95 I) I (AO.act [] I (AX.buildSlice (sz := 3) (es := ([(⟨(⟨#[112]⟩ : ByteArray), 0, 0⟩ : Port), (⟨(⟨#[113]⟩ : ByteArray), 0, 0⟩ : Port), (⟨(⟨#[114]⟩ : ByteArray), 0, 0⟩ : Port)] : List Port).map Port.row) I I I I I I I I I I I (dst_some I) (fun v6 => (AO.one 0 I (fun v3o => (AO.one 1 I (fun v5o => (AO.one 2 I (fun v6o => (AO.p (Yp.buildP (l := [.v v3, .v v5, .v v6, .v (.slice none 0 0), .v (.int .i64 0), .v (.int .i64 0)]) Try.bld30 (fill_step I I (cells_v v3o) I (fill_step I I (cells_v v5o) I (fill_step I I (cells_v v6o) I (fill_nil))))) I (AO.act [] I (AX.alloc (cs := [.v (.slice none 0 0), .v (.slice none 0 0), .v (.slice none 0 0), .v (.slice none 0 0), .v (.int .i64 0), .v (.int .i64 0)]) (m := 6) I I I I I (dst_some I) (fun b7 => (AO.act [3] I (AX.store 3 0 0 (es' := [[.v v3, .v v5, .v v6, .v (.slice none 0 0), .v (.int .i64 0), .v (.int .i64 0)]]) I I I I I I I I (le_ble I) I I (AO.nil ?_)))))))))))))))))))))
 subst hy2
 refine AW.seqG (fun y8 hy8 => ?_)
 obtain ⟨r11, hx12, h⟩ := ob_some h
 refine AW.region (AO.r 1 [.o 0 3] I ⟨I, trivial⟩ (AO.act [] I (AX.buildSlice (sz := 1) (es := ([0] : List Int).map rI) I I I I I I I I I I I (dst_some I) (fun v9 => (AO.act [] I (AX.buildSlice (sz := 1) (es := ([3, 4, (-7)] : List Int).map rI) I I I I I I I I I I I (dst_some I) (fun v10 => (AO.one 4 I (fun v9o => (AO.one 5 I (fun v10o => (AO.p (Yp.buildP (l := [.v v9, .v v10, .v (.slice none 0 0)]) Try.bld34 (fill_step I I (cells_v v9o) I (fill_step I I (cells_v v10o) I (fill_nil)))) I (AO.ghost (Ghost.freeze [0, 1, 2, 4, 5] (K := [.us v3 9 1 (([(⟨#[97]⟩ : ByteArray), (⟨#[98]⟩ : ByteArray)] : List ByteArray).map rS), .us v5 42 7 (([(⟨(⟨#[103]⟩ : ByteArray), 0, 1, 10, 0, 0, ([(⟨0, 0, 1000⟩ : Point), (⟨10, 0, 1000⟩ : Point)] : List Point)⟩ : Segment)] : List Segment).map Segment.row), .us v6 95 3 (([(⟨(⟨#[112]⟩ : ByteArray), 0, 0⟩ : Port), (⟨(⟨#[113]⟩ : ByteArray), 0, 0⟩ : Port), (⟨(⟨#[114]⟩ : ByteArray), 0, 0⟩ : Port)] : List Port).map Port.row), .us v9 3 1 (([0] : List Int).map rI), .us v10 3 1 (([3, 4, (-7)] : List Int).map rI)]) I [(4, .list 1 (([(⟨#[97]⟩ : ByteArray), (⟨#[98]⟩ : ByteArray)] : List ByteArray).map rS)), (9, .list 7 (([(⟨(⟨#[103]⟩ : ByteArray), 0, 1, 10, 0, 0, ([(⟨0, 0, 1000⟩ : Point), (⟨10, 0, 1000⟩ : Point)] : List Point)⟩ : Segment)] : List Segment).map Segment.row)), (13, .list 3 (([(⟨(⟨#[112]⟩ : ByteArray), 0, 0⟩ : Port), (⟨(⟨#[113]⟩ : ByteArray), 0, 0⟩ : Port), (⟨(⟨#[114]⟩ : ByteArray), 0, 0⟩ : Port)] : List Port).map Port.row)), (14, .agg [.list 1 (([(⟨#[97]⟩ : ByteArray), (⟨#[98]⟩ : ByteArray)] : List ByteArray).map rS), .list 7 (([(⟨(⟨#[103]⟩ : ByteArray), 0, 1, 10, 0, 0, ([(⟨0, 0, 1000⟩ : Point), (⟨10, 0, 1000⟩ : Point)] : List Point)⟩ : Segment)] : List Segment).map Segment.row), .list 3 (([(⟨(⟨#[112]⟩ : ByteArray), 0, 0⟩ : Port), (⟨(⟨#[113]⟩ : ByteArray), 0, 0⟩ : Port), (⟨(⟨#[114]⟩ : ByteArray), 0, 0⟩ : Port)] : List Port).map Port.row), .list 5 ([].map Station.row), .v (.int .i64 0), .v (.int .i64 0)]), (16, .agg [.list 1 (([(⟨#[97]⟩ : ByteArray), (⟨#[98]⟩ : ByteArray)] : List ByteArray).map rS), .list 7 (([(⟨(⟨#[103]⟩ : ByteArray), 0, 1, 10, 0, 0, ([(⟨0, 0, 1000⟩ : Point), (⟨10, 0, 1000⟩ : Point)] : List Point)⟩ : Segment)] : List Segment).map Segment.row), .list 3 (([(⟨(⟨#[112]⟩ : ByteArray), 0, 0⟩ : Port), (⟨(⟨#[113]⟩ : ByteArray), 0, 0⟩ : Port), (⟨(⟨#[114]⟩ : ByteArray), 0, 0⟩ : Port)] : List Port).map Port.row), .list 5 ([].map Station.row), .v (.int .i64 0), .v (.int .i64 0)]), (17, .list 1 (([0] : List Int).map rI)), (18, .list 1 (([3, 4, (-7)] : List Int).map rI)), (19, .agg [.list 1 (([0] : List Int).map rI), .list 1 (([3, 4, (-7)] : List Int).map rI), .list 1 ([].map rB)])] ⟨⟨_, I, .us 0 I⟩, ⟨_, I, .us 1 I⟩, ⟨_, I, .us 2 I⟩, ⟨_, I, .agg (.cons (.us 0 I) (.cons (.us 1 I) (.cons (.us 2 I) (.cons (.nil _) (.rest _)))))⟩, ⟨_, I, .agg (.cons (.us 0 I) (.cons (.us 1 I) (.cons (.us 2 I) (.cons (.nil _) (.rest _)))))⟩, ⟨_, I, .us 3 I⟩, ⟨_, I, .us 4 I⟩, ⟨_, I, .agg (.cons (.us 3 I) (.cons (.us 4 I) (.cons (.nil _) (.rest _))))⟩, trivial⟩ (ob' := [.arr b7 30 6 1 [[.list 1 (([(⟨#[97]⟩ : ByteArray), (⟨#[98]⟩ : ByteArray)] : List ByteArray).map rS), .list 7 (([(⟨(⟨#[103]⟩ : ByteArray), 0, 1, 10, 0, 0, ([(⟨0, 0, 1000⟩ : Point), (⟨10, 0, 1000⟩ : Point)] : List Point)⟩ : Segment)] : List Segment).map Segment.row), .list 3 (([(⟨(⟨#[112]⟩ : ByteArray), 0, 0⟩ : Port), (⟨(⟨#[113]⟩ : ByteArray), 0, 0⟩ : Port), (⟨(⟨#[114]⟩ : ByteArray), 0, 0⟩ : Port)] : List Port).map Port.row), .v (.slice none 0 0), .v (.int .i64 0), .v (.int .i64 0)]]]) (.cons (.arr (.cons (.us 0 I) (.cons (.us 1 I) (.cons (.us 2 I) (.rest _))))) (.rest _))) ?_)))))))))))))
 refine AO.act [] I (AX.call0 I I I (L.paths_Divide_ok (⟨([(⟨#[97]⟩ : ByteArray), (⟨#[98]⟩ : ByteArray)] : List ByteArray), ([(⟨(⟨#[103]⟩ : ByteArray), 0, 1, 10, 0, 0, ([(⟨0, 0, 1000⟩ : Point), (⟨10, 0, 1000⟩ : Point)] : List Point)⟩ : Segment)] : List Segment), ([(⟨(⟨#[112]⟩ : ByteArray), 0, 0⟩ : Port), (⟨(⟨#[113]⟩ : ByteArray), 0, 0⟩ : Port), (⟨(⟨#[114]⟩ : ByteArray), 0, 0⟩ : Port)] : List Port), [], 0, 0⟩ : Network) (⟨([0] : List Int), ([3, 4, (-7)] : List Int), []⟩ : Plan) _ hx12) (dst_some I) ?_)
 rintro _ _ ⟨v13, rfl, rfl⟩
 refine AO.q 5 I (AO.nil ?_)
 subst hy8
 refine AW.cutX (fun s ob => ∃ (j24 : Bool), L.law25_awake.J1 j24 = some r ∧ s = [(0, .v (.bool j24))] ∧ ob = []) [] trivial ?_ ?_
 rcases Bool.eq_false_or_eq_true ((r11.2 == 0)) with hg25 | hg25
 replace h := ife_t hg25 h
 rcases Bool.eq_false_or_eq_true (((r11.1.length : Int) == 2)) with hg26 | hg26
 replace h := ife_t hg26 h
 obtain ⟨p27, hp28, h⟩ := ob_some h
 obtain ⟨hp28i, hp28x⟩ := ix_some hp28
 rcases Bool.eq_false_or_eq_true ((p27.2.Rate == 3)) with hg29 | hg29
 replace h := ife_t hg29 h
 obtain ⟨p30, hp31, h⟩ := ob_some h
 obtain ⟨hp31i, hp31x⟩ := ix_some hp31
 rcases Bool.eq_false_or_eq_true ((p30.2.Rate == 4)) with hg32 | hg32
 replace h := ife_t hg32 h
 rcases Bool.eq_false_or_eq_true ((p30.2.In == 1)) with hg33 | hg33
 replace h := ife_t hg33 h
 rcases Bool.eq_false_or_eq_true ((p30.2.Out == 2)) with hg34 | hg34
 replace h := ife_t hg34 h
 refine AW.region (AO.q 3 I (AO.known 25 I hg25 (AO.q 1 I (AO.gt I I I (AO.d (Yd.lenUM 1 I I I I) I (AO.q 3 I (AO.known 30 I hg26 (AO.q 1 I (AO.gt I I I (AO.d (Yd.indexU 1 (m := p27.1) I I I I I I I hp28i (map_get hp28x)) I (AO.q 1 I (AO.gt I I I ?_))))))))))))
 refine AO.d (Yd.loadU 1 p27.1 3 I I I (map_get hp28x) I (y := .v (.int .i64 p27.2.Rate)) I) I (AO.q 3 I (AO.known 37 I hg29 (AO.q 1 I (AO.gt I I I (AO.d (Yd.indexU 1 (m := p30.1) I I I I I I I hp31i (map_get hp31x)) I (AO.q 1 I (AO.gt I I I (AO.d (Yd.loadU 1 p30.1 3 I I I (map_get hp31x) I (y := .v (.int .i64 p30.2.Rate)) I) I (AO.q 3 I (AO.known 44 I hg32 (AO.q 1 I (AO.gt I I I ?_))))))))))))
 refine AO.d (Yd.indexU 1 (m := p30.1) I I I I I I I hp31i (map_get hp31x)) I (AO.q 1 I (AO.gt I I I (AO.d (Yd.loadU 1 p30.1 0 I I I (map_get hp31x) I (y := .v (.int .i64 p30.2.In)) I) I (AO.q 3 I (AO.known 51 I hg33 (AO.q 1 I (AO.gt I I I (AO.d (Yd.indexU 1 (m := p30.1) I I I I I I I hp31i (map_get hp31x)) I (AO.q 1 I (AO.gt I I I (AO.d (Yd.loadU 1 p30.1 1 I I I (map_get hp31x) I (y := .v (.int .i64 p30.2.Out)) I) I (AO.q 3 I ?_))))))))))))
 refine AO.known 58 I hg34 (AO.q 1 I (AO.gt I I I (AO.d (Yd.indexU 1 (m := p27.1) I I I I I I I hp28i (map_get hp28x)) I (AO.q 1 I (AO.gt I I I (AO.d (Yd.loadU 1 p27.1 2 I I I (map_get hp28x) I (y := .list 2 (p27.2.Hops.map Hop.row)) I) I (AO.r 4 [.l 0 (p27.2.Hops.length : Int)] I ⟨len_m, trivial⟩ (AO.nil ?_))))))))
 exact lg ⟨((p27.2.Hops.length : Int) == 0), h, I, I⟩ []
 replace h := ife_f hg34 h
 refine AW.region (AO.q 3 I (AO.known 25 I hg25 (AO.q 1 I (AO.gt I I I (AO.d (Yd.lenUM 1 I I I I) I (AO.q 3 I (AO.known 30 I hg26 (AO.q 1 I (AO.gt I I I (AO.d (Yd.indexU 1 (m := p27.1) I I I I I I I hp28i (map_get hp28x)) I (AO.q 1 I (AO.gt I I I ?_))))))))))))
 refine AO.d (Yd.loadU 1 p27.1 3 I I I (map_get hp28x) I (y := .v (.int .i64 p27.2.Rate)) I) I (AO.q 3 I (AO.known 37 I hg29 (AO.q 1 I (AO.gt I I I (AO.d (Yd.indexU 1 (m := p30.1) I I I I I I I hp31i (map_get hp31x)) I (AO.q 1 I (AO.gt I I I (AO.d (Yd.loadU 1 p30.1 3 I I I (map_get hp31x) I (y := .v (.int .i64 p30.2.Rate)) I) I (AO.q 3 I (AO.known 44 I hg32 (AO.q 1 I (AO.gt I I I ?_))))))))))))
 refine AO.d (Yd.indexU 1 (m := p30.1) I I I I I I I hp31i (map_get hp31x)) I (AO.q 1 I (AO.gt I I I (AO.d (Yd.loadU 1 p30.1 0 I I I (map_get hp31x) I (y := .v (.int .i64 p30.2.In)) I) I (AO.q 3 I (AO.known 51 I hg33 (AO.q 1 I (AO.gt I I I (AO.d (Yd.indexU 1 (m := p30.1) I I I I I I I hp31i (map_get hp31x)) I (AO.q 1 I (AO.gt I I I (AO.d (Yd.loadU 1 p30.1 1 I I I (map_get hp31x) I (y := .v (.int .i64 p30.2.Out)) I) I (AO.q 3 I ?_))))))))))))
 refine AO.known 58 I hg34 (AO.q 8 I (AO.nil ?_))
 exact lg ⟨false, h, I, I⟩ []
 replace h := ife_f hg33 h
 refine AW.region (AO.q 3 I (AO.known 25 I hg25 (AO.q 1 I (AO.gt I I I (AO.d (Yd.lenUM 1 I I I I) I (AO.q 3 I (AO.known 30 I hg26 (AO.q 1 I (AO.gt I I I (AO.d (Yd.indexU 1 (m := p27.1) I I I I I I I hp28i (map_get hp28x)) I (AO.q 1 I (AO.gt I I I ?_))))))))))))
 refine AO.d (Yd.loadU 1 p27.1 3 I I I (map_get hp28x) I (y := .v (.int .i64 p27.2.Rate)) I) I (AO.q 3 I (AO.known 37 I hg29 (AO.q 1 I (AO.gt I I I (AO.d (Yd.indexU 1 (m := p30.1) I I I I I I I hp31i (map_get hp31x)) I (AO.q 1 I (AO.gt I I I (AO.d (Yd.loadU 1 p30.1 3 I I I (map_get hp31x) I (y := .v (.int .i64 p30.2.Rate)) I) I (AO.q 3 I (AO.known 44 I hg32 (AO.q 1 I (AO.gt I I I ?_))))))))))))
 refine AO.d (Yd.indexU 1 (m := p30.1) I I I I I I I hp31i (map_get hp31x)) I (AO.q 1 I (AO.gt I I I (AO.d (Yd.loadU 1 p30.1 0 I I I (map_get hp31x) I (y := .v (.int .i64 p30.2.In)) I) I (AO.q 3 I (AO.known 51 I hg33 (AO.q 15 I (AO.nil ?_)))))))
 exact lg ⟨false, h, I, I⟩ []
 replace h := ife_f hg32 h
 refine AW.region (AO.q 3 I (AO.known 25 I hg25 (AO.q 1 I (AO.gt I I I (AO.d (Yd.lenUM 1 I I I I) I (AO.q 3 I (AO.known 30 I hg26 (AO.q 1 I (AO.gt I I I (AO.d (Yd.indexU 1 (m := p27.1) I I I I I I I hp28i (map_get hp28x)) I (AO.q 1 I (AO.gt I I I ?_))))))))))))
 refine AO.d (Yd.loadU 1 p27.1 3 I I I (map_get hp28x) I (y := .v (.int .i64 p27.2.Rate)) I) I (AO.q 3 I (AO.known 37 I hg29 (AO.q 1 I (AO.gt I I I (AO.d (Yd.indexU 1 (m := p30.1) I I I I I I I hp31i (map_get hp31x)) I (AO.q 1 I (AO.gt I I I (AO.d (Yd.loadU 1 p30.1 3 I I I (map_get hp31x) I (y := .v (.int .i64 p30.2.Rate)) I) I (AO.q 3 I (AO.known 44 I hg32 (AO.q 22 I (AO.nil ?_))))))))))))
 exact lg ⟨false, h, I, I⟩ []
 replace h := ife_f hg29 h
 refine AW.region (AO.q 3 I (AO.known 25 I hg25 (AO.q 1 I (AO.gt I I I (AO.d (Yd.lenUM 1 I I I I) I (AO.q 3 I (AO.known 30 I hg26 (AO.q 1 I (AO.gt I I I (AO.d (Yd.indexU 1 (m := p27.1) I I I I I I I hp28i (map_get hp28x)) I (AO.q 1 I (AO.gt I I I ?_))))))))))))
 refine AO.d (Yd.loadU 1 p27.1 3 I I I (map_get hp28x) I (y := .v (.int .i64 p27.2.Rate)) I) I (AO.q 3 I (AO.known 37 I hg29 (AO.q 29 I (AO.nil ?_))))
 exact lg ⟨false, h, I, I⟩ []
 replace h := ife_f hg26 h
 refine AW.region (AO.q 3 I (AO.known 25 I hg25 (AO.q 1 I (AO.gt I I I (AO.d (Yd.lenUM 1 I I I I) I (AO.q 3 I (AO.known 30 I hg26 (AO.q 36 I (AO.nil ?_)))))))))
 exact lg ⟨false, h, I, I⟩ []
 replace h := ife_f hg25 h
 refine AW.region (AO.q 3 I (AO.known 25 I hg25 (AO.q 41 I (AO.nil ?_))))
 exact lg ⟨false, h, I, I⟩ []
 rintro s ob ⟨j24, h, rfl, rfl⟩
 unfold L.law25_awake.J1 at h
 obtain rfl := Option.some.inj h
 exact AW.ret ⟨.inr I, [_], [], ⟨I, trivial⟩, sl_n, I, I⟩

end Go.Proofs.Ytndfiddakngjdaa
