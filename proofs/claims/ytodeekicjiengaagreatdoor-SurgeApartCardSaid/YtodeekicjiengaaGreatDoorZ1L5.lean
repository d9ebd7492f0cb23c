/- Walks that show what functions of the program compute; printed by a program of ours. No condition. -/
import Derived.Test.YtodeekicjiengaaGreatDoorZ1L3s
namespace Go.Proofs.YtodeekicjiengaaGreatDoor
open Go.Aw
set_option linter.unusedVariables false
set_option linter.unusedSimpArgs false
set_option maxRecDepth 100000
set_option maxHeartbeats 4000000
theorem L.law22_two_ok  (r : Network) (h : L.law22_two = some r) : ACalls Tryz.env 32 [] [] (fun x new => x = .agg (Network.row r) ∧ new = []) := by
 refine ACalls.of_body Tryz.func32 rfl rfl rfl (fun C hC => ?_)
 unfold L.law22_two at h
 refine AW.seqG (fun y1 hy1 => (AW.region (AO.act [] I (AX.alloc (cs := [.v (.slice none 0 0), .v (.slice none 0 0), .v (.slice none 0 0), .v (.slice none 0 0), .V 0, .V 0]) (m := 6) I I I I I (dst_some I) (fun b2 => (AO.nil ?_))))))
 subst hy1
 refine AW.seqG (fun y3 hy3 => (AW.region (AO.act [] I (AX.buildSlice (sz := 1) (es := ([(⟨#[97]⟩ : ByteArray), (⟨#[98]⟩ : ByteArray), (⟨#[99]⟩ : ByteArray)] : List ByteArray).map rS) I I I I I I I I I I I (dst_some I) (fun v4 => (AO.p (Yp.buildP (l := [.v (.string (⟨#[105, 110]⟩ : ByteArray)), .V 0, .V 1000000]) Tryz.bld68 I) I (AO.p (Yp.buildP (l := [.v (.string (⟨#[111, 117, 116]⟩ : ByteArray)), .V 2, .V 0]) Tryz.bld68 I) I (AO.act [] I (AX.buildSlice (sz := 3) (es := ([(⟨(⟨#[105, 110]⟩ : ByteArray), 0, 1000000⟩ : Port), (⟨(⟨#[111, 117, 116]⟩ : ByteArray), 2, 0⟩ : Port)] : List Port).map Port.row) I I I I I I I I I I I (dst_some I) (fun v5 => (AO.one 1 I (fun v4o => (AO.one 2 I (fun v5o => (AO.p (Yp.buildP (l := [.v v4, .v (.slice none 0 0), .v v5, .v (.slice none 0 0), .V 0, .V 5]) Tryz.bld30 (fill_step I I (cells_v v4o) I (fill_step I I I I (fill_step I I (cells_v v5o) I (fill_nil))))) I (AO.act [] I (AX.alloc (cs := [.v (.slice none 0 0), .v (.slice none 0 0), .v (.slice none 0 0), .v (.slice none 0 0), .V 0, .V 0]) (m := 6) I I I I I (dst_some I) (fun b6 => (AO.act [3] I (AX.store 3 0 0 (es' := [[.v v4, .v (.slice none 0 0), .v v5, .v (.slice none 0 0), .V 0, .V 5]]) I I I I I I I I (le_ble I) I I (AO.nil ?_)))))))))))))))))))))
 subst hy3
 refine AW.cutX (fun s ob => ∃ (j50 : List Segment) (v51 : Value), L.law22_two.J1 j50 = some r ∧ s = [] ∧ ob = [.arr b2 30 6 1 [[.v (.slice none 0 0), .v (.slice none 0 0), .v (.slice none 0 0), .v (.slice none 0 0), .V 0, .V 0]], .us v4 9 1 (([(⟨#[97]⟩ : ByteArray), (⟨#[98]⟩ : ByteArray), (⟨#[99]⟩ : ByteArray)] : List ByteArray).map rS), .us v5 68 3 (([(⟨(⟨#[105, 110]⟩ : ByteArray), 0, 1000000⟩ : Port), (⟨(⟨#[111, 117, 116]⟩ : ByteArray), 2, 0⟩ : Port)] : List Port).map Port.row), .arr b6 30 6 1 [[.v v4, .v v51, .v v5, .v (.slice none 0 0), .V 0, .V 5]], .us v51 64 7 (j50.map Segment.row)]) [(0, _), (1, _)] ⟨I, I, J⟩ ?_ ?_
 refine AW.z I (AW.block (AW.ghost (Ghost.nilU 64 7) ?_))
 obtain ⟨o95, hL96, hR97⟩ := ob_some h
 clear h
 refine AW.loopX hL96 [(0, _), (1, _)] ⟨I, I, J⟩ (fun (st81 : (List Segment) × Int) s ob => ∃ (v82 : Value), s = [(2, .V st81.2)] ∧ ob = [.arr b2 30 6 1 [[.v (.slice none 0 0), .v (.slice none 0 0), .v (.slice none 0 0), .v (.slice none 0 0), .V 0, .V 0]], .us v4 9 1 (([(⟨#[97]⟩ : ByteArray), (⟨#[98]⟩ : ByteArray), (⟨#[99]⟩ : ByteArray)] : List ByteArray).map rS), .us v5 68 3 (([(⟨(⟨#[105, 110]⟩ : ByteArray), 0, 1000000⟩ : Port), (⟨(⟨#[111, 117, 116]⟩ : ByteArray), 2, 0⟩ : Port)] : List Port).map Port.row), .arr b6 30 6 1 [[.v v4, .v v82, .v v5, .v (.slice none 0 0), .V 0, .V 5]], .us v82 64 7 (st81.1.map Segment.row)]) ⟨(.slice none 0 0), I, I⟩ ⟨I, J⟩ ⟨[0, 1, 2, 3, 4], I, by decide⟩ ?_
 rintro st81 r99 s ob ⟨v82, rfl, rfl⟩ h hb98
 unfold L.law22_two.B2 at h
 refine AW.seqG (fun y100 hy100 => (AW.z I (AW.ch h I ?_ ?_)))
 intro hc101 h
 refine AW.skip ?_
 subst hy100
 refine AW.cutX (fun s ob => ∃ (j110 : List Segment) (v111 : Value), L.law22_two.J3 st81 j110 = some r99 ∧ s = [] ∧ ob = [.arr b2 30 6 1 [[.v (.slice none 0 0), .v (.slice none 0 0), .v (.slice none 0 0), .v (.slice none 0 0), .V 0, .V 0]], .us v4 9 1 (([(⟨#[97]⟩ : ByteArray), (⟨#[98]⟩ : ByteArray), (⟨#[99]⟩ : ByteArray)] : List ByteArray).map rS), .us v5 68 3 (([(⟨(⟨#[105, 110]⟩ : ByteArray), 0, 1000000⟩ : Port), (⟨(⟨#[111, 117, 116]⟩ : ByteArray), 2, 0⟩ : Port)] : List Port).map Port.row), .arr b6 30 6 1 [[.v v4, .v v111, .v v5, .v (.slice none 0 0), .V 0, .V 5]], .us v111 64 7 (j110.map Segment.row)]) [(0, _), (1, _), (2, _)] ⟨I, I, I, J⟩ ?_ ?_
 refine AW.block ?_
 obtain ⟨p113, hp114, h⟩ := ob_some h
 obtain ⟨hp114i, hp114x⟩ := ix_some hp114
 obtain ⟨l117, hx118, h⟩ := ob_some h
 refine AW.rd (.still 0 (.still 1 (.still 3 (.still 6 (.still 7 (.still 8 (.still 9 (.still 10 (.still 11 (.still 12 (.still 13 (.two 2 14 (.two 4 14 (.two 5 14 (.act 14 (.still 15 (.act 16 (.act 17 (.still 18 (.drop 19 .nil)))))) (.act 5 (.still 15 (.act 16 (.act 17 (.still 18 (.drop 19 .nil))))))) (.act 4 (.act 5 (.still 15 (.act 16 (.act 17 (.still 18 (.drop 19 .nil)))))))) (.act 2 (.act 4 (.act 5 (.still 15 (.act 16 (.act 17 (.still 18 (.drop 19 .nil)))))))))))))))))))) [3] [_] I (AP.r 9 [.o 1 0] I ⟨I, J⟩ (AP.op I (Yp.buildP (l := [.V 0, .V 0, .V 2000000]) Tryz.bld102 I) I (AP.op I (Yp.buildP (l := [.V 100, .V 0, .V 2000000]) Tryz.bld102 I) I (AP.two ?_ ?_))))
 refine AP.act [] I I I (AX.buildSlice (sz := 1) (es := ([(⟨#[120]⟩ : ByteArray), (⟨#[121]⟩ : ByteArray)] : List ByteArray).map rS) I I I I I I I I I I I (dst_some I) (fun v112 => (AP.two ?_ ?_)))
 refine AP.act [] I I I (AX.of_yd (Yd.indexU 5 (m := p113.1) I I I I I I I hp114i (map_get hp114x)) (dst_some I) (AP.two ?_ ?_))
 refine AP.act [] I I I (AX.of_yd (Yd.loadU 5 p113.1 0 I I I (map_get hp114x) I (y := .v (.string p113.2)) I) (dst_some I) (AP.act [] I I I (AX.buildSlice (sz := 3) (es := ([(⟨0, 0, 2000000⟩ : Point), (⟨100, 0, 2000000⟩ : Point)] : List Point).map Point.row) I I I I I I I I I I I (dst_some I) (fun v115 => (AP.one 6 I (fun v115o => (AP.p I (Yp.buildP (l := [.v (.string p113.2), .V st81.2, .V (wr (st81.2 + 1)), .V 100, .V 0, .V (wr (10 + (wr (10 * st81.2)))), .v v115]) Tryz.bld64 (fill_step I I I I (fill_step I I I I (fill_step I I I I (fill_step I I I I (fill_step I I I I (fill_step I I (cells_v v115o) I (fill_nil)))))))) I (AP.ghostS (Ghost.freeze [6] (K := [.us v115 102 3 (([(⟨0, 0, 2000000⟩ : Point), (⟨100, 0, 2000000⟩ : Point)] : List Point).map Point.row)]) I [(26, .list 3 (([(⟨0, 0, 2000000⟩ : Point), (⟨100, 0, 2000000⟩ : Point)] : List Point).map Point.row)), (27, .agg [.v (.string p113.2), .V st81.2, .V (wr (st81.2 + 1)), .V 100, .V 0, .V (wr (10 + (wr (10 * st81.2)))), .list 3 (([(⟨0, 0, 2000000⟩ : Point), (⟨100, 0, 2000000⟩ : Point)] : List Point).map Point.row)])] ⟨⟨_, I, .us 0 I⟩, ⟨_, I, .agg (.cons (.refl _) (.cons (.refl _) (.cons (.refl _) (.cons (.refl _) (.cons (.refl _) (.cons (.refl _) (.cons (.us 0 I) (.rest _))))))))⟩, J⟩ (ob' := [.arr b2 30 6 1 [[.v (.slice none 0 0), .v (.slice none 0 0), .v (.slice none 0 0), .v (.slice none 0 0), .V 0, .V 0]], .us v4 9 1 (([(⟨#[97]⟩ : ByteArray), (⟨#[98]⟩ : ByteArray), (⟨#[99]⟩ : ByteArray)] : List ByteArray).map rS), .us v5 68 3 (([(⟨(⟨#[105, 110]⟩ : ByteArray), 0, 1000000⟩ : Port), (⟨(⟨#[111, 117, 116]⟩ : ByteArray), 2, 0⟩ : Port)] : List Port).map Port.row), .arr b6 30 6 1 [[.v v4, .v v82, .v v5, .v (.slice none 0 0), .V 0, .V 5]], .us v82 64 7 (st81.1.map Segment.row), .us v112 9 1 (([(⟨#[120]⟩ : ByteArray), (⟨#[121]⟩ : ByteArray)] : List ByteArray).map rS)]) (.rest _)) I ?_))))))))
 rotate_left
 refine AP.act [] I I I (AX.buildSlice (sz := 3) (es := ([(⟨0, 0, 2000000⟩ : Point), (⟨100, 0, 2000000⟩ : Point)] : List Point).map Point.row) I I I I I I I I I I I (dst_some I) (fun v115 => (AP.act [] I I I (AX.of_yd (Yd.loadU 5 p113.1 0 I I I (map_get hp114x) I (y := .v (.string p113.2)) I) (dst_some I) (AP.one 6 I (fun v115o => (AP.p I (Yp.buildP (l := [.v (.string p113.2), .V st81.2, .V (wr (st81.2 + 1)), .V 100, .V 0, .V (wr (10 + (wr (10 * st81.2)))), .v v115]) Tryz.bld64 (fill_step I I I I (fill_step I I I I (fill_step I I I I (fill_step I I I I (fill_step I I I I (fill_step I I (cells_v v115o) I (fill_nil)))))))) I (AP.ghostS (Ghost.freeze [6] (K := [.us v115 102 3 (([(⟨0, 0, 2000000⟩ : Point), (⟨100, 0, 2000000⟩ : Point)] : List Point).map Point.row)]) I [(26, .list 3 (([(⟨0, 0, 2000000⟩ : Point), (⟨100, 0, 2000000⟩ : Point)] : List Point).map Point.row)), (27, .agg [.v (.string p113.2), .V st81.2, .V (wr (st81.2 + 1)), .V 100, .V 0, .V (wr (10 + (wr (10 * st81.2)))), .list 3 (([(⟨0, 0, 2000000⟩ : Point), (⟨100, 0, 2000000⟩ : Point)] : List Point).map Point.row)])] ⟨⟨_, I, .us 0 I⟩, ⟨_, I, .agg (.cons (.refl _) (.cons (.refl _) (.cons (.refl _) (.cons (.refl _) (.cons (.refl _) (.cons (.refl _) (.cons (.us 0 I) (.rest _))))))))⟩, J⟩ (ob' := [.arr b2 30 6 1 [[.v (.slice none 0 0), .v (.slice none 0 0), .v (.slice none 0 0), .v (.slice none 0 0), .V 0, .V 0]], .us v4 9 1 (([(⟨#[97]⟩ : ByteArray), (⟨#[98]⟩ : ByteArray), (⟨#[99]⟩ : ByteArray)] : List ByteArray).map rS), .us v5 68 3 (([(⟨(⟨#[105, 110]⟩ : ByteArray), 0, 1000000⟩ : Port), (⟨(⟨#[111, 117, 116]⟩ : ByteArray), 2, 0⟩ : Port)] : List Port).map Port.row), .arr b6 30 6 1 [[.v v4, .v v82, .v v5, .v (.slice none 0 0), .V 0, .V 5]], .us v82 64 7 (st81.1.map Segment.row), .us v112 9 1 (([(⟨#[120]⟩ : ByteArray), (⟨#[121]⟩ : ByteArray)] : List ByteArray).map rS)]) (.rest _)) I ?_))))))))
 rotate_left
 refine AP.act [] I I I (AX.buildSlice (sz := 3) (es := ([(⟨0, 0, 2000000⟩ : Point), (⟨100, 0, 2000000⟩ : Point)] : List Point).map Point.row) I I I I I I I I I I I (dst_some I) (fun v115 => (AP.act [] I I I (AX.of_yd (Yd.indexU 5 (m := p113.1) I I I I I I I hp114i (map_get hp114x)) (dst_some I) (AP.act [] I I I (AX.of_yd (Yd.loadU 5 p113.1 0 I I I (map_get hp114x) I (y := .v (.string p113.2)) I) (dst_some I) (AP.one 6 I (fun v115o => (AP.p I (Yp.buildP (l := [.v (.string p113.2), .V st81.2, .V (wr (st81.2 + 1)), .V 100, .V 0, .V (wr (10 + (wr (10 * st81.2)))), .v v115]) Tryz.bld64 (fill_step I I I I (fill_step I I I I (fill_step I I I I (fill_step I I I I (fill_step I I I I (fill_step I I (cells_v v115o) I (fill_nil)))))))) I (AP.ghostS (Ghost.freeze [6] (K := [.us v115 102 3 (([(⟨0, 0, 2000000⟩ : Point), (⟨100, 0, 2000000⟩ : Point)] : List Point).map Point.row)]) I [(26, .list 3 (([(⟨0, 0, 2000000⟩ : Point), (⟨100, 0, 2000000⟩ : Point)] : List Point).map Point.row)), (27, .agg [.v (.string p113.2), .V st81.2, .V (wr (st81.2 + 1)), .V 100, .V 0, .V (wr (10 + (wr (10 * st81.2)))), .list 3 (([(⟨0, 0, 2000000⟩ : Point), (⟨100, 0, 2000000⟩ : Point)] : List Point).map Point.row)])] ⟨⟨_, I, .us 0 I⟩, ⟨_, I, .agg (.cons (.refl _) (.cons (.refl _) (.cons (.refl _) (.cons (.refl _) (.cons (.refl _) (.cons (.refl _) (.cons (.us 0 I) (.rest _))))))))⟩, J⟩ (ob' := [.arr b2 30 6 1 [[.v (.slice none 0 0), .v (.slice none 0 0), .v (.slice none 0 0), .v (.slice none 0 0), .V 0, .V 0]], .us v4 9 1 (([(⟨#[97]⟩ : ByteArray), (⟨#[98]⟩ : ByteArray), (⟨#[99]⟩ : ByteArray)] : List ByteArray).map rS), .us v5 68 3 (([(⟨(⟨#[105, 110]⟩ : ByteArray), 0, 1000000⟩ : Port), (⟨(⟨#[111, 117, 116]⟩ : ByteArray), 2, 0⟩ : Port)] : List Port).map Port.row), .arr b6 30 6 1 [[.v v4, .v v82, .v v5, .v (.slice none 0 0), .V 0, .V 5]], .us v82 64 7 (st81.1.map Segment.row), .us v112 9 1 (([(⟨#[120]⟩ : ByteArray), (⟨#[121]⟩ : ByteArray)] : List ByteArray).map rS)]) (.rest _)) I ?_))))))))))
 rotate_left
 refine AP.act [] I I I (AX.buildSlice (sz := 3) (es := ([(⟨0, 0, 2000000⟩ : Point), (⟨100, 0, 2000000⟩ : Point)] : List Point).map Point.row) I I I I I I I I I I I (dst_some I) (fun v115 => (AP.act [] I I I (AX.buildSlice (sz := 1) (es := ([(⟨#[120]⟩ : ByteArray), (⟨#[121]⟩ : ByteArray)] : List ByteArray).map rS) I I I I I I I I I I I (dst_some I) (fun v112 => (AP.act [] I I I (AX.of_yd (Yd.indexU 6 (m := p113.1) I I I I I I I hp114i (map_get hp114x)) (dst_some I) (AP.act [] I I I (AX.of_yd (Yd.loadU 6 p113.1 0 I I I (map_get hp114x) I (y := .v (.string p113.2)) I) (dst_some I) (AP.one 5 I (fun v115o => (AP.p I (Yp.buildP (l := [.v (.string p113.2), .V st81.2, .V (wr (st81.2 + 1)), .V 100, .V 0, .V (wr (10 + (wr (10 * st81.2)))), .v v115]) Tryz.bld64 (fill_step I I I I (fill_step I I I I (fill_step I I I I (fill_step I I I I (fill_step I I I I (fill_step I I (cells_v v115o) I (fill_nil)))))))) I (AP.ghostS (Ghost.freeze [5] (K := [.us v115 102 3 (([(⟨0, 0, 2000000⟩ : Point), (⟨100, 0, 2000000⟩ : Point)] : List Point).map Point.row)]) I [(26, .list 3 (([(⟨0, 0, 2000000⟩ : Point), (⟨100, 0, 2000000⟩ : Point)] : List Point).map Point.row)), (27, .agg [.v (.string p113.2), .V st81.2, .V (wr (st81.2 + 1)), .V 100, .V 0, .V (wr (10 + (wr (10 * st81.2)))), .list 3 (([(⟨0, 0, 2000000⟩ : Point), (⟨100, 0, 2000000⟩ : Point)] : List Point).map Point.row)])] ⟨⟨_, I, .us 0 I⟩, ⟨_, I, .agg (.cons (.refl _) (.cons (.refl _) (.cons (.refl _) (.cons (.refl _) (.cons (.refl _) (.cons (.refl _) (.cons (.us 0 I) (.rest _))))))))⟩, J⟩ (ob' := [.arr b2 30 6 1 [[.v (.slice none 0 0), .v (.slice none 0 0), .v (.slice none 0 0), .v (.slice none 0 0), .V 0, .V 0]], .us v4 9 1 (([(⟨#[97]⟩ : ByteArray), (⟨#[98]⟩ : ByteArray), (⟨#[99]⟩ : ByteArray)] : List ByteArray).map rS), .us v5 68 3 (([(⟨(⟨#[105, 110]⟩ : ByteArray), 0, 1000000⟩ : Port), (⟨(⟨#[111, 117, 116]⟩ : ByteArray), 2, 0⟩ : Port)] : List Port).map Port.row), .arr b6 30 6 1 [[.v v4, .v v82, .v v5, .v (.slice none 0 0), .V 0, .V 5]], .us v82 64 7 (st81.1.map Segment.row), .us v112 9 1 (([(⟨#[120]⟩ : ByteArray), (⟨#[121]⟩ : ByteArray)] : List ByteArray).map rS)]) (.rest _)) I ?_)))))))))))))
 any_goals
  refine AP.act [] I I I (AX.lt 7 (([(⟨p113.2, st81.2, wr (st81.2 + 1), 100, 0, wr (10 + (wr (10 * st81.2))), ([(⟨0, 0, 2000000⟩ : Point), (⟨100, 0, 2000000⟩ : Point)] : List Point)⟩ : Segment)] : List Segment).map Segment.row) (AP.act [4] I I I (AX.ap 4 I hx118 (fun v119 => (AP.q 1 I (AP.one 4 I (fun v119o => (AP.drop [3] I I I (AX.store 3 0 1 (es' := [[.v v4, .v v119, .v v5, .v (.slice none 0 0), .V 0, .V 5]]) I I I I I I (cells_v v119o) I (le_ble I) I I (AP.ofAO (AO.nil ?_)))))))))))
  exact lg ⟨l117, v119, h, I, I⟩ [0, 1, 2, 3, 4]
 rintro s ob ⟨j110, v111, h, rfl, rfl⟩
 unfold L.law22_two.J3 at h
 refine AW.region (AO.q 3 I ?_)
 obtain rfl := oi h
 refine AO.nil ?_
 exact ⟨_, _, _, I, ⟨v111, I, I⟩, ⟨I, I, I, J⟩, [0, 1, 2, 3, 4], I, by decide⟩
 intro hc101 h
 obtain rfl := hb98 _ (oi h).symm
 replace h := hR97
 refine AW.exit ?_
 exact lg ⟨st81.1, v82, h, I, I⟩ [0, 1, 2, 3, 4]
 rintro s ob ⟨j50, v51, h, rfl, rfl⟩
 unfold L.law22_two.J1 at h
 refine AW.seq (AW.region (AO.r 1 [.o 0 3] I ⟨I, J⟩ (AO.act [0] I (AX.store 0 0 0 (es' := [[.v v4, .v v51, .v v5, .v (.slice none 0 0), .V 0, .V 5]]) I I I I I I I I (le_ble I) I I (AO.nil (AW.ghost (Ghost.freeze [1, 2, 4] (K := [.us v4 9 1 (([(⟨#[97]⟩ : ByteArray), (⟨#[98]⟩ : ByteArray), (⟨#[99]⟩ : ByteArray)] : List ByteArray).map rS), .us v5 68 3 (([(⟨(⟨#[105, 110]⟩ : ByteArray), 0, 1000000⟩ : Port), (⟨(⟨#[111, 117, 116]⟩ : ByteArray), 2, 0⟩ : Port)] : List Port).map Port.row), .us v51 64 7 (j50.map Segment.row)]) I [(31, .agg [.list 1 (([(⟨#[97]⟩ : ByteArray), (⟨#[98]⟩ : ByteArray), (⟨#[99]⟩ : ByteArray)] : List ByteArray).map rS), .list 7 (j50.map Segment.row), .list 3 (([(⟨(⟨#[105, 110]⟩ : ByteArray), 0, 1000000⟩ : Port), (⟨(⟨#[111, 117, 116]⟩ : ByteArray), 2, 0⟩ : Port)] : List Port).map Port.row), .list 5 ([].map Station.row), .V 0, .V 5])] ⟨⟨_, I, .agg (.cons (.us 0 I) (.cons (.us 2 I) (.cons (.us 1 I) (.cons (.nil _) (.rest _)))))⟩, J⟩ (ob' := [.arr b2 30 6 1 [[.list 1 (([(⟨#[97]⟩ : ByteArray), (⟨#[98]⟩ : ByteArray), (⟨#[99]⟩ : ByteArray)] : List ByteArray).map rS), .list 7 (j50.map Segment.row), .list 3 (([(⟨(⟨#[105, 110]⟩ : ByteArray), 0, 1000000⟩ : Port), (⟨(⟨#[111, 117, 116]⟩ : ByteArray), 2, 0⟩ : Port)] : List Port).map Port.row), .v (.slice none 0 0), .V 0, .V 5]], .arr b6 30 6 1 [[.list 1 (([(⟨#[97]⟩ : ByteArray), (⟨#[98]⟩ : ByteArray), (⟨#[99]⟩ : ByteArray)] : List ByteArray).map rS), .list 7 (j50.map Segment.row), .list 3 (([(⟨(⟨#[105, 110]⟩ : ByteArray), 0, 1000000⟩ : Port), (⟨(⟨#[111, 117, 116]⟩ : ByteArray), 2, 0⟩ : Port)] : List Port).map Port.row), .v (.slice none 0 0), .V 0, .V 5]]]) (.cons (.arr (.cons (.us 0 I) (.cons (.us 2 I) (.cons (.us 1 I) (.rest _))))) (.cons (.arr (.cons (.us 0 I) (.cons (.us 2 I) (.cons (.us 1 I) (.rest _))))) (.rest _)))) ?_))))))
 refine AW.ghost (Ghost.freeze [] (K := []) I [] J (ob' := [.arr b2 30 6 1 [[.list 1 (([(⟨#[97]⟩ : ByteArray), (⟨#[98]⟩ : ByteArray), (⟨#[99]⟩ : ByteArray)] : List ByteArray).map rS), .list 7 (j50.map Segment.row), .list 3 (([(⟨(⟨#[105, 110]⟩ : ByteArray), 0, 1000000⟩ : Port), (⟨(⟨#[111, 117, 116]⟩ : ByteArray), 2, 0⟩ : Port)] : List Port).map Port.row), .list 5 ([].map Station.row), .V 0, .V 5]], .arr b6 30 6 1 [[.list 1 (([(⟨#[97]⟩ : ByteArray), (⟨#[98]⟩ : ByteArray), (⟨#[99]⟩ : ByteArray)] : List ByteArray).map rS), .list 7 (j50.map Segment.row), .list 3 (([(⟨(⟨#[105, 110]⟩ : ByteArray), 0, 1000000⟩ : Port), (⟨(⟨#[111, 117, 116]⟩ : ByteArray), 2, 0⟩ : Port)] : List Port).map Port.row), .v (.slice none 0 0), .V 0, .V 5]]]) (.cons (.arr (.cons (.refl _) (.cons (.refl _) (.cons (.refl _) (.cons (.nil _) (.rest _)))))) (.rest _))) (AW.ghost (Ghost.pick [0] (K := [.arr b2 30 6 1 [[.list 1 (([(⟨#[97]⟩ : ByteArray), (⟨#[98]⟩ : ByteArray), (⟨#[99]⟩ : ByteArray)] : List ByteArray).map rS), .list 7 (j50.map Segment.row), .list 3 (([(⟨(⟨#[105, 110]⟩ : ByteArray), 0, 1000000⟩ : Port), (⟨(⟨#[111, 117, 116]⟩ : ByteArray), 2, 0⟩ : Port)] : List Port).map Port.row), .list 5 ([].map Station.row), .V 0, .V 5]]]) I (by decide)) ?_)
 obtain rfl := oi h
 exact AW.ret ⟨.inr I, [_], [], ⟨⟨0, _, _, _, _, _, _, _, I, I, I, I, I⟩, J⟩, sl_n, I, I⟩
theorem L.law22_steadyPlan_ok (rate_0 : Int) (r : Plan) (h : L.law22_steadyPlan rate_0 = r) : ACalls Tryz.env 33 [.V rate_0] [] (fun x new => x = .agg (Plan.row r) ∧ new = []) := by
 refine ACalls.of_body Tryz.func33 rfl rfl rfl (fun C hC => ?_)
 unfold L.law22_steadyPlan at h
 refine AW.seq (AW.region (AO.act [] I (AX.alloc (cs := [.v (.slice none 0 0), .v (.slice none 0 0), .v (.slice none 0 0)]) (m := 3) I I I I I (dst_some I) (fun b1 => (AO.nil (AW.seq (AW.region (AO.q 2 I (AO.act [] I (AX.buildSlice (sz := 1) (es := ([rate_0, rate_0] : List Int).map rI) I I I I I I I I I I I (dst_some I) (fun v2 => (AO.q 3 I (AO.act [] I (AX.buildSlice (sz := 1) (es := ([rate_0, wr (0 - rate_0)] : List Int).map rI) I I I I I I I I I I I (dst_some I) (fun v3 => (AO.one 1 I (fun v2o => (AO.one 2 I (fun v3o => (AO.p (Yp.buildP (l := [.v v2, .v v3, .v (.slice none 0 0)]) Tryz.bld48 (fill_step I I (cells_v v2o) I (fill_step I I (cells_v v3o) I (fill_nil)))) I ?_))))))))))))))))))))
 refine AO.act [0] I (AX.store 0 0 0 (es' := [[.v v2, .v v3, .v (.slice none 0 0)]]) I I I I I I I I (le_ble I) I I (AO.nil (AW.ghost (Ghost.freeze [1, 2] (K := [.us v2 3 1 (([rate_0, rate_0] : List Int).map rI), .us v3 3 1 (([rate_0, wr (0 - rate_0)] : List Int).map rI)]) I [(5, .list 1 (([rate_0, rate_0] : List Int).map rI)), (9, .list 1 (([rate_0, wr (0 - rate_0)] : List Int).map rI)), (10, .agg [.list 1 (([rate_0, rate_0] : List Int).map rI), .list 1 (([rate_0, wr (0 - rate_0)] : List Int).map rI), .list 1 ([].map rB)])] ⟨⟨_, I, .us 0 I⟩, ⟨_, I, .us 1 I⟩, ⟨_, I, .agg (.cons (.us 0 I) (.cons (.us 1 I) (.cons (.nil _) (.rest _))))⟩, J⟩ (ob' := [.arr b1 48 3 1 [[.list 1 (([rate_0, rate_0] : List Int).map rI), .list 1 (([rate_0, wr (0 - rate_0)] : List Int).map rI), .v (.slice none 0 0)]]]) (.cons (.arr (.cons (.us 0 I) (.cons (.us 1 I) (.rest _)))) (.rest _))) (AW.ghost (Ghost.freeze [] (K := []) I [] J (ob' := [.arr b1 48 3 1 [[.list 1 (([rate_0, rate_0] : List Int).map rI), .list 1 (([rate_0, wr (0 - rate_0)] : List Int).map rI), .list 1 ([].map rB)]]]) (.cons (.arr (.cons (.refl _) (.cons (.refl _) (.cons (.nil _) (.rest _))))) (.rest _))) ?_))))
 obtain rfl := h
 exact AW.ret ⟨.inr I, [_], [], ⟨⟨0, _, _, _, _, _, _, _, I, I, I, I, I⟩, J⟩, sl_n, I, I⟩
theorem L.law22_awake_ok  (r : Bool) (h : L.law22_awake = some r) : ACalls Tryz.env 14 [] [] (fun x new => x = .v (.bool r) ∧ new = []) := by
 refine ACalls.of_body Tryz.func14 rfl rfl rfl (fun C hC => ?_)
 unfold L.law22_awake at h
 refine AW.z I (AW.seqG (fun y2 hy2 => ?_))
 obtain ⟨r3, hx4, h⟩ := ob_some h
 obtain ⟨r5, hx6, h⟩ := ob_some h
 refine AW.region (AO.act [] I (AX.call0 I I I (L.law22_two_ok  _ hx4) (dst_some I) ?_))
 rintro _ _ ⟨rfl, rfl⟩
 refine AO.act [] I (AX.call0 I I I (L.law22_steadyPlan_ok 100 _ I) (dst_some I) ?_)
 rintro _ _ ⟨rfl, rfl⟩
 refine AO.act [] I (AX.call0 I I I (L.law22_steadyPlan_ok 80 _ I) (dst_some I) ?_)
 rintro _ _ ⟨rfl, rfl⟩
 refine AO.act [] I (AX.call0 I I I (L.surge_Rise_ok _ _ _ _ hx6) (dst_some I) ?_)
 rintro _ _ ⟨v7, rfl, rfl⟩
 refine AO.q 5 I (AO.nil ?_)
 subst hy2
 refine AW.seqG (fun y8 hy8 => ?_)
 obtain ⟨r9, hx10, h⟩ := ob_some h
 obtain ⟨r11, hx12, h⟩ := ob_some h
 refine AW.region (AO.act [] I (AX.call0 I I I (L.law22_two_ok  _ hx10) (dst_some I) ?_))
 rintro _ _ ⟨rfl, rfl⟩
 refine AO.act [] I (AX.call0 I I I (L.law22_steadyPlan_ok 0 _ I) (dst_some I) ?_)
 rintro _ _ ⟨rfl, rfl⟩
 refine AO.act [] I (AX.call0 I I I (L.law22_steadyPlan_ok 80 _ I) (dst_some I) ?_)
 rintro _ _ ⟨rfl, rfl⟩
 refine AO.act [] I (AX.call0 I I I (L.surge_Groups_ok _ _ _ _ hx12) (dst_some I) ?_)
 rintro _ _ ⟨rfl, rfl⟩
 refine AO.q 5 I (AO.nil ?_)
 subst hy8
 refine AW.cutX (fun s ob => ∃ (j23 : Bool), L.law22_awake.J1 j23 = some r ∧ s = [(0, .v (.bool j23))] ∧ ob = []) [] J ?_ ?_
 rcases bt ((r5.2 == 0)) with hg24 | hg24
 replace h := ife_t hg24 h
 obtain ⟨r26, hx27, h⟩ := ob_some h
 rcases bt (r26) with hg28 | hg28
 replace h := ife_t hg28 h
 rcases bt ((r11.2 == 0)) with hg29 | hg29
 replace h := ife_t hg29 h
 obtain ⟨r32, hx33, h⟩ := ob_some h
 refine AW.region (AO.q 3 I (AO.known 21 I hg24 (AO.q 1 I (AO.gt I I I (AO.act [] I (AX.lt 1 (([600, 600] : List Int).map rI) (AO.gt I I I (AO.act [] I (AX.callL I (.refl _) I I (.cons (.us 0 I) (.rest _)) I (L.keep_Ints_ok _ _ _ hx27) (dst_some I) (by rintro _ _ ⟨rfl, _⟩; rfl) ?_)))))))))
 rintro _ ⟨_, rfl, -⟩
 refine AO.q 2 I (AO.known 26 I hg28 (AO.q 4 I (AO.known 30 I hg29 (AO.q 1 I (AO.gt I I I (AO.act [] I (AX.buildSlice (sz := 1) (es := ([0, 1] : List Int).map rI) I I I I I I I I I I I (dst_some I) (fun v30 => (AO.ghost (Ghost.freeze [1] (K := [.us v30 3 1 (([0, 1] : List Int).map rI)]) I [(32, .list 1 (([0, 1] : List Int).map rI))] ⟨⟨_, I, .us 0 I⟩, J⟩ (ob' := [.us v7 3 1 (r5.1.map rI)]) (.rest _)) (AO.gt I I I (AO.act [] I (AX.lt 1 (([([0, 1] : List Int)] : List (List Int)).map (rL 1 rI)) (AO.gt I I I (AO.c (L.keep_Lists_ok _ _ _ hx33) (AO.q 2 I ?_)))))))))))))))
 refine AO.nil ?_
 exact lg ⟨r32, h, I, I⟩ []
 replace h := ife_f hg29 h
 refine AW.region (AO.q 3 I (AO.known 21 I hg24 (AO.q 1 I (AO.gt I I I (AO.act [] I (AX.lt 1 (([600, 600] : List Int).map rI) (AO.gt I I I (AO.act [] I (AX.callL I (.refl _) I I (.cons (.us 0 I) (.rest _)) I (L.keep_Ints_ok _ _ _ hx27) (dst_some I) (by rintro _ _ ⟨rfl, _⟩; rfl) ?_)))))))))
 rintro _ ⟨_, rfl, -⟩
 refine AO.q 2 I (AO.known 26 I hg28 (AO.q 4 I (AO.known 30 I hg29 (AO.q 6 I (AO.nil ?_)))))
 exact lg ⟨false, h, I, I⟩ []
 replace h := ife_f hg28 h
 refine AW.region (AO.q 3 I (AO.known 21 I hg24 (AO.q 1 I (AO.gt I I I (AO.act [] I (AX.lt 1 (([600, 600] : List Int).map rI) (AO.gt I I I (AO.act [] I (AX.callL I (.refl _) I I (.cons (.us 0 I) (.rest _)) I (L.keep_Ints_ok _ _ _ hx27) (dst_some I) (by rintro _ _ ⟨rfl, _⟩; rfl) ?_)))))))))
 rintro _ ⟨_, rfl, -⟩
 refine AO.q 2 I (AO.known 26 I hg28 (AO.q 10 I (AO.nil ?_)))
 exact lg ⟨false, h, I, I⟩ []
 replace h := ife_f hg24 h
 refine AW.region (AO.q 3 I (AO.known 21 I hg24 (AO.q 15 I (AO.nil ?_))))
 exact lg ⟨false, h, I, I⟩ []
 rintro s ob ⟨j23, h, rfl, rfl⟩
 unfold L.law22_awake.J1 at h
 obtain rfl := oi h
 exact AW.ret ⟨.inr I, [_], [], ⟨I, J⟩, sl_n, I, I⟩
end Go.Proofs.YtodeekicjiengaaGreatDoor
