/- Walks that show what functions of the program compute; printed by a program of ours. No condition. -/
import Derived.Test.YtehbcbedipkifaaGreatDoorZxLs3
set_option maxRecDepth 100000
namespace Go.Proofs.YtehbcbedipkifaaGreatDoor
open Go.Aw
set_option linter.unusedVariables false
set_option linter.unusedSimpArgs false
set_option maxHeartbeats 4000000
theorem L.zlly_ok (s_0 : Segment) (place_1 : Int) (r : Int) (h : L.zlly s_0 place_1 = some r) : ACalls Tryz.env 58 [.agg (Segment.row s_0), .V place_1] [] (fun x new => x = .V r ∧ new = []) := by
 refine ACalls.of_body Tryz.func58 rfl rfl rfl (fun C hC => ?_)
 unfold L.zlly at h
 refine AW.seqG (fun y1 hy1 => (AW.region (AO.act [] I (AX.box (cs := Segment.row s_0) (m := 7) I I I dS (fun b2 => (AO.q 1 I (AO.nil ?_)))))))
 subst hy1
 refine AW.z I (AW.cutX (fun s ob => ∃ (j57 : Int), L.zlly.J1 j57 = some r ∧ s = [(5, .V j57)] ∧ ob = []) [] J ?_ ?_)
 refine AW.z I (AW.block ?_)
 obtain ⟨o111, hL112, hR113⟩ := ob_some h
 clear h
 refine AW.loopX hL112 [(1, _), (2, _)] ⟨I, I, J⟩ (fun (st94 : Int × Int) s ob => s = [(5, .V st94.1), (6, .V st94.2)] ∧ ob = [.arr b2 77 7 1 [Segment.row s_0]]) ⟨I, I⟩ ⟨I, I, J⟩ ⟨[0], I, by decide⟩ ?_
 rintro st94 r115 s ob ⟨rfl, rfl⟩ h hb114
 unfold L.zlly.B2 at h
 refine AW.seqG (fun y116 hy116 => (AW.zr [.o 2 0, .l 3 (s_0.Points.length : Int)] I ⟨len_m, I, J⟩ (AW.ch h I ?_ ?_)))
 intro hc117 h
 refine AW.skip ?_
 subst hy116
 refine AW.cutX (fun s ob => ∃ (j131 : Int), L.zlly.J3 st94 j131 = some r115 ∧ s = [(5, .V j131)] ∧ ob = [.arr b2 77 7 1 [Segment.row s_0]]) [(1, _), (2, _), (6, _)] ⟨I, I, I, J⟩ ?_ ?_
 refine AW.block (AW.cutX (fun s ob => ∃ (j138 : Int × Int × Int × Int × Int × Int) (b139 : Nat) (b140 : Nat), L.zlly.J4 place_1 st94 j138 = some r115 ∧ s = [(7, .v (.pointer (some ⟨b139, 0, none⟩))), (8, .v (.pointer (some ⟨b140, 0, none⟩)))] ∧ ob = [.arr b2 77 7 1 [Segment.row s_0], .arr b139 104 3 1 [[.V j138.1, .V j138.2.1, .V j138.2.2.1]], .arr b140 104 3 1 [[.V j138.2.2.2.1, .V j138.2.2.2.2.1, .V j138.2.2.2.2.2]]]) [(1, _), (2, _), (5, _), (6, _)] ⟨I, I, I, I, J⟩ ?_ ?_)
 obtain ⟨p145, hp146, h⟩ := ob_some h
 obtain ⟨hp146i, hp146x⟩ := ix_some hp146
 obtain ⟨p147, hp148, h⟩ := ob_some h
 obtain ⟨hp148i, hp148x⟩ := ix_some hp148
 refine AW.rd (.still 0 (.still 1 (.still 2 (.still 3 (.still 4 (.still 5 (.still 6 (.still 7 (.still 8 (.still 9 (.still 10 (.two 11 12 (.act 12 (.act 13 (.act 14 .nil))) (.act 11 (.act 13 (.act 14 .nil))))))))))))))) [0] [_] I (AP.r 11 [.o 1 0, .x 4 p145.1 (Point.row p145.2), .o 7 0, .x 9 p147.1 (Point.row p147.2)] I ⟨⟨hp148i, map_get hp148x⟩, I, ⟨hp146i, map_get hp146x⟩, I, J⟩ (AP.two ?_ ?_))
 refine AP.act [] I I I (AX.alloc (cs := [.V 0, .V 0, .V 0]) (m := 3) I I I I I dS (fun b149 => (AP.act [] I I I (AX.alloc (cs := [.V 0, .V 0, .V 0]) (m := 3) I I I I I dS (fun b150 => (AP.act [1] I I I (AX.store 1 0 0 (es' := [Point.row p145.2]) I I I I I I I I (le_ble I) I I (AP.act [2] I I I (AX.store 2 0 0 (es' := [Point.row p147.2]) I I I I I I I I (le_ble I) I I (AP.ofAO (AO.nil ?_)))))))))))
 exact lg ⟨(p145.2.At, p145.2.Height, p145.2.Limit, p147.2.At, p147.2.Height, p147.2.Limit), b149, b150, h, I, I⟩ [0, 1, 2]
 refine AP.act [] I I I (AX.alloc (cs := [.V 0, .V 0, .V 0]) (m := 3) I I I I I dS (fun b150 => (AP.act [] I I I (AX.alloc (cs := [.V 0, .V 0, .V 0]) (m := 3) I I I I I dS (fun b149 => (AP.act [2] I I I (AX.store 2 0 0 (es' := [Point.row p145.2]) I I I I I I I I (le_ble I) I I (AP.act [1] I I I (AX.store 1 0 0 (es' := [Point.row p147.2]) I I I I I I I I (le_ble I) I I (AP.ofAO (AO.nil ?_)))))))))))
 exact lg ⟨(p145.2.At, p145.2.Height, p145.2.Limit, p147.2.At, p147.2.Height, p147.2.Limit), b149, b150, h, I, I⟩ [0, 2, 1]
 rintro s ob ⟨j138, b139, b140, h, rfl, rfl⟩
 unfold L.zlly.J4 at h
 refine AW.cutX (fun s ob => s = [(36, .v (.bool (decide (j138.1 ≤ place_1) && decide (place_1 ≤ j138.2.2.2.1))))] ∧ ob = [.arr b2 77 7 1 [Segment.row s_0], .arr b139 104 3 1 [[.V j138.1, .V j138.2.1, .V j138.2.2.1]], .arr b140 104 3 1 [[.V j138.2.2.2.1, .V j138.2.2.2.2.1, .V j138.2.2.2.2.2]]]) [(1, _), (2, _), (5, _), (6, _), (7, _), (8, _)] ⟨I, I, I, I, I, I, J⟩ ?_ ?_
 refine AW.region (AO.r 5 [.o 1 1] I ⟨I, J⟩ ?_)
 rcases bt (decide (j138.1 ≤ place_1)) with hg143 | hg143
 refine AO.known 31 I hg143 (AO.r 5 [.o 2 2] I ⟨I, J⟩ (AO.nil ?_))
 exact lf ⟨I, I⟩ ⟨(get_b (by simp only [hg143, bz])), I, I, I, I, I, I, J⟩ [0, 1, 2] I
 refine AO.known 31 I hg143 (AO.q 5 I (AO.nil ?_))
 exact lf ⟨I, I⟩ ⟨(get_b (by simp only [hg143, bz])), I, I, I, I, I, I, J⟩ [0, 1, 2] I
 rintro s ob ⟨rfl, rfl⟩
 refine AW.ch h I ?_ ?_
 intro hc144 h
 refine AW.region (AO.r 5 [.o 2 1, .o 4 2] I ⟨I, I, J⟩ (AO.p (Yp.minI3 I I I) I (AO.q 1 I (AO.nil ?_))))
 exact lg ⟨(min (min st94.1 j138.2.2.1) j138.2.2.2.2.2), h, I, I⟩ [0]
 intro hc144 h
 refine AW.skip ?_
 exact lg ⟨st94.1, h, I, I⟩ [0]
 rintro s ob ⟨j131, h, rfl, rfl⟩
 unfold L.zlly.J3 at h
 refine AW.region (AO.q 3 I ?_)
 obtain rfl := oi h
 refine AO.nil ?_
 exact ⟨_, _, _, I, ⟨I, I⟩, ⟨I, I, I, I, J⟩, [0], I, by decide⟩
 intro hc117 h
 obtain rfl := hb114 _ (oi h).symm
 replace h := hR113
 refine AW.exit ?_
 exact lg ⟨st94.1, h, I, I⟩ []
 rintro s ob ⟨j57, h, rfl, rfl⟩
 unfold L.zlly.J1 at h
 refine AW.z I ?_
 obtain rfl := oi h
 exact AW.ret pr
theorem L.zflm_ok (a_0 : Pressures) (a_1 : List Int) (a_2 : Network) (r : Fault × Bool) (h : L.zflm a_0 a_1 a_2 = some r) : ACalls Tryz.env 57 [.eptr (Pressures.row a_0), .eptr ((rL 1 rI) a_1), .eptr (Network.row a_2)] [] (fun x new => x = .tup [.agg (Fault.row r.1), .v (.bool r.2)] ∧ new = []) := by
 refine ACalls.of_body Tryz.func57 rfl rfl rfl (fun C hC => ?_)
 unfold L.zflm at h
 refine AW.seqG (fun y1 hy1 => (AW.region (AO.act [] I (AX.alloc (cs := [.V 0, .V 0, .V 0]) (m := 3) I I I I I dS (fun b2 => (AO.q 1 I (AO.nil ?_)))))))
 subst hy1
 refine AW.cutX (fun s ob => ∃ (j93 : Unit), L.zflm.J1 j93 = some r ∧ s = [] ∧ ob = [.arr b2 59 3 1 [[.V 0, .V 0, .V 0]]]) [(3, _)] ⟨I, J⟩ ?_ ?_
 refine AW.zr [.l 2 (a_0.Segments.length : Int)] I ⟨len_m, J⟩ (AW.block (AW.listMax 10 I (fun hm97 => ?_)))
 replace hm97 : a_0.Segments.length ≤ 9223372036854775806 := by rw [List.length_map] at hm97; omega
 obtain ⟨o182, hL183, hR184⟩ := ob_some h
 clear h
 refine AW.forX hL183 [(1, _), (2, _), (3, _), (10, _), (11, _)] ⟨I, I, I, I, I, J⟩ (fun (k95 : Nat) (st141 : Unit) s ob => s = [(12, .V (k95 : Int))] ∧ ob = [.arr b2 59 3 1 [[.V 0, .V 0, .V 0]]]) ⟨I, I⟩ ⟨I, J⟩ ⟨[0], I, by decide⟩ ?_ ?_
 rintro k95 x98 st141 r186 s ob hx99 hk96 ⟨rfl, rfl⟩ h hb185
 unfold L.zflm.B2 at h
 have hk96t : decide ((k95 : Int) < (a_0.Segments.length : Int)) = true := decide_eq_true (by omega)
 refine AW.z I (AW.seqG (fun y188 hy188 => (AW.condK (v := true) I hk96t (AW.skip ?_))))
 subst hy188
 refine AW.cutX (fun s ob => ∃ (j226 : Unit), L.zflm.J3 j226 = some r186 ∧ s = [] ∧ ob = [.arr b2 59 3 1 [[.V 0, .V 0, .V 0]]]) [(1, _), (2, _), (3, _), (10, _), (11, _), (12, _)] ⟨I, I, I, I, I, I, J⟩ ?_ ?_
 refine AW.block (AW.zr [.x 1 k95 ((rL 3 Level.row) x98)] I ⟨⟨I, map_get hx99⟩, J⟩ (AW.zr [.l 1 (x98.length : Int)] I ⟨len_m, J⟩ (AW.block (AW.listMax 17 I (fun hm231 => ?_)))))
 replace hm231 : x98.length ≤ 9223372036854775806 := by rw [List.length_map] at hm231; omega
 obtain ⟨o262, hL263, hR264⟩ := ob_some h
 clear h
 refine AW.forX hL263 [(1, _), (2, _), (3, _), (5, _), (10, _), (11, _), (12, _), (17, _), (18, _)] ⟨I, I, I, I, I, I, I, I, I, J⟩ (fun (k229 : Nat) (st248 : Unit) s ob => s = [(19, .V (k229 : Int))] ∧ ob = [.arr b2 59 3 1 [[.V 0, .V 0, .V 0]]]) ⟨I, I⟩ ⟨I, J⟩ ⟨[0], I, by decide⟩ ?_ ?_
 rintro k229 x232 st248 r266 s ob hx233 hk230 ⟨rfl, rfl⟩ h hb265
 unfold L.zflm.B4 at h
 have hk230t : decide ((k229 : Int) < (x98.length : Int)) = true := decide_eq_true (by omega)
 refine AW.z I (AW.seqG (fun y268 hy268 => (AW.condK (v := true) I hk230t (AW.skip ?_))))
 subst hy268
 refine AW.seq (AW.block (AW.seqG (fun y269 hy269 => (AW.region (AO.r 2 [.x 0 k229 (Level.row x232)] I ⟨⟨I, map_get hx233⟩, J⟩ (AO.act [] I (AX.alloc (cs := [.V 0, .V 0, .V 0]) (m := 3) I I I I I dS (fun b270 => (AO.act [1] I (AX.store 1 0 0 (es' := [Level.row x232]) I I I I I I I I (le_ble I) I I (AO.nil ?_)))))))))))
 subst hy269
 refine AW.seqG (fun y271 hy271 => (AW.seq ?_))
 obtain ⟨p272, hp273, h⟩ := ob_some h
 obtain ⟨hp273i, hp273x⟩ := ix_some hp273
 obtain ⟨p274, hp275, h⟩ := ob_some h
 obtain ⟨hp275i, hp275x⟩ := ix_some hp275
 obtain ⟨r276, hx277, h⟩ := ob_some h
 refine AW.rd (pd 17 0 [15]) [1] [_] I (AP.r 15 [.o 2 0, .x 5 p272.1 (rI p272.2), .x 11 p274.1 (Segment.row p274.2), .o 14 0] I ⟨I, ⟨hp275i, map_get hp275x⟩, ⟨hp273i, map_get hp273x⟩, I, J⟩ (AP.c I (L.zlly_ok _ _ _ hx277) (AP.q 1 I (AP.ofAO (AO.nil (AW.ch h I ?_ ?_))))))
 intro hc278 h
 refine AW.seq (AW.region (AO.r 3 [.o 2 1] I ⟨I, J⟩ (AO.p (Yp.buildP (l := [.V 1, .V (k95 : Int), .V x232.At]) Tryz.bld59 I) I (AO.act [0] I (AX.store 0 0 0 (es' := [[.V 1, .V (k95 : Int), .V x232.At]]) I I I I I I I I (le_ble I) I I (AO.q 1 I (AO.nil ?_)))))))
 obtain rfl := hb265 _ (oi h).symm
 replace h := hR264
 replace h := se_r h
 obtain rfl := hb185 _ (oi h).symm
 replace h := hR184
 replace h := se_r h
 refine AW.ghost (Ghost.pick [0] (K := [.arr b2 59 3 1 [[.V 1, .V (k95 : Int), .V x232.At]]]) I (by decide)) ?_
 obtain rfl := oi h
 exact AW.ret ⟨.inr I, [_, _], [], ⟨⟨0, _, _, _, _, _, _, _, I, I, I, I, I⟩, I, J⟩, sl_n, I, I⟩
 intro hc278 h
 refine AW.skip ?_
 subst hy271
 refine AW.dz (pd 11 0 []) [1] [_] [.o 2 0, .x 5 p272.1 (rI p272.2)] I I ⟨⟨hp273i, map_get hp273x⟩, I, J⟩ (AW.ch h I ?_ ?_)
 intro hc279 h
 refine AW.seq (AW.region (AO.r 3 [.o 2 1] I ⟨I, J⟩ (AO.p (Yp.buildP (l := [.V 2, .V (k95 : Int), .V x232.At]) Tryz.bld59 I) I (AO.act [0] I (AX.store 0 0 0 (es' := [[.V 2, .V (k95 : Int), .V x232.At]]) I I I I I I I I (le_ble I) I I (AO.q 1 I (AO.nil ?_)))))))
 obtain rfl := hb265 _ (oi h).symm
 replace h := hR264
 replace h := se_r h
 obtain rfl := hb185 _ (oi h).symm
 replace h := hR184
 replace h := se_r h
 refine AW.ghost (Ghost.pick [0] (K := [.arr b2 59 3 1 [[.V 2, .V (k95 : Int), .V x232.At]]]) I (by decide)) ?_
 obtain rfl := oi h
 exact AW.ret ⟨.inr I, [_, _], [], ⟨⟨0, _, _, _, _, _, _, _, I, I, I, I, I⟩, I, J⟩, sl_n, I, I⟩
 intro hc279 h
 refine AW.skip (AW.region (AO.r 2 [.k 0 (k229 + 1 : Nat)] I ⟨cast_wr hk230 hm231, J⟩ ?_))
 obtain rfl := oi h
 refine AO.nil ?_
 exact ⟨_, _, _, I, ⟨I, I⟩, ⟨I, I, I, I, I, I, I, I, I, I, J⟩, [0], I, by decide⟩
 rintro st248 s ob ⟨rfl, rfl⟩ he
 subst he
 have h := se_l hR264
 have hk230f : decide (((x98.length : Nat) : Int) < (x98.length : Int)) = false := by simp
 refine AW.z I (AW.seqG (fun y281 hy281 => (AW.condK (v := false) I hk230f (AW.exit ?_))))
 exact lg ⟨(), h, I, I⟩ [0]
 rintro s ob ⟨j226, h, rfl, rfl⟩
 unfold L.zflm.J3 at h
 refine AW.region (AO.r 2 [.k 0 (k95 + 1 : Nat)] I ⟨cast_wr hk96 hm97, J⟩ ?_)
 obtain rfl := oi h
 refine AO.nil ?_
 exact ⟨_, _, _, I, ⟨I, I⟩, ⟨I, I, I, I, I, I, J⟩, [0], I, by decide⟩
 rintro st141 s ob ⟨rfl, rfl⟩ he
 subst he
 have h := se_l hR184
 have hk96f : decide (((a_0.Segments.length : Nat) : Int) < (a_0.Segments.length : Int)) = false := by simp
 refine AW.z I (AW.seqG (fun y284 hy284 => (AW.condK (v := false) I hk96f (AW.exit ?_))))
 exact lg ⟨(), h, I, I⟩ [0]
 rintro s ob ⟨j93, h, rfl, rfl⟩
 unfold L.zflm.J1 at h
 refine AW.seq (AW.region (AO.p (Yp.buildP (l := [.V 0, .V 0, .V 0]) Tryz.bld59 I) I (AO.act [0] I (AX.store 0 0 0 (es' := [[.V 0, .V 0, .V 0]]) I I I I I I I I (le_ble I) I I (AO.q 1 I (AO.nil ?_))))))
 obtain rfl := oi h
 exact AW.ret ⟨.inr I, [_, _], [], ⟨⟨0, _, _, _, _, _, _, _, I, I, I, I, I⟩, I, J⟩, sl_n, I, I⟩
theorem L.zjxt_ok (a_0 : Network) (a_1 : Plan) (a_2 : Pressures) (r : Fault × Bool) (h : L.zjxt a_0 a_1 a_2 = some r) : ACalls Tryz.env 59 [.eptr (Network.row a_0), .eptr (Plan.row a_1), .eptr (Pressures.row a_2)] [] (fun x new => x = .tup [.agg (Fault.row r.1), .v (.bool r.2)] ∧ new = []) := by
 refine ACalls.of_body Tryz.func59 rfl rfl rfl (fun C hC => ?_)
 unfold L.zjxt at h
 refine AW.seqG (fun y1 hy1 => (AW.region (AO.act [] I (AX.alloc (cs := [.V 0, .V 0, .V 0]) (m := 3) I I I I I dS (fun b2 => (AO.q 1 I (AO.nil ?_)))))))
 subst hy1
 refine AW.cutX (fun s ob => ∃ (j41 : Unit), L.zjxt.J1 j41 = some r ∧ s = [] ∧ ob = [.arr b2 59 3 1 [[.V 0, .V 0, .V 0]]]) [(3, _)] ⟨I, J⟩ ?_ ?_
 refine AW.zr [.l 2 (a_0.Stations.length : Int)] I ⟨len_m, J⟩ (AW.block (AW.listMax 8 I (fun hm45 => ?_)))
 replace hm45 : a_0.Stations.length ≤ 9223372036854775806 := by rw [List.length_map] at hm45; omega
 obtain ⟨o78, hL79, hR80⟩ := ob_some h
 clear h
 refine AW.forX hL79 [(1, _), (2, _), (3, _), (8, _), (9, _)] ⟨I, I, I, I, I, J⟩ (fun (k43 : Nat) (st63 : Unit) s ob => s = [(10, .V (k43 : Int))] ∧ ob = [.arr b2 59 3 1 [[.V 0, .V 0, .V 0]]]) ⟨I, I⟩ ⟨I, J⟩ ⟨[0], I, by decide⟩ ?_ ?_
 rintro k43 x46 st63 r82 s ob hx47 hk44 ⟨rfl, rfl⟩ h hb81
 unfold L.zjxt.B2 at h
 have hk44t : decide ((k43 : Int) < (a_0.Stations.length : Int)) = true := decide_eq_true (by omega)
 refine AW.z I (AW.seqG (fun y84 hy84 => (AW.condK (v := true) I hk44t (AW.skip ?_))))
 subst hy84
 refine AW.seq (AW.block (AW.seqG (fun y85 hy85 => (AW.region (AO.r 3 [.x 1 k43 (Station.row x46)] I ⟨⟨I, map_get hx47⟩, J⟩ (AO.act [] I (AX.alloc (cs := [.v (.string ⟨#[]⟩), .V 0, .V 0, .V 0, .V 0]) (m := 5) I I I I I dS (fun b86 => (AO.q 1 I (AO.act [1] I (AX.store 1 0 0 (es' := [Station.row x46]) I I I I I I I I (le_ble I) I I (AO.nil ?_))))))))))))
 subst hy85
 refine AW.cutX (fun s ob => ∃ (j95 : Bool), L.zjxt.J3 k43 j95 = some r82 ∧ s = [(39, .v (.bool j95))] ∧ ob = [.arr b2 59 3 1 [[.V 0, .V 0, .V 0]]]) [(1, _), (2, _), (3, _), (5, _), (8, _), (9, _), (10, _)] ⟨I, I, I, I, I, I, I, J⟩ ?_ ?_
 obtain ⟨p97, hp98, h⟩ := ob_some h
 obtain ⟨hp98i, hp98x⟩ := ix_some hp98
 rcases bt (p97.2) with hg99 | hg99
 replace h := ife_t hg99 h
 obtain ⟨p100, hp101, h⟩ := ob_some h
 obtain ⟨hp101i, hp101x⟩ := ix_some hp101
 refine AW.rd (pd 25 0 []) [1] [_] I (AP.r 6 [.x 3 p97.1 (rB p97.2)] I ⟨⟨hp98i, map_get hp98x⟩, J⟩ (AP.known 20 I hg99 (AP.r 8 [.o 3 0, .x 4 p100.1 (rB p100.2)] I ⟨⟨hp101i, map_get hp101x⟩, I, J⟩ ?_)))
 rcases bt (p100.2) with hg102 | hg102
 replace h := ife_t hg102 h
 obtain ⟨p103, hp104, h⟩ := ob_some h
 obtain ⟨hp104i, hp104x⟩ := ix_some hp104
 refine AP.known 28 I hg102 (AP.r 11 [.o 3 0, .x 4 p103.1 (Bounds.row p103.2), .o 8 0] I ⟨I, ⟨hp104i, map_get hp104x⟩, I, J⟩ (AP.ofAO (AO.nil ?_)))
 exact lg ⟨decide (p103.2.Low < x46.Suction), h, I, I⟩ [0]
 replace h := ife_f hg102 h
 refine AP.known 28 I hg102 (AP.q 11 I (AP.ofAO (AO.nil ?_)))
 exact lg ⟨false, h, I, I⟩ [0]
 replace h := ife_f hg99 h
 refine AW.rd (pd 25 0 []) [] [] I (AP.r 6 [.x 3 p97.1 (rB p97.2)] I ⟨⟨hp98i, map_get hp98x⟩, J⟩ (AP.known 20 I hg99 (AP.q 19 I (AP.ofAO (AO.nil ?_)))))
 exact lg ⟨false, h, I, I⟩ [0]
 rintro s ob ⟨j95, h, rfl, rfl⟩
 unfold L.zjxt.J3 at h
 refine AW.ch h I ?_ ?_
 intro hc96 h
 refine AW.seq (AW.region (AO.q 1 I (AO.p (Yp.buildP (l := [.V 3, .V (k43 : Int), .V 0]) Tryz.bld59 I) I (AO.act [0] I (AX.store 0 0 0 (es' := [[.V 3, .V (k43 : Int), .V 0]]) I I I I I I I I (le_ble I) I I (AO.q 1 I (AO.nil ?_)))))))
 obtain rfl := hb81 _ (oi h).symm
 replace h := hR80
 replace h := se_r h
 obtain rfl := oi h
 exact AW.ret ⟨.inr I, [_, _], [], ⟨⟨0, _, _, _, _, _, _, _, I, I, I, I, I⟩, I, J⟩, sl_n, I, I⟩
 intro hc96 h
 refine AW.skip (AW.region (AO.r 2 [.k 0 (k43 + 1 : Nat)] I ⟨cast_wr hk44 hm45, J⟩ ?_))
 obtain rfl := oi h
 refine AO.nil ?_
 exact ⟨_, _, _, I, ⟨I, I⟩, ⟨I, I, I, I, I, I, J⟩, [0], I, by decide⟩
 rintro st63 s ob ⟨rfl, rfl⟩ he
 subst he
 have h := se_l hR80
 have hk44f : decide (((a_0.Stations.length : Nat) : Int) < (a_0.Stations.length : Int)) = false := by simp
 refine AW.z I (AW.seqG (fun y106 hy106 => (AW.condK (v := false) I hk44f (AW.exit ?_))))
 exact lg ⟨(), h, I, I⟩ [0]
 rintro s ob ⟨j41, h, rfl, rfl⟩
 unfold L.zjxt.J1 at h
 refine AW.seq (AW.region (AO.p (Yp.buildP (l := [.V 0, .V 0, .V 0]) Tryz.bld59 I) I (AO.act [0] I (AX.store 0 0 0 (es' := [[.V 0, .V 0, .V 0]]) I I I I I I I I (le_ble I) I I (AO.q 1 I (AO.nil ?_))))))
 obtain rfl := oi h
 exact AW.ret ⟨.inr I, [_, _], [], ⟨⟨0, _, _, _, _, _, _, _, I, I, I, I, I⟩, I, J⟩, sl_n, I, I⟩
theorem L.zqej_ok (n_0 : Network) (x_1 : Pressures) (p_2 : Plan) (extra_3 : List Int) (r : Fault × Bool) (h : L.zqej n_0 x_1 p_2 extra_3 = some r) : ACalls Tryz.env 21 [.agg (Network.row n_0), .agg (Pressures.row x_1), .agg (Plan.row p_2), .list 1 (extra_3.map rI)] [] (fun x new => x = .tup [.agg (Fault.row r.1), .v (.bool r.2)] ∧ new = []) := by
 refine ACalls.of_body Tryz.func21 rfl rfl rfl (fun C hC => ?_)
 unfold L.zqej at h
 refine AW.seqG (fun y1 hy1 => (AW.region (AO.act [] I (AX.box (cs := Network.row n_0) (m := 6) I I I dS (fun b2 => (AO.act [] I (AX.box (cs := Pressures.row x_1) (m := 3) I I I dS (fun b3 => (AO.act [] I (AX.box (cs := Plan.row p_2) (m := 3) I I I dS (fun b4 => (AO.act [] I (AX.box (cs := [.list 1 (extra_3.map rI)]) (m := 1) I I I dS (fun b5 => (AO.act [] I (AX.alloc (cs := [.V 0, .V 0, .V 0]) (m := 3) I I I I I dS (fun b6 => (AO.q 1 I (AO.nil ?_)))))))))))))))))))
 subst hy1
 refine AW.scope (AW.seqG (fun y7 hy7 => (AW.seq ?_)))
 obtain ⟨r8, hx9, h⟩ := ob_some h
 refine AW.region (AO.r 4 [.o 0 0, .o 1 1, .o 2 2, .o 3 3] I ⟨I, I, I, I, J⟩ (AO.c (L.zlzo_ok n_0 x_1 p_2 extra_3 _ hx9) (AO.q 1 I (AO.nil (AW.ch h I ?_ ?_)))))
 intro hc10 h
 refine AW.seq (AW.region (AO.p (Yp.buildP (l := [.V 0, .V 0, .V 0]) Tryz.bld59 I) I (AO.act [4] I (AX.store 4 0 0 (es' := [[.V 0, .V 0, .V 0]]) I I I I I I I I (le_ble I) I I (AO.q 1 I (AO.nil (AW.ghost (Ghost.pick [4] (K := [.arr b6 59 3 1 [[.V 0, .V 0, .V 0]]]) I (by decide)) ?_)))))))
 obtain rfl := oi h
 exact AW.ret ⟨.inr I, [_, _], [], ⟨⟨0, _, _, _, _, _, _, _, I, I, I, I, I⟩, I, J⟩, sl_n, I, I⟩
 intro hc10 h
 refine AW.skip ?_
 subst hy7
 obtain ⟨r1, hx1, h⟩ := ob_some h
 refine AW.seqG (fun y11 hy11 => (AW.region (AO.p (Yp.makeFunc I I) I (AO.q 1 I (AO.nil ?_)))))
 subst hy11
 refine AW.seqG (fun y12 hy12 => (AW.region (AO.p (Yp.makeFunc I I) I (AO.q 1 I (AO.nil ?_)))))
 subst hy12
 refine AW.seqG (fun y13 hy13 => (AW.region (AO.act [] I (AX.alloc (cs := [.V 0, .V 0, .V 0]) (m := 3) I I I I I dS (fun b14 => (AO.nil ?_))))))
 subst hy13
 refine AW.z I (AW.seq (AW.label ?_))
 refine AW.cutX (fun s ob => s = [(13, .v (.bool r.2))] ∧ ob = [.arr b6 59 3 1 [[.V 0, .V 0, .V 0]], .arr b14 59 3 1 [Fault.row r.1]]) [(8, _), (12, _)] ⟨I, I, J⟩ ?_ ?_
 · refine AW.ghost (Ghost.freeze [0, 1, 2, 3] I [(10, .fn 57 [] [.eptr (Pressures.row x_1), .eptr [.list 1 (extra_3.map rI)], .eptr (Network.row n_0)]), (11, .fn 59 [] [.eptr (Network.row n_0), .eptr (Plan.row p_2), .eptr (Pressures.row x_1)])] ⟨⟨_, I, .fn (.rest _) (.cons (.box 1 I (.rest _)) (.cons (.box 3 I (.rest _)) (.cons (.box 0 I (.rest _)) (.rest _))))⟩, ⟨_, I, .fn (.rest _) (.cons (.box 0 I (.rest _)) (.cons (.box 2 I (.rest _)) (.cons (.box 1 I (.rest _)) (.rest _))))⟩, J⟩ (.rest _)) ?_
   refine AW.seq (AW.region (AO.q 2 I (AO.act [] I (AX.lt 1 [[.fn 57 [] [.eptr (Pressures.row x_1), .eptr [.list 1 (extra_3.map rI)], .eptr (Network.row n_0)]], [.fn 59 [] [.eptr (Network.row n_0), .eptr (Plan.row p_2), .eptr (Pressures.row x_1)]]] (AO.r 2 [.l 0 2] I ⟨rfl, J⟩ (AO.nil ?_))))))
   refine AW.block (AW.loopW (fun m s ob => ∃ (j : Nat) (fl : Fault), m = 2 - j ∧ j ≤ 2 ∧ (j = 0 → L.zqej.K r1 n_0 p_2 x_1 = some r) ∧ (j = 1 → L.zjxt n_0 p_2 x_1 = some r) ∧ (j = 2 → r = (fl, false)) ∧ s = [(8, .v (.pointer (some ⟨b6, 0, none⟩))), (12, .v (.pointer (some ⟨b14, 0, none⟩))), (13, .v (.bool false)), (27, .list 1 [[.fn 57 [] [.eptr (Pressures.row x_1), .eptr [.list 1 (extra_3.map rI)], .eptr (Network.row n_0)]], [.fn 59 [] [.eptr (Network.row n_0), .eptr (Plan.row p_2), .eptr (Pressures.row x_1)]]]), (28, .V 2), (29, .V (j : Int))] ∧ ob = [.arr b6 59 3 1 [[.V 0, .V 0, .V 0]], .arr b14 59 3 1 [Fault.row fl]])
     ⟨0, ⟨0, 0, 0⟩, rfl, by decide, fun _ => h, (fun h => absurd h (by decide)), (fun h => absurd h (by decide)), rfl, rfl⟩ ⟨⟨I, I, I, I, I, I, J⟩, [0, 1], I, by decide⟩ ?_)
   rintro m s ob ⟨j, fl, rfl, hj, k0, k1, k2, rfl, rfl⟩
   match j, hj with
   | 0, _ =>
     have h := k0 rfl
     unfold L.zqej.K at h
     refine AW.z I (AW.seqG (fun y hy => (AW.condK (v := true) I (show decide (((0 : Nat) : Int) < 2) = true by decide) (AW.skip ?_))))
     subst hy
     refine AW.seq (AW.block (AW.seq (AW.region (AO.r 3 [.x 0 0 [.fn 57 [] [.eptr (Pressures.row x_1), .eptr [.list 1 (extra_3.map rI)], .eptr (Network.row n_0)]]] I ⟨⟨rfl, rfl⟩, J⟩ (AO.nil ?_)))))
     refine AW.seq (AW.region (AO.q 1 I (AO.c (L.zflm_ok x_1 extra_3 n_0 _ hx1) (AO.q 3 I (AO.act [1] I (AX.store 1 0 0 (es' := [Fault.row r1.1]) I I I I I I I I (le_ble I) I I (AO.q 1 I (AO.nil ?_))))))))
     refine AW.z I ?_
     refine AW.ch h I ?_ ?_
     · intro hb h
       obtain rfl := oi h
       exact AW.exit (lg ⟨I, I⟩ [0, 1])
     · intro hb h
       refine AW.skip ?_
       refine AW.region (AO.r 2 [.k 0 (1 : Int)] I ⟨rfl, J⟩ (AO.nil ?_))
       exact ⟨1, _, _, by decide, ⟨1, r1.1, rfl, by decide, (fun h => absurd h (by decide)), fun _ => h, (fun h => absurd h (by decide)), rfl, rfl⟩, ⟨I, I, by rw [← hb]; exact I, I, I, I, J⟩, [0, 1], I, by decide⟩
   | 1, _ =>
     have h := k1 rfl
     refine AW.z I (AW.seqG (fun y hy => (AW.condK (v := true) I (show decide (((1 : Nat) : Int) < 2) = true by decide) (AW.skip ?_))))
     subst hy
     refine AW.seq (AW.block (AW.seq (AW.region (AO.r 3 [.x 0 1 [.fn 59 [] [.eptr (Network.row n_0), .eptr (Plan.row p_2), .eptr (Pressures.row x_1)]]] I ⟨⟨rfl, rfl⟩, J⟩ (AO.nil ?_)))))
     refine AW.seq (AW.region (AO.q 1 I (AO.c (L.zjxt_ok n_0 p_2 x_1 _ h) (AO.q 3 I (AO.act [1] I (AX.store 1 0 0 (es' := [Fault.row r.1]) I I I I I I I I (le_ble I) I I (AO.q 1 I (AO.nil ?_))))))))
     refine AW.z I ?_
     rcases bt r.2 with hb | hb
     · refine AW.condK (v := true) I hb (AW.exit ?_)
       exact lg ⟨I, I⟩ [0, 1]
     · refine AW.condK (v := false) I hb (AW.skip ?_)
       refine AW.region (AO.r 2 [.k 0 (2 : Int)] I ⟨rfl, J⟩ (AO.nil ?_))
       exact ⟨0, _, _, by decide, ⟨2, r.1, rfl, by decide, (fun h => absurd h (by decide)), (fun h => absurd h (by decide)), fun _ => by rw [← hb], rfl, rfl⟩, ⟨I, I, by rw [← hb]; exact I, I, I, I, J⟩, [0, 1], I, by decide⟩
   | 2, _ =>
     obtain rfl := k2 rfl
     refine AW.z I (AW.seqG (fun y hy => (AW.condK (v := false) I (show decide (((2 : Nat) : Int) < 2) = false by decide) (AW.exit ?_))))
     exact lg ⟨I, I⟩ [0, 1]
 · rintro s ob ⟨rfl, rfl⟩
   refine AW.seq (AW.region (AO.r 2 [.o 0 1] I ⟨I, J⟩ (AO.act [0] I (AX.store 0 0 0 (es' := [Fault.row r.1]) I I I I I I I I (le_ble I) I I (AO.q 1 I (AO.nil ?_))))))
   exact AW.ret ⟨.inr I, [_, _], [], ⟨⟨0, _, _, _, _, _, _, _, I, I, I, I, I⟩, I, J⟩, sl_n, I, I⟩
end Go.Proofs.YtehbcbedipkifaaGreatDoor
