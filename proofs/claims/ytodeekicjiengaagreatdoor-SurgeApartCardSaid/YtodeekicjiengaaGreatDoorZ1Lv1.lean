/- Walks that show what functions of the program compute; printed by a program of ours. No condition. -/
import Derived.Test.YtodeekicjiengaaGreatDoorZ1Ls2
import Derived.Test.YtodeekicjiengaaGreatDoorZ1Ls4
import Derived.Test.YtodeekicjiengaaGreatDoorZ1L3s
import Derived.Test.YtodeekicjiengaaGreatDoorZ1D
namespace Go.Proofs.YtodeekicjiengaaGreatDoor
open Go.Aw
set_option linter.unusedVariables false
set_option linter.unusedSimpArgs false
set_option maxRecDepth 100000
set_option maxHeartbeats 4000000
theorem L.surge_ordered_ok (l_0 : List Change) (r : Int) (h : L.surge_ordered l_0 = some r) : ACalls Tryz.env 23 [.list 4 (l_0.map Change.row)] [] (fun x new => x = .V r ∧ new = []) := by
 refine ACalls.of_body Tryz.func23 rfl rfl rfl (fun C hC => ?_)
 unfold L.surge_ordered at h
 refine AW.z I (AW.seqG (fun y2 hy2 => (AW.cutX (fun s ob => s = [(12, .v (.bool (((l_0.length : Int) == 0) || decide ((l_0.length : Int) > 40))))] ∧ ob = []) [(0, _)] ⟨I, J⟩ ?_ ?_)))
 rcases bt (((l_0.length : Int) == 0)) with hg5 | hg5
 refine AW.region (AO.r 4 [.l 1 (l_0.length : Int)] I ⟨len_m, J⟩ (AO.known 8 I hg5 (AO.q 4 I (AO.nil ?_))))
 exact lf ⟨I, I⟩ ⟨(get_b (by simp only [hg5, bz])), I, J⟩ [] I
 refine AW.region (AO.r 4 [.l 1 (l_0.length : Int)] I ⟨len_m, J⟩ (AO.known 8 I hg5 (AO.r 4 [.l 1 (l_0.length : Int)] I ⟨len_m, J⟩ (AO.nil ?_))))
 exact lf ⟨I, I⟩ ⟨(get_b (by simp only [hg5, bz])), I, J⟩ [] I
 rintro s ob ⟨rfl, rfl⟩
 refine AW.ch h I ?_ ?_
 intro hc6 h
 refine AW.z I ?_
 obtain rfl := oi h
 exact AW.ret ⟨.inr I, [_], [], ⟨I, J⟩, sl_n, I, I⟩
 intro hc6 h
 refine AW.skip ?_
 subst hy2
 refine AW.cutX (fun s ob => ∃ (j49 : Unit), L.surge_ordered.J1 j49 = some r ∧ s = [] ∧ ob = []) [] J ?_ ?_
 refine AW.zr [.l 1 (l_0.length : Int)] I ⟨len_m, J⟩ (AW.block (AW.listMax 13 I (fun hm53 => ?_)))
 replace hm53 : l_0.length ≤ 9223372036854775806 := by rw [List.length_map] at hm53; omega
 obtain ⟨o90, hL91, hR92⟩ := ob_some h
 clear h
 refine AW.forX hL91 [(0, _), (13, _), (14, _)] ⟨I, I, I, J⟩ (fun (k51 : Nat) (st73 : Unit) s ob => s = [(15, .V (k51 : Int))] ∧ ob = []) ⟨I, I⟩ ⟨I, J⟩ ⟨[], I, by decide⟩ ?_ ?_
 rintro k51 x54 st73 r94 s ob hx55 hk52 ⟨rfl, rfl⟩ h hb93
 unfold L.surge_ordered.B2 at h
 have hk52t : decide ((k51 : Int) < (l_0.length : Int)) = true := decide_eq_true (by omega)
 refine AW.z I (AW.seqG (fun y96 hy96 => (AW.condK (v := true) I hk52t (AW.skip ?_))))
 subst hy96
 refine AW.seq (AW.block (AW.seqG (fun y97 hy97 => (AW.region (AO.r 3 [.x 1 k51 (Change.row x54)] I ⟨⟨I, map_get hx55⟩, J⟩ (AO.act [] I (AX.alloc (cs := [.V 0, .v (.slice none 0 0), .v (.slice none 0 0), .v (.slice none 0 0)]) (m := 4) I I I I I (dst_some I) (fun b98 => (AO.q 1 I (AO.act [0] I (AX.store 0 0 0 (es' := [Change.row x54]) I I I I I I I I (le_ble I) I I (AO.nil ?_))))))))))))
 subst hy97
 refine AW.cutX (fun s ob => ∃ (j109 : Bool), L.surge_ordered.J3 j109 = some r94 ∧ s = [(46, .v (.bool j109))] ∧ ob = []) [(0, _), (13, _), (14, _), (15, _)] ⟨I, I, I, I, J⟩ ?_ ?_
 rcases bt (((k51 : Int) == 0)) with hg111 | hg111
 replace h := ife_t hg111 h
 rcases bt ((x54.Tick != 0)) with hg112 | hg112
 replace h := ife_t hg112 h
 refine AW.rd (pd 27 0 []) [0] [_] I (AP.q 3 I (AP.known 22 I hg111 (AP.r 5 [.o 1 0] I ⟨I, J⟩ (AP.known 27 I hg112 (AP.q 3 I (AP.skipU I I I I (dst_some I) (AP.skipU I I I I (dst_some I) (AP.skipU I I I I (dst_some I) (AP.skipU I I I I (dst_some I) (AP.skipU I I I I (dst_some I) (AP.skipU I I I I (dst_some I) (AP.skipU I I I I (dst_some I) ?_))))))))))))
 refine AP.skipU I I I I (dst_some I) (AP.skipU I I I I (dst_some I) (AP.q 7 I (AP.ofAO (AO.nil ?_))))
 exact lg ⟨true, h, I, I⟩ []
 replace h := ife_f hg112 h
 rcases bt (decide ((k51 : Int) > 0)) with hg113 | hg113
 replace h := ife_t hg113 h
 obtain ⟨p114, hp115, h⟩ := ob_some h
 obtain ⟨hp115i, hp115x⟩ := ix_some hp115
 rcases bt (decide (x54.Tick ≤ p114.2.Tick)) with hg116 | hg116
 replace h := ife_t hg116 h
 refine AW.rd (pd 27 0 []) [0] [_] I (AP.q 3 I (AP.known 22 I hg111 (AP.r 5 [.o 1 0] I ⟨I, J⟩ (AP.known 27 I hg112 (AP.q 3 I (AP.known 30 I hg113 (AP.r 12 [.o 1 0, .x 5 p114.1 (Change.row p114.2)] I ⟨⟨hp115i, map_get hp115x⟩, I, J⟩ (AP.known 42 I hg116 (AP.q 4 I (AP.ofAO (AO.nil ?_)))))))))))
 exact lg ⟨true, h, I, I⟩ []
 replace h := ife_f hg116 h
 refine AW.rd (pd 27 0 []) [0] [_] I (AP.q 3 I (AP.known 22 I hg111 (AP.r 5 [.o 1 0] I ⟨I, J⟩ (AP.known 27 I hg112 (AP.q 3 I (AP.known 30 I hg113 (AP.r 12 [.o 1 0, .x 5 p114.1 (Change.row p114.2)] I ⟨⟨hp115i, map_get hp115x⟩, I, J⟩ (AP.known 42 I hg116 (AP.r 4 [.o 1 0] I ⟨I, J⟩ (AP.ofAO (AO.nil ?_)))))))))))
 exact lg ⟨decide (x54.Tick > 1099511627776), h, I, I⟩ []
 replace h := ife_f hg113 h
 refine AW.rd (pd 27 0 []) [0] [_] I (AP.q 3 I (AP.known 22 I hg111 (AP.r 5 [.o 1 0] I ⟨I, J⟩ (AP.known 27 I hg112 (AP.q 3 I (AP.known 30 I hg113 (AP.r 16 [.o 13 0] I ⟨I, J⟩ (AP.ofAO (AO.nil ?_)))))))))
 exact lg ⟨decide (x54.Tick > 1099511627776), h, I, I⟩ []
 replace h := ife_f hg111 h
 rcases bt (decide ((k51 : Int) > 0)) with hg117 | hg117
 replace h := ife_t hg117 h
 obtain ⟨p118, hp119, h⟩ := ob_some h
 obtain ⟨hp119i, hp119x⟩ := ix_some hp119
 rcases bt (decide (x54.Tick ≤ p118.2.Tick)) with hg120 | hg120
 replace h := ife_t hg120 h
 refine AW.rd (pd 27 0 []) [0] [_] I (AP.q 3 I (AP.known 22 I hg111 (AP.q 8 I (AP.known 30 I hg117 (AP.r 12 [.o 1 0, .x 5 p118.1 (Change.row p118.2)] I ⟨⟨hp119i, map_get hp119x⟩, I, J⟩ (AP.known 42 I hg120 (AP.q 4 I (AP.ofAO (AO.nil ?_)))))))))
 exact lg ⟨true, h, I, I⟩ []
 replace h := ife_f hg120 h
 refine AW.rd (pd 27 0 []) [0] [_] I (AP.q 3 I (AP.known 22 I hg111 (AP.q 8 I (AP.known 30 I hg117 (AP.r 12 [.o 1 0, .x 5 p118.1 (Change.row p118.2)] I ⟨⟨hp119i, map_get hp119x⟩, I, J⟩ (AP.known 42 I hg120 (AP.r 4 [.o 1 0] I ⟨I, J⟩ (AP.ofAO (AO.nil ?_)))))))))
 exact lg ⟨decide (x54.Tick > 1099511627776), h, I, I⟩ []
 replace h := ife_f hg117 h
 refine AW.rd (pd 27 0 []) [0] [_] I (AP.q 3 I (AP.known 22 I hg111 (AP.q 8 I (AP.known 30 I hg117 (AP.r 16 [.o 13 0] I ⟨I, J⟩ (AP.ofAO (AO.nil ?_)))))))
 exact lg ⟨decide (x54.Tick > 1099511627776), h, I, I⟩ []
 rintro s ob ⟨j109, h, rfl, rfl⟩
 unfold L.surge_ordered.J3 at h
 refine AW.ch h I ?_ ?_
 intro hc110 h
 refine AW.z I ?_
 obtain rfl := hb93 _ (oi h).symm
 replace h := hR92
 replace h := se_r h
 obtain rfl := oi h
 exact AW.ret ⟨.inr I, [_], [], ⟨I, J⟩, sl_n, I, I⟩
 intro hc110 h
 refine AW.skip (AW.region (AO.r 2 [.k 0 (k51 + 1 : Nat)] I ⟨cast_wr hk52 hm53, J⟩ ?_))
 obtain rfl := oi h
 refine AO.nil ?_
 exact ⟨_, _, _, I, ⟨I, I⟩, ⟨I, I, I, I, J⟩, [], I, by decide⟩
 rintro st73 s ob ⟨rfl, rfl⟩ he
 subst he
 have h := se_l hR92
 have hk52f : decide (((l_0.length : Nat) : Int) < (l_0.length : Int)) = false := by simp
 refine AW.z I (AW.seqG (fun y122 hy122 => (AW.condK (v := false) I hk52f (AW.exit ?_))))
 exact lg ⟨(), h, I, I⟩ []
 rintro s ob ⟨j49, h, rfl, rfl⟩
 unfold L.surge_ordered.J1 at h
 refine AW.z I ?_
 obtain rfl := oi h
 exact AW.ret ⟨.inr I, [_], [], ⟨I, J⟩, sl_n, I, I⟩
theorem L.surge_surge_ok (n_0 : Network) (l_1 : List Change) (k_2 : Int) (r : List Int) (h : L.surge_surge n_0 l_1 k_2 = some r) : ACalls Tryz.env 28 [.agg (Network.row n_0), .list 4 (l_1.map Change.row), .V k_2] [] (fun x new => ∃ (u0 : Value), x = .v u0 ∧ new = [.us u0 3 1 (r.map rI)]) := by
 refine ACalls.of_body Tryz.func28 rfl rfl rfl (fun C hC => ?_)
 unfold L.surge_surge at h
 refine AW.seqG (fun y1 hy1 => (AW.region (AO.act [] I (AX.box (cs := Network.row n_0) (m := 6) I I I (dst_some I) (fun b2 => (AO.q 1 I (AO.nil ?_)))))))
 subst hy1
 refine AW.seqG (fun y3 hy3 => ?_)
 obtain ⟨l4, hx5, h⟩ := ob_some h
 obtain ⟨m6, hx5i, hx5m, hx5r⟩ := mk_some hx5
 refine AW.region (AO.r 3 [.o 1 0, .l 2 (n_0.Segments.length : Int)] I ⟨len_m, I, J⟩ (AO.act [] I (AX.makeU (sz := 1) I I I I I I I I I I hx5i hx5m (rep_map (f := rI) hx5r I) (dst_some I) (fun v7 => (AO.q 1 I (AO.nil ?_))))))
 subst hy3
 refine AW.cutX (fun s ob => ∃ (j139 : List Int), L.surge_surge.J1 j139 = some r ∧ s = [] ∧ ob = [.us v7 3 1 (j139.map rI)]) [(7, _)] ⟨I, J⟩ ?_ ?_
 refine AW.z I (AW.block ?_)
 obtain ⟨o271, hL272, hR273⟩ := ob_some h
 clear h
 refine AW.loopX hL272 [(1, _), (2, _), (3, _), (7, _)] ⟨I, I, I, I, J⟩ (fun (st228 : (List Int) × Int) s ob => s = [(8, .V st228.2)] ∧ ob = [.arr b2 30 6 1 [Network.row n_0], .us v7 3 1 (st228.1.map rI)]) ⟨I, I⟩ ⟨I, J⟩ ⟨[0, 1], I, by decide⟩ ?_
 rintro st228 r275 s ob ⟨rfl, rfl⟩ h hb274
 unfold L.surge_surge.B2 at h
 refine AW.seqG (fun y276 hy276 => (AW.z I (AW.ch h I ?_ ?_)))
 intro hc277 h
 refine AW.skip ?_
 subst hy276
 refine AW.cutX (fun s ob => ∃ (j317 : List Int), L.surge_surge.J3 st228 j317 = some r275 ∧ s = [] ∧ ob = [.arr b2 30 6 1 [Network.row n_0], .us v7 3 1 (j317.map rI)]) [(1, _), (2, _), (3, _), (7, _), (8, _)] ⟨I, I, I, I, I, J⟩ ?_ ?_
 refine AW.block (AW.seqG (fun y318 hy318 => (AW.seq ?_)))
 obtain ⟨p319, hp320, h⟩ := ob_some h
 obtain ⟨hp320i, hp320x⟩ := ix_some hp320
 obtain ⟨p321, hp322, h⟩ := ob_some h
 obtain ⟨hp322i, hp322x⟩ := ix_some hp322
 refine AW.dt (pd 14 0 []) [0] [_] [.x 2 p319.1 (Change.row p319.2), .x 7 p321.1 (Change.row p321.2), .o 12 0] I I ⟨I, ⟨hp322i, map_get hp322x⟩, ⟨hp320i, map_get hp320x⟩, J⟩ (AW.ch h I ?_ ?_)
 intro hc323 h
 refine AW.exit ?_
 exact lg ⟨st228.1, h, I, I⟩ [0, 1]
 intro hc323 h
 refine AW.skip ?_
 subst hy318
 refine AW.seqG (fun y324 hy324 => ?_)
 obtain ⟨p325, hp326, h⟩ := ob_some h
 obtain ⟨hp326i, hp326x⟩ := ix_some hp326
 obtain ⟨r327, hx328, h⟩ := ob_some h
 refine AW.rd (.still 0 (.still 1 (.still 2 (.still 3 (.still 4 (.still 5 (.still 6 (.still 7 (.still 8 (.still 9 (.still 10 (.still 11 (.still 14 (.act 12 (.act 13 .nil))))))))))))))) [0] [_] I (AP.r 6 [.o 0 0, .x 4 p325.1 (Change.row p325.2)] I ⟨⟨hp326i, map_get hp326x⟩, I, J⟩ (AP.o I (Yd.loadE I I (y := .agg (Plan.row p325.2.Plan)) I) I (AP.r 4 [.x 2 p321.1 (Change.row p321.2)] I ⟨⟨hp322i, map_get hp322x⟩, J⟩ (AP.o I (Yd.loadE I I (y := .agg (Plan.row p321.2.Plan)) I) I (AP.q 1 I (AP.act [] I I I (AX.call0 I I I (L.surge_rise_ok _ _ _ _ hx328) (dst_some I) ?_)))))))
 rintro _ _ ⟨v329, rfl, rfl⟩
 refine AP.act [] I I I (AX.of_yd (Yd.lenUM 2 I I I I) (dst_some I) (AP.ofAO (AO.nil ?_)))
 subst hy324
 refine AW.block (AW.usMax 2 I (fun hm332 => ?_))
 replace hm332 : r327.length ≤ 9223372036854775806 := by rw [List.length_map] at hm332; omega
 obtain ⟨o355, hL356, hR357⟩ := ob_some h
 clear h
 refine AW.forJY hL356 [(1, _), (2, _), (3, _), (7, _), (8, _), (46, _), (47, _)] ⟨I, I, I, I, I, I, I, J⟩ (fun (k330 : Nat) (st348 : List Int) s ob => s = [(48, .V (k330 : Int))] ∧ ob = [.arr b2 30 6 1 [Network.row n_0], .us v7 3 1 (st348.map rI), .us v329 3 1 (r327.map rI)]) ⟨I, I⟩ ⟨I, J⟩ ⟨[0, 1, 2], I, by decide⟩ ?_ ?_
 rintro k330 st348 r359 s ob hk331 ⟨rfl, rfl⟩ h
 unfold L.surge_surge.B4 at h
 have hk331t : decide ((k330 : Int) < (r327.length : Int)) = true := decide_eq_true (by omega)
 refine AW.z I (AW.seqG (fun y361 hy361 => (AW.condK (v := true) I hk331t (AW.skip ?_))))
 subst hy361
 refine AW.seq (AW.block (AW.seq ?_))
 obtain ⟨p362, hp363, h⟩ := ob_some h
 obtain ⟨hp363i, hp363x⟩ := ix_some hp363
 refine AW.region (AO.q 1 I (AO.d (Yd.indexU 2 (m := p362.1) I I I I I I I hp363i (map_get hp363x)) I (AO.d (Yd.loadU 2 p362.1 0 I I I (map_get hp363x) I (y := .V p362.2) I) I (AO.q 2 I (AO.nil ?_)))))
 obtain ⟨p364, hp365, h⟩ := ob_some h
 obtain ⟨hp365i, hp365x⟩ := ix_some hp365
 refine AW.region (AO.q 2 I (AO.d (Yd.indexU 1 (m := p364.1) I I I I I I I hp365i (map_get hp365x)) I (AO.d (Yd.loadU 1 p364.1 0 I I I (map_get hp365x) I (y := .V p364.2) I) I (AO.q 2 I (AO.d (Yd.indexU 1 (m := p364.1) I I I I I I I hp365i (map_get hp365x)) I (AO.act [1] I (AX.storeU 1 p364.1 0 I I I (map_get hp365x) I I I I (le_ble I) I (us_set (x := wr (p364.2 + p362.2)) I) (AO.nil (AW.region (AO.r 2 [.k 0 (k330 + 1 : Nat)] I ⟨cast_wr hk331 hm332, J⟩ ?_))))))))))
 obtain rfl := oi h
 refine AO.nil ?_
 exact lg ⟨I, I⟩ [0, 1, 2]
 rintro st348 s ob ⟨rfl, rfl⟩ he
 subst he
 have h := hR357
 have hk331f : decide (((r327.length : Nat) : Int) < (r327.length : Int)) = false := by simp
 refine AW.z I (AW.seqG (fun y367 hy367 => (AW.condK (v := false) I hk331f (AW.exit ?_))))
 exact lg ⟨st348, h, I, I⟩ [0, 1]
 rintro s ob ⟨j317, h, rfl, rfl⟩
 unfold L.surge_surge.J3 at h
 refine AW.region (AO.q 3 I ?_)
 obtain rfl := oi h
 refine AO.nil ?_
 exact ⟨_, _, _, I, ⟨I, I⟩, ⟨I, I, I, I, I, J⟩, [0, 1], I, by decide⟩
 intro hc277 h
 obtain rfl := hb274 _ (oi h).symm
 replace h := hR273
 refine AW.exit ?_
 exact lg ⟨st228.1, h, I, I⟩ [1]
 rintro s ob ⟨j139, h, rfl, rfl⟩
 unfold L.surge_surge.J1 at h
 refine AW.z I ?_
 obtain rfl := oi h
 exact AW.ret ⟨.inr I, [_], [.us v7 3 1 (j139.map rI)], ⟨I, J⟩, sl_c I (sl_n), ⟨v7, I, I⟩⟩
theorem L.surge_Safe_ok (n_0 : Network) (batches_1 : List Batch) (products_2 : List Product) (fills_3 : List (List Piece)) (changes_4 : List Change) (r : Fault × Int) (h : L.surge_Safe n_0 batches_1 products_2 fills_3 changes_4 = some r) : ACalls Tryz.env 12 [.agg (Network.row n_0), .list 4 (batches_1.map Batch.row), .list 5 (products_2.map Product.row), .list 1 (fills_3.map (rL 2 Piece.row)), .list 4 (changes_4.map Change.row)] [] (fun x new => x = .tup [.agg (Fault.row r.1), .V r.2] ∧ new = []) := by
 refine ACalls.of_body Tryz.func12 rfl rfl rfl (fun C hC => ?_)
 unfold L.surge_Safe at h
 refine AW.seqG (fun y1 hy1 => (AW.region (AO.act [] I (AX.box (cs := Network.row n_0) (m := 6) I I I (dst_some I) (fun b2 => (AO.act [] I (AX.alloc (cs := [.V 0, .V 0, .V 0]) (m := 3) I I I I I (dst_some I) (fun b3 => (AO.q 1 I (AO.nil ?_))))))))))
 subst hy1
 refine AW.seqG (fun y4 hy4 => (AW.seq ?_))
 obtain ⟨r5, hx6, h⟩ := ob_some h
 refine AW.region (AO.q 1 I (AO.c (L.surge_ordered_ok _ _ hx6) (AO.q 1 I (AO.nil (AW.z I (AW.ch h I ?_ ?_))))))
 intro hc7 h
 refine AW.seq (AW.region (AO.p (Yp.buildP (l := [.V 0, .V 0, .V 0]) Tryz.bld41 I) I (AO.q 1 I (AO.act [1] I (AX.store 1 0 0 (es' := [[.V 0, .V 0, .V 0]]) I I I I I I I I (le_ble I) I I (AO.q 1 I (AO.nil (AW.ghost (Ghost.pick [1] (K := [.arr b3 41 3 1 [[.V 0, .V 0, .V 0]]]) I (by decide)) ?_))))))))
 obtain rfl := oi h
 exact AW.ret ⟨.inr I, [_, _], [], ⟨⟨0, _, _, _, _, _, _, _, I, I, I, I, I⟩, I, J⟩, sl_n, I, I⟩
 intro hc7 h
 refine AW.skip ?_
 subst hy4
 refine AW.cutX (fun s ob => ∃ (j32 : Unit), L.surge_Safe.J1 n_0 batches_1 products_2 fills_3 changes_4 j32 = some r ∧ s = [] ∧ ob = [.arr b2 30 6 1 [Network.row n_0], .arr b3 41 3 1 [[.V 0, .V 0, .V 0]]]) [(1, _), (2, _), (3, _), (4, _), (5, _), (10, _)] ⟨I, I, I, I, I, I, J⟩ ?_ ?_
 refine AW.zr [.l 1 (changes_4.length : Int)] I ⟨len_m, J⟩ (AW.block (AW.listMax 35 I (fun hm651 => ?_)))
 replace hm651 : changes_4.length ≤ 9223372036854775806 := by rw [List.length_map] at hm651; omega
 obtain ⟨o670, hL671, hR672⟩ := ob_some h
 clear h
 refine AW.forX hL671 [(1, _), (2, _), (3, _), (4, _), (5, _), (10, _), (35, _), (36, _)] ⟨I, I, I, I, I, I, I, I, J⟩ (fun (k649 : Nat) (st662 : Unit) s ob => s = [(37, .V (k649 : Int))] ∧ ob = [.arr b2 30 6 1 [Network.row n_0], .arr b3 41 3 1 [[.V 0, .V 0, .V 0]]]) ⟨I, I⟩ ⟨I, J⟩ ⟨[0, 1], I, by decide⟩ ?_ ?_
 rintro k649 x652 st662 r674 s ob hx653 hk650 ⟨rfl, rfl⟩ h hb673
 unfold L.surge_Safe.B10 at h
 have hk650t : decide ((k649 : Int) < (changes_4.length : Int)) = true := decide_eq_true (by omega)
 refine AW.z I (AW.seqG (fun y676 hy676 => (AW.condK (v := true) I hk650t (AW.skip ?_))))
 subst hy676
 refine AW.seq (AW.block (AW.seqG (fun y677 hy677 => (AW.region (AO.r 2 [.x 0 k649 (Change.row x652)] I ⟨⟨I, map_get hx653⟩, J⟩ (AO.act [] I (AX.alloc (cs := [.V 0, .v (.slice none 0 0), .v (.slice none 0 0), .v (.slice none 0 0)]) (m := 4) I I I I I (dst_some I) (fun b678 => (AO.act [2] I (AX.store 2 0 0 (es' := [Change.row x652]) I I I I I I I I (le_ble I) I I (AO.nil ?_)))))))))))
 subst hy677
 refine AW.seq ?_
 obtain ⟨r679, hx680, h⟩ := ob_some h
 refine AW.region (AO.r 2 [.o 0 0] I ⟨I, J⟩ (AO.d (Yd.loadO 2 0 1 I I I I I (y := .agg (Plan.row x652.Plan)) I) I (AO.c (L.flow_Check_ok _ _ _ hx680) (AO.q 1 I (AO.nil (AW.z I (AW.ch h I ?_ ?_)))))))
 intro hc681 h
 refine AW.seq (AW.region (AO.p (Yp.buildP (l := [.V 0, .V 0, .V 0]) Tryz.bld41 I) I (AO.q 1 I (AO.act [1] I (AX.store 1 0 0 (es' := [[.V 0, .V 0, .V 0]]) I I I I I I I I (le_ble I) I I (AO.q 1 I (AO.nil ?_)))))))
 obtain rfl := hb673 _ (oi h).symm
 replace h := hR672
 replace h := se_r h
 refine AW.ghost (Ghost.pick [1] (K := [.arr b3 41 3 1 [[.V 0, .V 0, .V 0]]]) I (by decide)) ?_
 obtain rfl := oi h
 exact AW.ret ⟨.inr I, [_, _], [], ⟨⟨0, _, _, _, _, _, _, _, I, I, I, I, I⟩, I, J⟩, sl_n, I, I⟩
 intro hc681 h
 refine AW.skip (AW.region (AO.r 2 [.k 0 (k649 + 1 : Nat)] I ⟨cast_wr hk650 hm651, J⟩ ?_))
 obtain rfl := oi h
 refine AO.nil ?_
 exact ⟨_, _, _, I, ⟨I, I⟩, ⟨I, I, I, I, I, I, I, I, I, J⟩, [0, 1], I, by decide⟩
 rintro st662 s ob ⟨rfl, rfl⟩ he
 subst he
 have h := se_l hR672
 have hk650f : decide (((changes_4.length : Nat) : Int) < (changes_4.length : Int)) = false := by simp
 refine AW.z I (AW.seqG (fun y683 hy683 => (AW.condK (v := false) I hk650f (AW.exit ?_))))
 exact lg ⟨(), h, I, I⟩ [0, 1]
 rintro s ob ⟨j32, h, rfl, rfl⟩
 unfold L.surge_Safe.J1 at h
 refine AW.z I (AW.cutX (fun s ob => ∃ (j86 : List Pressures) (v87 : Value), L.surge_Safe.J2 n_0 changes_4 j86 = some r ∧ s = [(16, .v v87)] ∧ ob = [.arr b2 30 6 1 [Network.row n_0], .arr b3 41 3 1 [[.V 0, .V 0, .V 0]], .us v87 84 3 (j86.map Pressures.row)]) [(4, _), (5, _), (10, _)] ⟨I, I, I, J⟩ ?_ ?_)
 refine AW.zr [.l 1 (changes_4.length : Int)] I ⟨len_m, J⟩ (AW.block (AW.listMax 50 I (fun hm580 => ?_)))
 replace hm580 : changes_4.length ≤ 9223372036854775806 := by rw [List.length_map] at hm580; omega
 refine AW.ghost (Ghost.nilU 84 3) ?_
 obtain ⟨o627, hL628, hR629⟩ := ob_some h
 clear h
 refine AW.forX hL628 [(1, _), (2, _), (3, _), (4, _), (5, _), (10, _), (50, _), (51, _)] ⟨I, I, I, I, I, I, I, I, J⟩ (fun (k578 : Nat) (st612 : List Pressures) s ob => ∃ (v613 : Value), s = [(52, .V (k578 : Int)), (16, .v v613)] ∧ ob = [.arr b2 30 6 1 [Network.row n_0], .arr b3 41 3 1 [[.V 0, .V 0, .V 0]], .us v613 84 3 (st612.map Pressures.row)]) ⟨(.slice none 0 0), I, I⟩ ⟨I, I, J⟩ ⟨[0, 1, 2], I, by decide⟩ ?_ ?_
 rintro k578 x581 st612 r631 s ob hx582 hk579 ⟨v613, rfl, rfl⟩ h hb630
 unfold L.surge_Safe.B9 at h
 have hk579t : decide ((k578 : Int) < (changes_4.length : Int)) = true := decide_eq_true (by omega)
 refine AW.z I (AW.seqG (fun y633 hy633 => (AW.condK (v := true) I hk579t (AW.skip ?_))))
 subst hy633
 refine AW.seq (AW.block (AW.seqG (fun y634 hy634 => (AW.region (AO.r 2 [.x 0 k578 (Change.row x581)] I ⟨⟨I, map_get hx582⟩, J⟩ (AO.act [] I (AX.alloc (cs := [.V 0, .v (.slice none 0 0), .v (.slice none 0 0), .v (.slice none 0 0)]) (m := 4) I I I I I (dst_some I) (fun b635 => (AO.act [3] I (AX.store 3 0 0 (es' := [Change.row x581]) I I I I I I I I (le_ble I) I I (AO.nil ?_)))))))))))
 subst hy634
 refine AW.seqG (fun y636 hy636 => ?_)
 obtain ⟨r637, hx638, h⟩ := ob_some h
 refine AW.region (AO.r 5 [.o 0 0] I ⟨I, J⟩ (AO.d (Yd.loadO 3 0 1 I I I I I (y := .agg (Plan.row x581.Plan)) I) I (AO.act [] I (AX.call0 I I I (L.steady_Solve_ok _ _ _ _ _ _ hx638) (dst_some I) ?_))))
 rintro _ _ ⟨rfl, rfl⟩
 refine AO.q 3 I (AO.act [] I (AX.alloc (cs := [.v (.slice none 0 0), .v (.slice none 0 0), .v (.slice none 0 0)]) (m := 3) I I I I I (dst_some I) (fun b639 => (AO.act [4] I (AX.store 4 0 0 (es' := [Pressures.row r637.1]) I I I I I I I I (le_ble I) I I (AO.q 1 I (AO.nil ?_)))))))
 subst hy636
 refine AW.seq (AW.z I (AW.ch h I ?_ ?_))
 intro hc640 h
 refine AW.seq (AW.region (AO.p (Yp.buildP (l := [.V 0, .V 0, .V 0]) Tryz.bld41 I) I (AO.q 1 I (AO.act [1] I (AX.store 1 0 0 (es' := [[.V 0, .V 0, .V 0]]) I I I I I I I I (le_ble I) I I (AO.q 1 I (AO.nil ?_)))))))
 obtain rfl := hb630 _ (oi h).symm
 replace h := hR629
 replace h := se_r h
 refine AW.ghost (Ghost.pick [1] (K := [.arr b3 41 3 1 [[.V 0, .V 0, .V 0]]]) I (by decide)) ?_
 obtain rfl := oi h
 exact AW.ret ⟨.inr I, [_, _], [], ⟨⟨0, _, _, _, _, _, _, _, I, I, I, I, I⟩, I, J⟩, sl_n, I, I⟩
 intro hc640 h
 refine AW.skip ?_
 obtain ⟨l642, hx643, h⟩ := ob_some h
 refine AW.region (AO.r 2 [.o 1 4] I ⟨I, J⟩ (AO.act [] I (AX.lt 3 (([r637.1] : List Pressures).map Pressures.row) (AO.act [2] I (AX.ap 2 I hx643 (fun v644 => (AO.q 1 I (AO.nil (AW.region (AO.r 2 [.k 0 (k578 + 1 : Nat)] I ⟨cast_wr hk579 hm580, J⟩ ?_))))))))))
 obtain rfl := oi h
 refine AO.nil ?_
 exact ⟨_, _, _, I, ⟨v644, I, I⟩, ⟨I, I, I, I, I, I, I, I, I, I, J⟩, [0, 1, 2], I, by decide⟩
 rintro st612 s ob ⟨v613, rfl, rfl⟩ he
 subst he
 have h := se_l hR629
 have hk579f : decide (((changes_4.length : Nat) : Int) < (changes_4.length : Int)) = false := by simp
 refine AW.z I (AW.seqG (fun y646 hy646 => (AW.condK (v := false) I hk579f (AW.exit ?_))))
 exact lg ⟨st612, v613, h, I, I⟩ [0, 1, 2]
 rintro s ob ⟨j86, v87, h, rfl, rfl⟩
 unfold L.surge_Safe.J2 at h
 refine AW.seqG (fun y88 hy88 => (AW.cutX (fun s ob => ∃ (j101 : Int × Int × Int × Bool) (b102 : Nat), L.surge_Safe.J3 n_0 changes_4 j86 j101 = some r ∧ s = [(21, .v (.pointer (some ⟨b102, 0, none⟩))), (22, .v (.bool j101.2.2.2))] ∧ ob = [.arr b2 30 6 1 [Network.row n_0], .arr b3 41 3 1 [[.V 0, .V 0, .V 0]], .us v87 84 3 (j86.map Pressures.row), .arr b102 41 3 1 [[.V j101.1, .V j101.2.1, .V j101.2.2.1]]]) [(4, _), (5, _), (10, _), (16, _)] ⟨I, I, I, I, J⟩ ?_ ?_))
 obtain ⟨p565, hp566, h⟩ := ob_some h
 obtain ⟨hp566i, hp566x⟩ := ix_some hp566
 obtain ⟨p567, hp568, h⟩ := ob_some h
 obtain ⟨hp568i, hp568x⟩ := ix_some hp568
 obtain ⟨l569, hx570, h⟩ := ob_some h
 obtain ⟨m571, hx570i, hx570m, hx570r⟩ := mk_some hx570
 obtain ⟨r573, hx574, h⟩ := ob_some h
 refine AW.form 2 p565.1 I hp566x (fun hf576 => (AW.rd (.still 0 (.still 1 (.still 2 (.still 3 (.still 4 (.still 5 (.still 6 (.still 7 (.still 8 (.still 9 (.still 10 (.two 11 16 (.two 12 16 (.still 13 (.still 14 (.still 15 (.act 16 (.act 17 (.still 18 .nil)))))) (.act 12 (.still 13 (.still 14 (.still 15 (.act 17 (.still 18 .nil))))))) (.act 11 (.act 12 (.still 13 (.still 14 (.still 15 (.act 17 (.still 18 .nil))))))))))))))))))) [0, 2] [_, _] I (AP.r 2 [.o 0 0] I ⟨I, J⟩ (AP.op I (Yp.indexUf (m := p565.1) I I I I I hf576 I hp566i hp566x) I (AP.o I (Yd.loadU 1 p565.1 0 I I I (map_get hp566x) I (y := .agg (Pressures.row p565.2)) I) I (AP.r 3 [.x 1 p567.1 (Change.row p567.2)] I ⟨⟨hp568i, map_get hp568x⟩, J⟩ (AP.o I (Yd.loadE I I (y := .agg (Plan.row p567.2.Plan)) I) I (AP.r 3 [.o 1 0, .l 2 (n_0.Segments.length : Int)] I ⟨len_m, I, J⟩ (AP.two ?_ ?_)))))))))
 refine AP.act [] I I I (AX.makeU (sz := 1) I I I I I I I I I I hx570i hx570m (rep_map (f := rI) hx570r I) (dst_some I) (fun v572 => (AP.two ?_ ?_)))
 refine AP.act [] I I I (AX.callL I (.refl _) I I (.cons (.refl _) (.cons (.refl _) (.cons (.refl _) (.cons (.us 3 I) (.rest _))))) I (L.steady_Break_ok _ _ _ _ _ hx574) (dst_some I) (by rintro _ _ ⟨rfl, _⟩; rfl) ?_)
 rintro _ ⟨_, rfl, -⟩
 refine AP.q 3 I (AP.act [] I I I (AX.alloc (cs := [.V 0, .V 0, .V 0]) (m := 3) I I I I I (dst_some I) (fun b575 => (AP.act [4] I I I (AX.store 4 0 0 (es' := [Fault.row r573.1]) I I I I I I I I (le_ble I) I I (AP.q 1 I (AP.ofAO (AO.nil ?_))))))))
 exact lg ⟨(r573.1.Kind, r573.1.Index, r573.1.At, r573.2), b575, h, I, I⟩ [0, 1, 2, 4]
 refine AP.act [] I I I (AX.alloc (cs := [.V 0, .V 0, .V 0]) (m := 3) I I I I I (dst_some I) (fun b575 => (AP.act [] I I I (AX.callL I (.refl _) I I (.cons (.refl _) (.cons (.refl _) (.cons (.refl _) (.cons (.us 3 I) (.rest _))))) I (L.steady_Break_ok _ _ _ _ _ hx574) (dst_some I) (by rintro _ _ ⟨rfl, _⟩; rfl) ?_))))
 rintro _ ⟨_, rfl, -⟩
 refine AP.q 3 I (AP.act [4] I I I (AX.store 4 0 0 (es' := [Fault.row r573.1]) I I I I I I I I (le_ble I) I I (AP.q 1 I (AP.ofAO (AO.nil ?_)))))
 exact lg ⟨(r573.1.Kind, r573.1.Index, r573.1.At, r573.2), b575, h, I, I⟩ [0, 1, 2, 4]
 refine AP.act [] I I I (AX.alloc (cs := [.V 0, .V 0, .V 0]) (m := 3) I I I I I (dst_some I) (fun b575 => (AP.act [] I I I (AX.makeU (sz := 1) I I I I I I I I I I hx570i hx570m (rep_map (f := rI) hx570r I) (dst_some I) (fun v572 => (AP.act [] I I I (AX.callL I (.refl _) I I (.cons (.refl _) (.cons (.refl _) (.cons (.refl _) (.cons (.us 4 I) (.rest _))))) I (L.steady_Break_ok _ _ _ _ _ hx574) (dst_some I) (by rintro _ _ ⟨rfl, _⟩; rfl) ?_)))))))
 rintro _ ⟨_, rfl, -⟩
 refine AP.q 3 I (AP.act [3] I I I (AX.store 3 0 0 (es' := [Fault.row r573.1]) I I I I I I I I (le_ble I) I I (AP.q 1 I (AP.ofAO (AO.nil ?_)))))
 exact lg ⟨(r573.1.Kind, r573.1.Index, r573.1.At, r573.2), b575, h, I, I⟩ [0, 1, 2, 3]
 rintro s ob ⟨j101, b102, h, rfl, rfl⟩
 unfold L.surge_Safe.J3 at h
 refine AW.z I (AW.ch h I ?_ ?_)
 intro hc103 h
 refine AW.seq (AW.region (AO.r 1 [.o 0 3] I ⟨I, J⟩ (AO.act [1] I (AX.store 1 0 0 (es' := [[.V j101.1, .V j101.2.1, .V j101.2.2.1]]) I I I I I I I I (le_ble I) I I (AO.q 1 I (AO.nil (AW.ghost (Ghost.pick [1] (K := [.arr b3 41 3 1 [[.V j101.1, .V j101.2.1, .V j101.2.2.1]]]) I (by decide)) ?_)))))))
 obtain rfl := oi h
 exact AW.ret ⟨.inr I, [_, _], [], ⟨⟨0, _, _, _, _, _, _, _, I, I, I, I, I⟩, I, J⟩, sl_n, I, I⟩
 intro hc103 h
 refine AW.skip ?_
 subst hy88
 refine AW.cutX (fun s ob => ∃ (j265 : Unit), L.surge_Safe.J4 j265 = some r ∧ s = [] ∧ ob = [.arr b3 41 3 1 [[.V 0, .V 0, .V 0]]]) [(10, _)] ⟨I, J⟩ ?_ ?_
 refine AW.z I (AW.block ?_)
 obtain ⟨o427, hL428, hR429⟩ := ob_some h
 clear h
 refine AW.loopX hL428 [(4, _), (5, _), (10, _), (16, _)] ⟨I, I, I, I, J⟩ (fun (st374 : Int) s ob => s = [(23, .V st374)] ∧ ob = [.arr b2 30 6 1 [Network.row n_0], .arr b3 41 3 1 [[.V 0, .V 0, .V 0]], .us v87 84 3 (j86.map Pressures.row)]) ⟨I, I⟩ ⟨I, J⟩ ⟨[0, 1, 2], I, by decide⟩ ?_
 rintro st374 r431 s ob ⟨rfl, rfl⟩ h hb430
 unfold L.surge_Safe.B5 at h
 refine AW.seqG (fun y432 hy432 => (AW.zr [.l 2 (changes_4.length : Int)] I ⟨len_m, J⟩ (AW.ch h I ?_ ?_)))
 intro hc433 h
 refine AW.skip ?_
 subst hy432
 refine AW.cutX (fun s ob => ∃ (j483 : Unit), L.surge_Safe.J6 st374 j483 = some r431 ∧ s = [] ∧ ob = [.arr b2 30 6 1 [Network.row n_0], .arr b3 41 3 1 [[.V 0, .V 0, .V 0]], .us v87 84 3 (j86.map Pressures.row)]) [(4, _), (5, _), (10, _), (16, _), (23, _)] ⟨I, I, I, I, I, J⟩ ?_ ?_
 refine AW.block (AW.seqG (fun y484 hy484 => ?_))
 obtain ⟨r485, hx486, h⟩ := ob_some h
 obtain ⟨r488, hx489, h⟩ := ob_some h
 refine AW.region (AO.r 3 [.o 0 0] I ⟨I, J⟩ (AO.act [] I (AX.call0 I I I (L.surge_surge_ok _ _ _ _ hx486) (dst_some I) ?_)))
 rintro _ _ ⟨v487, rfl, rfl⟩
 refine AO.ghost (Ghost.freeze [3] (K := [.us v487 3 1 (r485.map rI)]) I [(102, .list 1 (r485.map rI))] ⟨⟨_, I, .us 0 I⟩, J⟩ (ob' := [.arr b2 30 6 1 [Network.row n_0], .arr b3 41 3 1 [[.V 0, .V 0, .V 0]], .us v87 84 3 (j86.map Pressures.row)]) (.rest _)) (AO.act [] I (AX.call0 I I I (L.slices_Clone_int_int_ok _ _ hx489) (dst_some I) ?_))
 rintro _ _ ⟨v490, rfl, rfl⟩
 refine AO.q 1 I (AO.nil ?_)
 subst hy484
 refine AW.seqG (fun y491 hy491 => (AW.region (AO.q 3 I (AO.act [] I (AX.buildSlice (sz := 1) (es := ([wr (st374 - 1), st374] : List Int).map rI) I I I I I I I I I I I (dst_some I) (fun v492 => (AO.d (Yd.lenUM 4 I I I I) I (AO.q 1 I (AO.nil ?_)))))))))
 subst hy491
 refine AW.block (AW.usMax 4 I (fun hm495 => ?_))
 replace hm495 : ([wr (st374 - 1), st374] : List Int).length ≤ 9223372036854775806 := by rw [List.length_map] at hm495; omega
 obtain ⟨o531, hL532, hR533⟩ := ob_some h
 clear h
 refine AW.forIX hL532 [(4, _), (5, _), (10, _), (16, _), (23, _), (24, _), (107, _), (108, _)] ⟨I, I, I, I, I, I, I, I, J⟩ (fun (k493 : Nat) (st514 : Unit) s ob => s = [(109, .V (k493 : Int))] ∧ ob = [.arr b2 30 6 1 [Network.row n_0], .arr b3 41 3 1 [[.V 0, .V 0, .V 0]], .us v87 84 3 (j86.map Pressures.row), .us v490 3 1 (r488.map rI), .us v492 3 1 (([wr (st374 - 1), st374] : List Int).map rI)]) ⟨I, I⟩ ⟨I, J⟩ ⟨[0, 1, 2, 3, 4], I, by decide⟩ ?_ ?_
 rintro k493 st514 r535 s ob hk494 ⟨rfl, rfl⟩ h hb534
 unfold L.surge_Safe.B7 at h
 have hk494t : decide ((k493 : Int) < (([wr (st374 - 1), st374] : List Int).length : Int)) = true := decide_eq_true (by omega)
 refine AW.z I (AW.seqG (fun y537 hy537 => (AW.condK (v := true) I hk494t (AW.skip ?_))))
 subst hy537
 refine AW.seq (AW.block (AW.seqG (fun y538 hy538 => ?_)))
 obtain ⟨p539, hp540, h⟩ := ob_some h
 obtain ⟨hp540i, hp540x⟩ := ix_some hp540
 refine AW.region (AO.d (Yd.indexU 4 (m := p539.1) I I I I I I I hp540i (map_get hp540x)) I (AO.d (Yd.loadU 4 p539.1 0 I I I (map_get hp540x) I (y := .V p539.2) I) I (AO.q 1 I (AO.nil ?_))))
 subst hy538
 refine AW.cutX (fun s ob => ∃ (j549 : Int × Int × Int × Bool) (b550 : Nat), L.surge_Safe.J8 j549 = some r535 ∧ s = [(27, .v (.pointer (some ⟨b550, 0, none⟩))), (28, .v (.bool j549.2.2.2))] ∧ ob = [.arr b2 30 6 1 [Network.row n_0], .arr b3 41 3 1 [[.V 0, .V 0, .V 0]], .us v87 84 3 (j86.map Pressures.row), .us v490 3 1 (r488.map rI), .us v492 3 1 (([wr (st374 - 1), st374] : List Int).map rI), .arr b550 41 3 1 [[.V j549.1, .V j549.2.1, .V j549.2.2.1]]]) [(4, _), (5, _), (10, _), (16, _), (23, _), (24, _), (107, _), (108, _), (109, _)] ⟨I, I, I, I, I, I, I, I, I, J⟩ ?_ ?_
 obtain ⟨p552, hp553, h⟩ := ob_some h
 obtain ⟨hp553i, hp553x⟩ := ix_some hp553
 obtain ⟨p554, hp555, h⟩ := ob_some h
 obtain ⟨hp555i, hp555x⟩ := ix_some hp555
 obtain ⟨r556, hx557, h⟩ := ob_some h
 refine AW.form 2 p552.1 I hp553x (fun hf559 => (AW.rd (.still 0 (.still 1 (.still 2 (.still 3 (.still 4 (.still 5 (.still 6 (.still 7 (.still 8 (.still 9 (.still 10 (.two 11 15 (.still 12 (.still 13 (.still 14 (.act 15 (.act 16 (.still 17 .nil)))))) (.act 11 (.still 12 (.still 13 (.still 14 (.act 16 (.still 17 .nil)))))))))))))))))) [0, 2] [_, _] I (AP.r 3 [.o 0 0] I ⟨I, J⟩ (AP.op I (Yp.indexUf (m := p552.1) I I I I I hf559 I hp553i hp553x) I (AP.o I (Yd.loadU 1 p552.1 0 I I I (map_get hp553x) I (y := .agg (Pressures.row p552.2)) I) I (AP.r 4 [.x 2 p554.1 (Change.row p554.2)] I ⟨⟨hp555i, map_get hp555x⟩, J⟩ (AP.o I (Yd.loadE I I (y := .agg (Plan.row p554.2.Plan)) I) I (AP.q 1 I (AP.two ?_ ?_)))))))))
 refine AP.act [] I I I (AX.callL I (.refl _) I I (.cons (.refl _) (.cons (.refl _) (.cons (.refl _) (.cons (.us 3 I) (.rest _))))) I (L.steady_Break_ok _ _ _ _ _ hx557) (dst_some I) (by rintro _ _ ⟨rfl, _⟩; rfl) ?_)
 rintro _ ⟨_, rfl, -⟩
 refine AP.q 3 I (AP.act [] I I I (AX.alloc (cs := [.V 0, .V 0, .V 0]) (m := 3) I I I I I (dst_some I) (fun b558 => (AP.act [5] I I I (AX.store 5 0 0 (es' := [Fault.row r556.1]) I I I I I I I I (le_ble I) I I (AP.q 1 I (AP.ofAO (AO.nil ?_))))))))
 exact lg ⟨(r556.1.Kind, r556.1.Index, r556.1.At, r556.2), b558, h, I, I⟩ [0, 1, 2, 3, 4, 5]
 refine AP.act [] I I I (AX.alloc (cs := [.V 0, .V 0, .V 0]) (m := 3) I I I I I (dst_some I) (fun b558 => (AP.act [] I I I (AX.callL I (.refl _) I I (.cons (.refl _) (.cons (.refl _) (.cons (.refl _) (.cons (.us 3 I) (.rest _))))) I (L.steady_Break_ok _ _ _ _ _ hx557) (dst_some I) (by rintro _ _ ⟨rfl, _⟩; rfl) ?_))))
 rintro _ ⟨_, rfl, -⟩
 refine AP.q 3 I (AP.act [5] I I I (AX.store 5 0 0 (es' := [Fault.row r556.1]) I I I I I I I I (le_ble I) I I (AP.q 1 I (AP.ofAO (AO.nil ?_)))))
 exact lg ⟨(r556.1.Kind, r556.1.Index, r556.1.At, r556.2), b558, h, I, I⟩ [0, 1, 2, 3, 4, 5]
 rintro s ob ⟨j549, b550, h, rfl, rfl⟩
 unfold L.surge_Safe.J8 at h
 refine AW.z I (AW.ch h I ?_ ?_)
 intro hc551 h
 refine AW.seq (AW.region (AO.r 1 [.o 0 5] I ⟨I, J⟩ (AO.act [1] I (AX.store 1 0 0 (es' := [[.V j549.1, .V j549.2.1, .V j549.2.2.1]]) I I I I I I I I (le_ble I) I I (AO.q 1 I (AO.nil ?_))))))
 obtain rfl := hb534 _ (oi h).symm
 replace h := hR533
 replace h := se_r h
 obtain rfl := hb430 _ (oi h).symm
 replace h := hR429
 replace h := se_l h
 refine AW.ghost (Ghost.pick [1] (K := [.arr b3 41 3 1 [[.V j549.1, .V j549.2.1, .V j549.2.2.1]]]) I (by decide)) ?_
 obtain rfl := oi h
 exact AW.ret ⟨.inr I, [_, _], [], ⟨⟨0, _, _, _, _, _, _, _, I, I, I, I, I⟩, I, J⟩, sl_n, I, I⟩
 intro hc551 h
 refine AW.skip (AW.region (AO.r 2 [.k 0 (k493 + 1 : Nat)] I ⟨cast_wr hk494 hm495, J⟩ ?_))
 obtain rfl := oi h
 refine AO.nil ?_
 exact ⟨_, _, _, I, ⟨I, I⟩, ⟨I, I, I, I, I, I, I, I, I, J⟩, [0, 1, 2, 3, 4], I, by decide⟩
 rintro st514 s ob ⟨rfl, rfl⟩ he
 subst he
 have h := se_l hR533
 have hk494f : decide (((([wr (st374 - 1), st374] : List Int).length : Nat) : Int) < (([wr (st374 - 1), st374] : List Int).length : Int)) = false := by simp
 refine AW.z I (AW.seqG (fun y561 hy561 => (AW.condK (v := false) I hk494f (AW.exit ?_))))
 exact lg ⟨(), h, I, I⟩ [0, 1, 2]
 rintro s ob ⟨j483, h, rfl, rfl⟩
 unfold L.surge_Safe.J6 at h
 refine AW.region (AO.q 3 I ?_)
 obtain rfl := oi h
 refine AO.nil ?_
 exact ⟨_, _, _, I, ⟨I, I⟩, ⟨I, I, I, I, I, J⟩, [0, 1, 2], I, by decide⟩
 intro hc433 h
 obtain rfl := hb430 _ (oi h).symm
 replace h := hR429
 replace h := se_r h
 refine AW.exit ?_
 exact lg ⟨(), h, I, I⟩ [1]
 rintro s ob ⟨j265, h, rfl, rfl⟩
 unfold L.surge_Safe.J4 at h
 refine AW.seq (AW.region (AO.p (Yp.buildP (l := [.V 0, .V 0, .V 0]) Tryz.bld41 I) I (AO.act [0] I (AX.store 0 0 0 (es' := [[.V 0, .V 0, .V 0]]) I I I I I I I I (le_ble I) I I (AO.q 1 I (AO.nil ?_))))))
 obtain rfl := oi h
 exact AW.ret ⟨.inr I, [_, _], [], ⟨⟨0, _, _, _, _, _, _, _, I, I, I, I, I⟩, I, J⟩, sl_n, I, I⟩
end Go.Proofs.YtodeekicjiengaaGreatDoor
