/- Walks that show what functions of the program compute; printed by a program of ours. No condition. -/
import Derived.Test.YtodeekicjiengaaGreatDoorZ1Lv1
import Derived.Test.YtodeekicjiengaaGreatDoorZ1L5
import Derived.Test.YtodeekicjiengaaGreatDoorZ1L4c
import Derived.Test.YtodeekicjiengaaGreatDoorZ1L4b
import Derived.Test.YtodeekicjiengaaGreatDoorZ1Lg4
namespace Go.Proofs.YtodeekicjiengaaGreatDoor
open Go.Aw
set_option linter.unusedVariables false
set_option linter.unusedSimpArgs false
set_option maxRecDepth 100000
set_option maxHeartbeats 4000000
theorem L.law22_SurgeApart_ok (l_0 : List Int) (r : Bool) (h : L.law22_SurgeApart l_0 = some r) : ACalls Tryz.env 5 [.list 1 (l_0.map rI)] [] (fun x new => x = .v (.bool r) ∧ new = []) := by
 refine ACalls.of_body Tryz.func5 rfl rfl rfl (fun C hC => ?_)
 unfold L.law22_SurgeApart at h
 refine AW.z I (AW.seqG (fun y2 hy2 => ?_))
 obtain ⟨r3, hx4, h⟩ := ob_some h
 refine AW.region (AO.q 1 I (AO.act [] I (AX.call0 I I I (L.keep_New_ok l_0 _ hx4) (dst_some I) ?_)))
 rintro _ _ ⟨b5, rfl, rfl⟩
 refine AO.q 1 I (AO.nil ?_)
 subst hy2
 refine AW.seqG (fun y6 hy6 => ?_)
 obtain ⟨r7, hx8, h⟩ := ob_some h
 obtain ⟨r9, hx10, h⟩ := ob_some h
 refine AW.region (AO.q 1 I (AO.act [0] I (AX.cg [0] (L.keep_Src_Network_ok b5 r3 _ hx8) ?_)))
 rintro _ _ _ - ⟨rfl, rfl, rfl⟩
 refine AO.q 1 I (AO.act [0] I (AX.cg [0] (L.keep_Src_Products_ok b5 r7.2 _ hx10) ?_))
 rintro _ _ _ - ⟨v11, rfl, rfl, rfl⟩
 refine AO.act [] I (AX.alloc (cs := [.v (.slice none 0 0), .v (.slice none 0 0), .v (.slice none 0 0), .v (.slice none 0 0), .V 0, .V 0]) (m := 6) I I I I I (dst_some I) (fun b12 => (AO.act [2] I (AX.store 2 0 0 (es' := [Network.row r7.1]) I I I I I I I I (le_ble I) I I (AO.q 1 I (AO.nil ?_))))))
 subst hy6
 refine AW.left (s' := [(3, .v (.pointer (some ⟨b5, 0, none⟩))), (4, .v (.pointer (some ⟨b12, 0, none⟩))), (5, .v v11)]) (ob' := [.arr b5 _ 2 1 [batchlinekeep_Src.row r9.2], .us v11 72 5 (r9.1.map Product.row), .arr b12 30 6 1 [Network.row r7.1]]) ⟨⟨I, I, I, J⟩, [0, 1, 2], I, by decide⟩ ?_
 refine AW.seqG (fun y13 hy13 => ?_)
 obtain ⟨r14, hx15, h⟩ := ob_some h
 obtain ⟨r17, hx18, h⟩ := ob_some h
 refine AW.region (AO.r 2 [.o 1 2] I ⟨I, J⟩ (AO.act [0] I (AX.cg [0] (L.keep_Src_Fills_ok b5 r9.2 r7.1 4 _ hx15) ?_)))
 rintro _ _ _ - ⟨v16, rfl, rfl, rfl⟩
 refine AO.q 2 I (AO.d (Yd.lenUM 1 I I I I) I (AO.act [0] I (AX.cg [0] (L.keep_Src_Batches_ok b5 r14.2 4 (r9.1.length : Int) _ hx18) ?_)))
 rintro _ _ _ - ⟨v19, rfl, rfl, rfl⟩
 refine AO.q 2 I (AO.nil ?_)
 subst hy13
 refine AW.left (s' := [(3, .v (.pointer (some ⟨b5, 0, none⟩))), (4, .v (.pointer (some ⟨b12, 0, none⟩))), (5, .v v11), (6, .v v16), (7, .v v19)]) (ob' := [.arr b5 _ 2 1 [batchlinekeep_Src.row r17.2], .us v11 72 5 (r9.1.map Product.row), .arr b12 30 6 1 [Network.row r7.1], .us v16 74 1 (r14.1.map (rL 2 Piece.row)), .us v19 77 4 (r17.1.map Batch.row)]) ⟨⟨I, I, I, I, I, J⟩, [0, 1, 2, 3, 4], I, by decide⟩ ?_
 refine AW.seqG (fun y20 hy20 => ?_)
 obtain ⟨r21, hx22, h⟩ := ob_some h
 obtain ⟨r23, hx24, h⟩ := ob_some h
 obtain ⟨r25, hx26, h⟩ := ob_some h
 refine AW.rd (.still 0 (.still 1 (.still 3 (.still 4 (.still 6 (.still 7 (.act 2 (.act 5 (.act 8 (.act 9 (.still 10 .nil))))))))))) [2] [_] I (AP.r 6 [.o 1 0, .o 3 0, .o 5 0] I ⟨I, I, I, J⟩ (AP.act [0] I I I (AX.cg [0] (L.keep_Src_Plan_ok b5 r17.2 r7.1 _ hx22) ?_)))
 rintro _ _ _ - ⟨rfl, rfl, rfl⟩
 refine AP.act [0] I I I (AX.cg [0] (L.keep_Src_Plan_ok b5 r21.2 r7.1 _ hx24) ?_)
 rintro _ _ _ - ⟨rfl, rfl, rfl⟩
 refine AP.act [0] I I I (AX.cg [0] (L.keep_Src_Plan_ok b5 r23.2 r7.1 _ hx26) ?_)
 rintro _ _ _ - ⟨rfl, rfl, rfl⟩
 refine AP.act [] I I I (AX.lt 3 (([r21.1, r23.1, r25.1] : List Plan).map Plan.row) (AP.q 1 I (AP.ofAO (AO.nil ?_))))
 subst hy20
 generalize hPL : ([r21.1, r23.1, r25.1] : List Plan) = PL at *
 refine AW.left (s' := [(4, .v (.pointer (some ⟨b12, 0, none⟩))), (5, .v v11), (6, .v v16), (7, .v v19), (8, .list 3 (PL.map Plan.row))]) (ob' := [.us v11 72 5 (r9.1.map Product.row), .arr b12 30 6 1 [Network.row r7.1], .us v16 74 1 (r14.1.map (rL 2 Piece.row)), .us v19 77 4 (r17.1.map Batch.row)]) ⟨⟨I, I, I, I, I, J⟩, [1, 2, 3, 4], I, by decide⟩ ?_
 refine AW.z I (AW.cutX (fun s ob => ∃ (j63 : List Change) (v64 : Value), L.law22_SurgeApart.J1 r7 r9 r14 r17 r21 r23 r25 j63 = some r ∧ s = [(9, .v v64)] ∧ ob = [.us v11 72 5 (r9.1.map Product.row), .arr b12 30 6 1 [Network.row r7.1], .us v16 74 1 (r14.1.map (rL 2 Piece.row)), .us v19 77 4 (r17.1.map Batch.row), .us v64 50 4 (j63.map Change.row)]) [(4, _), (5, _), (6, _), (7, _), (8, _)] ⟨I, I, I, I, I, J⟩ ?_ ?_)
 refine AW.zr [.l 1 (PL.length : Int)] I ⟨len_m, J⟩ (AW.block (AW.listMax 40 I (fun hm216 => ?_)))
 replace hm216 : PL.length ≤ 9223372036854775806 := by rw [List.length_map] at hm216; omega
 refine AW.ghost (Ghost.nilU 50 4) ?_
 obtain ⟨o245, hL246, hR247⟩ := ob_some h
 clear h
 refine AW.forY hL246 [(4, _), (5, _), (6, _), (7, _), (8, _), (41, _)] ⟨I, I, I, I, I, I, J⟩ (fun (k214 : Nat) (st236 : List Change) s ob => ∃ (v237 : Value), s = [(42, .V (k214 : Int)), (9, .v v237)] ∧ ob = [.us v11 72 5 (r9.1.map Product.row), .arr b12 30 6 1 [Network.row r7.1], .us v16 74 1 (r14.1.map (rL 2 Piece.row)), .us v19 77 4 (r17.1.map Batch.row), .us v237 50 4 (st236.map Change.row)]) ⟨(.slice none 0 0), I, I⟩ ⟨I, I, J⟩ ⟨[0, 1, 2, 3, 4], I, by decide⟩ ?_ ?_
 rintro k214 x217 st236 r249 s ob hx218 hk215 ⟨v237, rfl, rfl⟩ h
 unfold L.law22_SurgeApart.B7 at h
 have hk215t : decide ((k214 : Int) < (PL.length : Int)) = true := decide_eq_true (by omega)
 refine AW.z I (AW.seqG (fun y251 hy251 => (AW.condK (v := true) I hk215t (AW.skip ?_))))
 subst hy251
 refine AW.seq (AW.block (AW.z I ?_))
 obtain ⟨l254, hx255, h⟩ := ob_some h
 refine AW.rd (pd 14 0 [11, 12]) [1] [_] I (AP.r 10 [.o 3 0, .x 8 k214 (Plan.row x217)] I ⟨⟨I, map_get hx218⟩, I, J⟩ (AP.op I (Yp.buildP (l := [.V (wr ((k214 : Int) * (wr (r7.1.Settle + 1)))), .list 1 (x217.Rates.map rI), .list 1 (x217.Ports.map rI), .list 1 (x217.Pumps.map rB)]) Tryz.bld50 I) I (AP.act [] I I I (AX.lt 4 (([(⟨wr ((k214 : Int) * (wr (r7.1.Settle + 1))), x217⟩ : Change)] : List Change).map Change.row) (AP.act [4] I I I (AX.ap 4 I hx255 (fun v256 => (AP.eraS 9 (AP.q 1 I (AP.ofAO (AO.nil (AW.region (AO.r 2 [.k 0 (k214 + 1 : Nat)] I ⟨cast_wr hk215 hm216, J⟩ ?_)))))))))))))
 obtain rfl := oi h
 refine AO.nil ?_
 exact lg ⟨v256, I, I⟩ [0, 1, 2, 3, 4]
 rintro st236 s ob ⟨v237, rfl, rfl⟩ he
 subst he
 have h := hR247
 have hk215f : decide (((PL.length : Nat) : Int) < (PL.length : Int)) = false := by simp
 refine AW.z I (AW.seqG (fun y258 hy258 => (AW.condK (v := false) I hk215f (AW.exit ?_))))
 exact lg ⟨st236, v237, h, I, I⟩ [0, 1, 2, 3, 4]
 rintro s ob ⟨j63, v64, h, rfl, rfl⟩
 unfold L.law22_SurgeApart.J1 at h
 refine AW.seqG (fun y65 hy65 => ?_)
 obtain ⟨r66, hx67, h⟩ := ob_some h
 refine AW.region (AO.r 5 [.o 0 1] I ⟨I, J⟩ (AO.act [] I (AX.callL I (.refl _) I I (.cons (.refl _) (.cons (.us 3 I) (.cons (.us 0 I) (.cons (.us 2 I) (.cons (.us 4 I) (.rest _)))))) I (L.surge_Safe_ok r7.1 r17.1 r9.1 r14.1 j63 _ hx67) (dst_some I) (by rintro _ _ ⟨rfl, _⟩; rfl) ?_)))
 rintro _ ⟨_, rfl, -⟩
 refine AO.q 3 I (AO.act [] I (AX.alloc (cs := [.V 0, .V 0, .V 0]) (m := 3) I I I I I (dst_some I) (fun b68 => (AO.act [5] I (AX.store 5 0 0 (es' := [Fault.row r66.1]) I I I I I I I I (le_ble I) I I (AO.q 1 I (AO.nil ?_)))))))
 subst hy65
 refine AW.z I (AW.cutX (fun s ob => ∃ (j114 : Int), L.law22_SurgeApart.J2 r66 j114 = some r ∧ s = [(13, .V j114)] ∧ ob = []) [(12, _)] ⟨I, J⟩ ?_ ?_)
 refine AW.z I (AW.block ?_)
 obtain ⟨o176, hL177, hR178⟩ := ob_some h
 clear h
 refine AW.loopX hL177 [(4, _), (5, _), (6, _), (7, _), (8, _), (12, _)] ⟨I, I, I, I, I, I, J⟩ (fun (st162 : Int × Int) s ob => s = [(13, .V st162.1), (14, .V st162.2)] ∧ ob = [.us v11 72 5 (r9.1.map Product.row), .arr b12 30 6 1 [Network.row r7.1], .us v16 74 1 (r14.1.map (rL 2 Piece.row)), .us v19 77 4 (r17.1.map Batch.row)]) ⟨I, I⟩ ⟨I, I, J⟩ ⟨[0, 1, 2, 3], I, by decide⟩ ?_
 rintro st162 r180 s ob ⟨rfl, rfl⟩ h hb179
 unfold L.law22_SurgeApart.B4 at h
 rw [hPL] at h
 refine AW.seqG (fun y181 hy181 => (AW.zr [.l 2 (PL.length : Int)] I ⟨len_m, J⟩ (AW.ch h I ?_ ?_)))
 intro hc182 h
 refine AW.skip ?_
 subst hy181
 refine AW.cutX (fun s ob => ∃ (j193 : Int), L.law22_SurgeApart.J5 st162 j193 = some r180 ∧ s = [(13, .V j193)] ∧ ob = [.us v11 72 5 (r9.1.map Product.row), .arr b12 30 6 1 [Network.row r7.1], .us v16 74 1 (r14.1.map (rL 2 Piece.row)), .us v19 77 4 (r17.1.map Batch.row)]) [(4, _), (5, _), (6, _), (7, _), (8, _), (12, _), (14, _)] ⟨I, I, I, I, I, I, I, J⟩ ?_ ?_
 refine AW.block (AW.cutX (fun s ob => ∃ (j202 : Int), L.law22_SurgeApart.J6 st162 j202 = some r180 ∧ s = [(16, .V j202)] ∧ ob = [.us v11 72 5 (r9.1.map Product.row), .arr b12 30 6 1 [Network.row r7.1], .us v16 74 1 (r14.1.map (rL 2 Piece.row)), .us v19 77 4 (r17.1.map Batch.row)]) [(4, _), (5, _), (6, _), (7, _), (8, _), (12, _), (13, _), (14, _)] ⟨I, I, I, I, I, I, I, I, J⟩ ?_ ?_)
 obtain ⟨p204, hp205, h⟩ := ob_some h
 obtain ⟨hp205i, hp205x⟩ := ix_some hp205
 obtain ⟨p206, hp207, h⟩ := ob_some h
 obtain ⟨hp207i, hp207x⟩ := ix_some hp207
 obtain ⟨r209, hx210, h⟩ := ob_some h
 refine AW.rd (.still 0 (.still 1 (.still 2 (.still 3 (.still 4 (.still 5 (.still 6 (.still 7 (.still 8 (.still 9 (.still 10 (.still 11 (.still 12 (.still 13 (.still 14 (.two 15 20 (.two 16 20 (.still 17 (.still 18 (.still 19 (.act 20 (.act 21 (.still 22 .nil)))))) (.act 16 (.still 17 (.still 18 (.still 19 (.act 21 (.still 22 .nil))))))) (.act 15 (.act 16 (.still 17 (.still 18 (.still 19 (.act 21 (.still 22 .nil))))))))))))))))))))))) [1] [_] I (AP.r 9 [.o 0 0, .x 7 p204.1 (Plan.row p204.2)] I ⟨⟨hp205i, map_get hp205x⟩, I, J⟩ (AP.op I (Yp.buildP (l := [.V 0, .list 1 (p204.2.Rates.map rI), .list 1 (p204.2.Ports.map rI), .list 1 (p204.2.Pumps.map rB)]) Tryz.bld50 I) I (AP.r 4 [.x 2 p206.1 (Plan.row p206.2)] I ⟨⟨hp207i, map_get hp207x⟩, J⟩ (AP.op I (Yp.buildP (l := [.V 1, .list 1 (p206.2.Rates.map rI), .list 1 (p206.2.Ports.map rI), .list 1 (p206.2.Pumps.map rB)]) Tryz.bld50 I) I (AP.two ?_ ?_)))))
 refine AP.act [] I I I (AX.lt 4 (([(⟨0, p204.2⟩ : Change), (⟨1, p206.2⟩ : Change)] : List Change).map Change.row) (AP.two ?_ ?_))
 refine AP.act [] I I I (AX.callL I (.refl _) I I (.cons (.refl _) (.cons (.us 3 I) (.cons (.us 0 I) (.cons (.us 2 I) (.rest _))))) I (L.surge_Safe_ok r7.1 r17.1 r9.1 r14.1 ([(⟨0, p204.2⟩ : Change), (⟨1, p206.2⟩ : Change)] : List Change) _ hx210) (dst_some I) (by rintro _ _ ⟨rfl, _⟩; rfl) ?_)
 rintro _ ⟨_, rfl, -⟩
 refine AP.q 3 I (AP.act [] I I I (AX.alloc (cs := [.V 0, .V 0, .V 0]) (m := 3) I I I I I (dst_some I) (fun b211 => (AP.act [4] I I I (AX.store 4 0 0 (es' := [Fault.row r209.1]) I I I I I I I I (le_ble I) I I (AP.q 1 I (AP.ofAO (AO.nil ?_))))))))
 exact lg ⟨r209.2, h, I, I⟩ [0, 1, 2, 3]
 refine AP.act [] I I I (AX.alloc (cs := [.V 0, .V 0, .V 0]) (m := 3) I I I I I (dst_some I) (fun b211 => (AP.act [] I I I (AX.callL I (.refl _) I I (.cons (.refl _) (.cons (.us 3 I) (.cons (.us 0 I) (.cons (.us 2 I) (.rest _))))) I (L.surge_Safe_ok r7.1 r17.1 r9.1 r14.1 ([(⟨0, p204.2⟩ : Change), (⟨1, p206.2⟩ : Change)] : List Change) _ hx210) (dst_some I) (by rintro _ _ ⟨rfl, _⟩; rfl) ?_))))
 rintro _ ⟨_, rfl, -⟩
 refine AP.q 3 I (AP.act [4] I I I (AX.store 4 0 0 (es' := [Fault.row r209.1]) I I I I I I I I (le_ble I) I I (AP.q 1 I (AP.ofAO (AO.nil ?_)))))
 exact lg ⟨r209.2, h, I, I⟩ [0, 1, 2, 3]
 refine AP.act [] I I I (AX.alloc (cs := [.V 0, .V 0, .V 0]) (m := 3) I I I I I (dst_some I) (fun b211 => (AP.act [] I I I (AX.lt 4 (([(⟨0, p204.2⟩ : Change), (⟨1, p206.2⟩ : Change)] : List Change).map Change.row) (AP.act [] I I I (AX.callL I (.refl _) I I (.cons (.refl _) (.cons (.us 3 I) (.cons (.us 0 I) (.cons (.us 2 I) (.rest _))))) I (L.surge_Safe_ok r7.1 r17.1 r9.1 r14.1 ([(⟨0, p204.2⟩ : Change), (⟨1, p206.2⟩ : Change)] : List Change) _ hx210) (dst_some I) (by rintro _ _ ⟨rfl, _⟩; rfl) ?_))))))
 rintro _ ⟨_, rfl, -⟩
 refine AP.q 3 I (AP.act [4] I I I (AX.store 4 0 0 (es' := [Fault.row r209.1]) I I I I I I I I (le_ble I) I I (AP.q 1 I (AP.ofAO (AO.nil ?_)))))
 exact lg ⟨r209.2, h, I, I⟩ [0, 1, 2, 3]
 rintro s ob ⟨j202, h, rfl, rfl⟩
 unfold L.law22_SurgeApart.J6 at h
 refine AW.z I (AW.ch h I ?_ ?_)
 intro hc203 h
 refine AW.t I ?_
 exact lg ⟨j202, h, I, I⟩ [0, 1, 2, 3]
 intro hc203 h
 refine AW.skip ?_
 exact lg ⟨st162.1, h, I, I⟩ [0, 1, 2, 3]
 rintro s ob ⟨j193, h, rfl, rfl⟩
 unfold L.law22_SurgeApart.J5 at h
 refine AW.region (AO.q 3 I ?_)
 obtain rfl := oi h
 refine AO.nil ?_
 exact ⟨_, _, _, I, ⟨I, I⟩, ⟨I, I, I, I, I, I, I, I, J⟩, [0, 1, 2, 3], I, by decide⟩
 intro hc182 h
 obtain rfl := hb179 _ (oi h).symm
 replace h := hR178
 refine AW.exit ?_
 exact lg ⟨st162.1, h, I, I⟩ []
 rintro s ob ⟨j114, h, rfl, rfl⟩
 unfold L.law22_SurgeApart.J2 at h
 refine AW.cutX (fun s ob => ∃ (j123 : Bool), L.law22_SurgeApart.J3 j123 = some r ∧ s = [(2, .v (.bool j123))] ∧ ob = []) [] J ?_ ?_
 rcases bt ((r66.2 == 0)) with hg124 | hg124
 replace h := ife_t hg124 h
 rcases bt ((r66.2 == j114)) with hg125 | hg125
 replace h := ife_t hg125 h
 obtain ⟨r126, hx127, h⟩ := ob_some h
 refine AW.region (AO.q 3 I (AO.known 99 I hg124 (AO.q 9 I (AO.known 108 I hg125 (AO.gt I I I (AO.c (L.law22_awake_ok  _ hx127) (AO.q 2 I (AO.nil ?_))))))))
 exact lg ⟨r126, h, I, I⟩ []
 replace h := ife_f hg125 h
 refine AW.region (AO.q 3 I (AO.known 99 I hg124 (AO.q 9 I (AO.known 108 I hg125 (AO.q 3 I (AO.nil ?_))))))
 exact lg ⟨false, h, I, I⟩ []
 replace h := ife_f hg124 h
 rcases bt ((r66.2 == 15)) with hg128 | hg128
 replace h := ife_t hg128 h
 rcases bt ((r66.2 == j114)) with hg129 | hg129
 replace h := ife_t hg129 h
 obtain ⟨r130, hx131, h⟩ := ob_some h
 refine AW.region (AO.q 3 I (AO.known 99 I hg124 (AO.q 4 I (AO.known 103 I hg128 (AO.q 5 I (AO.known 108 I hg129 (AO.gt I I I (AO.c (L.law22_awake_ok  _ hx131) (AO.q 2 I (AO.nil ?_))))))))))
 exact lg ⟨r130, h, I, I⟩ []
 replace h := ife_f hg129 h
 refine AW.region (AO.q 3 I (AO.known 99 I hg124 (AO.q 4 I (AO.known 103 I hg128 (AO.q 5 I (AO.known 108 I hg129 (AO.q 3 I (AO.nil ?_))))))))
 exact lg ⟨false, h, I, I⟩ []
 replace h := ife_f hg128 h
 refine AW.region (AO.q 3 I (AO.known 99 I hg124 (AO.q 4 I (AO.known 103 I hg128 (AO.q 8 I (AO.nil ?_))))))
 exact lg ⟨false, h, I, I⟩ []
 rintro s ob ⟨j123, h, rfl, rfl⟩
 unfold L.law22_SurgeApart.J3 at h
 obtain rfl := oi h
 exact AW.ret ⟨.inr I, [_], [], ⟨I, J⟩, sl_n, I, I⟩
end Go.Proofs.YtodeekicjiengaaGreatDoor
