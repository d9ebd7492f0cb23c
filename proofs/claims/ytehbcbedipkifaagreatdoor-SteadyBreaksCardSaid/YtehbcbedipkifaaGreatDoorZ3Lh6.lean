/- Walks that show what functions of the program compute; printed by a program of ours. No condition. -/
import Derived.Test.YtehbcbedipkifaaGreatDoorZsLh2
import Derived.Test.YtehbcbedipkifaaGreatDoorZsLh3
set_option maxRecDepth 100000
namespace Go.Proofs.YtehbcbedipkifaaGreatDoor
open Go.Aw
set_option linter.unusedVariables false
set_option linter.unusedSimpArgs false
set_option maxHeartbeats 4000000
theorem L.ref19_Limit_ok (s_0 : Segment) (at_1 : Int) (r : Int) (h : L.ref19_Limit s_0 at_1 = some r) : ACalls Tryz.env 28 [.agg (Segment.row s_0), .V at_1] [] (fun x new => x = .V r ∧ new = []) := by
 refine ACalls.of_body Tryz.func28 rfl rfl rfl (fun C hC => ?_)
 unfold L.ref19_Limit at h
 refine AW.seqG (fun y1 hy1 => (AW.region (AO.act [] I (AX.box (cs := Segment.row s_0) (m := 7) I I I dS (fun b2 => (AO.q 1 I (AO.nil ?_)))))))
 subst hy1
 refine AW.z I (AW.cutX (fun s ob => ∃ (j51 : Int), L.ref19_Limit.J1 j51 = some r ∧ s = [(5, .V j51)] ∧ ob = []) [] J ?_ ?_)
 refine AW.z I (AW.block ?_)
 obtain ⟨o99, hL100, hR101⟩ := ob_some h
 clear h
 refine AW.loopX hL100 [(1, _), (2, _)] ⟨I, I, J⟩ (fun (st84 : Int × Int) s ob => s = [(5, .V st84.1), (6, .V st84.2)] ∧ ob = [.arr b2 77 7 1 [Segment.row s_0]]) ⟨I, I⟩ ⟨I, I, J⟩ ⟨[0], I, by decide⟩ ?_
 rintro st84 r103 s ob ⟨rfl, rfl⟩ h hb102
 unfold L.ref19_Limit.B2 at h
 refine AW.seqG (fun y104 hy104 => (AW.zr [.o 2 0, .l 3 (s_0.Points.length : Int)] I ⟨len_m, I, J⟩ (AW.ch h I ?_ ?_)))
 intro hc105 h
 refine AW.skip ?_
 subst hy104
 refine AW.cutX (fun s ob => ∃ (j117 : Int), L.ref19_Limit.J3 st84 j117 = some r103 ∧ s = [(5, .V j117)] ∧ ob = [.arr b2 77 7 1 [Segment.row s_0]]) [(1, _), (2, _), (6, _)] ⟨I, I, I, J⟩ ?_ ?_
 refine AW.block (AW.cutX (fun s ob => ∃ (j123 : Bool), L.ref19_Limit.J4 s_0 st84 j123 = some r103 ∧ s = [(32, .v (.bool j123))] ∧ ob = [.arr b2 77 7 1 [Segment.row s_0]]) [(1, _), (2, _), (5, _), (6, _)] ⟨I, I, I, I, J⟩ ?_ ?_)
 obtain ⟨p129, hp130, h⟩ := ob_some h
 obtain ⟨hp130i, hp130x⟩ := ix_some hp130
 refine AW.region (AO.r 10 [.o 2 0, .x 5 p129.1 (Point.row p129.2)] I ⟨⟨hp130i, map_get hp130x⟩, I, J⟩ ?_)
 rcases bt (decide (at_1 ≥ p129.2.At)) with hg131 | hg131
 replace h := ife_t hg131 h
 obtain ⟨p132, hp133, h⟩ := ob_some h
 obtain ⟨hp133i, hp133x⟩ := ix_some hp133
 refine AO.known 23 I hg131 (AO.r 9 [.o 2 0, .x 4 p132.1 (Point.row p132.2)] I ⟨⟨hp133i, map_get hp133x⟩, I, J⟩ (AO.nil ?_))
 exact lg ⟨decide (at_1 ≤ p132.2.At), h, I, I⟩ [0]
 replace h := ife_f hg131 h
 refine AO.known 23 I hg131 (AO.q 9 I (AO.nil ?_))
 exact lg ⟨false, h, I, I⟩ [0]
 rintro s ob ⟨j123, h, rfl, rfl⟩
 unfold L.ref19_Limit.J4 at h
 refine AW.ch h I ?_ ?_
 intro hc124 h
 obtain ⟨p125, hp126, h⟩ := ob_some h
 obtain ⟨hp126i, hp126x⟩ := ix_some hp126
 obtain ⟨p127, hp128, h⟩ := ob_some h
 obtain ⟨hp128i, hp128x⟩ := ix_some hp128
 refine AW.rd (pd 16 0 []) [0] [_] I (AP.r 14 [.o 2 0, .x 5 p125.1 (Point.row p125.2), .o 9 0, .x 11 p127.1 (Point.row p127.2)] I ⟨⟨hp128i, map_get hp128x⟩, I, ⟨hp126i, map_get hp126x⟩, I, J⟩ (AP.op I (Yp.minI3 I I I) I (AP.q 1 I (AP.ofAO (AO.nil ?_)))))
 exact lg ⟨(min (min st84.1 p125.2.Limit) p127.2.Limit), h, I, I⟩ [0]
 intro hc124 h
 refine AW.skip ?_
 exact lg ⟨st84.1, h, I, I⟩ [0]
 rintro s ob ⟨j117, h, rfl, rfl⟩
 unfold L.ref19_Limit.J3 at h
 refine AW.region (AO.q 3 I ?_)
 obtain rfl := oi h
 refine AO.nil ?_
 exact ⟨_, _, _, I, ⟨I, I⟩, ⟨I, I, I, I, J⟩, [0], I, by decide⟩
 intro hc105 h
 obtain rfl := hb102 _ (oi h).symm
 replace h := hR101
 refine AW.exit ?_
 exact lg ⟨st84.1, h, I, I⟩ []
 rintro s ob ⟨j51, h, rfl, rfl⟩
 unfold L.ref19_Limit.J1 at h
 refine AW.z I ?_
 obtain rfl := oi h
 exact AW.ret ⟨.inr I, [_], [], ⟨I, J⟩, sl_n, I, I⟩
theorem L.law21_SteadyBreaks_ok (l_0 : List Int) (more_1 : Int) (r : Bool) (h : L.law21_SteadyBreaks l_0 more_1 = some r) : ACalls Tryz.env 7 [.list 1 (l_0.map rI), .v (.int .u32 more_1)] [] (fun x new => x = .v (.bool r) ∧ new = []) := by
 refine ACalls.of_body Tryz.func7 rfl rfl rfl (fun C hC => ?_)
 unfold L.law21_SteadyBreaks at h
 refine AW.z I (AW.seqG (fun y2 hy2 => ?_))
 obtain ⟨r3, hx4, h⟩ := ob_some h
 refine AW.region (AO.q 1 I (AO.act [] I (AX.call0 I I I (L.keep_New_ok _ _ hx4) dS ?_)))
 rintro _ _ ⟨b5, rfl, rfl⟩
 refine AO.q 1 I (AO.nil ?_)
 subst hy2
 refine AW.seqG (fun y6 hy6 => ?_)
 obtain ⟨r7, hx8, h⟩ := ob_some h
 refine AW.region (AO.q 1 I (AO.act [0] I (AX.c0 [0] (L.law21_world_ok b5 _ _ hx8) ?_)))
 refine AO.q 6 I (AO.act [] I (AX.alloc (cs := [.v (.slice none 0 0), .v (.slice none 0 0), .v (.slice none 0 0), .v (.slice none 0 0), .V 0, .V 0]) (m := 6) I I I I I dS (fun b9 => (AO.act [] I (AX.alloc (cs := [.v (.slice none 0 0), .v (.slice none 0 0), .v (.slice none 0 0)]) (m := 3) I I I I I dS (fun b10 => (AO.act [1] I (AX.store 1 0 0 (es' := [Network.row r7.1]) I I I I I I I I (le_ble I) I I (AO.q 3 I (AO.act [2] I (AX.store 2 0 0 (es' := [Plan.row r7.2.2.2.2.1]) I I I I I I I I (le_ble I) I I (AO.nil ?_))))))))))))
 subst hy6
 refine AW.seqG (fun y11 hy11 => ?_)
 obtain ⟨r12, hx13, h⟩ := ob_some h
 refine AW.region (AO.r 5 [.o 0 1, .o 4 2] I ⟨I, I, J⟩ (AO.act [] I (AX.call0 I I I (L.steady_Solve_ok _ _ _ _ _ _ hx13) dS ?_)))
 rintro _ _ ⟨rfl, rfl⟩
 refine AO.q 3 I (AO.act [] I (AX.alloc (cs := [.v (.slice none 0 0), .v (.slice none 0 0), .v (.slice none 0 0)]) (m := 3) I I I I I dS (fun b14 => (AO.act [3] I (AX.store 3 0 0 (es' := [Pressures.row r12.1]) I I I I I I I I (le_ble I) I I (AO.q 1 I (AO.nil ?_)))))))
 subst hy11
 refine AW.seqG (fun y15 hy15 => ?_)
 obtain ⟨r16, hx17, h⟩ := ob_some h
 refine AW.region (AO.r 5 [.o 0 1, .o 4 2] I ⟨I, I, J⟩ (AO.c (L.steady_Check_ok _ _ _ _ _ _ hx17) (AO.q 3 I (AO.act [] I (AX.alloc (cs := [.V 0, .V 0, .V 0]) (m := 3) I I I I I dS (fun b18 => (AO.act [4] I (AX.store 4 0 0 (es' := [Fault.row r16.1]) I I I I I I I I (le_ble I) I I (AO.q 1 I (AO.nil ?_))))))))))
 subst hy15
 refine AW.cutX (fun s ob => ∃ (j27 : (List Int) × (List Int)) (v28 : Value) (v29 : Value), L.law21_SteadyBreaks.J1 more_1 r7 r12 r16 j27 = some r ∧ s = [(15, .v v28), (16, .v v29)] ∧ ob = [.arr b5 106 2 1 [batchlinekeep_Src.row r7.2.2.2.2.2], .arr b9 27 6 1 [Network.row r7.1], .arr b10 32 3 1 [Plan.row r7.2.2.2.2.1], .arr b14 36 3 1 [Pressures.row r12.1], .arr b18 59 3 1 [Fault.row r16.1], .us v28 3 1 (j27.1.map rI), .us v29 3 1 (j27.2.map rI)]) [(1, _), (5, _), (6, _), (10, _), (11, _), (12, _), (13, _), (14, _)] ⟨I, I, I, I, I, I, I, I, J⟩ ?_ ?_
 obtain ⟨l391, hx392, h⟩ := ob_some h
 obtain ⟨m393, hx392i, hx392m, hx392r⟩ := mk_some hx392
 obtain ⟨l395, hx396, h⟩ := ob_some h
 obtain ⟨m397, hx396i, hx396m, hx396r⟩ := mk_some hx396
 refine AW.rd (.still 0 (.still 1 (.still 2 (.still 4 (.still 5 (.still 6 (.two 3 7 (.still 8 (.act 7 (.still 9 .nil))) (.act 3 (.still 8 (.still 9 .nil)))))))))) [1] [_] I (AP.r 6 [.o 1 0, .l 2 (r7.1.Segments.length : Int), .o 4 0, .l 5 (r7.1.Segments.length : Int)] I ⟨len_m, I, len_m, I, J⟩ (AP.two ?_ ?_))
 refine AP.act [] I I I (AX.makeU (sz := 1) I I I I I I I I I I hx392i hx392m (rep_map (f := rI) hx392r I) dS (fun v394 => (AP.q 1 I (AP.act [] I I I (AX.makeU (sz := 1) I I I I I I I I I I hx396i hx396m (rep_map (f := rI) hx396r I) dS (fun v398 => (AP.q 1 I (AP.ofAO (AO.nil ?_)))))))))
 exact lg ⟨(l391, l395), v394, v398, h, I, I⟩ [0, 1, 2, 3, 4, 5, 6]
 refine AP.act [] I I I (AX.makeU (sz := 1) I I I I I I I I I I hx396i hx396m (rep_map (f := rI) hx396r I) dS (fun v398 => (AP.act [] I I I (AX.makeU (sz := 1) I I I I I I I I I I hx392i hx392m (rep_map (f := rI) hx392r I) dS (fun v394 => (AP.q 2 I (AP.ofAO (AO.nil ?_))))))))
 exact lg ⟨(l391, l395), v394, v398, h, I, I⟩ [0, 1, 2, 3, 4, 6, 5]
 rintro s ob ⟨j27, v28, v29, h, rfl, rfl⟩
 unfold L.law21_SteadyBreaks.J1 at h
 refine AW.cutX (fun s ob => ∃ (j79 : (List Int) × (List Int)), L.law21_SteadyBreaks.J2 r7 r12 r16 j79 = some r ∧ s = [] ∧ ob = [.arr b9 27 6 1 [Network.row r7.1], .arr b10 32 3 1 [Plan.row r7.2.2.2.2.1], .arr b14 36 3 1 [Pressures.row r12.1], .arr b18 59 3 1 [Fault.row r16.1], .us v28 3 1 (j79.1.map rI), .us v29 3 1 (j79.2.map rI)]) [(6, _), (10, _), (11, _), (12, _), (13, _), (14, _), (15, _), (16, _)] ⟨I, I, I, I, I, I, I, I, J⟩ ?_ ?_
 refine AW.seqG (fun y324 hy324 => (AW.region (AO.q 1 I (AO.d (Yd.lenUM 5 I I I I) I (AO.q 1 I (AO.nil ?_))))))
 subst hy324
 refine AW.block (AW.usMax 5 I (fun hm327 => ?_))
 replace hm327 : j27.1.length ≤ 9223372036854775806 := by rw [List.length_map] at hm327; omega
 obtain ⟨o371, hL372, hR373⟩ := ob_some h
 clear h
 refine AW.forJY hL372 [(1, _), (5, _), (6, _), (10, _), (11, _), (12, _), (13, _), (14, _), (15, _), (16, _), (63, _)] ⟨I, I, I, I, I, I, I, I, I, I, I, J⟩ (fun (k325 : Nat) (st357 : (List Int) × Int × (List Int) × (List Int)) s ob => s = [(64, .V (k325 : Int))] ∧ ob = [.arr b5 106 2 1 [[.list 1 (st357.1.map rI), .V st357.2.1]], .arr b9 27 6 1 [Network.row r7.1], .arr b10 32 3 1 [Plan.row r7.2.2.2.2.1], .arr b14 36 3 1 [Pressures.row r12.1], .arr b18 59 3 1 [Fault.row r16.1], .us v28 3 1 (st357.2.2.1.map rI), .us v29 3 1 (st357.2.2.2.map rI)]) ⟨I, I⟩ ⟨I, J⟩ ⟨[0, 1, 2, 3, 4, 5, 6], I, by decide⟩ ?_ ?_
 rintro k325 st357 r375 s ob hk326 ⟨rfl, rfl⟩ h
 unfold L.law21_SteadyBreaks.B9 at h
 have hk326t : decide ((k325 : Int) < (j27.1.length : Int)) = true := decide_eq_true (by omega)
 refine AW.z I (AW.seqG (fun y377 hy377 => (AW.condK (v := true) I hk326t (AW.skip ?_))))
 subst hy377
 refine AW.seq (AW.block (AW.z I (AW.seq ?_)))
 obtain ⟨r379, hx380, h⟩ := ob_some h
 obtain ⟨r381, hx382, h⟩ := ob_some h
 obtain ⟨p383, hp384, h⟩ := ob_some h
 obtain ⟨hp384i, hp384x⟩ := ix_some hp384
 refine AW.region (AO.q 3 I (AO.act [0] I (AX.c0 [0] (L.keep_Src_N_ok b5 _ _ _ hx380) ?_)))
 refine AO.q 1 I (AO.act [0] I (AX.c0 [0] (L.keep_Src_N_ok b5 _ _ _ hx382) ?_))
 refine AO.q 1 I (AO.d (Yd.indexU 5 (m := p383.1) I I I I I I I hp384i (map_get hp384x)) I (AO.act [5] I (AX.storeU 5 p383.1 0 I I I (map_get hp384x) I I I I (le_ble I) I (us_set (x := wr (r379.1 * r381.1)) I) (AO.nil ?_))))
 obtain ⟨p385, hp386, h⟩ := ob_some h
 obtain ⟨hp386i, hp386x⟩ := ix_some hp386
 obtain ⟨p387, hp388, h⟩ := ob_some h
 obtain ⟨hp388i, hp388x⟩ := ix_some hp388
 refine AW.region (AO.q 4 I (AO.d (Yd.indexU 5 (m := p385.1) I I I I I I I hp386i (map_get hp386x)) I (AO.d (Yd.loadU 5 p385.1 0 I I I (map_get hp386x) I (y := .V p385.2) I) I (AO.q 1 I (AO.p (Yp.convI (c := wr (more_1)) I I I I I) I (AO.q 1 I (AO.d (Yd.indexU 6 (m := p387.1) I I I I I I I hp388i (map_get hp388x)) I (AO.act [6] I (AX.storeU 6 p387.1 0 I I I (map_get hp388x) I I I I (le_ble I) I (us_set (x := wr (p385.2 + (wr (more_1)))) I) (AO.nil (AW.region (AO.r 2 [.k 0 (k325 + 1 : Nat)] I ⟨cast_wr hk326 hm327, J⟩ ?_))))))))))))
 obtain rfl := oi h
 refine AO.nil ?_
 exact lg ⟨I, I⟩ [0, 1, 2, 3, 4, 5, 6]
 rintro st357 s ob ⟨rfl, rfl⟩ he
 subst he
 have h := hR373
 have hk326f : decide (((j27.1.length : Nat) : Int) < (j27.1.length : Int)) = false := by simp
 refine AW.z I (AW.seqG (fun y390 hy390 => (AW.condK (v := false) I hk326f (AW.exit ?_))))
 exact lg ⟨(st357.2.2.1, st357.2.2.2), h, I, I⟩ [1, 2, 3, 4, 5, 6]
 rintro s ob ⟨j79, h, rfl, rfl⟩
 unfold L.law21_SteadyBreaks.J2 at h
 refine AW.cutX (fun s ob => ∃ (j87 : Bool), L.law21_SteadyBreaks.J3 r7 r12 r16 j79 j87 = some r ∧ s = [(19, .v (.bool j87))] ∧ ob = [.arr b9 27 6 1 [Network.row r7.1], .arr b10 32 3 1 [Plan.row r7.2.2.2.2.1], .arr b14 36 3 1 [Pressures.row r12.1], .arr b18 59 3 1 [Fault.row r16.1], .us v28 3 1 (j79.1.map rI), .us v29 3 1 (j79.2.map rI)]) [(6, _), (10, _), (11, _), (12, _), (13, _), (14, _), (15, _), (16, _)] ⟨I, I, I, I, I, I, I, I, J⟩ ?_ ?_
 obtain ⟨l317, hx318, h⟩ := ob_some h
 obtain ⟨m319, hx318i, hx318m, hx318r⟩ := mk_some hx318
 obtain ⟨r321, hx322, h⟩ := ob_some h
 refine AW.rd (.still 0 (.still 1 (.still 2 (.still 3 (.still 4 (.still 5 (.two 6 11 (.two 7 11 (.still 8 (.still 9 (.still 10 (.act 11 (.act 12 (.still 13 .nil)))))) (.act 7 (.still 8 (.still 9 (.still 10 (.act 12 (.still 13 .nil))))))) (.act 6 (.act 7 (.still 8 (.still 9 (.still 10 (.act 12 (.still 13 .nil)))))))))))))) [0, 2, 1] [_, _, _] I (AP.r 6 [.o 0 0, .o 1 1, .o 2 2, .o 4 0, .l 5 (r7.1.Segments.length : Int)] I ⟨len_m, I, I, I, I, J⟩ (AP.two ?_ ?_))
 refine AP.act [] I I I (AX.makeU (sz := 1) I I I I I I I I I I hx318i hx318m (rep_map (f := rI) hx318r I) dS (fun v320 => (AP.two ?_ ?_)))
 refine AP.act [] I I I (AX.callL I (.refl _) I I (.cons (.refl _) (.cons (.refl _) (.cons (.refl _) (.cons (.us 6 I) (.rest _))))) I (L.steady_Break_ok _ _ _ _ _ hx322) dS (by rintro _ _ ⟨rfl, _⟩; rfl) ?_)
 rintro _ ⟨_, rfl, -⟩
 refine AP.q 3 I (AP.act [] I I I (AX.alloc (cs := [.V 0, .V 0, .V 0]) (m := 3) I I I I I dS (fun b323 => (AP.act [7] I I I (AX.store 7 0 0 (es' := [Fault.row r321.1]) I I I I I I I I (le_ble I) I I (AP.q 1 I (AP.ofAO (AO.nil ?_))))))))
 exact lg ⟨r321.2, h, I, I⟩ [0, 1, 2, 3, 4, 5]
 refine AP.act [] I I I (AX.alloc (cs := [.V 0, .V 0, .V 0]) (m := 3) I I I I I dS (fun b323 => (AP.act [] I I I (AX.callL I (.refl _) I I (.cons (.refl _) (.cons (.refl _) (.cons (.refl _) (.cons (.us 6 I) (.rest _))))) I (L.steady_Break_ok _ _ _ _ _ hx322) dS (by rintro _ _ ⟨rfl, _⟩; rfl) ?_))))
 rintro _ ⟨_, rfl, -⟩
 refine AP.q 3 I (AP.act [7] I I I (AX.store 7 0 0 (es' := [Fault.row r321.1]) I I I I I I I I (le_ble I) I I (AP.q 1 I (AP.ofAO (AO.nil ?_)))))
 exact lg ⟨r321.2, h, I, I⟩ [0, 1, 2, 3, 4, 5]
 refine AP.act [] I I I (AX.alloc (cs := [.V 0, .V 0, .V 0]) (m := 3) I I I I I dS (fun b323 => (AP.act [] I I I (AX.makeU (sz := 1) I I I I I I I I I I hx318i hx318m (rep_map (f := rI) hx318r I) dS (fun v320 => (AP.act [] I I I (AX.callL I (.refl _) I I (.cons (.refl _) (.cons (.refl _) (.cons (.refl _) (.cons (.us 7 I) (.rest _))))) I (L.steady_Break_ok _ _ _ _ _ hx322) dS (by rintro _ _ ⟨rfl, _⟩; rfl) ?_)))))))
 rintro _ ⟨_, rfl, -⟩
 refine AP.q 3 I (AP.act [6] I I I (AX.store 6 0 0 (es' := [Fault.row r321.1]) I I I I I I I I (le_ble I) I I (AP.q 1 I (AP.ofAO (AO.nil ?_)))))
 exact lg ⟨r321.2, h, I, I⟩ [0, 1, 2, 3, 4, 5]
 rintro s ob ⟨j87, h, rfl, rfl⟩
 unfold L.law21_SteadyBreaks.J3 at h
 refine AW.seqG (fun y88 hy88 => ?_)
 obtain ⟨r89, hx90, h⟩ := ob_some h
 refine AW.region (AO.r 4 [.o 0 0, .o 1 2, .o 2 1] I ⟨I, I, I, J⟩ (AO.act [] I (AX.callL I (.refl _) I I (.cons (.refl _) (.cons (.refl _) (.cons (.refl _) (.cons (.us 4 I) (.rest _))))) I (L.steady_Break_ok _ _ _ _ _ hx90) dS (by rintro _ _ ⟨rfl, _⟩; rfl) ?_)))
 rintro _ ⟨_, rfl, -⟩
 refine AO.q 3 I (AO.act [] I (AX.alloc (cs := [.V 0, .V 0, .V 0]) (m := 3) I I I I I dS (fun b91 => (AO.act [6] I (AX.store 6 0 0 (es' := [Fault.row r89.1]) I I I I I I I I (le_ble I) I I (AO.q 1 I (AO.nil ?_)))))))
 subst hy88
 refine AW.seqG (fun y92 hy92 => ?_)
 obtain ⟨r93, hx94, h⟩ := ob_some h
 refine AW.region (AO.r 4 [.o 0 0, .o 1 2, .o 2 1] I ⟨I, I, I, J⟩ (AO.act [] I (AX.callL I (.refl _) I I (.cons (.refl _) (.cons (.refl _) (.cons (.refl _) (.cons (.us 5 I) (.rest _))))) I (L.steady_Break_ok _ _ _ _ _ hx94) dS (by rintro _ _ ⟨rfl, _⟩; rfl) ?_)))
 rintro _ ⟨_, rfl, -⟩
 refine AO.q 3 I (AO.act [] I (AX.alloc (cs := [.V 0, .V 0, .V 0]) (m := 3) I I I I I dS (fun b95 => (AO.act [7] I (AX.store 7 0 0 (es' := [Fault.row r93.1]) I I I I I I I I (le_ble I) I I (AO.q 1 I (AO.nil ?_)))))))
 subst hy92
 refine AW.seqG (fun y96 hy96 => (AW.cutX (fun s ob => s = [(140, .v (.bool ((r12.2 != 0) || (((r16.2 == 15) != j87) || (((r16.2 == 0) == j87) || (bif j87 then ((!r89.2) || (r89.2 && (!r93.2))) else (r89.2 && (!r93.2))))))))] ∧ ob = [.arr b9 27 6 1 [Network.row r7.1], .arr b10 32 3 1 [Plan.row r7.2.2.2.2.1], .arr b14 36 3 1 [Pressures.row r12.1], .arr b18 59 3 1 [Fault.row r16.1]]) [(6, _), (10, _), (11, _), (13, _), (19, _)] ⟨I, I, I, I, I, J⟩ ?_ ?_))
 refine AW.region (AO.q 3 I ?_)
 rcases bt ((r12.2 != 0)) with hg105 | hg105
 refine AO.known 115 I hg105 (AO.q 14 I (AO.skipU I I dS (AO.skipU I I dS (AO.q 5 I (AO.skipU I I dS (AO.skipU I I dS (AO.q 2 I (AO.nil ?_))))))))
 exact lf ⟨I, I⟩ ⟨(get_b (by simp only [hg105, bz])), I, I, I, I, I, J⟩ [0, 1, 2, 3] I
 refine AO.known 115 I hg105 (AO.q 3 I (AO.gt I I I (AO.p (Yp.neqB I I I I) I (AO.q 2 I ?_))))
 rcases bt (((r16.2 == 15) != j87)) with hg106 | hg106
 refine AO.known 121 I hg106 (AO.q 8 I (AO.skipU I I dS (AO.skipU I I dS (AO.q 5 I (AO.skipU I I dS (AO.skipU I I dS (AO.q 2 I (AO.nil ?_))))))))
 exact lf ⟨I, I⟩ ⟨(get_b (by simp only [hg105, hg106, bz])), I, I, I, I, I, J⟩ [0, 1, 2, 3] I
 refine AO.known 121 I hg106 (AO.q 3 I (AO.gt I I I (AO.p (Yp.eqB I I I I) I (AO.q 2 I ?_))))
 rcases bt (((r16.2 == 0) == j87)) with hg107 | hg107
 refine AO.known 127 I hg107 (AO.q 2 I (AO.skipU I I dS (AO.skipU I I dS (AO.q 5 I (AO.skipU I I dS (AO.skipU I I dS (AO.q 2 I (AO.nil ?_))))))))
 exact lf ⟨I, I⟩ ⟨(get_b (by simp only [hg105, hg106, hg107, bz])), I, I, I, I, I, J⟩ [0, 1, 2, 3] I
 refine AO.known 127 I hg107 (AO.q 2 I ?_)
 rcases bt (j87) with hg108 | hg108
 refine AO.known 129 I hg108 (AO.q 5 I ?_)
 rcases bt ((!r89.2)) with hg109 | hg109
 refine AO.known 134 I hg109 (AO.q 2 I (AO.skipU I I dS (AO.skipU I I dS (AO.q 2 I (AO.nil ?_)))))
 exact lf ⟨I, I⟩ ⟨(get_b (by (try simp only [hg106, hg107]); (try simp only [hg105, hg106, hg107, hg108, hg109, bz]))), I, I, I, I, I, J⟩ [0, 1, 2, 3] I
 refine AO.known 134 I hg109 (AO.q 2 I ?_)
 rcases bt (r89.2) with hg110 | hg110
 refine AO.known 136 I hg110 (AO.q 4 I (AO.nil ?_))
 exact lf ⟨I, I⟩ ⟨(get_b (by (try simp only [hg106, hg107, hg109]); (try simp only [hg105, hg106, hg107, hg108, hg109, hg110, bz]))), I, I, I, I, I, J⟩ [0, 1, 2, 3] I
 refine AO.known 136 I hg110 (AO.q 4 I (AO.nil ?_))
 exact lf ⟨I, I⟩ ⟨(get_b (by (try simp only [hg106, hg107, hg109]); (try simp only [hg105, hg106, hg107, hg108, hg109, hg110, bz]))), I, I, I, I, I, J⟩ [0, 1, 2, 3] I
 refine AO.known 129 I hg108 (AO.q 7 I ?_)
 rcases bt (r89.2) with hg111 | hg111
 refine AO.known 136 I hg111 (AO.q 4 I (AO.nil ?_))
 exact lf ⟨I, I⟩ ⟨(get_b (by (try simp only [hg106, hg107]); (try simp only [hg105, hg106, hg107, hg108, hg111, bz]))), I, I, I, I, I, J⟩ [0, 1, 2, 3] I
 refine AO.known 136 I hg111 (AO.q 4 I (AO.nil ?_))
 exact lf ⟨I, I⟩ ⟨(get_b (by (try simp only [hg106, hg107]); (try simp only [hg105, hg106, hg107, hg108, hg111, bz]))), I, I, I, I, I, J⟩ [0, 1, 2, 3] I
 rintro s ob ⟨rfl, rfl⟩
 refine AW.ch h I ?_ ?_
 intro hc112 h
 refine AW.z I (AW.ghost (Ghost.pick [] (K := []) I (by decide)) ?_)
 obtain rfl := oi h
 exact AW.ret ⟨.inr I, [_], [], ⟨I, J⟩, sl_n, I, I⟩
 intro hc112 h
 refine AW.skip ?_
 subst hy96
 refine AW.seqG (fun y113 hy113 => (AW.z I (AW.ch h I ?_ ?_)))
 intro hc114 h
 refine AW.cutX (fun s ob => ∃ (j118 : Bool), L.law21_SteadyBreaks.J4 j118 = some r ∧ s = [(4, .v (.bool j118))] ∧ ob = []) [] J ?_ ?_
 refine AW.region (AO.r 1 [.o 0 3] I ⟨I, J⟩ (AO.p (Yp.buildP (l := [.V 0, .V 0, .V 0]) Tryz.bld59 I) I (AO.p (Yp.eqStruct (r := ((r16.1.Kind == 0) && ((r16.1.Index == 0) && ((r16.1.At == 0) && true)))) I I Tryz.eq59 I I I I) I (AO.q 1 I ?_))))
 rcases bt (((r16.1.Kind == 0) && ((r16.1.Index == 0) && ((r16.1.At == 0) && true)))) with hg119 | hg119
 replace h := ife_t hg119 h
 obtain ⟨r120, hx121, h⟩ := ob_some h
 refine AO.known 146 I hg119 (AO.gt I I I (AO.c (L.law21_awake_ok  _ hx121) (AO.q 2 I (AO.nil ?_))))
 exact lg ⟨r120, h, I, I⟩ []
 replace h := ife_f hg119 h
 refine AO.known 146 I hg119 (AO.q 3 I (AO.nil ?_))
 exact lg ⟨false, h, I, I⟩ []
 rintro s ob ⟨j118, h, rfl, rfl⟩
 unfold L.law21_SteadyBreaks.J4 at h
 obtain rfl := oi h
 exact AW.ret ⟨.inr I, [_], [], ⟨I, J⟩, sl_n, I, I⟩
 intro hc114 h
 refine AW.skip ?_
 subst hy113
 refine AW.seqG (fun y122 hy122 => (AW.zr [.o 1 3] I ⟨I, J⟩ (AW.ch h I ?_ ?_)))
 intro hc124 h
 refine AW.cutX (fun s ob => ∃ (j137 : Bool), L.law21_SteadyBreaks.J5 j137 = some r ∧ s = [(4, .v (.bool j137))] ∧ ob = []) [] J ?_ ?_
 rcases bt (decide (r16.1.Index ≥ 0)) with hg138 | hg138
 replace h := ife_t hg138 h
 rcases bt (decide (r16.1.Index < (r7.1.Stations.length : Int))) with hg139 | hg139
 replace h := ife_t hg139 h
 obtain ⟨p140, hp141, h⟩ := ob_some h
 obtain ⟨hp141i, hp141x⟩ := ix_some hp141
 rcases bt (p140.2) with hg142 | hg142
 replace h := ife_t hg142 h
 obtain ⟨p143, hp144, h⟩ := ob_some h
 obtain ⟨hp144i, hp144x⟩ := ix_some hp144
 obtain ⟨p145, hp146, h⟩ := ob_some h
 obtain ⟨hp146i, hp146x⟩ := ix_some hp146
 refine AW.rd (pd 45 0 [42]) [3, 0, 1, 2] [_, _, _, _] I (AP.r 4 [.o 1 0] I ⟨I, J⟩ (AP.known 155 I hg138 (AP.r 8 [.o 1 0, .o 3 1, .l 4 (r7.1.Stations.length : Int)] I ⟨len_m, I, I, J⟩ (AP.known 163 I hg139 (AP.r 8 [.o 1 2, .o 3 0, .x 4 p140.1 (rB p140.2)] I ⟨⟨hp141i, map_get hp141x⟩, I, I, J⟩ (AP.known 171 I hg142 (AP.r 22 [.o 1 3, .o 3 1, .o 5 0, .x 6 p143.1 (Station.row p143.2), .x 9 p145.1 (Bounds.row p145.2), .o 13 1, .o 15 0, .x 16 p143.1 (Station.row p143.2)] I ⟨⟨hp144i, map_get hp144x⟩, I, I, ⟨hp146i, map_get hp146x⟩, ⟨hp144i, map_get hp144x⟩, I, I, I, J⟩ ?_)))))))
 rcases bt (decide (p145.2.Low < p143.2.Suction)) with hg147 | hg147
 replace h := ife_t hg147 h
 obtain ⟨r148, hx149, h⟩ := ob_some h
 refine AP.known 193 I hg147 (AP.cG I (L.law21_awake_ok  _ hx149) (AP.q 2 I (AP.ofAO (AO.nil ?_))))
 exact lg ⟨r148, h, I, I⟩ []
 replace h := ife_f hg147 h
 refine AP.known 193 I hg147 (AP.q 3 I (AP.ofAO (AO.nil ?_)))
 exact lg ⟨false, h, I, I⟩ []
 replace h := ife_f hg142 h
 refine AW.rd (pd 45 0 [42]) [3, 0, 1] [_, _, _] I (AP.r 4 [.o 1 0] I ⟨I, J⟩ (AP.known 155 I hg138 (AP.r 8 [.o 1 0, .o 3 1, .l 4 (r7.1.Stations.length : Int)] I ⟨len_m, I, I, J⟩ (AP.known 163 I hg139 (AP.r 8 [.o 1 2, .o 3 0, .x 4 p140.1 (rB p140.2)] I ⟨⟨hp141i, map_get hp141x⟩, I, I, J⟩ (AP.known 171 I hg142 (AP.q 25 I (AP.ofAO (AO.nil ?_)))))))))
 exact lg ⟨false, h, I, I⟩ []
 replace h := ife_f hg139 h
 refine AW.rd (pd 45 0 [42]) [3, 0] [_, _] I (AP.r 4 [.o 1 0] I ⟨I, J⟩ (AP.known 155 I hg138 (AP.r 8 [.o 1 0, .o 3 1, .l 4 (r7.1.Stations.length : Int)] I ⟨len_m, I, I, J⟩ (AP.known 163 I hg139 (AP.q 33 I (AP.ofAO (AO.nil ?_)))))))
 exact lg ⟨false, h, I, I⟩ []
 replace h := ife_f hg138 h
 refine AW.rd (pd 45 0 [42]) [3] [_] I (AP.r 4 [.o 1 0] I ⟨I, J⟩ (AP.known 155 I hg138 (AP.q 41 I (AP.ofAO (AO.nil ?_)))))
 exact lg ⟨false, h, I, I⟩ []
 rintro s ob ⟨j137, h, rfl, rfl⟩
 unfold L.law21_SteadyBreaks.J5 at h
 obtain rfl := oi h
 exact AW.ret ⟨.inr I, [_], [], ⟨I, J⟩, sl_n, I, I⟩
 intro hc124 h
 refine AW.skip ?_
 subst hy122
 refine AW.seqG (fun y150 hy150 => (AW.cutX (fun s ob => s = [(206, .v (.bool (decide (r16.1.Index < 0) || decide (r16.1.Index ≥ (r7.1.Segments.length : Int)))))] ∧ ob = [.arr b9 27 6 1 [Network.row r7.1], .arr b14 36 3 1 [Pressures.row r12.1], .arr b18 59 3 1 [Fault.row r16.1]]) [(6, _), (11, _), (13, _)] ⟨I, I, I, J⟩ ?_ ?_))
 refine AW.region (AO.r 4 [.o 1 3] I ⟨I, J⟩ ?_)
 rcases bt (decide (r16.1.Index < 0)) with hg153 | hg153
 refine AO.known 199 I hg153 (AO.q 7 I (AO.nil ?_))
 exact lf ⟨I, I⟩ ⟨(get_b (by simp only [hg153, bz])), I, I, I, J⟩ [0, 2, 3] I
 refine AO.known 199 I hg153 (AO.r 7 [.o 1 3, .o 3 0, .l 4 (r7.1.Segments.length : Int)] I ⟨len_m, I, I, J⟩ (AO.nil ?_))
 exact lf ⟨I, I⟩ ⟨(get_b (by simp only [hg153, bz])), I, I, I, J⟩ [0, 2, 3] I
 rintro s ob ⟨rfl, rfl⟩
 refine AW.ch h I ?_ ?_
 intro hc154 h
 refine AW.z I (AW.ghost (Ghost.pick [] (K := []) I (by decide)) ?_)
 obtain rfl := oi h
 exact AW.ret ⟨.inr I, [_], [], ⟨I, J⟩, sl_n, I, I⟩
 intro hc154 h
 refine AW.skip ?_
 subst hy150
 refine AW.cutX (fun s ob => ∃ (j213 : Unit), L.law21_SteadyBreaks.J6 j213 = some r ∧ s = [] ∧ ob = []) [] J ?_ ?_
 refine AW.seqG (fun y214 hy214 => ?_)
 obtain ⟨p215, hp216, h⟩ := ob_some h
 obtain ⟨hp216i, hp216x⟩ := ix_some hp216
 refine AW.tr [.o 1 1, .o 3 2, .x 4 p215.1 ((rL 3 Level.row) p215.2), .l 6 (p215.2.length : Int)] I ⟨len_m, ⟨hp216i, map_get hp216x⟩, I, I, J⟩ ?_
 subst hy214
 refine AW.block (AW.listMax 212 I (fun hm219 => ?_))
 replace hm219 : p215.2.length ≤ 9223372036854775806 := by rw [List.length_map] at hm219; omega
 obtain ⟨o270, hL271, hR272⟩ := ob_some h
 clear h
 refine AW.forX hL271 [(6, _), (13, _), (212, _), (213, _)] ⟨I, I, I, I, J⟩ (fun (k217 : Nat) (st246 : Unit) s ob => s = [(214, .V (k217 : Int))] ∧ ob = [.arr b9 27 6 1 [Network.row r7.1], .arr b18 59 3 1 [Fault.row r16.1]]) ⟨I, I⟩ ⟨I, J⟩ ⟨[0, 2], I, by decide⟩ ?_ ?_
 rintro k217 x220 st246 r274 s ob hx221 hk218 ⟨rfl, rfl⟩ h hb273
 unfold L.law21_SteadyBreaks.B7 at h
 have hk218t : decide ((k217 : Int) < (p215.2.length : Int)) = true := decide_eq_true (by omega)
 refine AW.z I (AW.seqG (fun y276 hy276 => (AW.condK (v := true) I hk218t (AW.skip ?_))))
 subst hy276
 refine AW.seq (AW.block (AW.seqG (fun y277 hy277 => (AW.region (AO.r 2 [.x 0 k217 (Level.row x220)] I ⟨⟨I, map_get hx221⟩, J⟩ (AO.act [] I (AX.alloc (cs := [.V 0, .V 0, .V 0]) (m := 3) I I I I I dS (fun b278 => (AO.act [2] I (AX.store 2 0 0 (es' := [Level.row x220]) I I I I I I I I (le_ble I) I I (AO.nil ?_)))))))))))
 subst hy277
 refine AW.zr [.o 1 2, .o 3 1] I ⟨I, I, J⟩ (AW.ch h I ?_ ?_)
 intro hc280 h
 refine AW.cutX (fun s ob => ∃ (j297 : Bool), L.law21_SteadyBreaks.J8 j297 = some r274 ∧ s = [(4, .v (.bool j297))] ∧ ob = []) [] J ?_ ?_
 rcases bt ((r16.1.Kind == 1)) with hg298 | hg298
 replace h := ife_t hg298 h
 obtain ⟨p299, hp300, h⟩ := ob_some h
 obtain ⟨hp300i, hp300x⟩ := ix_some hp300
 obtain ⟨r301, hx302, h⟩ := ob_some h
 refine AW.rd (pd 35 0 [15, 32]) [1, 2, 0] [_, _, _] I (AP.r 4 [.o 1 0] I ⟨I, J⟩ (AP.known 226 I hg298 (AP.r 11 [.o 2 1, .o 4 2, .o 6 0, .x 7 p299.1 (Segment.row p299.2), .o 10 1] I ⟨I, ⟨hp300i, map_get hp300x⟩, I, I, I, J⟩ (AP.cG I (L.ref19_Limit_ok _ _ _ hx302) (AP.q 3 I ?_)))))
 rcases bt (decide (x220.Bounds.High > r301)) with hg303 | hg303
 replace h := ife_t hg303 h
 obtain ⟨r304, hx305, h⟩ := ob_some h
 refine AP.known 241 I hg303 (AP.q 4 I (AP.skipU I I I I dS (AP.skipU I I I I dS (AP.skipU I I I I dS (AP.skipU I I I I dS (AP.skipU I I I I dS (AP.skipU I I I I dS (AP.q 3 I (AP.cG I (L.law21_awake_ok  _ hx305) (AP.q 2 I (AP.ofAO (AO.nil ?_))))))))))))
 exact lg ⟨r304, h, I, I⟩ []
 replace h := ife_f hg303 h
 refine AP.known 241 I hg303 (AP.r 4 [.o 1 0] I ⟨I, J⟩ ?_)
 rcases bt ((r16.1.Kind == 2)) with hg306 | hg306
 replace h := ife_t hg306 h
 refine AP.known 245 I hg306 (AP.r 9 [.o 2 1, .o 4 2] I ⟨I, I, J⟩ ?_)
 rcases bt (decide (x220.Bounds.Low < r7.1.Vapour)) with hg307 | hg307
 replace h := ife_t hg307 h
 obtain ⟨r308, hx309, h⟩ := ob_some h
 refine AP.known 254 I hg307 (AP.cG I (L.law21_awake_ok  _ hx309) (AP.q 2 I (AP.ofAO (AO.nil ?_))))
 exact lg ⟨r308, h, I, I⟩ []
 replace h := ife_f hg307 h
 refine AP.known 254 I hg307 (AP.q 3 I (AP.ofAO (AO.nil ?_)))
 exact lg ⟨false, h, I, I⟩ []
 replace h := ife_f hg306 h
 refine AP.known 245 I hg306 (AP.q 12 I (AP.ofAO (AO.nil ?_)))
 exact lg ⟨false, h, I, I⟩ []
 replace h := ife_f hg298 h
 rcases bt ((r16.1.Kind == 2)) with hg310 | hg310
 replace h := ife_t hg310 h
 refine AW.rd (pd 35 0 [15, 32]) [1, 2, 0] [_, _, _] I (AP.r 4 [.o 1 0] I ⟨I, J⟩ (AP.known 226 I hg298 (AP.r 19 [.o 16 0] I ⟨I, J⟩ (AP.known 245 I hg310 (AP.r 9 [.o 2 1, .o 4 2] I ⟨I, I, J⟩ ?_)))))
 rcases bt (decide (x220.Bounds.Low < r7.1.Vapour)) with hg311 | hg311
 replace h := ife_t hg311 h
 obtain ⟨r312, hx313, h⟩ := ob_some h
 refine AP.known 254 I hg311 (AP.cG I (L.law21_awake_ok  _ hx313) (AP.q 2 I (AP.ofAO (AO.nil ?_))))
 exact lg ⟨r312, h, I, I⟩ []
 replace h := ife_f hg311 h
 refine AP.known 254 I hg311 (AP.q 3 I (AP.ofAO (AO.nil ?_)))
 exact lg ⟨false, h, I, I⟩ []
 replace h := ife_f hg310 h
 refine AW.rd (pd 35 0 [15, 32]) [1] [_] I (AP.r 4 [.o 1 0] I ⟨I, J⟩ (AP.known 226 I hg298 (AP.r 19 [.o 16 0] I ⟨I, J⟩ (AP.known 245 I hg310 (AP.q 12 I (AP.ofAO (AO.nil ?_)))))))
 exact lg ⟨false, h, I, I⟩ []
 rintro s ob ⟨j297, h, rfl, rfl⟩
 unfold L.law21_SteadyBreaks.J8 at h
 obtain rfl := hb273 _ (oi h).symm
 replace h := hR272
 replace h := se_r h
 obtain rfl := oi h
 exact AW.ret ⟨.inr I, [_], [], ⟨I, J⟩, sl_n, I, I⟩
 intro hc280 h
 refine AW.skip (AW.region (AO.r 2 [.k 0 (k217 + 1 : Nat)] I ⟨cast_wr hk218 hm219, J⟩ ?_))
 obtain rfl := oi h
 refine AO.nil ?_
 exact ⟨_, _, _, I, ⟨I, I⟩, ⟨I, I, I, I, I, J⟩, [0, 1], I, by decide⟩
 rintro st246 s ob ⟨rfl, rfl⟩ he
 subst he
 have h := se_l hR272
 have hk218f : decide (((p215.2.length : Nat) : Int) < (p215.2.length : Int)) = false := by simp
 refine AW.z I (AW.seqG (fun y315 hy315 => (AW.condK (v := false) I hk218f (AW.exit ?_))))
 exact lg ⟨(), h, I, I⟩ []
 rintro s ob ⟨j213, h, rfl, rfl⟩
 unfold L.law21_SteadyBreaks.J6 at h
 refine AW.z I ?_
 obtain rfl := oi h
 exact AW.ret ⟨.inr I, [_], [], ⟨I, J⟩, sl_n, I, I⟩
end Go.Proofs.YtehbcbedipkifaaGreatDoor
