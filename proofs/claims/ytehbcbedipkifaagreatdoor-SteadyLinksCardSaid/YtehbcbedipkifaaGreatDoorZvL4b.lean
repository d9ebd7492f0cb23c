/- Walks that show what functions of the program compute; printed by a program of ours. No condition. -/
import Derived.Test.YtehbcbedipkifaaGreatDoorZvL4
set_option maxRecDepth 100000
namespace Go.Proofs.YtehbcbedipkifaaGreatDoor
open Go.Aw
set_option linter.unusedVariables false
set_option linter.unusedSimpArgs false
set_option maxHeartbeats 4000000
theorem L.zff_ok (n_0 : Int) (r : Int) (h : L.zff n_0 = r) : ACalls Tryz.env 72 [.V n_0] [] (fun x new => x = .V r ∧ new = []) := by
 refine ACalls.of_body Tryz.func72 rfl rfl rfl (fun C hC => ?_)
 unfold L.zff at h
 refine AW.z I (AW.z I ?_)
 obtain rfl := h
 exact AW.ret pr
theorem L.zct_ok (p_0 : Plan) (r : Plan) (h : L.zct p_0 = some r) : ACalls Tryz.env 73 [.agg (Plan.row p_0)] [] (fun x new => x = .agg (Plan.row r) ∧ new = []) := by
 refine ACalls.of_body Tryz.func73 rfl rfl rfl (fun C hC => ?_)
 unfold L.zct at h
 refine AW.seqG (fun y1 hy1 => (AW.region (AO.act [] I (AX.box (cs := Plan.row p_0) (m := 3) I I I dS (fun b2 => (AO.act [] I (AX.alloc (cs := [.v (.slice none 0 0), .v (.slice none 0 0), .v (.slice none 0 0)]) (m := 3) I I I I I dS (fun b3 => (AO.nil ?_)))))))))
 subst hy1
 refine AW.seqG (fun y4 hy4 => ?_)
 obtain ⟨l6, hx7, h⟩ := ob_some h
 refine AW.region (AO.act [] I (AX.buildSlice (sz := 1) (es := ([] : List Bool).map rB) I I I I I I I I I I I dS (fun v5 => (AO.r 2 [.o 1 0] I ⟨I, J⟩ (AO.act [2] I (AX.ap 2 I hx7 (fun v8 => (AO.one 2 I (fun v8o => (AO.p (Yp.buildP (l := [.v (.slice none 0 0), .v (.slice none 0 0), .v v8]) Tryz.bld32 (fill_step I I (cells_v v8o) I (fill_nil))) I (AO.act [] I (AX.alloc (cs := [.v (.slice none 0 0), .v (.slice none 0 0), .v (.slice none 0 0)]) (m := 3) I I I I I dS (fun b9 => (AO.act [3] I (AX.store 3 0 0 (es' := [[.v (.slice none 0 0), .v (.slice none 0 0), .v v8]]) I I I I I I I I (le_ble I) I I (AO.nil ?_))))))))))))))))
 subst hy4
 refine AW.cutX (fun s ob => ∃ (j44 : List Int) (v45 : Value), L.zct.J1 p_0 l6 j44 = some r ∧ s = [] ∧ ob = [.arr b2 32 3 1 [Plan.row p_0], .arr b3 32 3 1 [[.v (.slice none 0 0), .v (.slice none 0 0), .v (.slice none 0 0)]], .us v8 4 1 (l6.map rB), .arr b9 32 3 1 [[.v v45, .v (.slice none 0 0), .v v8]], .us v45 3 1 (j44.map rI)]) [(1, _), (2, _), (3, _)] ⟨I, I, I, J⟩ ?_ ?_
 refine AW.zr [.o 1 0, .l 2 (p_0.Rates.length : Int)] I ⟨len_m, I, J⟩ (AW.block (AW.listMax 12 I (fun hm131 => ?_)))
 replace hm131 : p_0.Rates.length ≤ 9223372036854775806 := by rw [List.length_map] at hm131; omega
 refine AW.ghost (Ghost.nilU 3 1) ?_
 obtain ⟨o160, hL161, hR162⟩ := ob_some h
 clear h
 refine AW.forY hL161 [(1, _), (2, _), (3, _), (13, _)] ⟨I, I, I, I, J⟩ (fun (k129 : Nat) (st151 : List Int) s ob => ∃ (v152 : Value), s = [(14, .V (k129 : Int))] ∧ ob = [.arr b2 32 3 1 [Plan.row p_0], .arr b3 32 3 1 [[.v (.slice none 0 0), .v (.slice none 0 0), .v (.slice none 0 0)]], .us v8 4 1 (l6.map rB), .arr b9 32 3 1 [[.v v152, .v (.slice none 0 0), .v v8]], .us v152 3 1 (st151.map rI)]) ⟨(.slice none 0 0), I, I⟩ ⟨I, J⟩ ⟨[0, 1, 2, 3, 4], I, by decide⟩ ?_ ?_
 rintro k129 x132 st151 r164 s ob hx133 hk130 ⟨v152, rfl, rfl⟩ h
 unfold L.zct.B4 at h
 have hk130t : decide ((k129 : Int) < (p_0.Rates.length : Int)) = true := decide_eq_true (by omega)
 refine AW.z I (AW.seqG (fun y166 hy166 => (AW.condK (v := true) I hk130t (AW.skip ?_))))
 subst hy166
 refine AW.seq (AW.block (AW.z I ?_))
 obtain ⟨l169, hx170, h⟩ := ob_some h
 refine AW.rd (.still 0 (.still 1 (.still 2 (.still 3 (.still 4 (.still 5 (.still 6 (.still 7 (.act 8 (.act 9 (.still 10 (.drop 11 .nil)))))))))))) [3, 0] [_, _] I (AP.r 8 [.o 1 0, .o 3 1, .x 5 k129 (rI x132)] I ⟨⟨I, map_get hx133⟩, I, I, J⟩ (AP.act [] I I I (AX.lt 1 (([wr (0 - x132)] : List Int).map rI) (AP.act [4] I I I (AX.ap 4 I hx170 (fun v171 => (AP.q 1 I (AP.one 4 I (fun v171o => (AP.drop [3] I I I (AX.store 3 0 0 (es' := [[.v v171, .v (.slice none 0 0), .v v8]]) I I I I I I (cells_v v171o) I (le_ble I) I I (AP.ofAO (AO.nil (AW.region (AO.r 2 [.k 0 (k129 + 1 : Nat)] I ⟨cast_wr hk130 hm131, J⟩ ?_)))))))))))))))
 obtain rfl := oi h
 refine AO.nil ?_
 exact lg ⟨v171, I, I⟩ [0, 1, 2, 3, 4]
 rintro st151 s ob ⟨v152, rfl, rfl⟩ he
 subst he
 have h := hR162
 have hk130f : decide (((p_0.Rates.length : Nat) : Int) < (p_0.Rates.length : Int)) = false := by simp
 refine AW.z I (AW.seqG (fun y173 hy173 => (AW.condK (v := false) I hk130f (AW.exit ?_))))
 exact lg ⟨st151, v152, h, I, I⟩ [0, 1, 2, 3, 4]
 rintro s ob ⟨j44, v45, h, rfl, rfl⟩
 unfold L.zct.J1 at h
 refine AW.cutX (fun s ob => ∃ (j80 : List Int) (v81 : Value), L.zct.J2 l6 j44 j80 = some r ∧ s = [] ∧ ob = [.arr b3 32 3 1 [[.v (.slice none 0 0), .v (.slice none 0 0), .v (.slice none 0 0)]], .us v8 4 1 (l6.map rB), .arr b9 32 3 1 [[.v v45, .v v81, .v v8]], .us v45 3 1 (j44.map rI), .us v81 3 1 (j80.map rI)]) [(2, _), (3, _)] ⟨I, I, J⟩ ?_ ?_
 refine AW.zr [.o 1 0, .l 2 (p_0.Ports.length : Int)] I ⟨len_m, I, J⟩ (AW.block (AW.listMax 30 I (fun hm85 => ?_)))
 replace hm85 : p_0.Ports.length ≤ 9223372036854775806 := by rw [List.length_map] at hm85; omega
 refine AW.ghost (Ghost.nilU 3 1) ?_
 obtain ⟨o114, hL115, hR116⟩ := ob_some h
 clear h
 refine AW.forY hL115 [(1, _), (2, _), (3, _), (31, _)] ⟨I, I, I, I, J⟩ (fun (k83 : Nat) (st105 : List Int) s ob => ∃ (v106 : Value), s = [(32, .V (k83 : Int))] ∧ ob = [.arr b2 32 3 1 [Plan.row p_0], .arr b3 32 3 1 [[.v (.slice none 0 0), .v (.slice none 0 0), .v (.slice none 0 0)]], .us v8 4 1 (l6.map rB), .arr b9 32 3 1 [[.v v45, .v v106, .v v8]], .us v45 3 1 (j44.map rI), .us v106 3 1 (st105.map rI)]) ⟨(.slice none 0 0), I, I⟩ ⟨I, J⟩ ⟨[0, 1, 2, 3, 4, 5], I, by decide⟩ ?_ ?_
 rintro k83 x86 st105 r118 s ob hx87 hk84 ⟨v106, rfl, rfl⟩ h
 unfold L.zct.B3 at h
 have hk84t : decide ((k83 : Int) < (p_0.Ports.length : Int)) = true := decide_eq_true (by omega)
 refine AW.z I (AW.seqG (fun y120 hy120 => (AW.condK (v := true) I hk84t (AW.skip ?_))))
 subst hy120
 refine AW.seq (AW.block (AW.z I ?_))
 obtain ⟨l123, hx124, h⟩ := ob_some h
 refine AW.rd (.still 0 (.still 1 (.still 2 (.still 3 (.still 4 (.still 5 (.still 6 (.still 7 (.act 8 (.act 9 (.still 10 (.drop 11 .nil)))))))))))) [3, 0] [_, _] I (AP.r 8 [.o 1 0, .o 3 1, .x 5 k83 (rI x86)] I ⟨⟨I, map_get hx87⟩, I, I, J⟩ (AP.act [] I I I (AX.lt 1 (([wr (0 - x86)] : List Int).map rI) (AP.act [5] I I I (AX.ap 5 I hx124 (fun v125 => (AP.q 1 I (AP.one 5 I (fun v125o => (AP.drop [3] I I I (AX.store 3 0 1 (es' := [[.v v45, .v v125, .v v8]]) I I I I I I (cells_v v125o) I (le_ble I) I I (AP.ofAO (AO.nil (AW.region (AO.r 2 [.k 0 (k83 + 1 : Nat)] I ⟨cast_wr hk84 hm85, J⟩ ?_)))))))))))))))
 obtain rfl := oi h
 refine AO.nil ?_
 exact lg ⟨v125, I, I⟩ [0, 1, 2, 3, 4, 5]
 rintro st105 s ob ⟨v106, rfl, rfl⟩ he
 subst he
 have h := hR116
 have hk84f : decide (((p_0.Ports.length : Nat) : Int) < (p_0.Ports.length : Int)) = false := by simp
 refine AW.z I (AW.seqG (fun y127 hy127 => (AW.condK (v := false) I hk84f (AW.exit ?_))))
 exact lg ⟨st105, v106, h, I, I⟩ [1, 2, 3, 4, 5]
 rintro s ob ⟨j80, v81, h, rfl, rfl⟩
 unfold L.zct.J2 at h
 refine AW.seq (AW.region (AO.r 1 [.o 0 2] I ⟨I, J⟩ (AO.act [0] I (AX.store 0 0 0 (es' := [[.v v45, .v v81, .v v8]]) I I I I I I I I (le_ble I) I I (AO.nil (AW.ghost (Ghost.freeze [1, 3, 4] (K := [.us v8 4 1 (l6.map rB), .us v45 3 1 (j44.map rI), .us v81 3 1 (j80.map rI)]) I [(47, .agg [.list 1 (j44.map rI), .list 1 (j80.map rI), .list 1 (l6.map rB)])] ⟨⟨_, I, .agg (.cons (.us 1 I) (.cons (.us 2 I) (.cons (.us 0 I) (.rest _))))⟩, J⟩ (ob' := [.arr b3 32 3 1 [[.list 1 (j44.map rI), .list 1 (j80.map rI), .list 1 (l6.map rB)]], .arr b9 32 3 1 [[.list 1 (j44.map rI), .list 1 (j80.map rI), .list 1 (l6.map rB)]]]) (.cons (.arr (.cons (.us 1 I) (.cons (.us 2 I) (.cons (.us 0 I) (.rest _))))) (.cons (.arr (.cons (.us 1 I) (.cons (.us 2 I) (.cons (.us 0 I) (.rest _))))) (.rest _)))) (AW.ghost (Ghost.pick [0] (K := [.arr b3 32 3 1 [[.list 1 (j44.map rI), .list 1 (j80.map rI), .list 1 (l6.map rB)]]]) I (by decide)) ?_)))))))
 obtain rfl := oi h
 exact AW.ret ⟨.inr I, [_], [], ⟨⟨0, _, _, _, _, _, _, _, I, I, I, I, I⟩, J⟩, sl_n, I, I⟩
theorem L.zac_ok (b0 : Nat) (s_0 : KS) (n_1 : Network) (r : Plan × KS) (h : L.zac s_0 n_1 = some r) : ACalls Tryz.env 38 [.v (.pointer (some ⟨b0, 0, none⟩)), .agg (Network.row n_1)] [.arr b0 106 2 1 [KS.row s_0]] (Gives 1 (fun x os new => x = .agg (Plan.row r.1) ∧ os = [.arr b0 106 2 1 [KS.row r.2]] ∧ new = [])) := by
 refine ACalls.of_body Tryz.func38 rfl rfl rfl (fun C hC => ?_)
 unfold L.zac at h
 refine AW.seqG (fun y1 hy1 => (AW.region (AO.act [] I (AX.box (cs := Network.row n_1) (m := 6) I I I dS (fun b2 => (AO.act [] I (AX.alloc (cs := [.v (.slice none 0 0), .v (.slice none 0 0), .v (.slice none 0 0)]) (m := 3) I I I I I dS (fun b3 => (AO.nil ?_)))))))))
 subst hy1
 refine AW.cutX (fun s ob => ∃ (j13 : (List Int) × (List Int)) (b14 : Nat) (v15 : Value) (v16 : Value), L.zac.J1 s_0 n_1 j13 = some r ∧ s = [(5, .v (.pointer (some ⟨b14, 0, none⟩)))] ∧ ob = [.arr b0 106 2 1 [KS.row s_0], .arr b2 27 6 1 [Network.row n_1], .arr b3 32 3 1 [[.v (.slice none 0 0), .v (.slice none 0 0), .v (.slice none 0 0)]], .us v15 3 1 (j13.1.map rI), .us v16 3 1 (j13.2.map rI), .arr b14 32 3 1 [[.v v15, .v v16, .v (.slice none 0 0)]]]) [(0, _), (3, _), (4, _)] ⟨I, I, I, J⟩ ?_ ?_
 obtain ⟨l5641, hx5642, h⟩ := ob_some h
 obtain ⟨m5643, hx5642i, hx5642m, hx5642r⟩ := mk_some hx5642
 obtain ⟨l5645, hx5646, h⟩ := ob_some h
 obtain ⟨m5647, hx5646i, hx5646m, hx5646r⟩ := mk_some hx5646
 refine AW.rd (.still 0 (.still 1 (.still 2 (.still 4 (.still 5 (.still 6 (.three 3 7 9 (.two 7 9 (.still 8 (.act 9 (.act 10 .nil))) (.act 7 (.still 8 (.act 10 .nil)))) (.two 3 9 (.still 8 (.act 9 (.act 10 .nil))) (.act 3 (.still 8 (.act 10 .nil)))) (.two 3 7 (.act 7 (.still 8 (.act 10 .nil))) (.act 3 (.still 8 (.act 10 .nil))))))))))) [1] [_] I (AP.r 6 [.o 1 0, .l 2 (n_1.Segments.length : Int), .o 4 0, .l 5 (n_1.Ports.length : Int)] I ⟨len_m, I, len_m, I, J⟩ (AP.three ?_ ?_ ?_))
 refine AP.act [] I I I (AX.makeU (sz := 1) I I I I I I I I I I hx5642i hx5642m (rep_map (f := rI) hx5642r I) dS (fun v5644 => (AP.two ?_ ?_)))
 refine AP.act [] I I I (AX.makeU (sz := 1) I I I I I I I I I I hx5646i hx5646m (rep_map (f := rI) hx5646r I) dS (fun v5648 => (AP.one 3 I (fun v5644o => (AP.one 4 I (fun v5648o => (AP.p I (Yp.buildP (l := [.v v5644, .v v5648, .v (.slice none 0 0)]) Tryz.bld32 (fill_step I I (cells_v v5644o) I (fill_step I I (cells_v v5648o) I (fill_nil)))) I (AP.act [] I I I (AX.alloc (cs := [.v (.slice none 0 0), .v (.slice none 0 0), .v (.slice none 0 0)]) (m := 3) I I I I I dS (fun b5649 => (AP.act [5] I I I (AX.store 5 0 0 (es' := [[.v v5644, .v v5648, .v (.slice none 0 0)]]) I I I I I I I I (le_ble I) I I (AP.ofAO (AO.nil ?_))))))))))))))
 exact lg ⟨(l5641, l5645), b5649, v5644, v5648, h, I, I⟩ [0, 1, 2, 3, 4, 5]
 refine AP.act [] I I I (AX.alloc (cs := [.v (.slice none 0 0), .v (.slice none 0 0), .v (.slice none 0 0)]) (m := 3) I I I I I dS (fun b5649 => (AP.act [] I I I (AX.makeU (sz := 1) I I I I I I I I I I hx5646i hx5646m (rep_map (f := rI) hx5646r I) dS (fun v5648 => (AP.one 3 I (fun v5644o => (AP.one 5 I (fun v5648o => (AP.p I (Yp.buildP (l := [.v v5644, .v v5648, .v (.slice none 0 0)]) Tryz.bld32 (fill_step I I (cells_v v5644o) I (fill_step I I (cells_v v5648o) I (fill_nil)))) I (AP.act [4] I I I (AX.store 4 0 0 (es' := [[.v v5644, .v v5648, .v (.slice none 0 0)]]) I I I I I I I I (le_ble I) I I (AP.ofAO (AO.nil ?_))))))))))))))
 exact lg ⟨(l5641, l5645), b5649, v5644, v5648, h, I, I⟩ [0, 1, 2, 3, 5, 4]
 refine AP.act [] I I I (AX.makeU (sz := 1) I I I I I I I I I I hx5646i hx5646m (rep_map (f := rI) hx5646r I) dS (fun v5648 => (AP.two ?_ ?_)))
 refine AP.act [] I I I (AX.makeU (sz := 1) I I I I I I I I I I hx5642i hx5642m (rep_map (f := rI) hx5642r I) dS (fun v5644 => (AP.one 4 I (fun v5644o => (AP.one 3 I (fun v5648o => (AP.p I (Yp.buildP (l := [.v v5644, .v v5648, .v (.slice none 0 0)]) Tryz.bld32 (fill_step I I (cells_v v5644o) I (fill_step I I (cells_v v5648o) I (fill_nil)))) I (AP.act [] I I I (AX.alloc (cs := [.v (.slice none 0 0), .v (.slice none 0 0), .v (.slice none 0 0)]) (m := 3) I I I I I dS (fun b5649 => (AP.act [5] I I I (AX.store 5 0 0 (es' := [[.v v5644, .v v5648, .v (.slice none 0 0)]]) I I I I I I I I (le_ble I) I I (AP.ofAO (AO.nil ?_))))))))))))))
 exact lg ⟨(l5641, l5645), b5649, v5644, v5648, h, I, I⟩ [0, 1, 2, 4, 3, 5]
 refine AP.act [] I I I (AX.alloc (cs := [.v (.slice none 0 0), .v (.slice none 0 0), .v (.slice none 0 0)]) (m := 3) I I I I I dS (fun b5649 => (AP.act [] I I I (AX.makeU (sz := 1) I I I I I I I I I I hx5642i hx5642m (rep_map (f := rI) hx5642r I) dS (fun v5644 => (AP.one 5 I (fun v5644o => (AP.one 3 I (fun v5648o => (AP.p I (Yp.buildP (l := [.v v5644, .v v5648, .v (.slice none 0 0)]) Tryz.bld32 (fill_step I I (cells_v v5644o) I (fill_step I I (cells_v v5648o) I (fill_nil)))) I (AP.act [4] I I I (AX.store 4 0 0 (es' := [[.v v5644, .v v5648, .v (.slice none 0 0)]]) I I I I I I I I (le_ble I) I I (AP.ofAO (AO.nil ?_))))))))))))))
 exact lg ⟨(l5641, l5645), b5649, v5644, v5648, h, I, I⟩ [0, 1, 2, 5, 3, 4]
 refine AP.act [] I I I (AX.alloc (cs := [.v (.slice none 0 0), .v (.slice none 0 0), .v (.slice none 0 0)]) (m := 3) I I I I I dS (fun b5649 => (AP.two ?_ ?_)))
 refine AP.act [] I I I (AX.makeU (sz := 1) I I I I I I I I I I hx5642i hx5642m (rep_map (f := rI) hx5642r I) dS (fun v5644 => (AP.act [] I I I (AX.makeU (sz := 1) I I I I I I I I I I hx5646i hx5646m (rep_map (f := rI) hx5646r I) dS (fun v5648 => (AP.one 4 I (fun v5644o => (AP.one 5 I (fun v5648o => (AP.p I (Yp.buildP (l := [.v v5644, .v v5648, .v (.slice none 0 0)]) Tryz.bld32 (fill_step I I (cells_v v5644o) I (fill_step I I (cells_v v5648o) I (fill_nil)))) I (AP.act [3] I I I (AX.store 3 0 0 (es' := [[.v v5644, .v v5648, .v (.slice none 0 0)]]) I I I I I I I I (le_ble I) I I (AP.ofAO (AO.nil ?_))))))))))))))
 exact lg ⟨(l5641, l5645), b5649, v5644, v5648, h, I, I⟩ [0, 1, 2, 4, 5, 3]
 refine AP.act [] I I I (AX.makeU (sz := 1) I I I I I I I I I I hx5646i hx5646m (rep_map (f := rI) hx5646r I) dS (fun v5648 => (AP.act [] I I I (AX.makeU (sz := 1) I I I I I I I I I I hx5642i hx5642m (rep_map (f := rI) hx5642r I) dS (fun v5644 => (AP.one 5 I (fun v5644o => (AP.one 4 I (fun v5648o => (AP.p I (Yp.buildP (l := [.v v5644, .v v5648, .v (.slice none 0 0)]) Tryz.bld32 (fill_step I I (cells_v v5644o) I (fill_step I I (cells_v v5648o) I (fill_nil)))) I (AP.act [3] I I I (AX.store 3 0 0 (es' := [[.v v5644, .v v5648, .v (.slice none 0 0)]]) I I I I I I I I (le_ble I) I I (AP.ofAO (AO.nil ?_))))))))))))))
 exact lg ⟨(l5641, l5645), b5649, v5644, v5648, h, I, I⟩ [0, 1, 2, 5, 4, 3]
 rintro s ob ⟨j13, b14, v15, v16, h, rfl, rfl⟩
 unfold L.zac.J1 at h
 refine AW.cutX (fun s ob => ∃ (j48 : (List Int) × Int × (List Bool)) (v49 : Value), L.zac.J2 n_1 j13 j48 = some r ∧ s = [] ∧ ob = [.arr b0 106 2 1 [[.list 1 (j48.1.map rI), .V j48.2.1]], .arr b2 27 6 1 [Network.row n_1], .arr b3 32 3 1 [[.v (.slice none 0 0), .v (.slice none 0 0), .v (.slice none 0 0)]], .us v15 3 1 (j13.1.map rI), .us v16 3 1 (j13.2.map rI), .arr b14 32 3 1 [[.v v15, .v v16, .v v49]], .us v49 4 1 (j48.2.2.map rB)]) [(0, _), (3, _), (4, _), (5, _)] ⟨I, I, I, I, J⟩ ?_ ?_
 refine AW.z I (AW.block (AW.ghost (Ghost.nilU 4 1) ?_))
 obtain ⟨o5627, hL5628, hR5629⟩ := ob_some h
 clear h
 refine AW.loopX hL5628 [(0, _), (3, _), (4, _), (5, _)] ⟨I, I, I, I, J⟩ (fun (st5617 : (List Int) × Int × (List Bool) × Int) s ob => ∃ (v5618 : Value), s = [(6, .V st5617.2.2.2)] ∧ ob = [.arr b0 106 2 1 [[.list 1 (st5617.1.map rI), .V st5617.2.1]], .arr b2 27 6 1 [Network.row n_1], .arr b3 32 3 1 [[.v (.slice none 0 0), .v (.slice none 0 0), .v (.slice none 0 0)]], .us v15 3 1 (j13.1.map rI), .us v16 3 1 (j13.2.map rI), .arr b14 32 3 1 [[.v v15, .v v16, .v v5618]], .us v5618 4 1 (st5617.2.2.1.map rB)]) ⟨(.slice none 0 0), I, I⟩ ⟨I, J⟩ ⟨[0, 1, 2, 3, 4, 5, 6], I, by decide⟩ ?_
 rintro st5617 r5631 s ob ⟨v5618, rfl, rfl⟩ h hb5630
 unfold L.zac.B20 at h
 refine AW.seqG (fun y5632 hy5632 => (AW.zr [.o 2 1, .l 3 (n_1.Stations.length : Int)] I ⟨len_m, I, J⟩ (AW.ch h I ?_ ?_)))
 intro hc5633 h
 refine AW.skip ?_
 subst hy5632
 refine AW.seq (AW.block ?_)
 obtain ⟨r5634, hx5635, h⟩ := ob_some h
 obtain ⟨l5637, hx5638, h⟩ := ob_some h
 refine AW.rd (.still 0 (.still 1 (.still 2 (.act 3 (.still 4 (.act 5 (.act 6 (.still 7 (.drop 8 .nil))))))))) [5] [_] I (AP.r 3 [.o 1 0] I ⟨I, J⟩ (AP.act [0] I I I (AX.c0 [0] (L.zbl_ok b0 _ _ _ hx5635) ?_)))
 refine AP.q 1 I (AP.act [] I I I (AX.lt 1 (([(r5634.1 == 0)] : List Bool).map rB) (AP.act [6] I I I (AX.ap 6 I hx5638 (fun v5639 => (AP.q 1 I (AP.one 6 I (fun v5639o => (AP.drop [5] I I I (AX.store 5 0 2 (es' := [[.v v15, .v v16, .v v5639]]) I I I I I I (cells_v v5639o) I (le_ble I) I I (AP.ofAO (AO.nil (AW.region (AO.q 3 I ?_))))))))))))))
 obtain rfl := oi h
 refine AO.nil ?_
 exact ⟨_, _, _, I, ⟨v5639, I, I⟩, ⟨I, I, I, I, I, J⟩, [0, 1, 2, 3, 4, 5, 6], I, by decide⟩
 intro hc5633 h
 obtain rfl := hb5630 _ (oi h).symm
 replace h := hR5629
 refine AW.exit ?_
 exact lg ⟨(st5617.1, st5617.2.1, st5617.2.2.1), v5618, h, I, I⟩ [0, 1, 2, 3, 4, 5, 6]
 rintro s ob ⟨j48, v49, h, rfl, rfl⟩
 unfold L.zac.J2 at h
 refine AW.seqG (fun y50 hy50 => ?_)
 obtain ⟨r51, hx52, h⟩ := ob_some h
 refine AW.region (AO.q 1 I (AO.act [0] I (AX.c0 [0] (L.zbl_ok b0 _ _ _ hx52) ?_)))
 refine AO.q 2 I (AO.nil ?_)
 subst hy50
 refine AW.cutX (fun s ob => ∃ (j1782 : (List Int) × Int × (List Int) × (List Int)), L.zac.J3 j48 r51 j1782 = some r ∧ s = [] ∧ ob = [.arr b0 106 2 1 [[.list 1 (j1782.1.map rI), .V j1782.2.1]], .arr b3 32 3 1 [[.v (.slice none 0 0), .v (.slice none 0 0), .v (.slice none 0 0)]], .us v15 3 1 (j1782.2.2.1.map rI), .us v16 3 1 (j1782.2.2.2.map rI), .arr b14 32 3 1 [[.v v15, .v v16, .v v49]], .us v49 4 1 (j48.2.2.map rB)]) [(4, _), (5, _), (7, _)] ⟨I, I, I, J⟩ ?_ ?_
 refine AW.seqG (fun y1786 hy1786 => ?_)
 obtain ⟨r1787, hx1788, h⟩ := ob_some h
 refine AW.region (AO.q 1 I (AO.act [0] I (AX.c0 [0] (L.zbl_ok b0 _ _ _ hx1788) ?_)))
 refine AO.q 1 I (AO.nil ?_)
 subst hy1786
 refine AW.block ?_
 obtain ⟨o3515, hL3516, hR3517⟩ := ob_some h
 clear h
 refine AW.loopX hL3516 [(0, _), (3, _), (4, _), (5, _), (7, _)] ⟨I, I, I, I, I, J⟩ (fun (st2940 : (List Int) × Int × (List Int) × (List Int) × Int) s ob => s = [(8, .V st2940.2.2.2.2)] ∧ ob = [.arr b0 106 2 1 [[.list 1 (st2940.1.map rI), .V st2940.2.1]], .arr b2 27 6 1 [Network.row n_1], .arr b3 32 3 1 [[.v (.slice none 0 0), .v (.slice none 0 0), .v (.slice none 0 0)]], .us v15 3 1 (st2940.2.2.1.map rI), .us v16 3 1 (st2940.2.2.2.1.map rI), .arr b14 32 3 1 [[.v v15, .v v16, .v v49]], .us v49 4 1 (j48.2.2.map rB)]) ⟨I, I⟩ ⟨I, J⟩ ⟨[0, 1, 2, 3, 4, 5, 6], I, by decide⟩ ?_
 rintro st2940 r3519 s ob ⟨rfl, rfl⟩ h hb3518
 unfold L.zac.B4 at h
 refine AW.seqG (fun y3520 hy3520 => (AW.z I (AW.ch h I ?_ ?_)))
 intro hc3521 h
 refine AW.skip ?_
 subst hy3520
 refine AW.cutX (fun s ob => ∃ (j4093 : (List Int) × Int × (List Int) × (List Int)), L.zac.J5 st2940 j4093 = some r3519 ∧ s = [] ∧ ob = [.arr b0 106 2 1 [[.list 1 (j4093.1.map rI), .V j4093.2.1]], .arr b2 27 6 1 [Network.row n_1], .arr b3 32 3 1 [[.v (.slice none 0 0), .v (.slice none 0 0), .v (.slice none 0 0)]], .us v15 3 1 (j4093.2.2.1.map rI), .us v16 3 1 (j4093.2.2.2.map rI), .arr b14 32 3 1 [[.v v15, .v v16, .v v49]], .us v49 4 1 (j48.2.2.map rB)]) [(0, _), (3, _), (4, _), (5, _), (7, _), (8, _)] ⟨I, I, I, I, I, I, J⟩ ?_ ?_
 refine AW.block (AW.seqG (fun y4094 hy4094 => ?_))
 obtain ⟨r4095, hx4096, h⟩ := ob_some h
 refine AW.region (AO.r 4 [.o 2 1, .l 3 (n_1.Ports.length : Int)] I ⟨len_m, I, J⟩ (AO.act [0] I (AX.c0 [0] (L.zbl_ok b0 _ _ _ hx4096) ?_)))
 refine AO.q 1 I (AO.nil ?_)
 subst hy4094
 refine AW.seqG (fun y4097 hy4097 => ?_)
 obtain ⟨p4098, hp4099, h⟩ := ob_some h
 obtain ⟨hp4099i, hp4099x⟩ := ix_some hp4099
 obtain ⟨r4101, hx4102, h⟩ := ob_some h
 obtain ⟨r4103, hx4104, h⟩ := ob_some h
 refine AW.rd (pd 13 0 [8, 9, 10]) [1] [_] I (AP.r 8 [.o 1 0, .x 3 p4098.1 (Port.row p4098.2)] I ⟨⟨hp4099i, map_get hp4099x⟩, I, J⟩ (AP.act [] I I I (AX.lt 1 (([1, 5, 30, 300] : List Int).map rI) (AP.act [0] I I I (AX.c0 [0] (L.zaa_ok b0 _ _ _ hx4102) ?_)))))
 refine AP.act [0] I I I (AX.c0 [0] (L.zca_ok b0 _ _ _ _ hx4104) ?_)
 refine AP.q 2 I (AP.ofAO (AO.nil ?_))
 subst hy4097
 refine AW.seqG (fun y4105 hy4105 => (AW.cutX (fun s ob => ∃ (j4109 : Bool), L.zac.J6 n_1 st2940 r4095 p4098 r4103 j4109 = some r3519 ∧ s = [(86, .v (.bool j4109))] ∧ ob = [.arr b0 106 2 1 [KS.row r4103.2], .arr b2 27 6 1 [Network.row n_1], .arr b3 32 3 1 [[.v (.slice none 0 0), .v (.slice none 0 0), .v (.slice none 0 0)]], .us v15 3 1 (st2940.2.2.1.map rI), .us v16 3 1 (st2940.2.2.2.1.map rI), .arr b14 32 3 1 [[.v v15, .v v16, .v v49]], .us v49 4 1 (j48.2.2.map rB)]) [(0, _), (3, _), (4, _), (5, _), (7, _), (8, _), (9, _), (10, _), (11, _)] ⟨I, I, I, I, I, I, I, I, I, J⟩ ?_ ?_))
 obtain ⟨p5592, hp5593, h⟩ := ob_some h
 obtain ⟨hp5593i, hp5593x⟩ := ix_some hp5593
 refine AW.region (AO.r 3 [.o 1 5] I ⟨I, J⟩ (AO.d (Yd.indexU 4 (m := p5592.1) I I I I I I I hp5593i (map_get hp5593x)) I (AO.d (Yd.loadU 4 p5592.1 0 I I I (map_get hp5593x) I (y := .V p5592.2) I) I (AO.q 2 I ?_))))
 rcases bt (decide (p5592.2 < 0)) with hg5594 | hg5594
 replace h := ife_t hg5594 h
 refine AO.known 77 I hg5594 (AO.q 9 I (AO.nil ?_))
 exact lg ⟨true, h, I, I⟩ [0, 1, 2, 3, 4, 5, 6]
 replace h := ife_f hg5594 h
 refine AO.known 77 I hg5594 (AO.r 3 [.o 1 5] I ⟨I, J⟩ (AO.gt I I I (AO.d (Yd.indexU 4 (m := p5592.1) I I I I I I I hp5593i (map_get hp5593x)) I (AO.gt I I I (AO.d (Yd.loadU 4 p5592.1 0 I I I (map_get hp5593x) I (y := .V p5592.2) I) I (AO.q 4 I (AO.nil ?_)))))))
 exact lg ⟨decide ((wr (p5592.2 + r4103.1)) > 1000), h, I, I⟩ [0, 1, 2, 3, 4, 5, 6]
 rintro s ob ⟨j4109, h, rfl, rfl⟩
 unfold L.zac.J6 at h
 refine AW.ch h I ?_ ?_
 intro hc4110 h
 refine AW.exit ?_
 exact lg ⟨(r4103.2.L_, r4103.2.At, st2940.2.2.1, st2940.2.2.2.1), h, I, I⟩ [0, 1, 2, 3, 4, 5, 6]
 intro hc4110 h
 refine AW.skip ?_
 subst hy4105
 refine AW.z I (AW.z I (AW.cutX (fun s ob => ∃ (j4599 : (List Int) × Int × (List Int) × Int) (v4600 : Value), L.zac.J7 n_1 st2940 r4095 r4103 j4599 = some r3519 ∧ s = [(12, .v v4600), (13, .V j4599.2.2.2)] ∧ ob = [.arr b0 106 2 1 [[.list 1 (j4599.1.map rI), .V j4599.2.1]], .arr b2 27 6 1 [Network.row n_1], .arr b3 32 3 1 [[.v (.slice none 0 0), .v (.slice none 0 0), .v (.slice none 0 0)]], .us v15 3 1 (st2940.2.2.1.map rI), .us v16 3 1 (st2940.2.2.2.1.map rI), .arr b14 32 3 1 [[.v v15, .v v16, .v v49]], .us v49 4 1 (j48.2.2.map rB), .us v4600 3 1 (j4599.2.2.1.map rI)]) [(0, _), (3, _), (4, _), (5, _), (7, _), (8, _), (9, _), (11, _)] ⟨I, I, I, I, I, I, I, I, J⟩ ?_ ?_))
 refine AW.block (AW.ghost (Ghost.nilU 3 1) ?_)
 obtain ⟨o5190, hL5191, hR5192⟩ := ob_some h
 clear h
 refine AW.loopX hL5191 [(0, _), (3, _), (4, _), (5, _), (7, _), (8, _), (9, _), (11, _)] ⟨I, I, I, I, I, I, I, I, J⟩ (fun (st5028 : (List Int) × Int × Int × (List Int) × Int) s ob => ∃ (v5029 : Value), s = [(10, .V st5028.2.2.1), (12, .v v5029), (13, .V st5028.2.2.2.2)] ∧ ob = [.arr b0 106 2 1 [[.list 1 (st5028.1.map rI), .V st5028.2.1]], .arr b2 27 6 1 [Network.row n_1], .arr b3 32 3 1 [[.v (.slice none 0 0), .v (.slice none 0 0), .v (.slice none 0 0)]], .us v15 3 1 (st2940.2.2.1.map rI), .us v16 3 1 (st2940.2.2.2.1.map rI), .arr b14 32 3 1 [[.v v15, .v v16, .v v49]], .us v49 4 1 (j48.2.2.map rB), .us v5029 3 1 (st5028.2.2.2.1.map rI)]) ⟨(.slice none 0 0), I, I⟩ ⟨I, I, I, J⟩ ⟨[0, 1, 2, 3, 4, 5, 6, 7], I, by decide⟩ ?_
 rintro st5028 r5194 s ob ⟨v5029, rfl, rfl⟩ h hb5193
 unfold L.zac.B11 at h
 refine AW.seqG (fun y5195 hy5195 => (AW.z I (AW.ch h I ?_ ?_)))
 intro hc5196 h
 refine AW.skip ?_
 subst hy5195
 refine AW.block (AW.cutX (fun s ob => ∃ (j5256 : (List Int) × Int × Int), L.zac.J12 n_1 st2940 r4103 st5028 j5256 = some r5194 ∧ s = [(13, .V j5256.2.2)] ∧ ob = [.arr b0 106 2 1 [[.list 1 (j5256.1.map rI), .V j5256.2.1]], .arr b2 27 6 1 [Network.row n_1], .arr b3 32 3 1 [[.v (.slice none 0 0), .v (.slice none 0 0), .v (.slice none 0 0)]], .us v15 3 1 (st2940.2.2.1.map rI), .us v16 3 1 (st2940.2.2.2.1.map rI), .arr b14 32 3 1 [[.v v15, .v v16, .v v49]], .us v49 4 1 (j48.2.2.map rB), .us v5029 3 1 (st5028.2.2.2.1.map rI)]) [(0, _), (3, _), (4, _), (5, _), (7, _), (8, _), (9, _), (10, _), (11, _), (12, _)] ⟨I, I, I, I, I, I, I, I, I, I, J⟩ ?_ ?_)
 refine AW.zr [.o 1 1, .l 2 (n_1.Ports.length : Int)] I ⟨len_m, I, J⟩ (AW.block (AW.listMax 90 I (fun hm5492 => ?_)))
 replace hm5492 : n_1.Ports.length ≤ 9223372036854775806 := by rw [List.length_map] at hm5492; omega
 obtain ⟨o5546, hL5547, hR5548⟩ := ob_some h
 clear h
 refine AW.forY hL5547 [(0, _), (3, _), (4, _), (5, _), (7, _), (8, _), (9, _), (10, _), (11, _), (12, _), (90, _), (91, _)] ⟨I, I, I, I, I, I, I, I, I, I, I, I, J⟩ (fun (k5490 : Nat) (st5529 : (List Int) × Int × Int) s ob => s = [(92, .V (k5490 : Int)), (13, .V st5529.2.2)] ∧ ob = [.arr b0 106 2 1 [[.list 1 (st5529.1.map rI), .V st5529.2.1]], .arr b2 27 6 1 [Network.row n_1], .arr b3 32 3 1 [[.v (.slice none 0 0), .v (.slice none 0 0), .v (.slice none 0 0)]], .us v15 3 1 (st2940.2.2.1.map rI), .us v16 3 1 (st2940.2.2.2.1.map rI), .arr b14 32 3 1 [[.v v15, .v v16, .v v49]], .us v49 4 1 (j48.2.2.map rB), .us v5029 3 1 (st5028.2.2.2.1.map rI)]) ⟨I, I⟩ ⟨I, I, J⟩ ⟨[0, 1, 2, 3, 4, 5, 6, 7], I, by decide⟩ ?_ ?_
 rintro k5490 x5493 st5529 r5550 s ob hx5494 hk5491 ⟨rfl, rfl⟩ h
 unfold L.zac.B17 at h
 have hk5491t : decide ((k5490 : Int) < (n_1.Ports.length : Int)) = true := decide_eq_true (by omega)
 refine AW.z I (AW.seqG (fun y5552 hy5552 => (AW.condK (v := true) I hk5491t (AW.skip ?_))))
 subst hy5552
 refine AW.cutX (fun s ob => ∃ (j5566 : (List Int) × Int × Int), L.zac.J18 j5566 = some r5550 ∧ s = [(13, .V j5566.2.2)] ∧ ob = [.arr b0 106 2 1 [[.list 1 (j5566.1.map rI), .V j5566.2.1]], .arr b2 27 6 1 [Network.row n_1], .arr b3 32 3 1 [[.v (.slice none 0 0), .v (.slice none 0 0), .v (.slice none 0 0)]], .us v15 3 1 (st2940.2.2.1.map rI), .us v16 3 1 (st2940.2.2.2.1.map rI), .arr b14 32 3 1 [[.v v15, .v v16, .v v49]], .us v49 4 1 (j48.2.2.map rB), .us v5029 3 1 (st5028.2.2.2.1.map rI)]) [(0, _), (3, _), (4, _), (5, _), (7, _), (8, _), (9, _), (10, _), (11, _), (12, _), (90, _), (91, _), (92, _)] ⟨I, I, I, I, I, I, I, I, I, I, I, I, I, J⟩ ?_ ?_
 refine AW.block (AW.seqG (fun y5567 hy5567 => (AW.region (AO.r 3 [.x 1 k5490 (Port.row x5493)] I ⟨⟨I, map_get hx5494⟩, J⟩ (AO.act [] I (AX.alloc (cs := [.v (.string ⟨#[]⟩), .V 0, .V 0]) (m := 3) I I I I I dS (fun b5568 => (AO.q 1 I (AO.act [8] I (AX.store 8 0 0 (es' := [Port.row x5493]) I I I I I I I I (le_ble I) I I (AO.nil ?_)))))))))))
 subst hy5567
 refine AW.cutX (fun s ob => ∃ (j5578 : (List Int) × Int × Bool), L.zac.J19 k5490 st5529 j5578 = some r5550 ∧ s = [(133, .v (.bool j5578.2.2))] ∧ ob = [.arr b0 106 2 1 [[.list 1 (j5578.1.map rI), .V j5578.2.1]], .arr b2 27 6 1 [Network.row n_1], .arr b3 32 3 1 [[.v (.slice none 0 0), .v (.slice none 0 0), .v (.slice none 0 0)]], .us v15 3 1 (st2940.2.2.1.map rI), .us v16 3 1 (st2940.2.2.2.1.map rI), .arr b14 32 3 1 [[.v v15, .v v16, .v v49]], .us v49 4 1 (j48.2.2.map rB), .us v5029 3 1 (st5028.2.2.2.1.map rI)]) [(0, _), (3, _), (4, _), (5, _), (7, _), (8, _), (9, _), (10, _), (11, _), (12, _), (13, _), (14, _), (90, _), (91, _), (92, _)] ⟨I, I, I, I, I, I, I, I, I, I, I, I, I, I, I, J⟩ ?_ ?_
 rcases bt ((x5493.Node == st5028.2.2.1)) with hg5580 | hg5580
 replace h := ife_t hg5580 h
 rcases bt (((k5490 : Int) != r4095.1)) with hg5581 | hg5581
 replace h := ife_t hg5581 h
 obtain ⟨p5582, hp5583, h⟩ := ob_some h
 obtain ⟨hp5583i, hp5583x⟩ := ix_some hp5583
 rcases bt (decide (p5582.2 ≤ 0)) with hg5584 | hg5584
 replace h := ife_t hg5584 h
 rcases bt (decide ((wr (p5582.2 - r4103.1)) ≥ (-1000))) with hg5585 | hg5585
 replace h := ife_t hg5585 h
 rcases bt (decide ((st5028.2.2.2.1.length : Int) > 0)) with hg5586 | hg5586
 replace h := ife_t hg5586 h
 obtain ⟨r5587, hx5588, h⟩ := ob_some h
 refine AW.region (AO.r 5 [.o 1 8] I ⟨I, J⟩ (AO.known 101 I hg5580 (AO.q 5 I (AO.known 106 I hg5581 (AO.r 3 [.o 1 5] I ⟨I, J⟩ (AO.gt I I I (AO.d (Yd.indexU 4 (m := p5582.1) I I I I I I I hp5583i (map_get hp5583x)) I (AO.gt I I I (AO.d (Yd.loadU 4 p5582.1 0 I I I (map_get hp5583x) I (y := .V p5582.2) I) I (AO.q 3 I (AO.known 114 I hg5584 (AO.r 3 [.o 1 5] I ⟨I, J⟩ ?_))))))))))))
 refine AO.gt I I I (AO.d (Yd.indexU 4 (m := p5582.1) I I I I I I I hp5583i (map_get hp5583x)) I (AO.gt I I I (AO.d (Yd.loadU 4 p5582.1 0 I I I (map_get hp5583x) I (y := .V p5582.2) I) I (AO.q 5 I (AO.known 124 I hg5585 (AO.q 1 I (AO.gt I I I (AO.d (Yd.lenUM 7 I I I I) I (AO.q 3 I (AO.known 129 I hg5586 (AO.q 1 I (AO.gt I I I ?_))))))))))))
 refine AO.act [0] I (AX.c0 [0] (L.zbl_ok b0 _ _ _ hx5588) ?_)
 refine AO.q 2 I (AO.nil ?_)
 exact lg ⟨(r5587.2.L_, r5587.2.At, (r5587.1 == 0)), h, I, I⟩ [0, 1, 2, 3, 4, 5, 6, 7]
 replace h := ife_f hg5586 h
 refine AW.region (AO.r 5 [.o 1 8] I ⟨I, J⟩ (AO.known 101 I hg5580 (AO.q 5 I (AO.known 106 I hg5581 (AO.r 3 [.o 1 5] I ⟨I, J⟩ (AO.gt I I I (AO.d (Yd.indexU 4 (m := p5582.1) I I I I I I I hp5583i (map_get hp5583x)) I (AO.gt I I I (AO.d (Yd.loadU 4 p5582.1 0 I I I (map_get hp5583x) I (y := .V p5582.2) I) I (AO.q 3 I (AO.known 114 I hg5584 (AO.r 3 [.o 1 5] I ⟨I, J⟩ ?_))))))))))))
 refine AO.gt I I I (AO.d (Yd.indexU 4 (m := p5582.1) I I I I I I I hp5583i (map_get hp5583x)) I (AO.gt I I I (AO.d (Yd.loadU 4 p5582.1 0 I I I (map_get hp5583x) I (y := .V p5582.2) I) I (AO.q 5 I (AO.known 124 I hg5585 (AO.q 1 I (AO.gt I I I (AO.d (Yd.lenUM 7 I I I I) I (AO.q 3 I (AO.known 129 I hg5586 (AO.q 4 I (AO.nil ?_))))))))))))
 rotate_left
 replace h := ife_f hg5585 h
 refine AW.region (AO.r 5 [.o 1 8] I ⟨I, J⟩ (AO.known 101 I hg5580 (AO.q 5 I (AO.known 106 I hg5581 (AO.r 3 [.o 1 5] I ⟨I, J⟩ (AO.gt I I I (AO.d (Yd.indexU 4 (m := p5582.1) I I I I I I I hp5583i (map_get hp5583x)) I (AO.gt I I I (AO.d (Yd.loadU 4 p5582.1 0 I I I (map_get hp5583x) I (y := .V p5582.2) I) I (AO.q 3 I (AO.known 114 I hg5584 (AO.r 3 [.o 1 5] I ⟨I, J⟩ ?_))))))))))))
 refine AO.gt I I I (AO.d (Yd.indexU 4 (m := p5582.1) I I I I I I I hp5583i (map_get hp5583x)) I (AO.gt I I I (AO.d (Yd.loadU 4 p5582.1 0 I I I (map_get hp5583x) I (y := .V p5582.2) I) I (AO.q 5 I (AO.known 124 I hg5585 (AO.q 9 I (AO.nil ?_)))))))
 rotate_left
 replace h := ife_f hg5584 h
 refine AW.region (AO.r 5 [.o 1 8] I ⟨I, J⟩ (AO.known 101 I hg5580 (AO.q 5 I (AO.known 106 I hg5581 (AO.r 3 [.o 1 5] I ⟨I, J⟩ (AO.gt I I I (AO.d (Yd.indexU 4 (m := p5582.1) I I I I I I I hp5583i (map_get hp5583x)) I (AO.gt I I I (AO.d (Yd.loadU 4 p5582.1 0 I I I (map_get hp5583x) I (y := .V p5582.2) I) I (AO.q 3 I (AO.known 114 I hg5584 (AO.q 19 I ?_))))))))))))
 refine AO.nil ?_
 rotate_left
 replace h := ife_f hg5581 h
 refine AW.region (AO.r 5 [.o 1 8] I ⟨I, J⟩ (AO.known 101 I hg5580 (AO.q 5 I (AO.known 106 I hg5581 (AO.q 27 I (AO.nil ?_))))))
 rotate_left
 replace h := ife_f hg5580 h
 refine AW.region (AO.r 5 [.o 1 8] I ⟨I, J⟩ (AO.known 101 I hg5580 (AO.q 32 I (AO.nil ?_))))
 any_goals
  exact lg ⟨(st5529.1, st5529.2.1, false), h, I, I⟩ [0, 1, 2, 3, 4, 5, 6, 7]
 rintro s ob ⟨j5578, h, rfl, rfl⟩
 unfold L.zac.J19 at h
 refine AW.ch h I ?_ ?_
 intro hc5579 h
 refine AW.t I ?_
 exact lg ⟨(j5578.1, j5578.2.1, (k5490 : Int)), h, I, I⟩ [0, 1, 2, 3, 4, 5, 6, 7]
 intro hc5579 h
 refine AW.skip ?_
 exact lg ⟨(j5578.1, j5578.2.1, st5529.2.2), h, I, I⟩ [0, 1, 2, 3, 4, 5, 6, 7]
 rintro s ob ⟨j5566, h, rfl, rfl⟩
 unfold L.zac.J18 at h
 refine AW.region (AO.r 2 [.k 0 (k5490 + 1 : Nat)] I ⟨cast_wr hk5491 hm5492, J⟩ ?_)
 obtain rfl := oi h
 refine AO.nil ?_
 exact lg ⟨I, I⟩ [0, 1, 2, 3, 4, 5, 6, 7]
 rintro st5529 s ob ⟨rfl, rfl⟩ he
 subst he
 have h := hR5548
 have hk5491f : decide (((n_1.Ports.length : Nat) : Int) < (n_1.Ports.length : Int)) = false := by simp
 refine AW.z I (AW.seqG (fun y5590 hy5590 => (AW.condK (v := false) I hk5491f (AW.exit ?_))))
 exact lg ⟨(st5529.1, st5529.2.1, st5529.2.2), h, I, I⟩ [0, 1, 2, 3, 4, 5, 6, 7]
 rintro s ob ⟨j5256, h, rfl, rfl⟩
 unfold L.zac.J12 at h
 refine AW.seqG (fun y5257 hy5257 => (AW.z I (AW.ch h I ?_ ?_)))
 intro hc5258 h
 obtain rfl := hb5193 _ (oi h).symm
 replace h := hR5192
 refine AW.exit ?_
 exact lg ⟨(j5256.1, j5256.2.1, st5028.2.2.2.1, j5256.2.2), v5029, h, I, I⟩ [0, 1, 2, 3, 4, 5, 6, 7]
 intro hc5258 h
 refine AW.skip ?_
 subst hy5257
 refine AW.z I (AW.cutX (fun s ob => ∃ (j5339 : List Int) (v5340 : Value), L.zac.J13 n_1 st5028 j5256 j5339 = some r5194 ∧ s = [(16, .v v5340)] ∧ ob = [.arr b0 106 2 1 [[.list 1 (j5256.1.map rI), .V j5256.2.1]], .arr b2 27 6 1 [Network.row n_1], .arr b3 32 3 1 [[.v (.slice none 0 0), .v (.slice none 0 0), .v (.slice none 0 0)]], .us v15 3 1 (st2940.2.2.1.map rI), .us v16 3 1 (st2940.2.2.2.1.map rI), .arr b14 32 3 1 [[.v v15, .v v16, .v v49]], .us v49 4 1 (j48.2.2.map rB), .us v5029 3 1 (st5028.2.2.2.1.map rI), .us v5340 3 1 (j5339.map rI)]) [(0, _), (3, _), (4, _), (5, _), (7, _), (8, _), (9, _), (10, _), (11, _), (12, _), (13, _)] ⟨I, I, I, I, I, I, I, I, I, I, I, J⟩ ?_ ?_)
 refine AW.zr [.o 1 1, .l 2 (n_1.Segments.length : Int)] I ⟨len_m, I, J⟩ (AW.block (AW.listMax 139 I (fun hm5358 => ?_)))
 replace hm5358 : n_1.Segments.length ≤ 9223372036854775806 := by rw [List.length_map] at hm5358; omega
 refine AW.ghost (Ghost.nilU 3 1) ?_
 obtain ⟨o5432, hL5433, hR5434⟩ := ob_some h
 clear h
 refine AW.forY hL5433 [(0, _), (3, _), (4, _), (5, _), (7, _), (8, _), (9, _), (10, _), (11, _), (12, _), (13, _), (139, _), (140, _)] ⟨I, I, I, I, I, I, I, I, I, I, I, I, I, J⟩ (fun (k5356 : Nat) (st5408 : List Int) s ob => ∃ (v5409 : Value), s = [(141, .V (k5356 : Int)), (16, .v v5409)] ∧ ob = [.arr b0 106 2 1 [[.list 1 (j5256.1.map rI), .V j5256.2.1]], .arr b2 27 6 1 [Network.row n_1], .arr b3 32 3 1 [[.v (.slice none 0 0), .v (.slice none 0 0), .v (.slice none 0 0)]], .us v15 3 1 (st2940.2.2.1.map rI), .us v16 3 1 (st2940.2.2.2.1.map rI), .arr b14 32 3 1 [[.v v15, .v v16, .v v49]], .us v49 4 1 (j48.2.2.map rB), .us v5029 3 1 (st5028.2.2.2.1.map rI), .us v5409 3 1 (st5408.map rI)]) ⟨(.slice none 0 0), I, I⟩ ⟨I, I, J⟩ ⟨[0, 1, 2, 3, 4, 5, 6, 7, 8], I, by decide⟩ ?_ ?_
 rintro k5356 x5359 st5408 r5436 s ob hx5360 hk5357 ⟨v5409, rfl, rfl⟩ h
 unfold L.zac.B14 at h
 have hk5357t : decide ((k5356 : Int) < (n_1.Segments.length : Int)) = true := decide_eq_true (by omega)
 refine AW.z I (AW.seqG (fun y5438 hy5438 => (AW.condK (v := true) I hk5357t (AW.skip ?_))))
 subst hy5438
 refine AW.cutX (fun s ob => ∃ (j5457 : List Int) (v5458 : Value), L.zac.J15 j5457 = some r5436 ∧ s = [(16, .v v5458)] ∧ ob = [.arr b0 106 2 1 [[.list 1 (j5256.1.map rI), .V j5256.2.1]], .arr b2 27 6 1 [Network.row n_1], .arr b3 32 3 1 [[.v (.slice none 0 0), .v (.slice none 0 0), .v (.slice none 0 0)]], .us v15 3 1 (st2940.2.2.1.map rI), .us v16 3 1 (st2940.2.2.2.1.map rI), .arr b14 32 3 1 [[.v v15, .v v16, .v v49]], .us v49 4 1 (j48.2.2.map rB), .us v5029 3 1 (st5028.2.2.2.1.map rI), .us v5458 3 1 (j5457.map rI)]) [(0, _), (3, _), (4, _), (5, _), (7, _), (8, _), (9, _), (10, _), (11, _), (12, _), (13, _), (139, _), (140, _), (141, _)] ⟨I, I, I, I, I, I, I, I, I, I, I, I, I, I, J⟩ ?_ ?_
 refine AW.block (AW.seqG (fun y5459 hy5459 => (AW.region (AO.r 3 [.x 1 k5356 (Segment.row x5359)] I ⟨⟨I, map_get hx5360⟩, J⟩ (AO.act [] I (AX.alloc (cs := [.v (.string ⟨#[]⟩), .V 0, .V 0, .V 0, .V 0, .V 0, .v (.slice none 0 0)]) (m := 7) I I I I I dS (fun b5460 => (AO.q 1 I (AO.act [9] I (AX.store 9 0 0 (es' := [Segment.row x5359]) I I I I I I I I (le_ble I) I I (AO.nil ?_)))))))))))
 subst hy5459
 refine AW.cutX (fun s ob => ∃ (j5471 : Bool), L.zac.J16 k5356 st5408 j5471 = some r5436 ∧ s = [(180, .v (.bool j5471))] ∧ ob = [.arr b0 106 2 1 [[.list 1 (j5256.1.map rI), .V j5256.2.1]], .arr b2 27 6 1 [Network.row n_1], .arr b3 32 3 1 [[.v (.slice none 0 0), .v (.slice none 0 0), .v (.slice none 0 0)]], .us v15 3 1 (st2940.2.2.1.map rI), .us v16 3 1 (st2940.2.2.2.1.map rI), .arr b14 32 3 1 [[.v v15, .v v16, .v v49]], .us v49 4 1 (j48.2.2.map rB), .us v5029 3 1 (st5028.2.2.2.1.map rI), .us v5409 3 1 (st5408.map rI)]) [(0, _), (3, _), (4, _), (5, _), (7, _), (8, _), (9, _), (10, _), (11, _), (12, _), (13, _), (16, _), (17, _), (139, _), (140, _), (141, _)] ⟨I, I, I, I, I, I, I, I, I, I, I, I, I, I, I, I, J⟩ ?_ ?_
 rcases bt ((x5359.From == st5028.2.2.1)) with hg5477 | hg5477
 replace h := ife_t hg5477 h
 rcases bt (decide ((wr ((wr (x5359.From + x5359.To)) - st5028.2.2.1)) > st5028.2.2.1)) with hg5478 | hg5478
 replace h := ife_t hg5478 h
 obtain ⟨p5479, hp5480, h⟩ := ob_some h
 obtain ⟨hp5480i, hp5480x⟩ := ix_some hp5480
 refine AW.form 3 p5479.1 I hp5480x (fun hf5481 => (AW.rd (.still 0 (.still 1 (.still 2 (.still 3 (.still 4 (.still 5 (.still 6 (.still 7 (.still 8 (.still 9 (.still 10 (.still 11 (.still 12 (.still 13 (.still 14 (.still 15 (.still 16 (.still 17 (.still 18 (.still 19 (.still 20 (.still 21 (.still 22 (.still 23 (.still 24 (.still 25 (.still 26 (.still 28 (.still 30 (.still 31 (.still 32 (.act 27 (.still 29 (.still 33 (.still 34 .nil))))))))))))))))))))))))))))))))))) [9, 5, 3] [_, _, _] I (AP.r 5 [.o 1 0] I ⟨I, J⟩ (AP.known 150 I hg5477 (AP.r 17 [.o 7 0, .o 9 0] I ⟨I, I, J⟩ (AP.known 167 I hg5478 (AP.r 3 [.o 1 1] I ⟨I, J⟩ (AP.oldG I I I I ((Yp.indexUf (m := p5479.1) I I I I I hf5481 I hp5480i hp5480x).yd) dS (AP.oldG I I I I (Yd.loadU 2 p5479.1 0 I I I (map_get hp5480x) I (y := .V p5479.2) I) dS (AP.r 4 [.o 2 0] I ⟨I, J⟩ (AP.cG I (L.zff_ok p5479.2 _ I) (AP.q 3 I (AP.ofAO ?_)))))))))))))
 refine AO.nil ?_
 exact lg ⟨decide ((wr ((L.zff p5479.2) + r4103.1)) ≤ (min 1000 x5359.Capacity)), h, I, I⟩ [0, 1, 2, 3, 4, 5, 6, 7, 8]
 replace h := ife_f hg5478 h
 refine AW.rd (.still 0 (.still 1 (.still 2 (.still 3 (.still 4 (.still 5 (.still 6 (.still 7 (.still 8 (.still 9 (.still 10 (.still 11 (.still 12 (.still 13 (.still 14 (.still 15 (.still 16 (.still 17 (.still 18 (.still 19 (.still 20 (.still 21 (.still 22 (.still 23 (.still 24 (.still 25 (.still 26 (.still 28 (.still 30 (.still 31 (.still 32 (.act 27 (.still 29 (.still 33 (.still 34 .nil))))))))))))))))))))))))))))))))))) [9] [_] I (AP.r 5 [.o 1 0] I ⟨I, J⟩ (AP.known 150 I hg5477 (AP.r 17 [.o 7 0, .o 9 0] I ⟨I, I, J⟩ (AP.known 167 I hg5478 (AP.q 13 I (AP.ofAO (AO.nil ?_)))))))
 exact lg ⟨false, h, I, I⟩ [0, 1, 2, 3, 4, 5, 6, 7, 8]
 replace h := ife_f hg5477 h
 rcases bt ((x5359.To == st5028.2.2.1)) with hg5482 | hg5482
 replace h := ife_t hg5482 h
 rcases bt (decide ((wr ((wr (x5359.From + x5359.To)) - st5028.2.2.1)) > st5028.2.2.1)) with hg5483 | hg5483
 replace h := ife_t hg5483 h
 obtain ⟨p5484, hp5485, h⟩ := ob_some h
 obtain ⟨hp5485i, hp5485x⟩ := ix_some hp5485
 refine AW.form 3 p5484.1 I hp5485x (fun hf5486 => (AW.rd (.still 0 (.still 1 (.still 2 (.still 3 (.still 4 (.still 5 (.still 6 (.still 7 (.still 8 (.still 9 (.still 10 (.still 11 (.still 12 (.still 13 (.still 14 (.still 15 (.still 16 (.still 17 (.still 18 (.still 19 (.still 20 (.still 21 (.still 22 (.still 23 (.still 24 (.still 25 (.still 26 (.still 28 (.still 30 (.still 31 (.still 32 (.act 27 (.still 29 (.still 33 (.still 34 .nil))))))))))))))))))))))))))))))))))) [9, 5, 3] [_, _, _] I (AP.r 5 [.o 1 0] I ⟨I, J⟩ (AP.known 150 I hg5477 (AP.r 6 [.o 1 0] I ⟨I, J⟩ (AP.known 156 I hg5482 (AP.r 11 [.o 1 0, .o 3 0] I ⟨I, I, J⟩ (AP.known 167 I hg5483 (AP.r 3 [.o 1 1] I ⟨I, J⟩ (AP.oldG I I I I ((Yp.indexUf (m := p5484.1) I I I I I hf5486 I hp5485i hp5485x).yd) dS (AP.oldG I I I I (Yd.loadU 2 p5484.1 0 I I I (map_get hp5485x) I (y := .V p5484.2) I) dS (AP.r 4 [.o 2 0] I ⟨I, J⟩ (AP.cG I (L.zff_ok p5484.2 _ I) ?_)))))))))))))
 refine AP.q 3 I (AP.ofAO (AO.nil ?_))
 exact lg ⟨decide ((wr ((L.zff p5484.2) + r4103.1)) ≤ (min 1000 x5359.Capacity)), h, I, I⟩ [0, 1, 2, 3, 4, 5, 6, 7, 8]
 replace h := ife_f hg5483 h
 refine AW.rd (.still 0 (.still 1 (.still 2 (.still 3 (.still 4 (.still 5 (.still 6 (.still 7 (.still 8 (.still 9 (.still 10 (.still 11 (.still 12 (.still 13 (.still 14 (.still 15 (.still 16 (.still 17 (.still 18 (.still 19 (.still 20 (.still 21 (.still 22 (.still 23 (.still 24 (.still 25 (.still 26 (.still 28 (.still 30 (.still 31 (.still 32 (.act 27 (.still 29 (.still 33 (.still 34 .nil))))))))))))))))))))))))))))))))))) [9] [_] I (AP.r 5 [.o 1 0] I ⟨I, J⟩ (AP.known 150 I hg5477 (AP.r 6 [.o 1 0] I ⟨I, J⟩ (AP.known 156 I hg5482 (AP.r 11 [.o 1 0, .o 3 0] I ⟨I, I, J⟩ (AP.known 167 I hg5483 (AP.q 13 I (AP.ofAO (AO.nil ?_)))))))))
 exact lg ⟨false, h, I, I⟩ [0, 1, 2, 3, 4, 5, 6, 7, 8]
 replace h := ife_f hg5482 h
 refine AW.rd (.still 0 (.still 1 (.still 2 (.still 3 (.still 4 (.still 5 (.still 6 (.still 7 (.still 8 (.still 9 (.still 10 (.still 11 (.still 12 (.still 13 (.still 14 (.still 15 (.still 16 (.still 17 (.still 18 (.still 19 (.still 20 (.still 21 (.still 22 (.still 23 (.still 24 (.still 25 (.still 26 (.still 28 (.still 30 (.still 31 (.still 32 (.act 27 (.still 29 (.still 33 (.still 34 .nil))))))))))))))))))))))))))))))))))) [9] [_] I (AP.r 5 [.o 1 0] I ⟨I, J⟩ (AP.known 150 I hg5477 (AP.r 6 [.o 1 0] I ⟨I, J⟩ (AP.known 156 I hg5482 (AP.q 24 I (AP.ofAO (AO.nil ?_)))))))
 exact lg ⟨false, h, I, I⟩ [0, 1, 2, 3, 4, 5, 6, 7, 8]
 rintro s ob ⟨j5471, h, rfl, rfl⟩
 unfold L.zac.J16 at h
 refine AW.ch h I ?_ ?_
 intro hc5472 h
 obtain ⟨l5474, hx5475, h⟩ := ob_some h
 refine AW.region (AO.q 2 I (AO.act [] I (AX.lt 1 (([(k5356 : Int)] : List Int).map rI) (AO.act [8] I (AX.ap 8 I hx5475 (fun v5476 => (AO.q 1 I (AO.nil ?_))))))))
 exact lg ⟨l5474, v5476, h, I, I⟩ [0, 1, 2, 3, 4, 5, 6, 7, 8]
 intro hc5472 h
 refine AW.skip ?_
 exact lg ⟨st5408, v5409, h, I, I⟩ [0, 1, 2, 3, 4, 5, 6, 7, 8]
 rintro s ob ⟨j5457, v5458, h, rfl, rfl⟩
 unfold L.zac.J15 at h
 refine AW.region (AO.r 2 [.k 0 (k5356 + 1 : Nat)] I ⟨cast_wr hk5357 hm5358, J⟩ ?_)
 obtain rfl := oi h
 refine AO.nil ?_
 exact lg ⟨v5458, I, I⟩ [0, 1, 2, 3, 4, 5, 6, 7, 8]
 rintro st5408 s ob ⟨v5409, rfl, rfl⟩ he
 subst he
 have h := hR5434
 have hk5357f : decide (((n_1.Segments.length : Nat) : Int) < (n_1.Segments.length : Int)) = false := by simp
 refine AW.z I (AW.seqG (fun y5488 hy5488 => (AW.condK (v := false) I hk5357f (AW.exit ?_))))
 exact lg ⟨st5408, v5409, h, I, I⟩ [0, 1, 2, 3, 4, 5, 6, 7, 8]
 rintro s ob ⟨j5339, v5340, h, rfl, rfl⟩
 unfold L.zac.J13 at h
 refine AW.seqG (fun y5341 hy5341 => (AW.seq (AW.region (AO.q 1 I (AO.d (Yd.lenUM 8 I I I I) I (AO.q 1 I (AO.nil (AW.ch h I ?_ ?_))))))))
 intro hc5342 h
 obtain rfl := hb5193 _ (oi h).symm
 replace h := hR5192
 refine AW.exit ?_
 exact lg ⟨(j5256.1, j5256.2.1, st5028.2.2.2.1, j5256.2.2), v5029, h, I, I⟩ [0, 1, 2, 3, 4, 5, 6, 7]
 intro hc5342 h
 refine AW.skip ?_
 subst hy5341
 refine AW.seqG (fun y5343 hy5343 => ?_)
 obtain ⟨r5344, hx5345, h⟩ := ob_some h
 obtain ⟨p5346, hp5347, h⟩ := ob_some h
 obtain ⟨hp5347i, hp5347x⟩ := ix_some hp5347
 refine AW.region (AO.q 3 I (AO.d (Yd.lenUM 8 I I I I) I (AO.act [0] I (AX.c0 [0] (L.zbl_ok b0 _ _ _ hx5345) ?_))))
 refine AO.d (Yd.indexU 8 (m := p5346.1) I I I I I I I hp5347i (map_get hp5347x)) I (AO.d (Yd.loadU 8 p5346.1 0 I I I (map_get hp5347x) I (y := .V p5346.2) I) I (AO.q 1 I (AO.nil ?_)))
 subst hy5343
 refine AW.seqG (fun y5348 hy5348 => ?_)
 obtain ⟨l5350, hx5351, h⟩ := ob_some h
 refine AW.region (AO.q 2 I (AO.act [] I (AX.lt 1 (([p5346.2] : List Int).map rI) (AO.act [7] I (AX.ap 7 I hx5351 (fun v5352 => (AO.q 1 I (AO.nil ?_))))))))
 subst hy5348
 obtain ⟨p5353, hp5354, h⟩ := ob_some h
 obtain ⟨hp5354i, hp5354x⟩ := ix_some hp5354
 refine AW.rd (pd 16 0 []) [1] [_] I (AP.r 16 [.o 1 0, .x 3 p5353.1 (Segment.row p5353.2), .o 7 0, .x 9 p5353.1 (Segment.row p5353.2)] I ⟨⟨hp5354i, map_get hp5354x⟩, I, ⟨hp5354i, map_get hp5354x⟩, I, J⟩ (AP.ofAO ?_))
 obtain rfl := oi h
 refine AO.nil ?_
 exact ⟨_, _, _, I, ⟨v5352, I, I⟩, ⟨I, I, I, I, I, I, I, I, I, I, I, J⟩, [0, 1, 2, 3, 4, 5, 6, 7], I, by decide⟩
 intro hc5196 h
 obtain rfl := hb5193 _ (oi h).symm
 replace h := hR5192
 refine AW.exit ?_
 exact lg ⟨(st5028.1, st5028.2.1, st5028.2.2.2.1, st5028.2.2.2.2), v5029, h, I, I⟩ [0, 1, 2, 3, 4, 5, 6, 7]
 rintro s ob ⟨j4599, v4600, h, rfl, rfl⟩
 unfold L.zac.J7 at h
 refine AW.seqG (fun y4601 hy4601 => (AW.z I (AW.ch h I ?_ ?_)))
 intro hc4602 h
 refine AW.exit ?_
 exact lg ⟨(j4599.1, j4599.2.1, st2940.2.2.1, st2940.2.2.2.1), h, I, I⟩ [0, 1, 2, 3, 4, 5, 6]
 intro hc4602 h
 refine AW.skip ?_
 subst hy4601
 refine AW.cutX (fun s ob => ∃ (j4612 : List Int), L.zac.J8 n_1 st2940 r4103 j4599 j4612 = some r3519 ∧ s = [] ∧ ob = [.arr b0 106 2 1 [[.list 1 (j4599.1.map rI), .V j4599.2.1]], .arr b2 27 6 1 [Network.row n_1], .arr b3 32 3 1 [[.v (.slice none 0 0), .v (.slice none 0 0), .v (.slice none 0 0)]], .us v15 3 1 (st2940.2.2.1.map rI), .us v16 3 1 (j4612.map rI), .arr b14 32 3 1 [[.v v15, .v v16, .v v49]], .us v49 4 1 (j48.2.2.map rB), .us v4600 3 1 (j4599.2.2.1.map rI)]) [(0, _), (3, _), (4, _), (5, _), (7, _), (8, _), (11, _), (12, _)] ⟨I, I, I, I, I, I, I, I, J⟩ ?_ ?_
 obtain ⟨p4695, hp4696, h⟩ := ob_some h
 obtain ⟨hp4696i, hp4696x⟩ := ix_some hp4696
 obtain ⟨p4697, hp4698, h⟩ := ob_some h
 obtain ⟨hp4698i, hp4698x⟩ := ix_some hp4698
 obtain ⟨p4699, hp4700, h⟩ := ob_some h
 obtain ⟨hp4700i, hp4700x⟩ := ix_some hp4700
 refine AW.form 4 p4695.1 I hp4696x (fun hf4701 => (AW.form 4 p4697.1 I hp4698x (fun hf4702 => (AW.form 4 p4695.1 I hp4696x (fun hf4703 => (AW.rd (.still 0 (.still 1 (.still 2 (.still 3 (.still 4 (.still 5 (.still 6 (.still 7 (.still 8 (.still 9 (.still 11 (.still 13 (.still 14 (.still 15 (.still 16 (.still 18 (.two 10 17 (.still 12 (.act 17 (.still 19 (.still 20 (.act 21 (.act 22 (.act 23 .nil))))))) (.still 19 (.act 10 (.still 12 (.still 20 (.act 21 (.act 22 (.act 23 .nil)))))))))))))))))))))))) [5] [_] I (AP.r 9 [.o 1 0, .o 4 0, .o 7 0] I ⟨I, I, I, J⟩ (AP.op I (Yp.indexUf (m := p4695.1) I I I I I hf4701 I hp4696i hp4696x) I (AP.r 4 [.o 2 0] I ⟨I, J⟩ (AP.op I (Yp.indexUf (m := p4697.1) I I I I I hf4702 I hp4698i hp4698x) I (AP.q 1 I (AP.two ?_ ?_))))))))))))
 refine AP.act [] I I I (AX.of_yd (Yd.loadU 4 p4695.1 0 I I I (map_get hp4696x) I (y := .V p4695.2) I) dS (AP.q 1 I (AP.act [] I I I (AX.of_yd (Yd.loadU 4 p4697.1 0 I I I (map_get hp4698x) I (y := .V p4697.2) I) dS (AP.q 1 I (AP.op I (Yp.indexUf (m := p4695.1) I I I I I hf4703 I hp4696i hp4696x) I (AP.act [4] I I I (AX.storeU 4 p4695.1 0 I I I (map_get hp4696x) I I I I (le_ble I) I (us_set (x := wr (p4695.2 + r4103.1)) I) (AP.act [] I I I (AX.of_yd (Yd.indexU 4 (m := p4699.1) I I I I I I I hp4700i (map_get hp4700x)) dS (AP.act [4] I I I (AX.storeU 4 p4699.1 0 I I I (map_get hp4700x) I I I I (le_ble I) I (us_set (x := wr (p4697.2 - r4103.1)) I) (AP.ofAO (AO.nil ?_))))))))))))))
 exact lg ⟨((st2940.2.2.2.1.set p4695.1 (wr (p4695.2 + r4103.1))).set p4699.1 (wr (p4697.2 - r4103.1))), h, I, I⟩ [0, 1, 2, 3, 4, 5, 6, 7]
 refine AP.act [] I I I (AX.of_yd (Yd.loadU 4 p4697.1 0 I I I (map_get hp4698x) I (y := .V p4697.2) I) dS (AP.q 1 I (AP.act [] I I I (AX.of_yd (Yd.loadU 4 p4695.1 0 I I I (map_get hp4696x) I (y := .V p4695.2) I) dS (AP.q 1 I (AP.op I (Yp.indexUf (m := p4695.1) I I I I I hf4703 I hp4696i hp4696x) I (AP.act [4] I I I (AX.storeU 4 p4695.1 0 I I I (map_get hp4696x) I I I I (le_ble I) I (us_set (x := wr (p4695.2 + r4103.1)) I) (AP.act [] I I I (AX.of_yd (Yd.indexU 4 (m := p4699.1) I I I I I I I hp4700i (map_get hp4700x)) dS (AP.act [4] I I I (AX.storeU 4 p4699.1 0 I I I (map_get hp4700x) I I I I (le_ble I) I (us_set (x := wr (p4697.2 - r4103.1)) I) (AP.ofAO (AO.nil ?_))))))))))))))
 exact lg ⟨((st2940.2.2.2.1.set p4695.1 (wr (p4695.2 + r4103.1))).set p4699.1 (wr (p4697.2 - r4103.1))), h, I, I⟩ [0, 1, 2, 3, 4, 5, 6, 7]
 rintro s ob ⟨j4612, h, rfl, rfl⟩
 unfold L.zac.J8 at h
 refine AW.seqG (fun y4613 hy4613 => (AW.region (AO.q 1 I (AO.d (Yd.lenUM 7 I I I I) I (AO.q 1 I (AO.nil ?_))))))
 subst hy4613
 refine AW.block (AW.usMax 7 I (fun hm4616 => ?_))
 replace hm4616 : j4599.2.2.1.length ≤ 9223372036854775806 := by rw [List.length_map] at hm4616; omega
 obtain ⟨o4663, hL4664, hR4665⟩ := ob_some h
 clear h
 refine AW.forJY hL4664 [(0, _), (3, _), (4, _), (5, _), (7, _), (8, _), (11, _), (239, _), (240, _)] ⟨I, I, I, I, I, I, I, I, I, J⟩ (fun (k4614 : Nat) (st4648 : List Int) s ob => s = [(241, .V (k4614 : Int))] ∧ ob = [.arr b0 106 2 1 [[.list 1 (j4599.1.map rI), .V j4599.2.1]], .arr b2 27 6 1 [Network.row n_1], .arr b3 32 3 1 [[.v (.slice none 0 0), .v (.slice none 0 0), .v (.slice none 0 0)]], .us v15 3 1 (st4648.map rI), .us v16 3 1 (j4612.map rI), .arr b14 32 3 1 [[.v v15, .v v16, .v v49]], .us v49 4 1 (j48.2.2.map rB), .us v4600 3 1 (j4599.2.2.1.map rI)]) ⟨I, I⟩ ⟨I, J⟩ ⟨[0, 1, 2, 3, 4, 5, 6, 7], I, by decide⟩ ?_ ?_
 rintro k4614 st4648 r4667 s ob hk4615 ⟨rfl, rfl⟩ h
 unfold L.zac.B9 at h
 have hk4615t : decide ((k4614 : Int) < (j4599.2.2.1.length : Int)) = true := decide_eq_true (by omega)
 refine AW.z I (AW.seqG (fun y4669 hy4669 => (AW.condK (v := true) I hk4615t (AW.skip ?_))))
 subst hy4669
 refine AW.cutX (fun s ob => ∃ (j4681 : List Int), L.zac.J10 j4681 = some r4667 ∧ s = [] ∧ ob = [.arr b0 106 2 1 [[.list 1 (j4599.1.map rI), .V j4599.2.1]], .arr b2 27 6 1 [Network.row n_1], .arr b3 32 3 1 [[.v (.slice none 0 0), .v (.slice none 0 0), .v (.slice none 0 0)]], .us v15 3 1 (j4681.map rI), .us v16 3 1 (j4612.map rI), .arr b14 32 3 1 [[.v v15, .v v16, .v v49]], .us v49 4 1 (j48.2.2.map rB), .us v4600 3 1 (j4599.2.2.1.map rI)]) [(0, _), (3, _), (4, _), (5, _), (7, _), (8, _), (11, _), (239, _), (240, _), (241, _)] ⟨I, I, I, I, I, I, I, I, I, I, J⟩ ?_ ?_
 refine AW.block (AW.seqG (fun y4682 hy4682 => ?_))
 obtain ⟨p4683, hp4684, h⟩ := ob_some h
 obtain ⟨hp4684i, hp4684x⟩ := ix_some hp4684
 refine AW.region (AO.d (Yd.indexU 7 (m := p4683.1) I I I I I I I hp4684i (map_get hp4684x)) I (AO.d (Yd.loadU 7 p4683.1 0 I I I (map_get hp4684x) I (y := .V p4683.2) I) I (AO.q 1 I (AO.nil ?_))))
 subst hy4682
 refine AW.seqG (fun y4685 hy4685 => ?_)
 obtain ⟨p4686, hp4687, h⟩ := ob_some h
 obtain ⟨hp4687i, hp4687x⟩ := ix_some hp4687
 refine AW.dt (pd 13 0 []) [1] [_] [.o 1 0, .x 3 p4686.1 (Segment.row p4686.2), .o 7 0, .x 9 p4686.1 (Segment.row p4686.2)] I I ⟨⟨hp4687i, map_get hp4687x⟩, I, ⟨hp4687i, map_get hp4687x⟩, I, J⟩ ?_
 subst hy4685
 refine AW.ch h I ?_ ?_
 intro hc4688 h
 obtain ⟨p4689, hp4690, h⟩ := ob_some h
 obtain ⟨hp4690i, hp4690x⟩ := ix_some hp4690
 refine AW.region (AO.r 3 [.o 1 5] I ⟨I, J⟩ (AO.d (Yd.indexU 3 (m := p4689.1) I I I I I I I hp4690i (map_get hp4690x)) I (AO.d (Yd.loadU 3 p4689.1 0 I I I (map_get hp4690x) I (y := .V p4689.2) I) I (AO.q 2 I (AO.d (Yd.indexU 3 (m := p4689.1) I I I I I I I hp4690i (map_get hp4690x)) I (AO.act [3] I (AX.storeU 3 p4689.1 0 I I I (map_get hp4690x) I I I I (le_ble I) I (us_set (x := wr (p4689.2 + r4103.1)) I) (AO.nil ?_))))))))
 exact lg ⟨(st4648.set p4689.1 (wr (p4689.2 + r4103.1))), h, I, I⟩ [0, 1, 2, 3, 4, 5, 6, 7]
 intro hc4688 h
 obtain ⟨p4691, hp4692, h⟩ := ob_some h
 obtain ⟨hp4692i, hp4692x⟩ := ix_some hp4692
 refine AW.region (AO.r 3 [.o 1 5] I ⟨I, J⟩ (AO.d (Yd.indexU 3 (m := p4691.1) I I I I I I I hp4692i (map_get hp4692x)) I (AO.d (Yd.loadU 3 p4691.1 0 I I I (map_get hp4692x) I (y := .V p4691.2) I) I (AO.q 2 I (AO.d (Yd.indexU 3 (m := p4691.1) I I I I I I I hp4692i (map_get hp4692x)) I (AO.act [3] I (AX.storeU 3 p4691.1 0 I I I (map_get hp4692x) I I I I (le_ble I) I (us_set (x := wr (p4691.2 - r4103.1)) I) (AO.nil ?_))))))))
 exact lg ⟨(st4648.set p4691.1 (wr (p4691.2 - r4103.1))), h, I, I⟩ [0, 1, 2, 3, 4, 5, 6, 7]
 rintro s ob ⟨j4681, h, rfl, rfl⟩
 unfold L.zac.J10 at h
 refine AW.region (AO.r 2 [.k 0 (k4614 + 1 : Nat)] I ⟨cast_wr hk4615 hm4616, J⟩ ?_)
 obtain rfl := oi h
 refine AO.nil ?_
 exact lg ⟨I, I⟩ [0, 1, 2, 3, 4, 5, 6, 7]
 rintro st4648 s ob ⟨rfl, rfl⟩ he
 subst he
 have h := hR4665
 have hk4615f : decide (((j4599.2.2.1.length : Nat) : Int) < (j4599.2.2.1.length : Int)) = false := by simp
 refine AW.z I (AW.seqG (fun y4694 hy4694 => (AW.condK (v := false) I hk4615f (AW.exit ?_))))
 exact lg ⟨(j4599.1, j4599.2.1, st4648, j4612), h, I, I⟩ [0, 1, 2, 3, 4, 5, 6]
 rintro s ob ⟨j4093, h, rfl, rfl⟩
 unfold L.zac.J5 at h
 refine AW.region (AO.q 3 I ?_)
 obtain rfl := oi h
 refine AO.nil ?_
 exact ⟨_, _, _, I, ⟨I, I⟩, ⟨I, I, I, I, I, I, J⟩, [0, 1, 2, 3, 4, 5, 6], I, by decide⟩
 intro hc3521 h
 obtain rfl := hb3518 _ (oi h).symm
 replace h := hR3517
 refine AW.exit ?_
 exact lg ⟨(st2940.1, st2940.2.1, st2940.2.2.1, st2940.2.2.2.1), h, I, I⟩ [0, 2, 3, 4, 5, 6]
 rintro s ob ⟨j1782, h, rfl, rfl⟩
 unfold L.zac.J3 at h
 refine AW.seq (AW.z I (AW.ch h I ?_ ?_))
 intro hc1783 h
 refine AW.seq ?_
 obtain ⟨r1784, hx1785, h⟩ := ob_some h
 refine AW.region (AO.r 1 [.o 0 4] I ⟨I, J⟩ (AO.ghost (Ghost.freeze [2, 3, 5] (K := [.us v15 3 1 (j1782.2.2.1.map rI), .us v16 3 1 (j1782.2.2.2.map rI), .us v49 4 1 (j48.2.2.map rB)]) I [(276, .agg [.list 1 (j1782.2.2.1.map rI), .list 1 (j1782.2.2.2.map rI), .list 1 (j48.2.2.map rB)])] ⟨⟨_, I, .agg (.cons (.us 0 I) (.cons (.us 1 I) (.cons (.us 2 I) (.rest _))))⟩, J⟩ (ob' := [.arr b0 106 2 1 [[.list 1 (j1782.1.map rI), .V j1782.2.1]], .arr b3 32 3 1 [[.v (.slice none 0 0), .v (.slice none 0 0), .v (.slice none 0 0)]], .arr b14 32 3 1 [[.list 1 (j1782.2.2.1.map rI), .list 1 (j1782.2.2.2.map rI), .list 1 (j48.2.2.map rB)]]]) (.cons (.same _) (.cons (.same _) (.cons (.arr (.cons (.us 0 I) (.cons (.us 1 I) (.cons (.us 2 I) (.rest _))))) (.rest _))))) (AO.act [] I (AX.call0 I I I (L.zct_ok _ _ hx1785) dS ?_))))
 rintro _ _ ⟨rfl, rfl⟩
 refine AO.act [1] I (AX.store 1 0 0 (es' := [Plan.row r1784]) I I I I I I I I (le_ble I) I I (AO.nil (AW.ghost (Ghost.pick [0, 1] (K := [.arr b0 106 2 1 [[.list 1 (j1782.1.map rI), .V j1782.2.1]], .arr b3 32 3 1 [Plan.row r1784]]) I (by decide)) ?_)))
 obtain rfl := oi h
 exact AW.ret ⟨.inr I, [_], [.arr b0 106 2 1 [[.list 1 (j1782.1.map rI), .V j1782.2.1]]], ⟨⟨1, _, _, _, _, _, _, _, I, I, I, I, I⟩, J⟩, sl_c I (sl_n), ⟨[.arr b0 106 2 1 [[.list 1 (j1782.1.map rI), .V j1782.2.1]]], [], I, I, I, I, I⟩⟩
 intro hc1783 h
 refine AW.skip (AW.seq (AW.region (AO.r 1 [.o 0 4] I ⟨I, J⟩ (AO.act [1] I (AX.store 1 0 0 (es' := [[.v v15, .v v16, .v v49]]) I I I I I I I I (le_ble I) I I (AO.nil (AW.ghost (Ghost.freeze [2, 3, 5] (K := [.us v15 3 1 (j1782.2.2.1.map rI), .us v16 3 1 (j1782.2.2.2.map rI), .us v49 4 1 (j48.2.2.map rB)]) I [(278, .agg [.list 1 (j1782.2.2.1.map rI), .list 1 (j1782.2.2.2.map rI), .list 1 (j48.2.2.map rB)])] ⟨⟨_, I, .agg (.cons (.us 0 I) (.cons (.us 1 I) (.cons (.us 2 I) (.rest _))))⟩, J⟩ (ob' := [.arr b0 106 2 1 [[.list 1 (j1782.1.map rI), .V j1782.2.1]], .arr b3 32 3 1 [[.list 1 (j1782.2.2.1.map rI), .list 1 (j1782.2.2.2.map rI), .list 1 (j48.2.2.map rB)]], .arr b14 32 3 1 [[.list 1 (j1782.2.2.1.map rI), .list 1 (j1782.2.2.2.map rI), .list 1 (j48.2.2.map rB)]]]) (.cons (.same _) (.cons (.arr (.cons (.us 0 I) (.cons (.us 1 I) (.cons (.us 2 I) (.rest _))))) (.cons (.arr (.cons (.us 0 I) (.cons (.us 1 I) (.cons (.us 2 I) (.rest _))))) (.rest _))))) (AW.ghost (Ghost.pick [0, 1] (K := [.arr b0 106 2 1 [[.list 1 (j1782.1.map rI), .V j1782.2.1]], .arr b3 32 3 1 [[.list 1 (j1782.2.2.1.map rI), .list 1 (j1782.2.2.2.map rI), .list 1 (j48.2.2.map rB)]]]) I (by decide)) ?_))))))))
 obtain rfl := oi h
 exact AW.ret ⟨.inr I, [_], [.arr b0 106 2 1 [[.list 1 (j1782.1.map rI), .V j1782.2.1]]], ⟨⟨1, _, _, _, _, _, _, _, I, I, I, I, I⟩, J⟩, sl_c I (sl_n), ⟨[.arr b0 106 2 1 [[.list 1 (j1782.1.map rI), .V j1782.2.1]]], [], I, I, I, I, I⟩⟩
end Go.Proofs.YtehbcbedipkifaaGreatDoor
