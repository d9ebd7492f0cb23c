/- Walks that show what functions of the program compute; printed by a program of ours. No condition. -/
import Derived.Test.YtehbcbedipkifaaGreatDoorZsLh2
import Derived.Test.YtehbcbedipkifaaGreatDoorZsLh3
set_option maxRecDepth 100000
namespace Go.Proofs.YtehbcbedipkifaaGreatDoor
open Go.Aw
set_option linter.unusedVariables false
set_option linter.unusedSimpArgs false
set_option maxHeartbeats 4000000
theorem L.law21_higher_ok (x_0 : Pressures) (y_1 : Pressures) (r : Bool) (h : L.law21_higher x_0 y_1 = some r) : ACalls Tryz.env 27 [.agg (Pressures.row x_0), .agg (Pressures.row y_1)] [] (fun x new => x = .v (.bool r) ∧ new = []) := by
 refine ACalls.of_body Tryz.func27 rfl rfl rfl (fun C hC => ?_)
 unfold L.law21_higher at h
 refine AW.seqG (fun y1 hy1 => (AW.region (AO.act [] I (AX.box (cs := Pressures.row x_0) (m := 3) I I I dS (fun b2 => (AO.act [] I (AX.box (cs := Pressures.row y_1) (m := 3) I I I dS (fun b3 => (AO.q 1 I (AO.nil ?_))))))))))
 subst hy1
 refine AW.seqG (fun y4 hy4 => (AW.cutX (fun s ob => s = [(23, .v (.bool (((x_0.Nodes.length : Int) != (y_1.Nodes.length : Int)) || ((x_0.Segments.length : Int) != (y_1.Segments.length : Int)))))] ∧ ob = [.arr b2 36 3 1 [Pressures.row x_0], .arr b3 36 3 1 [Pressures.row y_1]]) [(2, _), (3, _)] ⟨I, I, J⟩ ?_ ?_))
 refine AW.region (AO.r 8 [.o 1 0, .l 2 (x_0.Nodes.length : Int), .o 4 1, .l 5 (y_1.Nodes.length : Int)] I ⟨len_m, I, len_m, I, J⟩ ?_)
 rcases bt (((x_0.Nodes.length : Int) != (y_1.Nodes.length : Int))) with hg7 | hg7
 refine AO.known 15 I hg7 (AO.q 8 I (AO.nil ?_))
 exact lf ⟨I, I⟩ ⟨(get_b (by simp only [hg7, bz])), I, I, J⟩ [0, 1] I
 refine AO.known 15 I hg7 (AO.r 8 [.o 1 0, .l 2 (x_0.Segments.length : Int), .o 4 1, .l 5 (y_1.Segments.length : Int)] I ⟨len_m, I, len_m, I, J⟩ (AO.nil ?_))
 exact lf ⟨I, I⟩ ⟨(get_b (by simp only [hg7, bz])), I, I, J⟩ [0, 1] I
 rintro s ob ⟨rfl, rfl⟩
 refine AW.ch h I ?_ ?_
 intro hc8 h
 refine AW.z I (AW.ghost (Ghost.pick [] (K := []) I (by decide)) ?_)
 obtain rfl := oi h
 exact AW.ret ⟨.inr I, [_], [], ⟨I, J⟩, sl_n, I, I⟩
 intro hc8 h
 refine AW.skip ?_
 subst hy4
 refine AW.cutX (fun s ob => ∃ (j35 : Unit), L.law21_higher.J1 x_0 y_1 j35 = some r ∧ s = [] ∧ ob = [.arr b2 36 3 1 [Pressures.row x_0], .arr b3 36 3 1 [Pressures.row y_1]]) [(2, _), (3, _)] ⟨I, I, J⟩ ?_ ?_
 refine AW.zr [.o 1 0, .l 2 (x_0.Nodes.length : Int)] I ⟨len_m, I, J⟩ (AW.block (AW.listMax 25 I (fun hm284 => ?_)))
 replace hm284 : x_0.Nodes.length ≤ 9223372036854775806 := by rw [List.length_map] at hm284; omega
 obtain ⟨o305, hL306, hR307⟩ := ob_some h
 clear h
 refine AW.forX hL306 [(2, _), (3, _), (26, _)] ⟨I, I, I, J⟩ (fun (k282 : Nat) (st296 : Unit) s ob => s = [(27, .V (k282 : Int))] ∧ ob = [.arr b2 36 3 1 [Pressures.row x_0], .arr b3 36 3 1 [Pressures.row y_1]]) ⟨I, I⟩ ⟨I, J⟩ ⟨[0, 1], I, by decide⟩ ?_ ?_
 rintro k282 x285 st296 r309 s ob hx286 hk283 ⟨rfl, rfl⟩ h hb308
 unfold L.law21_higher.B7 at h
 have hk283t : decide ((k282 : Int) < (x_0.Nodes.length : Int)) = true := decide_eq_true (by omega)
 refine AW.z I (AW.seqG (fun y311 hy311 => (AW.condK (v := true) I hk283t (AW.skip ?_))))
 subst hy311
 refine AW.seq (AW.block (AW.z I (AW.cutX (fun s ob => ∃ (j316 : Bool), L.law21_higher.J8 j316 = some r309 ∧ s = [(57, .v (.bool j316))] ∧ ob = [.arr b2 36 3 1 [Pressures.row x_0], .arr b3 36 3 1 [Pressures.row y_1]]) [(2, _), (3, _), (26, _), (27, _)] ⟨I, I, I, I, J⟩ ?_ ?_)))
 obtain ⟨p318, hp319, h⟩ := ob_some h
 obtain ⟨hp319i, hp319x⟩ := ix_some hp319
 refine AW.rd (pd 28 0 []) [1, 0] [_, _] I (AP.r 14 [.o 1 0, .x 3 p318.1 (Bounds.row p318.2), .o 7 1, .x 9 k282 (Bounds.row x285)] I ⟨⟨I, map_get hx286⟩, I, ⟨hp319i, map_get hp319x⟩, I, J⟩ ?_)
 rcases bt (decide (p318.2.Low < x285.Low)) with hg320 | hg320
 replace h := ife_t hg320 h
 refine AP.known 43 I hg320 (AP.q 14 I (AP.ofAO (AO.nil ?_)))
 exact lg ⟨true, h, I, I⟩ [0, 1]
 replace h := ife_f hg320 h
 refine AP.known 43 I hg320 (AP.r 14 [.o 1 0, .x 3 p318.1 (Bounds.row p318.2), .o 7 1, .x 9 k282 (Bounds.row x285)] I ⟨⟨I, map_get hx286⟩, I, ⟨hp319i, map_get hp319x⟩, I, J⟩ (AP.ofAO (AO.nil ?_)))
 exact lg ⟨decide (p318.2.High < x285.High), h, I, I⟩ [0, 1]
 rintro s ob ⟨j316, h, rfl, rfl⟩
 unfold L.law21_higher.J8 at h
 refine AW.ch h I ?_ ?_
 intro hc317 h
 refine AW.z I ?_
 obtain rfl := hb308 _ (oi h).symm
 replace h := hR307
 replace h := se_r h
 refine AW.ghost (Ghost.pick [] (K := []) I (by decide)) ?_
 obtain rfl := oi h
 exact AW.ret ⟨.inr I, [_], [], ⟨I, J⟩, sl_n, I, I⟩
 intro hc317 h
 refine AW.skip (AW.region (AO.r 2 [.k 0 (k282 + 1 : Nat)] I ⟨cast_wr hk283 hm284, J⟩ ?_))
 obtain rfl := oi h
 refine AO.nil ?_
 exact ⟨_, _, _, I, ⟨I, I⟩, ⟨I, I, I, I, J⟩, [0, 1], I, by decide⟩
 rintro st296 s ob ⟨rfl, rfl⟩ he
 subst he
 have h := se_l hR307
 have hk283f : decide (((x_0.Nodes.length : Nat) : Int) < (x_0.Nodes.length : Int)) = false := by simp
 refine AW.z I (AW.seqG (fun y322 hy322 => (AW.condK (v := false) I hk283f (AW.exit ?_))))
 exact lg ⟨(), h, I, I⟩ [0, 1]
 rintro s ob ⟨j35, h, rfl, rfl⟩
 unfold L.law21_higher.J1 at h
 refine AW.cutX (fun s ob => ∃ (j114 : Unit), L.law21_higher.J2 j114 = some r ∧ s = [] ∧ ob = []) [] J ?_ ?_
 refine AW.zr [.o 1 0, .l 2 (x_0.Segments.length : Int)] I ⟨len_m, I, J⟩ (AW.block (AW.listMax 60 I (fun hm118 => ?_)))
 replace hm118 : x_0.Segments.length ≤ 9223372036854775806 := by rw [List.length_map] at hm118; omega
 obtain ⟨o191, hL192, hR193⟩ := ob_some h
 clear h
 refine AW.forX hL192 [(2, _), (3, _), (61, _)] ⟨I, I, I, J⟩ (fun (k116 : Nat) (st156 : Unit) s ob => s = [(62, .V (k116 : Int))] ∧ ob = [.arr b2 36 3 1 [Pressures.row x_0], .arr b3 36 3 1 [Pressures.row y_1]]) ⟨I, I⟩ ⟨I, J⟩ ⟨[0, 1], I, by decide⟩ ?_ ?_
 rintro k116 x119 st156 r195 s ob hx120 hk117 ⟨rfl, rfl⟩ h hb194
 unfold L.law21_higher.B3 at h
 have hk117t : decide ((k116 : Int) < (x_0.Segments.length : Int)) = true := decide_eq_true (by omega)
 refine AW.z I (AW.seqG (fun y197 hy197 => (AW.condK (v := true) I hk117t (AW.skip ?_))))
 subst hy197
 refine AW.cutX (fun s ob => ∃ (j229 : Unit), L.law21_higher.J4 j229 = some r195 ∧ s = [] ∧ ob = [.arr b2 36 3 1 [Pressures.row x_0], .arr b3 36 3 1 [Pressures.row y_1]]) [(2, _), (3, _), (61, _), (62, _)] ⟨I, I, I, I, J⟩ ?_ ?_
 refine AW.block (AW.z I (AW.seqG (fun y231 hy231 => (AW.seq ?_))))
 obtain ⟨p232, hp233, h⟩ := ob_some h
 obtain ⟨hp233i, hp233x⟩ := ix_some hp233
 refine AW.dt (pd 13 0 []) [0, 1] [_, _] [.o 1 0, .x 3 k116 ((rL 3 Level.row) x119), .l 5 (x119.length : Int), .o 7 1, .x 9 p232.1 ((rL 3 Level.row) p232.2), .l 11 (p232.2.length : Int)] I I ⟨len_m, ⟨hp233i, map_get hp233x⟩, I, len_m, ⟨I, map_get hx120⟩, I, J⟩ (AW.ch h I ?_ ?_)
 intro hc234 h
 refine AW.z I ?_
 obtain rfl := hb194 _ (oi h).symm
 replace h := hR193
 replace h := se_r h
 refine AW.ghost (Ghost.pick [] (K := []) I (by decide)) ?_
 obtain rfl := oi h
 exact AW.ret ⟨.inr I, [_], [], ⟨I, J⟩, sl_n, I, I⟩
 intro hc234 h
 refine AW.skip ?_
 subst hy231
 refine AW.zr [.o 1 0, .x 3 k116 ((rL 3 Level.row) x119), .l 5 (x119.length : Int)] I ⟨len_m, ⟨I, map_get hx120⟩, I, J⟩ (AW.block (AW.listMax 82 I (fun hm238 => ?_)))
 replace hm238 : x119.length ≤ 9223372036854775806 := by rw [List.length_map] at hm238; omega
 obtain ⟨o259, hL260, hR261⟩ := ob_some h
 clear h
 refine AW.forX hL260 [(2, _), (3, _), (6, _), (61, _), (62, _), (83, _)] ⟨I, I, I, I, I, I, J⟩ (fun (k236 : Nat) (st250 : Unit) s ob => s = [(84, .V (k236 : Int))] ∧ ob = [.arr b2 36 3 1 [Pressures.row x_0], .arr b3 36 3 1 [Pressures.row y_1]]) ⟨I, I⟩ ⟨I, J⟩ ⟨[0, 1], I, by decide⟩ ?_ ?_
 rintro k236 x239 st250 r263 s ob hx240 hk237 ⟨rfl, rfl⟩ h hb262
 unfold L.law21_higher.B5 at h
 have hk237t : decide ((k236 : Int) < (x119.length : Int)) = true := decide_eq_true (by omega)
 refine AW.z I (AW.seqG (fun y265 hy265 => (AW.condK (v := true) I hk237t (AW.skip ?_))))
 subst hy265
 refine AW.seq (AW.block (AW.z I (AW.cutX (fun s ob => ∃ (j270 : Bool), L.law21_higher.J6 j270 = some r263 ∧ s = [(130, .v (.bool j270))] ∧ ob = [.arr b2 36 3 1 [Pressures.row x_0], .arr b3 36 3 1 [Pressures.row y_1]]) [(2, _), (3, _), (6, _), (61, _), (62, _), (83, _), (84, _)] ⟨I, I, I, I, I, I, I, J⟩ ?_ ?_)))
 obtain ⟨p272, hp273, h⟩ := ob_some h
 obtain ⟨hp273i, hp273x⟩ := ix_some hp273
 refine AW.rd (pd 44 0 []) [1, 0] [_, _] I (AP.r 22 [.o 1 0, .x 3 p232.1 ((rL 3 Level.row) p232.2), .x 6 p272.1 (Level.row p272.2), .o 11 1, .x 13 k116 ((rL 3 Level.row) x119), .x 16 k236 (Level.row x239)] I ⟨⟨I, map_get hx240⟩, ⟨I, map_get hx120⟩, I, ⟨hp273i, map_get hp273x⟩, ⟨hp233i, map_get hp233x⟩, I, J⟩ ?_)
 rcases bt (decide (p272.2.Bounds.Low < x239.Bounds.Low)) with hg274 | hg274
 replace h := ife_t hg274 h
 refine AP.known 108 I hg274 (AP.q 22 I (AP.ofAO (AO.nil ?_)))
 exact lg ⟨true, h, I, I⟩ [0, 1]
 replace h := ife_f hg274 h
 refine AP.known 108 I hg274 (AP.r 22 [.o 1 0, .x 3 p232.1 ((rL 3 Level.row) p232.2), .x 6 p272.1 (Level.row p272.2), .o 11 1, .x 13 k116 ((rL 3 Level.row) x119), .x 16 k236 (Level.row x239)] I ⟨⟨I, map_get hx240⟩, ⟨I, map_get hx120⟩, I, ⟨hp273i, map_get hp273x⟩, ⟨hp233i, map_get hp233x⟩, I, J⟩ (AP.ofAO (AO.nil ?_)))
 exact lg ⟨decide (p272.2.Bounds.High < x239.Bounds.High), h, I, I⟩ [0, 1]
 rintro s ob ⟨j270, h, rfl, rfl⟩
 unfold L.law21_higher.J6 at h
 refine AW.ch h I ?_ ?_
 intro hc271 h
 refine AW.z I ?_
 obtain rfl := hb262 _ (oi h).symm
 replace h := hR261
 replace h := se_r h
 obtain rfl := hb194 _ (oi h).symm
 replace h := hR193
 replace h := se_r h
 refine AW.ghost (Ghost.pick [] (K := []) I (by decide)) ?_
 obtain rfl := oi h
 exact AW.ret ⟨.inr I, [_], [], ⟨I, J⟩, sl_n, I, I⟩
 intro hc271 h
 refine AW.skip (AW.region (AO.r 2 [.k 0 (k236 + 1 : Nat)] I ⟨cast_wr hk237 hm238, J⟩ ?_))
 obtain rfl := oi h
 refine AO.nil ?_
 exact ⟨_, _, _, I, ⟨I, I⟩, ⟨I, I, I, I, I, I, I, J⟩, [0, 1], I, by decide⟩
 rintro st250 s ob ⟨rfl, rfl⟩ he
 subst he
 have h := se_l hR261
 have hk237f : decide (((x119.length : Nat) : Int) < (x119.length : Int)) = false := by simp
 refine AW.z I (AW.seqG (fun y276 hy276 => (AW.condK (v := false) I hk237f (AW.exit ?_))))
 exact lg ⟨(), h, I, I⟩ [0, 1]
 rintro s ob ⟨j229, h, rfl, rfl⟩
 unfold L.law21_higher.J4 at h
 refine AW.region (AO.r 2 [.k 0 (k116 + 1 : Nat)] I ⟨cast_wr hk117 hm118, J⟩ ?_)
 obtain rfl := oi h
 refine AO.nil ?_
 exact ⟨_, _, _, I, ⟨I, I⟩, ⟨I, I, I, I, J⟩, [0, 1], I, by decide⟩
 rintro st156 s ob ⟨rfl, rfl⟩ he
 subst he
 have h := se_l hR193
 have hk117f : decide (((x_0.Segments.length : Nat) : Int) < (x_0.Segments.length : Int)) = false := by simp
 refine AW.z I (AW.seqG (fun y279 hy279 => (AW.condK (v := false) I hk117f (AW.exit ?_))))
 exact lg ⟨(), h, I, I⟩ []
 rintro s ob ⟨j114, h, rfl, rfl⟩
 unfold L.law21_higher.J2 at h
 refine AW.z I ?_
 obtain rfl := oi h
 exact AW.ret ⟨.inr I, [_], [], ⟨I, J⟩, sl_n, I, I⟩
theorem L.law21_SteadyRises_ok (l_0 : List Int) (which_1 : Int) (more_2 : Int) (r : Bool) (h : L.law21_SteadyRises l_0 which_1 more_2 = some r) : ACalls Tryz.env 6 [.list 1 (l_0.map rI), .v (.int .u8 which_1), .v (.int .u32 more_2)] [] (fun x new => x = .v (.bool r) ∧ new = []) := by
 refine ACalls.of_body Tryz.func6 rfl rfl rfl (fun C hC => ?_)
 unfold L.law21_SteadyRises at h
 refine AW.z I (AW.seqG (fun y2 hy2 => ?_))
 obtain ⟨r3, hx4, h⟩ := ob_some h
 obtain ⟨r6, hx7, h⟩ := ob_some h
 refine AW.region (AO.q 1 I (AO.act [] I (AX.call0 I I I (L.keep_New_ok _ _ hx4) dS ?_)))
 rintro _ _ ⟨b5, rfl, rfl⟩
 refine AO.act [0] I (AX.c0 [0] (L.law21_world_ok b5 _ _ hx7) ?_)
 refine AO.q 6 I (AO.act [] I (AX.alloc (cs := [.v (.slice none 0 0), .v (.slice none 0 0), .v (.slice none 0 0), .v (.slice none 0 0), .V 0, .V 0]) (m := 6) I I I I I dS (fun b8 => (AO.act [] I (AX.alloc (cs := [.v (.slice none 0 0), .v (.slice none 0 0), .v (.slice none 0 0)]) (m := 3) I I I I I dS (fun b9 => (AO.act [1] I (AX.store 1 0 0 (es' := [Network.row r6.1]) I I I I I I I I (le_ble I) I I (AO.q 3 I (AO.act [2] I (AX.store 2 0 0 (es' := [Plan.row r6.2.2.2.2.1]) I I I I I I I I (le_ble I) I I (AO.nil ?_))))))))))))
 subst hy2
 refine AW.seqG (fun y10 hy10 => ?_)
 obtain ⟨r11, hx12, h⟩ := ob_some h
 refine AW.region (AO.r 5 [.o 0 1, .o 4 2] I ⟨I, I, J⟩ (AO.act [] I (AX.call0 I I I (L.steady_Solve_ok _ _ _ _ _ _ hx12) dS ?_)))
 rintro _ _ ⟨rfl, rfl⟩
 refine AO.q 3 I (AO.act [] I (AX.alloc (cs := [.v (.slice none 0 0), .v (.slice none 0 0), .v (.slice none 0 0)]) (m := 3) I I I I I dS (fun b13 => (AO.act [3] I (AX.store 3 0 0 (es' := [Pressures.row r11.1]) I I I I I I I I (le_ble I) I I (AO.q 1 I (AO.nil ?_)))))))
 subst hy10
 refine AW.cutX (fun s ob => ∃ (j19 : List Bool) (b20 : Nat) (v21 : Value), L.law21_SteadyRises.J1 which_1 more_2 r6 r11 j19 = some r ∧ s = [(14, .v (.pointer (some ⟨b20, 0, none⟩)))] ∧ ob = [.arr b8 27 6 1 [Network.row r6.1], .arr b9 32 3 1 [Plan.row r6.2.2.2.2.1], .arr b13 36 3 1 [Pressures.row r11.1], .us v21 4 1 (j19.map rB), .arr b20 32 3 1 [[.list 1 (r6.2.2.2.2.1.Rates.map rI), .list 1 (r6.2.2.2.2.1.Ports.map rI), .v v21]]]) [(1, _), (2, _), (7, _), (8, _), (9, _), (10, _), (11, _), (12, _), (13, _)] ⟨I, I, I, I, I, I, I, I, I, J⟩ ?_ ?_
 obtain ⟨l86, hx87, h⟩ := ob_some h
 refine AW.rd (.still 0 (.still 1 (.still 2 (.still 3 (.still 5 (.still 6 (.two 4 9 (.two 7 9 (.still 8 (.act 9 (.act 10 .nil))) (.act 7 (.still 8 (.act 10 .nil)))) (.act 4 (.act 7 (.still 8 (.act 10 .nil))))))))))) [2] [_] I (AP.r 6 [.o 1 0, .o 3 0, .o 5 0] I ⟨I, I, I, J⟩ (AP.two ?_ ?_))
 refine AP.act [] I I I (AX.buildSlice (sz := 1) (es := ([] : List Bool).map rB) I I I I I I I I I I I dS (fun v85 => (AP.two ?_ ?_)))
 refine AP.act [4] I I I (AX.ap 4 I hx87 (fun v88 => (AP.one 4 I (fun v88o => (AP.p I (Yp.buildP (l := [.list 1 (r6.2.2.2.2.1.Rates.map rI), .list 1 (r6.2.2.2.2.1.Ports.map rI), .v v88]) Tryz.bld32 (fill_step I I I I (fill_step I I I I (fill_step I I (cells_v v88o) I (fill_nil))))) I (AP.act [] I I I (AX.alloc (cs := [.v (.slice none 0 0), .v (.slice none 0 0), .v (.slice none 0 0)]) (m := 3) I I I I I dS (fun b89 => (AP.act [5] I I I (AX.store 5 0 0 (es' := [[.list 1 (r6.2.2.2.2.1.Rates.map rI), .list 1 (r6.2.2.2.2.1.Ports.map rI), .v v88]]) I I I I I I I I (le_ble I) I I (AP.ofAO (AO.nil ?_))))))))))))
 exact lg ⟨l86, b89, v88, h, I, I⟩ [1, 2, 3, 4, 5]
 refine AP.act [] I I I (AX.alloc (cs := [.v (.slice none 0 0), .v (.slice none 0 0), .v (.slice none 0 0)]) (m := 3) I I I I I dS (fun b89 => (AP.act [4] I I I (AX.ap 4 I hx87 (fun v88 => (AP.one 4 I (fun v88o => (AP.p I (Yp.buildP (l := [.list 1 (r6.2.2.2.2.1.Rates.map rI), .list 1 (r6.2.2.2.2.1.Ports.map rI), .v v88]) Tryz.bld32 (fill_step I I I I (fill_step I I I I (fill_step I I (cells_v v88o) I (fill_nil))))) I (AP.act [5] I I I (AX.store 5 0 0 (es' := [[.list 1 (r6.2.2.2.2.1.Rates.map rI), .list 1 (r6.2.2.2.2.1.Ports.map rI), .v v88]]) I I I I I I I I (le_ble I) I I (AP.ofAO (AO.nil ?_))))))))))))
 exact lg ⟨l86, b89, v88, h, I, I⟩ [1, 2, 3, 4, 5]
 refine AP.act [] I I I (AX.alloc (cs := [.v (.slice none 0 0), .v (.slice none 0 0), .v (.slice none 0 0)]) (m := 3) I I I I I dS (fun b89 => (AP.act [] I I I (AX.buildSlice (sz := 1) (es := ([] : List Bool).map rB) I I I I I I I I I I I dS (fun v85 => (AP.act [5] I I I (AX.ap 5 I hx87 (fun v88 => (AP.one 5 I (fun v88o => (AP.p I (Yp.buildP (l := [.list 1 (r6.2.2.2.2.1.Rates.map rI), .list 1 (r6.2.2.2.2.1.Ports.map rI), .v v88]) Tryz.bld32 (fill_step I I I I (fill_step I I I I (fill_step I I (cells_v v88o) I (fill_nil))))) I (AP.act [4] I I I (AX.store 4 0 0 (es' := [[.list 1 (r6.2.2.2.2.1.Rates.map rI), .list 1 (r6.2.2.2.2.1.Ports.map rI), .v v88]]) I I I I I I I I (le_ble I) I I (AP.ofAO (AO.nil ?_)))))))))))))))
 exact lg ⟨l86, b89, v88, h, I, I⟩ [1, 2, 3, 5, 4]
 rintro s ob ⟨j19, b20, v21, h, rfl, rfl⟩
 unfold L.law21_SteadyRises.J1 at h
 refine AW.cutX (fun s ob => ∃ (j30 : List Bool), L.law21_SteadyRises.J2 which_1 more_2 r6 r11 j30 = some r ∧ s = [] ∧ ob = [.arr b8 27 6 1 [Network.row r6.1], .arr b9 32 3 1 [Plan.row r6.2.2.2.2.1], .arr b13 36 3 1 [Pressures.row r11.1], .us v21 4 1 (j30.map rB), .arr b20 32 3 1 [[.list 1 (r6.2.2.2.2.1.Rates.map rI), .list 1 (r6.2.2.2.2.1.Ports.map rI), .v v21]]]) [(1, _), (2, _), (7, _), (8, _), (9, _), (10, _), (11, _), (12, _), (13, _), (14, _)] ⟨I, I, I, I, I, I, I, I, I, I, J⟩ ?_ ?_
 refine AW.seqG (fun y77 hy77 => (AW.region (AO.r 2 [.o 1 4] I ⟨I, J⟩ (AO.d (Yd.lenUM 3 I I I I) I (AO.q 1 I (AO.nil ?_))))))
 subst hy77
 refine AW.ch h I ?_ ?_
 intro hc78 h
 obtain ⟨x79, hx80, h⟩ := ob_some h
 obtain ⟨p81, hp82, h⟩ := ob_some h
 obtain ⟨hp82i, hp82x⟩ := ix_some hp82
 refine AW.formL 3 I (fun hf83 => (AW.form 3 p81.1 I hp82x (fun hf84 => (AW.rd (pd 10 0 [9]) [4] [_] I (AP.r 3 [.o 1 0] I ⟨I, J⟩ (AP.op I (Yp.convI (c := wr (which_1)) I I I I I) I (AP.r 2 [.o 1 0] I ⟨I, J⟩ (AP.op I (Yp.lenUf I I I hf83) I (AP.r 1 [.f 0 (.V x79)] I ⟨Yp.yd (Yp.binI (c := x79) I I (rem_some hx80)), J⟩ (AP.op I (Yp.indexUf (m := p81.1) I I I I I hf84 I hp82i hp82x) I (AP.act [3] I I I (AX.storeU 3 p81.1 0 I I I (map_get hp82x) I I I I (le_ble I) I (us_set (x := true) I) (AP.ofAO (AO.nil ?_))))))))))))))
 exact lg ⟨(j19.set p81.1 true), h, I, I⟩ [0, 1, 2, 3, 4]
 intro hc78 h
 refine AW.skip ?_
 exact lg ⟨j19, h, I, I⟩ [0, 1, 2, 3, 4]
 rintro s ob ⟨j30, h, rfl, rfl⟩
 unfold L.law21_SteadyRises.J2 at h
 refine AW.seqG (fun y31 hy31 => ?_)
 obtain ⟨r32, hx33, h⟩ := ob_some h
 refine AW.region (AO.r 5 [.o 0 0, .o 4 4] I ⟨I, I, J⟩ (AO.ghost (Ghost.freeze [3] (K := [.us v21 4 1 (j30.map rB)]) I [(66, .agg [.list 1 (r6.2.2.2.2.1.Rates.map rI), .list 1 (r6.2.2.2.2.1.Ports.map rI), .list 1 (j30.map rB)])] ⟨⟨_, I, .agg (.cons (.refl _) (.cons (.refl _) (.cons (.us 0 I) (.rest _))))⟩, J⟩ (ob' := [.arr b8 27 6 1 [Network.row r6.1], .arr b9 32 3 1 [Plan.row r6.2.2.2.2.1], .arr b13 36 3 1 [Pressures.row r11.1], .arr b20 32 3 1 [[.list 1 (r6.2.2.2.2.1.Rates.map rI), .list 1 (r6.2.2.2.2.1.Ports.map rI), .list 1 (j30.map rB)]]]) (.cons (.same _) (.cons (.same _) (.cons (.same _) (.cons (.arr (.cons (.refl _) (.cons (.refl _) (.cons (.us 0 I) (.rest _))))) (.rest _)))))) (AO.act [] I (AX.call0 I I I (L.steady_Solve_ok _ _ _ _ _ _ hx33) dS ?_))))
 rintro _ _ ⟨rfl, rfl⟩
 refine AO.q 3 I (AO.act [] I (AX.alloc (cs := [.v (.slice none 0 0), .v (.slice none 0 0), .v (.slice none 0 0)]) (m := 3) I I I I I dS (fun b34 => (AO.act [4] I (AX.store 4 0 0 (es' := [Pressures.row r32.1]) I I I I I I I I (le_ble I) I I (AO.q 1 I (AO.nil ?_)))))))
 subst hy31
 refine AW.seqG (fun y35 hy35 => (AW.region (AO.r 1 [.o 0 0] I ⟨I, J⟩ (AO.act [] I (AX.alloc (cs := [.v (.slice none 0 0), .v (.slice none 0 0), .v (.slice none 0 0), .v (.slice none 0 0), .V 0, .V 0]) (m := 6) I I I I I dS (fun b36 => (AO.act [5] I (AX.store 5 0 0 (es' := [Network.row r6.1]) I I I I I I I I (le_ble I) I I (AO.nil ?_)))))))))
 subst hy35
 refine AW.seqG (fun y37 hy37 => ?_)
 obtain ⟨l39, hx40, h⟩ := ob_some h
 refine AW.region (AO.act [] I (AX.buildSlice (sz := 3) (es := ([] : List Port).map Port.row) I I I I I I I I I I I dS (fun v38 => (AO.r 2 [.o 1 0] I ⟨I, J⟩ (AO.act [6] I (AX.ap 6 I hx40 (fun v41 => (AO.q 1 I (AO.one 6 I (fun v41o => (AO.act [5] I (AX.store 5 0 2 (es' := [[.list 1 (r6.1.Nodes.map rS), .list 7 (r6.1.Segments.map Segment.row), .v v41, .list 5 (r6.1.Stations.map Station.row), .V r6.1.Vapour, .V r6.1.Settle]]) I I I I I I (cells_v v41o) I (le_ble I) I I (AO.nil ?_)))))))))))))
 subst hy37
 refine AW.seqG (fun y42 hy42 => ?_)
 obtain ⟨x43, hx44, h⟩ := ob_some h
 refine AW.region (AO.q 1 I (AO.p (Yp.convI (c := wr (which_1)) I I I I I) I (AO.r 2 [.o 1 5] I ⟨I, J⟩ (AO.d (Yd.lenUM 6 I I I I) I (AO.r 2 [.f 0 (.V x43)] I ⟨Yp.yd (Yp.binI (c := x43) I I (rem_some hx44)), J⟩ (AO.nil ?_))))))
 subst hy42
 refine AW.seqG (fun y45 hy45 => ?_)
 obtain ⟨p46, hp47, h⟩ := ob_some h
 obtain ⟨hp47i, hp47x⟩ := ix_some hp47
 refine AW.form 6 p46.1 I hp47x (fun hf48 => (AW.form 6 p46.1 I hp47x (fun hf49 => (AW.rd (.still 0 (.still 1 (.still 2 (.still 3 (.still 4 (.still 5 (.still 6 (.still 7 (.still 8 (.still 9 (.still 10 (.still 11 (.still 12 (.still 13 (.still 14 (.drop 15 .nil)))))))))))))))) [5, 6] [_, _] I (AP.r 6 [.o 1 0, .o 4 0] I ⟨I, I, J⟩ (AP.op I (Yp.indexUf (m := p46.1) I I I I I hf48 I hp47i hp47x) I (AP.q 1 I (AP.o I (Yd.loadU 1 p46.1 2 I I I (map_get hp47x) I (y := .V p46.2.Pressure) I) I (AP.q 1 I (AP.op I (Yp.convI (c := wr (more_2)) I I I I I) I (AP.q 2 I (AP.op I (Yp.indexUf (m := p46.1) I I I I I hf49 I hp47i hp47x) I (AP.q 1 I (AP.drop [6] I I I (AX.storeU 6 p46.1 2 I I I (map_get hp47x) I I I I (le_ble I) I (us_set (x := (⟨p46.2.Name, p46.2.Node, (min 100000000 (wr (p46.2.Pressure + (wr (more_2)))))⟩ : Port)) I) ?_)))))))))))))))
 refine AP.ofAO (AO.nil ?_)
 subst hy45
 refine AW.seqG (fun y50 hy50 => ?_)
 obtain ⟨r51, hx52, h⟩ := ob_some h
 refine AW.region (AO.r 5 [.o 0 5, .o 4 1] I ⟨I, I, J⟩ (AO.ghost (Ghost.freeze [6] (K := [.us v41 74 3 ((l39.set p46.1 (⟨p46.2.Name, p46.2.Node, (min 100000000 (wr (p46.2.Pressure + (wr (more_2)))))⟩ : Port)).map Port.row)]) I [(74, .list 3 ((l39.set p46.1 (⟨p46.2.Name, p46.2.Node, (min 100000000 (wr (p46.2.Pressure + (wr (more_2)))))⟩ : Port)).map Port.row)), (79, .list 3 ((l39.set p46.1 (⟨p46.2.Name, p46.2.Node, (min 100000000 (wr (p46.2.Pressure + (wr (more_2)))))⟩ : Port)).map Port.row)), (83, .list 3 ((l39.set p46.1 (⟨p46.2.Name, p46.2.Node, (min 100000000 (wr (p46.2.Pressure + (wr (more_2)))))⟩ : Port)).map Port.row)), (86, .list 3 ((l39.set p46.1 (⟨p46.2.Name, p46.2.Node, (min 100000000 (wr (p46.2.Pressure + (wr (more_2)))))⟩ : Port)).map Port.row)), (98, .agg [.list 1 (r6.1.Nodes.map rS), .list 7 (r6.1.Segments.map Segment.row), .list 3 ((l39.set p46.1 (⟨p46.2.Name, p46.2.Node, (min 100000000 (wr (p46.2.Pressure + (wr (more_2)))))⟩ : Port)).map Port.row), .list 5 (r6.1.Stations.map Station.row), .V r6.1.Vapour, .V r6.1.Settle])] ⟨⟨_, I, .us 0 I⟩, ⟨_, I, .us 0 I⟩, ⟨_, I, .us 0 I⟩, ⟨_, I, .us 0 I⟩, ⟨_, I, .agg (.cons (.refl _) (.cons (.refl _) (.cons (.us 0 I) (.rest _))))⟩, J⟩ (ob' := [.arr b8 27 6 1 [Network.row r6.1], .arr b9 32 3 1 [Plan.row r6.2.2.2.2.1], .arr b13 36 3 1 [Pressures.row r11.1], .arr b20 32 3 1 [[.list 1 (r6.2.2.2.2.1.Rates.map rI), .list 1 (r6.2.2.2.2.1.Ports.map rI), .list 1 (j30.map rB)]], .arr b34 36 3 1 [Pressures.row r32.1], .arr b36 27 6 1 [[.list 1 (r6.1.Nodes.map rS), .list 7 (r6.1.Segments.map Segment.row), .list 3 ((l39.set p46.1 (⟨p46.2.Name, p46.2.Node, (min 100000000 (wr (p46.2.Pressure + (wr (more_2)))))⟩ : Port)).map Port.row), .list 5 (r6.1.Stations.map Station.row), .V r6.1.Vapour, .V r6.1.Settle]]]) (.cons (.same _) (.cons (.same _) (.cons (.same _) (.cons (.same _) (.cons (.same _) (.cons (.arr (.cons (.refl _) (.cons (.refl _) (.cons (.us 0 I) (.rest _))))) (.rest _)))))))) ?_))
 refine AO.act [] I (AX.call0 I I I (L.steady_Solve_ok _ _ _ _ _ _ hx52) dS ?_)
 rintro _ _ ⟨rfl, rfl⟩
 refine AO.q 3 I (AO.act [] I (AX.alloc (cs := [.v (.slice none 0 0), .v (.slice none 0 0), .v (.slice none 0 0)]) (m := 3) I I I I I dS (fun b53 => (AO.act [6] I (AX.store 6 0 0 (es' := [Pressures.row r51.1]) I I I I I I I I (le_ble I) I I (AO.q 1 I (AO.nil ?_)))))))
 subst hy50
 refine AW.cutX (fun s ob => ∃ (j65 : Bool), L.law21_SteadyRises.J3 j65 = some r ∧ s = [(6, .v (.bool j65))] ∧ ob = []) [] J ?_ ?_
 refine AW.region (AO.q 3 I ?_)
 rcases bt ((r11.2 == 0)) with hg66 | hg66
 replace h := ife_t hg66 h
 refine AO.known 108 I hg66 ?_
 rcases bt ((r32.2 == 0)) with hg67 | hg67
 replace h := ife_t hg67 h
 rcases bt ((r51.2 == 0)) with hg68 | hg68
 replace h := ife_t hg68 h
 obtain ⟨r69, hx70, h⟩ := ob_some h
 rcases bt (r69) with hg71 | hg71
 replace h := ife_t hg71 h
 obtain ⟨r72, hx73, h⟩ := ob_some h
 rcases bt (r72) with hg74 | hg74
 replace h := ife_t hg74 h
 obtain ⟨r75, hx76, h⟩ := ob_some h
 refine AO.q 4 I (AO.known 112 I hg67 (AO.q 4 I (AO.known 116 I hg68 (AO.r 2 [.o 0 2, .o 1 4] I ⟨I, I, J⟩ (AO.gt I I I (AO.c (L.law21_higher_ok _ _ _ hx70) (AO.q 2 I (AO.known 121 I hg71 (AO.r 2 [.o 0 2, .o 1 6] I ⟨I, I, J⟩ (AO.gt I I I (AO.c (L.law21_higher_ok _ _ _ hx73) (AO.q 2 I ?_))))))))))))
 refine AO.known 126 I hg74 (AO.gt I I I (AO.c (L.law21_awake_ok  _ hx76) (AO.q 2 I (AO.nil ?_))))
 exact lg ⟨r75, h, I, I⟩ []
 replace h := ife_f hg74 h
 refine AO.q 4 I (AO.known 112 I hg67 (AO.q 4 I (AO.known 116 I hg68 (AO.r 2 [.o 0 2, .o 1 4] I ⟨I, I, J⟩ (AO.gt I I I (AO.c (L.law21_higher_ok _ _ _ hx70) (AO.q 2 I (AO.known 121 I hg71 (AO.r 2 [.o 0 2, .o 1 6] I ⟨I, I, J⟩ (AO.gt I I I (AO.c (L.law21_higher_ok _ _ _ hx73) (AO.q 2 I ?_))))))))))))
 refine AO.known 126 I hg74 (AO.q 3 I (AO.nil ?_))
 exact lg ⟨false, h, I, I⟩ []
 replace h := ife_f hg71 h
 refine AO.q 4 I (AO.known 112 I hg67 (AO.q 4 I (AO.known 116 I hg68 (AO.r 2 [.o 0 2, .o 1 4] I ⟨I, I, J⟩ (AO.gt I I I (AO.c (L.law21_higher_ok _ _ _ hx70) (AO.q 2 I (AO.known 121 I hg71 (AO.q 8 I (AO.nil ?_))))))))))
 exact lg ⟨false, h, I, I⟩ []
 replace h := ife_f hg68 h
 refine AO.q 4 I (AO.known 112 I hg67 (AO.q 4 I (AO.known 116 I hg68 (AO.q 13 I (AO.nil ?_)))))
 exact lg ⟨false, h, I, I⟩ []
 replace h := ife_f hg67 h
 refine AO.q 4 I (AO.known 112 I hg67 (AO.q 17 I (AO.nil ?_)))
 exact lg ⟨false, h, I, I⟩ []
 replace h := ife_f hg66 h
 refine AO.known 108 I hg66 (AO.q 21 I (AO.nil ?_))
 exact lg ⟨false, h, I, I⟩ []
 rintro s ob ⟨j65, h, rfl, rfl⟩
 unfold L.law21_SteadyRises.J3 at h
 obtain rfl := oi h
 exact AW.ret ⟨.inr I, [_], [], ⟨I, J⟩, sl_n, I, I⟩
end Go.Proofs.YtehbcbedipkifaaGreatDoor
