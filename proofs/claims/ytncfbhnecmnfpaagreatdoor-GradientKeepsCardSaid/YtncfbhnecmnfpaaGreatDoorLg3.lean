/- Walks that show what functions of the program compute; printed by a program of ours. No condition. -/
import Derived.Test.YtncfbhnecmnfpaaGreatDoorLg2
namespace Go.Proofs.YtncfbhnecmnfpaaGreatDoor
open Go.Aw
set_option linter.unusedVariables false
set_option linter.unusedSimpArgs false
set_option maxRecDepth 100000
set_option maxHeartbeats 4000000

theorem L.slices_IndexFunc_api_Level_api_Level_ok (s_0 : List Level) (F1 : T) {f1 : FuncId} {p1 s1 : List T} (h1 : fnT F1 = some (f1, p1, s1)) (g1 : Level → Option Bool) (hg1 : ∀ (y0 : Level) r, g1 y0 = some r → ACalls Tryz.env f1 (p1 ++ [.agg (Level.row y0)] ++ s1) [] (fun x new => x = .v (.bool r) ∧ new = [])) (r : Int) (h : L.slices_IndexFunc_api_Level_api_Level s_0 g1 = some r) : ACalls Tryz.env 81 [.list 3 (s_0.map Level.row), F1] [] (fun x new => x = .v (.int .i64 r) ∧ new = []) := by
 refine ACalls.of_body Tryz.func81 rfl rfl rfl (fun C hC => ?_)
 unfold L.slices_IndexFunc_api_Level_api_Level at h
 refine AW.z I (AW.cutX (fun s ob => ∃ (j24 : Unit), L.slices_IndexFunc_api_Level_api_Level.J1 j24 = some r ∧ s = [] ∧ ob = []) [] trivial ?_ ?_)
 refine AW.zr [.l 1 (s_0.length : Int)] I ⟨len_m, trivial⟩ (AW.block (AW.listMax 6 I (fun hm28 => ?_)))
 replace hm28 : s_0.length ≤ 9223372036854775806 := by rw [List.length_map] at hm28; omega
 obtain ⟨o45, hL46, hR47⟩ := ob_some h
 clear h
 refine AW.forX hL46 [(0, _), (1, _), (7, _)] ⟨I, I, I, trivial⟩ (fun (k26 : Nat) (st38 : Unit) s ob => s = [(8, .v (.int .i64 (k26 : Int)))] ∧ ob = []) ⟨I, I⟩ ⟨I, trivial⟩ ⟨[], I, by decide⟩ ?_ ?_
 rintro k26 x29 st38 r49 s ob hx30 hk27 ⟨rfl, rfl⟩ h hb48
 unfold L.slices_IndexFunc_api_Level_api_Level.B2 at h
 have hk27t : decide ((k26 : Int) < (s_0.length : Int)) = true := decide_eq_true (by omega)
 refine AW.z I (AW.seqG (fun y51 hy51 => (AW.condK (v := true) I hk27t (AW.skip ?_))))
 subst hy51
 refine AW.seq (AW.block (AW.z I (AW.seq ?_)))
 obtain ⟨r53, hx54, h⟩ := ob_some h
 refine AW.region (AO.r 5 [.x 3 k26 (Level.row x29)] I ⟨⟨I, map_get hx30⟩, trivial⟩ (AO.act [] I (AX.callL I (.refl _) h1 I (.rest _) I (hg1 _ _ hx54) (dst_some I) (by rintro _ _ ⟨rfl, _⟩; rfl) ?_)))
 rintro _ ⟨_, rfl, -⟩
 refine AO.nil (AW.ch h I ?_ ?_)
 intro hc55 h
 refine AW.z I ?_
 obtain rfl := hb48 _ (Option.some.inj h).symm
 replace h := hR47
 replace h := se_r h
 obtain rfl := Option.some.inj h
 exact AW.ret ⟨.inr I, [_], [], ⟨I, trivial⟩, sl_n, I, I⟩
 intro hc55 h
 refine AW.skip (AW.region (AO.r 2 [.k 0 (k26 + 1 : Nat)] I ⟨cast_wr hk27 hm28, trivial⟩ ?_))
 obtain rfl := Option.some.inj h
 refine AO.nil ?_
 exact ⟨_, _, _, I, ⟨I, I⟩, ⟨I, I, I, I, trivial⟩, [], I, by decide⟩
 rintro st38 s ob ⟨rfl, rfl⟩ he
 subst he
 have h := se_l hR47
 have hk27f : decide (((s_0.length : Nat) : Int) < (s_0.length : Int)) = false := by simp
 refine AW.z I (AW.seqG (fun y57 hy57 => (AW.condK (v := false) I hk27f (AW.exit ?_))))
 exact lg ⟨(), h, I, I⟩ []
 rintro s ob ⟨j24, h, rfl, rfl⟩
 unfold L.slices_IndexFunc_api_Level_api_Level.J1 at h
 refine AW.z I ?_
 obtain rfl := Option.some.inj h
 exact AW.ret ⟨.inr I, [_], [], ⟨I, trivial⟩, sl_n, I, I⟩

theorem L.slices_ContainsFunc_api_Level_api_Level_ok (s_0 : List Level) (F1 : T) {f1 : FuncId} {p1 s1 : List T} (h1 : fnT F1 = some (f1, p1, s1)) (g1 : Level → Option Bool) (hg1 : ∀ (y0 : Level) r, g1 y0 = some r → ACalls Tryz.env f1 (p1 ++ [.agg (Level.row y0)] ++ s1) [] (fun x new => x = .v (.bool r) ∧ new = [])) (r : Bool) (h : L.slices_ContainsFunc_api_Level_api_Level s_0 g1 = some r) : ACalls Tryz.env 55 [.list 3 (s_0.map Level.row), F1] [] (fun x new => x = .v (.bool r) ∧ new = []) := by
 refine ACalls.of_body Tryz.func55 rfl rfl rfl (fun C hC => ?_)
 unfold L.slices_ContainsFunc_api_Level_api_Level at h
 refine AW.z I (AW.seq ?_)
 obtain ⟨r1, hx2, h⟩ := ob_some h
 refine AW.region (AO.q 2 I (AO.c (L.slices_IndexFunc_api_Level_api_Level_ok s_0 F1 h1 g1 hg1 _ hx2) (AO.q 2 I (AO.nil ?_))))
 obtain rfl := Option.some.inj h
 exact AW.ret ⟨.inr I, [_], [], ⟨I, trivial⟩, sl_n, I, I⟩

theorem L.gradient_Keeps_1_ok (x_0 : Level) (a_1 : Segment) (r : Bool) (h : L.gradient_Keeps_1 x_0 a_1 = r) : ACalls Tryz.env 56 [.agg (Level.row x_0), .eptr (Segment.row a_1)] [] (fun x new => x = .v (.bool r) ∧ new = []) := by
 refine ACalls.of_body Tryz.func56 rfl rfl rfl (fun C hC => ?_)
 unfold L.gradient_Keeps_1 at h
 refine AW.seqG (fun y1 hy1 => (AW.region (AO.act [] I (AX.box (cs := Level.row x_0) (m := 3) I I I (dst_some I) (fun b2 => (AO.q 1 I (AO.nil ?_)))))))
 subst hy1
 refine AW.cutX (fun s ob => s = [(3, .v (.bool (decide (x_0.At < 0) || decide (x_0.At > a_1.Capacity))))] ∧ ob = []) [] trivial ?_ ?_
 rcases Bool.eq_false_or_eq_true (decide (x_0.At < 0)) with hg5 | hg5
 refine AW.region (AO.r 4 [.o 1 0] I ⟨I, trivial⟩ (AO.known 7 I hg5 (AO.q 7 I (AO.nil ?_))))
 exact lf ⟨I, I⟩ ⟨(get_b (by simp only [hg5, bz])), trivial⟩ [] I
 refine AW.region (AO.r 4 [.o 1 0] I ⟨I, trivial⟩ (AO.known 7 I hg5 (AO.r 7 [.o 1 0] I ⟨I, trivial⟩ (AO.nil ?_))))
 exact lf ⟨I, I⟩ ⟨(get_b (by simp only [hg5, bz])), trivial⟩ [] I
 rintro s ob ⟨rfl, rfl⟩
 obtain rfl := h
 exact AW.ret ⟨.inr I, [_], [], ⟨I, trivial⟩, sl_n, I, I⟩

theorem L.gradient_Limit_ok (s_0 : Segment) (place_1 : Int) (r : Int) (h : L.gradient_Limit s_0 place_1 = some r) : ACalls Tryz.env 57 [.agg (Segment.row s_0), .v (.int .i64 place_1)] [] (fun x new => x = .v (.int .i64 r) ∧ new = []) := by
 refine ACalls.of_body Tryz.func57 rfl rfl rfl (fun C hC => ?_)
 unfold L.gradient_Limit at h
 refine AW.seqG (fun y1 hy1 => (AW.region (AO.act [] I (AX.box (cs := Segment.row s_0) (m := 7) I I I (dst_some I) (fun b2 => (AO.q 1 I (AO.nil ?_)))))))
 subst hy1
 refine AW.z I (AW.cutX (fun s ob => ∃ (j57 : Int), L.gradient_Limit.J1 j57 = some r ∧ s = [(5, .v (.int .i64 j57))] ∧ ob = []) [] trivial ?_ ?_)
 refine AW.z I (AW.block ?_)
 obtain ⟨o111, hL112, hR113⟩ := ob_some h
 clear h
 refine AW.loopX hL112 [(1, _), (2, _)] ⟨I, I, trivial⟩ (fun (st94 : Int × Int) s ob => s = [(5, .v (.int .i64 st94.1)), (6, .v (.int .i64 st94.2))] ∧ ob = [.arr b2 29 7 1 [Segment.row s_0]]) ⟨I, I⟩ ⟨I, I, trivial⟩ ⟨[0], I, by decide⟩ ?_
 rintro st94 r115 s ob ⟨rfl, rfl⟩ h hb114
 unfold L.gradient_Limit.B2 at h
 refine AW.seqG (fun y116 hy116 => (AW.zr [.o 2 0, .l 3 (s_0.Points.length : Int)] I ⟨len_m, I, trivial⟩ (AW.ch h I ?_ ?_)))
 intro hc117 h
 refine AW.skip ?_
 subst hy116
 refine AW.cutX (fun s ob => ∃ (j131 : Int), L.gradient_Limit.J3 st94 j131 = some r115 ∧ s = [(5, .v (.int .i64 j131))] ∧ ob = [.arr b2 29 7 1 [Segment.row s_0]]) [(1, _), (2, _), (6, _)] ⟨I, I, I, trivial⟩ ?_ ?_
 refine AW.block (AW.cutX (fun s ob => ∃ (j138 : Int × Int × Int × Int × Int × Int) (b139 : Nat) (b140 : Nat), L.gradient_Limit.J4 place_1 st94 j138 = some r115 ∧ s = [(7, .v (.pointer (some ⟨b139, 0, none⟩))), (8, .v (.pointer (some ⟨b140, 0, none⟩)))] ∧ ob = [.arr b2 29 7 1 [Segment.row s_0], .arr b139 47 3 1 [[.v (.int .i64 j138.1), .v (.int .i64 j138.2.1), .v (.int .i64 j138.2.2.1)]], .arr b140 47 3 1 [[.v (.int .i64 j138.2.2.2.1), .v (.int .i64 j138.2.2.2.2.1), .v (.int .i64 j138.2.2.2.2.2)]]]) [(1, _), (2, _), (5, _), (6, _)] ⟨I, I, I, I, trivial⟩ ?_ ?_)
 obtain ⟨p145, hp146, h⟩ := ob_some h
 obtain ⟨hp146i, hp146x⟩ := ix_some hp146
 obtain ⟨p147, hp148, h⟩ := ob_some h
 obtain ⟨hp148i, hp148x⟩ := ix_some hp148
 refine AW.rd (.still 0 (.still 1 (.still 2 (.still 3 (.still 4 (.still 5 (.still 6 (.still 7 (.still 8 (.still 9 (.still 10 (.two 11 12 (.act 12 (.act 13 (.act 14 .nil))) (.act 11 (.act 13 (.act 14 .nil))))))))))))))) [0] [_] I (AP.r 11 [.o 1 0, .x 4 p145.1 (Point.row p145.2), .o 7 0, .x 9 p147.1 (Point.row p147.2)] I ⟨⟨hp148i, map_get hp148x⟩, I, ⟨hp146i, map_get hp146x⟩, I, trivial⟩ (AP.two ?_ ?_))
 refine AP.act [] I I I (AX.alloc (cs := [.v (.int .i64 0), .v (.int .i64 0), .v (.int .i64 0)]) (m := 3) I I I I I (dst_some I) (fun b149 => (AP.act [] I I I (AX.alloc (cs := [.v (.int .i64 0), .v (.int .i64 0), .v (.int .i64 0)]) (m := 3) I I I I I (dst_some I) (fun b150 => (AP.act [1] I I I (AX.store 1 0 0 (es' := [Point.row p145.2]) I I I I I I I I (le_ble I) I I (AP.act [2] I I I (AX.store 2 0 0 (es' := [Point.row p147.2]) I I I I I I I I (le_ble I) I I (AP.ofAO (AO.nil ?_)))))))))))
 exact lg ⟨(p145.2.At, p145.2.Height, p145.2.Limit, p147.2.At, p147.2.Height, p147.2.Limit), b149, b150, h, I, I⟩ [0, 1, 2]
 refine AP.act [] I I I (AX.alloc (cs := [.v (.int .i64 0), .v (.int .i64 0), .v (.int .i64 0)]) (m := 3) I I I I I (dst_some I) (fun b150 => (AP.act [] I I I (AX.alloc (cs := [.v (.int .i64 0), .v (.int .i64 0), .v (.int .i64 0)]) (m := 3) I I I I I (dst_some I) (fun b149 => (AP.act [2] I I I (AX.store 2 0 0 (es' := [Point.row p145.2]) I I I I I I I I (le_ble I) I I (AP.act [1] I I I (AX.store 1 0 0 (es' := [Point.row p147.2]) I I I I I I I I (le_ble I) I I (AP.ofAO (AO.nil ?_)))))))))))
 exact lg ⟨(p145.2.At, p145.2.Height, p145.2.Limit, p147.2.At, p147.2.Height, p147.2.Limit), b149, b150, h, I, I⟩ [0, 2, 1]
 rintro s ob ⟨j138, b139, b140, h, rfl, rfl⟩
 unfold L.gradient_Limit.J4 at h
 refine AW.cutX (fun s ob => s = [(36, .v (.bool (decide (j138.1 ≤ place_1) && decide (place_1 ≤ j138.2.2.2.1))))] ∧ ob = [.arr b2 29 7 1 [Segment.row s_0], .arr b139 47 3 1 [[.v (.int .i64 j138.1), .v (.int .i64 j138.2.1), .v (.int .i64 j138.2.2.1)]], .arr b140 47 3 1 [[.v (.int .i64 j138.2.2.2.1), .v (.int .i64 j138.2.2.2.2.1), .v (.int .i64 j138.2.2.2.2.2)]]]) [(1, _), (2, _), (5, _), (6, _), (7, _), (8, _)] ⟨I, I, I, I, I, I, trivial⟩ ?_ ?_
 rcases Bool.eq_false_or_eq_true (decide (j138.1 ≤ place_1)) with hg143 | hg143
 refine AW.region (AO.r 5 [.o 1 1] I ⟨I, trivial⟩ (AO.known 31 I hg143 (AO.r 5 [.o 2 2] I ⟨I, trivial⟩ (AO.nil ?_))))
 exact lf ⟨I, I⟩ ⟨(get_b (by simp only [hg143, bz])), I, I, I, I, I, I, trivial⟩ [0, 1, 2] I
 refine AW.region (AO.r 5 [.o 1 1] I ⟨I, trivial⟩ (AO.known 31 I hg143 (AO.q 5 I (AO.nil ?_))))
 exact lf ⟨I, I⟩ ⟨(get_b (by simp only [hg143, bz])), I, I, I, I, I, I, trivial⟩ [0, 1, 2] I
 rintro s ob ⟨rfl, rfl⟩
 refine AW.ch h I ?_ ?_
 intro hc144 h
 refine AW.region (AO.r 5 [.o 2 1, .o 4 2] I ⟨I, I, trivial⟩ (AO.p (Yp.minI3 I I I) I (AO.q 1 I (AO.nil ?_))))
 exact lg ⟨(min (min st94.1 j138.2.2.1) j138.2.2.2.2.2), h, I, I⟩ [0]
 intro hc144 h
 refine AW.skip ?_
 exact lg ⟨st94.1, h, I, I⟩ [0]
 rintro s ob ⟨j131, h, rfl, rfl⟩
 unfold L.gradient_Limit.J3 at h
 refine AW.region (AO.q 3 I ?_)
 obtain rfl := Option.some.inj h
 refine AO.nil ?_
 exact ⟨_, _, _, I, ⟨I, I⟩, ⟨I, I, I, I, trivial⟩, [0], I, by decide⟩
 intro hc117 h
 obtain rfl := hb114 _ (Option.some.inj h).symm
 replace h := hR113
 refine AW.exit ?_
 exact lg ⟨st94.1, h, I, I⟩ []
 rintro s ob ⟨j57, h, rfl, rfl⟩
 unfold L.gradient_Limit.J1 at h
 refine AW.z I ?_
 obtain rfl := Option.some.inj h
 exact AW.ret ⟨.inr I, [_], [], ⟨I, trivial⟩, sl_n, I, I⟩

theorem L.gradient_Keeps_ok (s_0 : Segment) (l_1 : List Level) (vapour_2 : Int) (r : Int × Int) (h : L.gradient_Keeps s_0 l_1 vapour_2 = some r) : ACalls Tryz.env 17 [.agg (Segment.row s_0), .list 3 (l_1.map Level.row), .v (.int .i64 vapour_2)] [] (fun x new => x = .tup [.v (.int .i64 r.1), .v (.int .i64 r.2)] ∧ new = []) := by
 refine ACalls.of_body Tryz.func17 rfl rfl rfl (fun C hC => ?_)
 unfold L.gradient_Keeps at h
 refine AW.seqG (fun y1 hy1 => (AW.region (AO.act [] I (AX.box (cs := Segment.row s_0) (m := 7) I I I (dst_some I) (fun b2 => (AO.q 2 I (AO.nil ?_)))))))
 subst hy1
 refine AW.seqG (fun y3 hy3 => (AW.seq ?_))
 obtain ⟨r4, hx5, h⟩ := ob_some h
 refine AW.region (AO.r 1 [.o 0 0] I ⟨I, trivial⟩ (AO.c (L.gradient_check_ok s_0 _ hx5) (AO.q 1 I (AO.nil (AW.z I (AW.ch h I ?_ ?_))))))
 intro hc6 h
 refine AW.z I (AW.ghost (Ghost.pick [] (K := []) I (by decide)) ?_)
 obtain rfl := Option.some.inj h
 exact AW.ret ⟨.inr I, [_, _], [], ⟨I, I, trivial⟩, sl_n, I, I⟩
 intro hc6 h
 refine AW.skip ?_
 subst hy3
 refine AW.seqG (fun y7 hy7 => (AW.cutX (fun s ob => ∃ (j11 : Bool), L.gradient_Keeps.J1 s_0 l_1 vapour_2 j11 = some r ∧ s = [(24, .v (.bool j11))] ∧ ob = [.arr b2 29 7 1 [Segment.row s_0]]) [(1, _), (2, _), (3, _)] ⟨I, I, I, trivial⟩ ?_ ?_))
 rcases Bool.eq_false_or_eq_true (decide ((l_1.length : Int) > 208)) with hg155 | hg155
 replace h := ife_t hg155 h
 refine AW.region (AO.r 4 [.l 1 (l_1.length : Int)] I ⟨len_m, trivial⟩ (AO.known 20 I hg155 (AO.q 4 I (AO.nil ?_))))
 exact lg ⟨true, h, I, I⟩ [0]
 replace h := ife_f hg155 h
 obtain ⟨r156, hx157, h⟩ := ob_some h
 refine AW.region (AO.r 4 [.l 1 (l_1.length : Int)] I ⟨len_m, trivial⟩ (AO.known 20 I hg155 (AO.q 1 I (AO.gt I I I (AO.p (Yp.makeFunc I I) I (AO.gt I I I (AO.act [] I (AX.callL I (.refl _) I I (.cons (.refl _) (.cons (.fn (.rest _) (.cons (.box 0 I (.rest _)) (.rest _))) (.rest _))) I (L.slices_ContainsFunc_api_Level_api_Level_ok l_1 (.fn 56 [] [.eptr (Segment.row s_0)]) I (fun x => some (L.gradient_Keeps_1 x s_0)) (fun x r h => by obtain I := Option.some.inj h; exact L.gradient_Keeps_1_ok x s_0 _ I) _ hx157) (dst_some I) (by rintro _ _ ⟨rfl, _⟩; rfl) ?_))))))))
 rintro _ ⟨_, rfl, -⟩
 refine AO.q 1 I (AO.nil ?_)
 exact lg ⟨r156, h, I, I⟩ [0]
 rintro s ob ⟨j11, h, rfl, rfl⟩
 unfold L.gradient_Keeps.J1 at h
 refine AW.ch h I ?_ ?_
 intro hc12 h
 refine AW.z I (AW.ghost (Ghost.pick [] (K := []) I (by decide)) ?_)
 obtain rfl := Option.some.inj h
 exact AW.ret ⟨.inr I, [_, _], [], ⟨I, I, trivial⟩, sl_n, I, I⟩
 intro hc12 h
 refine AW.skip ?_
 subst hy7
 refine AW.cutX (fun s ob => ∃ (j39 : Unit), L.gradient_Keeps.J2 s_0 l_1 vapour_2 j39 = some r ∧ s = [] ∧ ob = [.arr b2 29 7 1 [Segment.row s_0]]) [(1, _), (2, _), (3, _)] ⟨I, I, I, trivial⟩ ?_ ?_
 refine AW.z I (AW.block ?_)
 obtain ⟨o141, hL142, hR143⟩ := ob_some h
 clear h
 refine AW.loopX hL142 [(1, _), (2, _), (3, _)] ⟨I, I, I, trivial⟩ (fun (st133 : Int) s ob => s = [(9, .v (.int .i64 st133))] ∧ ob = [.arr b2 29 7 1 [Segment.row s_0]]) ⟨I, I⟩ ⟨I, trivial⟩ ⟨[0], I, by decide⟩ ?_
 rintro st133 r145 s ob ⟨rfl, rfl⟩ h hb144
 unfold L.gradient_Keeps.B6 at h
 refine AW.seqG (fun y146 hy146 => (AW.zr [.l 2 (l_1.length : Int)] I ⟨len_m, trivial⟩ (AW.ch h I ?_ ?_)))
 intro hc147 h
 refine AW.skip ?_
 subst hy146
 refine AW.seq (AW.block (AW.seq ?_))
 obtain ⟨p148, hp149, h⟩ := ob_some h
 obtain ⟨hp149i, hp149x⟩ := ix_some hp149
 obtain ⟨p150, hp151, h⟩ := ob_some h
 obtain ⟨hp151i, hp151x⟩ := ix_some hp151
 refine AW.dt (pd 12 0 []) [] [] [.x 3 p148.1 (Level.row p148.2), .x 8 p150.1 (Level.row p150.2)] I I ⟨⟨hp151i, map_get hp151x⟩, ⟨hp149i, map_get hp149x⟩, trivial⟩ (AW.ch h I ?_ ?_)
 intro hc152 h
 refine AW.z I ?_
 obtain rfl := hb144 _ (Option.some.inj h).symm
 replace h := hR143
 replace h := se_l h
 refine AW.ghost (Ghost.pick [] (K := []) I (by decide)) ?_
 obtain rfl := Option.some.inj h
 exact AW.ret ⟨.inr I, [_, _], [], ⟨I, I, trivial⟩, sl_n, I, I⟩
 intro hc152 h
 refine AW.skip (AW.region (AO.q 3 I ?_))
 obtain rfl := Option.some.inj h
 refine AO.nil ?_
 exact ⟨_, _, _, I, ⟨I, I⟩, ⟨I, I, I, I, trivial⟩, [0], I, by decide⟩
 intro hc147 h
 obtain rfl := hb144 _ (Option.some.inj h).symm
 replace h := hR143
 replace h := se_r h
 refine AW.exit ?_
 exact lg ⟨(), h, I, I⟩ [0]
 rintro s ob ⟨j39, h, rfl, rfl⟩
 unfold L.gradient_Keeps.J2 at h
 refine AW.cutX (fun s ob => ∃ (j68 : Unit), L.gradient_Keeps.J3 j68 = some r ∧ s = [] ∧ ob = []) [] trivial ?_ ?_
 refine AW.zr [.l 1 (l_1.length : Int)] I ⟨len_m, trivial⟩ (AW.block (AW.listMax 43 I (fun hm72 => ?_)))
 replace hm72 : l_1.length ≤ 9223372036854775806 := by rw [List.length_map] at hm72; omega
 obtain ⟨o95, hL96, hR97⟩ := ob_some h
 clear h
 refine AW.forX hL96 [(2, _), (3, _), (43, _), (44, _)] ⟨I, I, I, I, trivial⟩ (fun (k70 : Nat) (st85 : Unit) s ob => s = [(45, .v (.int .i64 (k70 : Int)))] ∧ ob = [.arr b2 29 7 1 [Segment.row s_0]]) ⟨I, I⟩ ⟨I, trivial⟩ ⟨[0], I, by decide⟩ ?_ ?_
 rintro k70 x73 st85 r99 s ob hx74 hk71 ⟨rfl, rfl⟩ h hb98
 unfold L.gradient_Keeps.B4 at h
 have hk71t : decide ((k70 : Int) < (l_1.length : Int)) = true := decide_eq_true (by omega)
 refine AW.z I (AW.seqG (fun y101 hy101 => (AW.condK (v := true) I hk71t (AW.skip ?_))))
 subst hy101
 refine AW.seq (AW.block (AW.seqG (fun y102 hy102 => (AW.region (AO.r 2 [.x 0 k70 (Level.row x73)] I ⟨⟨I, map_get hx74⟩, trivial⟩ (AO.act [] I (AX.alloc (cs := [.v (.int .i64 0), .v (.int .i64 0), .v (.int .i64 0)]) (m := 3) I I I I I (dst_some I) (fun b103 => (AO.act [1] I (AX.store 1 0 0 (es' := [Level.row x73]) I I I I I I I I (le_ble I) I I (AO.nil ?_)))))))))))
 subst hy102
 refine AW.cutX (fun s ob => ∃ (j107 : Bool), L.gradient_Keeps.J5 x73 j107 = some r99 ∧ s = [(63, .v (.bool j107))] ∧ ob = [.arr b2 29 7 1 [Segment.row s_0], .arr b103 43 3 1 [Level.row x73]]) [(2, _), (3, _), (11, _), (43, _), (44, _), (45, _)] ⟨I, I, I, I, I, I, trivial⟩ ?_ ?_
 obtain ⟨r109, hx110, h⟩ := ob_some h
 rcases Bool.eq_false_or_eq_true (decide (x73.Bounds.High > r109)) with hg111 | hg111
 replace h := ife_t hg111 h
 refine AW.rd (pd 15 0 [6]) [1, 0] [_, _] I (AP.r 6 [.o 2 0, .o 3 1, .o 5 0] I ⟨I, I, I, trivial⟩ (AP.c I (L.gradient_Limit_ok s_0 x73.At _ hx110) (AP.q 2 I (AP.known 57 I hg111 (AP.q 6 I (AP.ofAO (AO.nil ?_)))))))
 exact lg ⟨true, h, I, I⟩ [0, 1]
 replace h := ife_f hg111 h
 refine AW.rd (pd 15 0 [6]) [1, 0] [_, _] I (AP.r 6 [.o 2 0, .o 3 1, .o 5 0] I ⟨I, I, I, trivial⟩ (AP.c I (L.gradient_Limit_ok s_0 x73.At _ hx110) (AP.q 2 I (AP.known 57 I hg111 (AP.r 6 [.o 2 0] I ⟨I, trivial⟩ (AP.ofAO (AO.nil ?_)))))))
 exact lg ⟨decide (x73.Bounds.Low < vapour_2), h, I, I⟩ [0, 1]
 rintro s ob ⟨j107, h, rfl, rfl⟩
 unfold L.gradient_Keeps.J5 at h
 refine AW.ch h I ?_ ?_
 intro hc108 h
 refine AW.zr [.o 1 1] I ⟨I, trivial⟩ ?_
 obtain rfl := hb98 _ (Option.some.inj h).symm
 replace h := hR97
 replace h := se_r h
 refine AW.ghost (Ghost.pick [] (K := []) I (by decide)) ?_
 obtain rfl := Option.some.inj h
 exact AW.ret ⟨.inr I, [_, _], [], ⟨I, I, trivial⟩, sl_n, I, I⟩
 intro hc108 h
 refine AW.skip (AW.region (AO.r 2 [.k 0 (k70 + 1 : Nat)] I ⟨cast_wr hk71 hm72, trivial⟩ ?_))
 obtain rfl := Option.some.inj h
 refine AO.nil ?_
 exact ⟨_, _, _, I, ⟨I, I⟩, ⟨I, I, I, I, I, trivial⟩, [0], I, by decide⟩
 rintro st85 s ob ⟨rfl, rfl⟩ he
 subst he
 have h := se_l hR97
 have hk71f : decide (((l_1.length : Nat) : Int) < (l_1.length : Int)) = false := by simp
 refine AW.z I (AW.seqG (fun y113 hy113 => (AW.condK (v := false) I hk71f (AW.exit ?_))))
 exact lg ⟨(), h, I, I⟩ []
 rintro s ob ⟨j68, h, rfl, rfl⟩
 unfold L.gradient_Keeps.J3 at h
 refine AW.z I ?_
 obtain rfl := Option.some.inj h
 exact AW.ret ⟨.inr I, [_, _], [], ⟨I, I, trivial⟩, sl_n, I, I⟩

theorem L.ref19_Same_ok (a_0 : List Level) (b_1 : List Level) (r : Bool) (h : L.ref19_Same a_0 b_1 = some r) : ACalls Tryz.env 26 [.list 3 (a_0.map Level.row), .list 3 (b_1.map Level.row)] [] (fun x new => x = .v (.bool r) ∧ new = []) := by
 refine ACalls.of_body Tryz.func26 rfl rfl rfl (fun C hC => ?_)
 unfold L.ref19_Same at h
 refine AW.z I (AW.seqG (fun y2 hy2 => (AW.zr [.l 1 (a_0.length : Int), .l 3 (b_1.length : Int)] I ⟨len_m, len_m, trivial⟩ (AW.ch h I ?_ ?_))))
 intro hc3 h
 refine AW.z I ?_
 obtain rfl := Option.some.inj h
 exact AW.ret ⟨.inr I, [_], [], ⟨I, trivial⟩, sl_n, I, I⟩
 intro hc3 h
 refine AW.skip ?_
 subst hy2
 refine AW.cutX (fun s ob => ∃ (j26 : Unit), L.ref19_Same.J1 j26 = some r ∧ s = [] ∧ ob = []) [] trivial ?_ ?_
 refine AW.zr [.l 1 (a_0.length : Int)] I ⟨len_m, trivial⟩ (AW.block (AW.listMax 11 I (fun hm30 => ?_)))
 replace hm30 : a_0.length ≤ 9223372036854775806 := by rw [List.length_map] at hm30; omega
 obtain ⟨o47, hL48, hR49⟩ := ob_some h
 clear h
 refine AW.forX hL48 [(0, _), (1, _), (12, _)] ⟨I, I, I, trivial⟩ (fun (k28 : Nat) (st40 : Unit) s ob => s = [(13, .v (.int .i64 (k28 : Int)))] ∧ ob = []) ⟨I, I⟩ ⟨I, trivial⟩ ⟨[], I, by decide⟩ ?_ ?_
 rintro k28 x31 st40 r51 s ob hx32 hk29 ⟨rfl, rfl⟩ h hb50
 unfold L.ref19_Same.B2 at h
 have hk29t : decide ((k28 : Int) < (a_0.length : Int)) = true := decide_eq_true (by omega)
 refine AW.z I (AW.seqG (fun y53 hy53 => (AW.condK (v := true) I hk29t (AW.skip ?_))))
 subst hy53
 refine AW.seq (AW.block (AW.z I (AW.seq ?_)))
 obtain ⟨p55, hp56, h⟩ := ob_some h
 obtain ⟨hp56i, hp56x⟩ := ix_some hp56
 refine AW.rd (pd 9 0 []) [] [] I (AP.r 8 [.x 2 k28 (Level.row x31), .x 6 p55.1 (Level.row p55.2)] I ⟨⟨hp56i, map_get hp56x⟩, ⟨I, map_get hx32⟩, trivial⟩ (AP.op I (Yp.eqStruct2 (r := ((x31.At == p55.2.At) && (((x31.Bounds.Low == p55.2.Bounds.Low) && ((x31.Bounds.High == p55.2.Bounds.High) && true)) && true))) (Nat.beq 36) (fun _ h => Nat.eq_of_beq_eq_true h ▸ Tryz.eq36) I I Tryz.eq43 I I I I) I (AP.ofAO (AO.nil (AW.ch h I ?_ ?_)))))
 intro hc57 h
 refine AW.z I ?_
 obtain rfl := hb50 _ (Option.some.inj h).symm
 replace h := hR49
 replace h := se_r h
 obtain rfl := Option.some.inj h
 exact AW.ret ⟨.inr I, [_], [], ⟨I, trivial⟩, sl_n, I, I⟩
 intro hc57 h
 refine AW.skip (AW.region (AO.r 2 [.k 0 (k28 + 1 : Nat)] I ⟨cast_wr hk29 hm30, trivial⟩ ?_))
 obtain rfl := Option.some.inj h
 refine AO.nil ?_
 exact ⟨_, _, _, I, ⟨I, I⟩, ⟨I, I, I, I, trivial⟩, [], I, by decide⟩
 rintro st40 s ob ⟨rfl, rfl⟩ he
 subst he
 have h := se_l hR49
 have hk29f : decide (((a_0.length : Nat) : Int) < (a_0.length : Int)) = false := by simp
 refine AW.z I (AW.seqG (fun y59 hy59 => (AW.condK (v := false) I hk29f (AW.exit ?_))))
 exact lg ⟨(), h, I, I⟩ []
 rintro s ob ⟨j26, h, rfl, rfl⟩
 unfold L.ref19_Same.J1 at h
 refine AW.z I ?_
 obtain rfl := Option.some.inj h
 exact AW.ret ⟨.inr I, [_], [], ⟨I, trivial⟩, sl_n, I, I⟩

theorem L.law19_segment_ok  (r : Segment) (h : L.law19_segment = r) : ACalls Tryz.env 44 [] [] (fun x new => x = .agg (Segment.row r) ∧ new = []) := by
 refine ACalls.of_body Tryz.func44 rfl rfl rfl (fun C hC => ?_)
 unfold L.law19_segment at h
 refine AW.seq (AW.region (AO.act [] I (AX.alloc (cs := [.v (.string ⟨#[]⟩), .v (.int .i64 0), .v (.int .i64 0), .v (.int .i64 0), .v (.int .i64 0), .v (.int .i64 0), .v (.slice none 0 0)]) (m := 7) I I I I I (dst_some I) (fun b1 => (AO.nil (AW.seq (AW.region (AO.p (Yp.buildP (l := [.v (.int .i64 0), .v (.int .i64 0), .v (.int .i64 600000)]) Tryz.bld47 I) I (AO.p (Yp.buildP (l := [.v (.int .i64 100), .v (.int .i64 10), .v (.int .i64 600000)]) Tryz.bld47 I) I (AO.act [] I (AX.buildSlice (sz := 3) (es := ([(⟨0, 0, 600000⟩ : Point), (⟨100, 10, 600000⟩ : Point)] : List Point).map Point.row) I I I I I I I I I I I (dst_some I) (fun v2 => (AO.one 1 I (fun v2o => (AO.p (Yp.buildP (l := [.v (.string (⟨#[115]⟩ : ByteArray)), .v (.int .i64 0), .v (.int .i64 1), .v (.int .i64 100), .v (.int .i64 2), .v (.int .i64 0), .v v2]) Tryz.bld29 (fill_step I I I I (fill_step I I I I (fill_step I I I I (fill_step I I I I (fill_step I I (cells_v v2o) I (fill_nil))))))) I (AO.act [0] I (AX.store 0 0 0 (es' := [[.v (.string (⟨#[115]⟩ : ByteArray)), .v (.int .i64 0), .v (.int .i64 1), .v (.int .i64 100), .v (.int .i64 2), .v (.int .i64 0), .v v2]]) I I I I I I I I (le_ble I) I I (AO.nil ?_))))))))))))))))))
 refine AW.ghost (Ghost.freeze [1] (K := [.us v2 47 3 (([(⟨0, 0, 600000⟩ : Point), (⟨100, 10, 600000⟩ : Point)] : List Point).map Point.row)]) I [(3, .list 3 (([(⟨0, 0, 600000⟩ : Point), (⟨100, 10, 600000⟩ : Point)] : List Point).map Point.row)), (4, .agg [.v (.string (⟨#[115]⟩ : ByteArray)), .v (.int .i64 0), .v (.int .i64 1), .v (.int .i64 100), .v (.int .i64 2), .v (.int .i64 0), .list 3 (([(⟨0, 0, 600000⟩ : Point), (⟨100, 10, 600000⟩ : Point)] : List Point).map Point.row)])] ⟨⟨_, I, .us 0 I⟩, ⟨_, I, .agg (.cons (.refl _) (.cons (.refl _) (.cons (.refl _) (.cons (.refl _) (.cons (.refl _) (.cons (.refl _) (.cons (.us 0 I) (.rest _))))))))⟩, trivial⟩ (ob' := [.arr b1 29 7 1 [[.v (.string (⟨#[115]⟩ : ByteArray)), .v (.int .i64 0), .v (.int .i64 1), .v (.int .i64 100), .v (.int .i64 2), .v (.int .i64 0), .list 3 (([(⟨0, 0, 600000⟩ : Point), (⟨100, 10, 600000⟩ : Point)] : List Point).map Point.row)]]]) (.cons (.arr (.cons (.refl _) (.cons (.refl _) (.cons (.refl _) (.cons (.refl _) (.cons (.refl _) (.cons (.refl _) (.cons (.us 0 I) (.rest _))))))))) (.rest _))) ?_
 obtain rfl := h
 exact AW.ret ⟨.inr I, [_], [], ⟨⟨0, _, _, _, _, _, _, _, I, I, I, I, I⟩, trivial⟩, sl_n, I, I⟩

theorem L.law19_oil_ok  (r : List Product) (h : L.law19_oil = r) : ACalls Tryz.env 45 [] [] (fun x new => ∃ (u0 : Value), x = .v u0 ∧ new = [.us u0 58 5 (r.map Product.row)]) := by
 refine ACalls.of_body Tryz.func45 rfl rfl rfl (fun C hC => ?_)
 unfold L.law19_oil at h
 refine AW.z I (AW.seq (AW.region (AO.p (Yp.buildP (l := [.v (.string (⟨#[111, 105, 108]⟩ : ByteArray)), .v (.int .i64 800), .v (.int .i64 0), .v (.int .i64 0), .v (.int .i64 1000)]) Tryz.bld58 I) I (AO.act [] I (AX.buildSlice (sz := 5) (es := ([(⟨(⟨#[111, 105, 108]⟩ : ByteArray), 800, 0, 0, 1000⟩ : Product)] : List Product).map Product.row) I I I I I I I I I I I (dst_some I) (fun v1 => (AO.q 1 I (AO.nil ?_))))))))
 obtain rfl := h
 exact AW.ret ⟨.inr I, [_], [.us v1 58 5 (([(⟨(⟨#[111, 105, 108]⟩ : ByteArray), 800, 0, 0, 1000⟩ : Product)] : List Product).map Product.row)], ⟨I, trivial⟩, sl_c I (sl_n), ⟨v1, I, I⟩⟩

theorem L.law19_awake_ok  (r : Bool) (h : L.law19_awake = some r) : ACalls Tryz.env 13 [] [] (fun x new => x = .v (.bool r) ∧ new = []) := by
 refine ACalls.of_body Tryz.func13 rfl rfl rfl (fun C hC => ?_)
 unfold L.law19_awake at h
 refine AW.z I (AW.cutX (fun s ob => ∃ (j11 : (List Level) × Int) (v12 : Value), L.law19_awake.J1 j11 = some r ∧ s = [(1, .v v12), (2, .v (.int .i64 j11.2))] ∧ ob = [.us v12 43 3 (j11.1.map Level.row)]) [] trivial ?_ ?_)
 obtain ⟨l30, hx31, h⟩ := ob_some h
 obtain ⟨m32, hx31i, hx31m, hx31r⟩ := mk_some hx31
 obtain ⟨r35, hx36, h⟩ := ob_some h
 refine AW.rd (.still 1 (.still 5 (.three 0 2 3 (.three 2 3 4 (.two 3 4 (.act 4 (.act 6 (.still 7 (.still 8 (.still 9 (.still 10 (.still 11 .nil))))))) (.act 3 (.act 6 (.still 7 (.still 8 (.still 9 (.still 10 (.still 11 .nil)))))))) (.two 2 4 (.act 4 (.act 6 (.still 7 (.still 8 (.still 9 (.still 10 (.still 11 .nil))))))) (.act 2 (.act 6 (.still 7 (.still 8 (.still 9 (.still 10 (.still 11 .nil)))))))) (.two 2 3 (.act 3 (.act 6 (.still 7 (.still 8 (.still 9 (.still 10 (.still 11 .nil))))))) (.act 2 (.act 6 (.still 7 (.still 8 (.still 9 (.still 10 (.still 11 .nil))))))))) (.two 0 3 (.two 3 4 (.act 4 (.act 6 (.still 7 (.still 8 (.still 9 (.still 10 (.still 11 .nil))))))) (.act 3 (.act 6 (.still 7 (.still 8 (.still 9 (.still 10 (.still 11 .nil)))))))) (.act 0 (.act 4 (.act 6 (.still 7 (.still 8 (.still 9 (.still 10 (.still 11 .nil))))))))) (.two 0 2 (.two 2 4 (.act 4 (.act 6 (.still 7 (.still 8 (.still 9 (.still 10 (.still 11 .nil))))))) (.act 2 (.act 6 (.still 7 (.still 8 (.still 9 (.still 10 (.still 11 .nil)))))))) (.act 0 (.act 4 (.act 6 (.still 7 (.still 8 (.still 9 (.still 10 (.still 11 .nil)))))))))))) [] [] I (AP.op I (Yp.buildP (l := [.v (.int .i64 0), .v (.int .i64 100)]) Tryz.bld100 I) I (AP.op I (Yp.buildP (l := [.v (.int .i64 500000), .v (.int .i64 500000)]) Tryz.bld36 I) I (AP.three ?_ ?_ ?_)))
 refine AP.act [] I I I (AX.call0 I I I (L.law19_segment_ok  _ I) (dst_some I) ?_)
 rintro _ _ ⟨rfl, rfl⟩
 refine AP.three ?_ ?_ ?_
 refine AP.act [] I I I (AX.lt 2 (([(⟨0, 100⟩ : Piece)] : List Piece).map Piece.row) (AP.two ?_ ?_))
 refine AP.act [] I I I (AX.makeU (sz := 4) I I I I I I I I I I hx31i hx31m (rep_map (f := Batch.row) hx31r I) (dst_some I) (fun v33 => (AP.act [] I I I (AX.call0 I I I (L.law19_oil_ok  _ I) (dst_some I) ?_))))
 rintro _ _ ⟨v34, rfl, rfl⟩
 refine AP.ghostS (Ghost.freeze [0, 1] (K := [.us v33 116 4 (l30.map Batch.row), .us v34 58 5 (L.law19_oil.map Product.row)]) I [(9, .list 4 (l30.map Batch.row)), (10, .list 5 (L.law19_oil.map Product.row))] ⟨⟨_, I, .us 0 I⟩, ⟨_, I, .us 1 I⟩, trivial⟩ (ob' := []) (.rest _)) I (AP.act [] I I I (AX.call0 I I I (L.gradient_Along_ok L.law19_segment ([(⟨0, 100⟩ : Piece)] : List Piece) l30 L.law19_oil 30 (⟨500000, 500000⟩ : Bounds) _ hx36) (dst_some I) ?_))
 rintro _ _ ⟨v37, rfl, rfl⟩
 refine AP.q 5 I (AP.ofAO (AO.nil ?_))
 exact lg ⟨(r35.1, r35.2), v37, h, I, I⟩ [0]
 refine AP.act [] I I I (AX.call0 I I I (L.law19_oil_ok  _ I) (dst_some I) ?_)
 rintro _ _ ⟨v34, rfl, rfl⟩
 refine AP.act [] I I I (AX.makeU (sz := 4) I I I I I I I I I I hx31i hx31m (rep_map (f := Batch.row) hx31r I) (dst_some I) (fun v33 => (AP.ghostS (Ghost.freeze [0, 1] (K := [.us v34 58 5 (L.law19_oil.map Product.row), .us v33 116 4 (l30.map Batch.row)]) I [(9, .list 4 (l30.map Batch.row)), (10, .list 5 (L.law19_oil.map Product.row))] ⟨⟨_, I, .us 1 I⟩, ⟨_, I, .us 0 I⟩, trivial⟩ (ob' := []) (.rest _)) I (AP.act [] I I I (AX.call0 I I I (L.gradient_Along_ok L.law19_segment ([(⟨0, 100⟩ : Piece)] : List Piece) l30 L.law19_oil 30 (⟨500000, 500000⟩ : Bounds) _ hx36) (dst_some I) ?_)))))
 rintro _ _ ⟨v37, rfl, rfl⟩
 refine AP.q 5 I (AP.ofAO (AO.nil ?_))
 exact lg ⟨(r35.1, r35.2), v37, h, I, I⟩ [0]
 refine AP.act [] I I I (AX.makeU (sz := 4) I I I I I I I I I I hx31i hx31m (rep_map (f := Batch.row) hx31r I) (dst_some I) (fun v33 => (AP.two ?_ ?_)))
 refine AP.act [] I I I (AX.lt 2 (([(⟨0, 100⟩ : Piece)] : List Piece).map Piece.row) (AP.act [] I I I (AX.call0 I I I (L.law19_oil_ok  _ I) (dst_some I) ?_)))
 rintro _ _ ⟨v34, rfl, rfl⟩
 refine AP.ghostS (Ghost.freeze [0, 1] (K := [.us v33 116 4 (l30.map Batch.row), .us v34 58 5 (L.law19_oil.map Product.row)]) I [(9, .list 4 (l30.map Batch.row)), (10, .list 5 (L.law19_oil.map Product.row))] ⟨⟨_, I, .us 0 I⟩, ⟨_, I, .us 1 I⟩, trivial⟩ (ob' := []) (.rest _)) I (AP.act [] I I I (AX.call0 I I I (L.gradient_Along_ok L.law19_segment ([(⟨0, 100⟩ : Piece)] : List Piece) l30 L.law19_oil 30 (⟨500000, 500000⟩ : Bounds) _ hx36) (dst_some I) ?_))
 rintro _ _ ⟨v37, rfl, rfl⟩
 refine AP.q 5 I (AP.ofAO (AO.nil ?_))
 exact lg ⟨(r35.1, r35.2), v37, h, I, I⟩ [0]
 refine AP.act [] I I I (AX.call0 I I I (L.law19_oil_ok  _ I) (dst_some I) ?_)
 rintro _ _ ⟨v34, rfl, rfl⟩
 refine AP.act [] I I I (AX.lt 2 (([(⟨0, 100⟩ : Piece)] : List Piece).map Piece.row) (AP.ghostS (Ghost.freeze [0, 1] (K := [.us v33 116 4 (l30.map Batch.row), .us v34 58 5 (L.law19_oil.map Product.row)]) I [(9, .list 4 (l30.map Batch.row)), (10, .list 5 (L.law19_oil.map Product.row))] ⟨⟨_, I, .us 0 I⟩, ⟨_, I, .us 1 I⟩, trivial⟩ (ob' := []) (.rest _)) I (AP.act [] I I I (AX.call0 I I I (L.gradient_Along_ok L.law19_segment ([(⟨0, 100⟩ : Piece)] : List Piece) l30 L.law19_oil 30 (⟨500000, 500000⟩ : Bounds) _ hx36) (dst_some I) ?_))))
 rintro _ _ ⟨v37, rfl, rfl⟩
 refine AP.q 5 I (AP.ofAO (AO.nil ?_))
 exact lg ⟨(r35.1, r35.2), v37, h, I, I⟩ [0]
 refine AP.act [] I I I (AX.call0 I I I (L.law19_oil_ok  _ I) (dst_some I) ?_)
 rintro _ _ ⟨v34, rfl, rfl⟩
 refine AP.two ?_ ?_
 refine AP.act [] I I I (AX.lt 2 (([(⟨0, 100⟩ : Piece)] : List Piece).map Piece.row) (AP.act [] I I I (AX.makeU (sz := 4) I I I I I I I I I I hx31i hx31m (rep_map (f := Batch.row) hx31r I) (dst_some I) (fun v33 => (AP.ghostS (Ghost.freeze [0, 1] (K := [.us v34 58 5 (L.law19_oil.map Product.row), .us v33 116 4 (l30.map Batch.row)]) I [(9, .list 4 (l30.map Batch.row)), (10, .list 5 (L.law19_oil.map Product.row))] ⟨⟨_, I, .us 1 I⟩, ⟨_, I, .us 0 I⟩, trivial⟩ (ob' := []) (.rest _)) I (AP.act [] I I I (AX.call0 I I I (L.gradient_Along_ok L.law19_segment ([(⟨0, 100⟩ : Piece)] : List Piece) l30 L.law19_oil 30 (⟨500000, 500000⟩ : Bounds) _ hx36) (dst_some I) ?_)))))))
 rintro _ _ ⟨v37, rfl, rfl⟩
 refine AP.q 5 I (AP.ofAO (AO.nil ?_))
 exact lg ⟨(r35.1, r35.2), v37, h, I, I⟩ [0]
 refine AP.act [] I I I (AX.makeU (sz := 4) I I I I I I I I I I hx31i hx31m (rep_map (f := Batch.row) hx31r I) (dst_some I) (fun v33 => (AP.act [] I I I (AX.lt 2 (([(⟨0, 100⟩ : Piece)] : List Piece).map Piece.row) (AP.ghostS (Ghost.freeze [0, 1] (K := [.us v34 58 5 (L.law19_oil.map Product.row), .us v33 116 4 (l30.map Batch.row)]) I [(9, .list 4 (l30.map Batch.row)), (10, .list 5 (L.law19_oil.map Product.row))] ⟨⟨_, I, .us 1 I⟩, ⟨_, I, .us 0 I⟩, trivial⟩ (ob' := []) (.rest _)) I (AP.act [] I I I (AX.call0 I I I (L.gradient_Along_ok L.law19_segment ([(⟨0, 100⟩ : Piece)] : List Piece) l30 L.law19_oil 30 (⟨500000, 500000⟩ : Bounds) _ hx36) (dst_some I) ?_)))))))
 rintro _ _ ⟨v37, rfl, rfl⟩
 refine AP.q 5 I (AP.ofAO (AO.nil ?_))
 exact lg ⟨(r35.1, r35.2), v37, h, I, I⟩ [0]
 refine AP.act [] I I I (AX.lt 2 (([(⟨0, 100⟩ : Piece)] : List Piece).map Piece.row) (AP.two ?_ ?_))
 refine AP.act [] I I I (AX.call0 I I I (L.law19_segment_ok  _ I) (dst_some I) ?_)
 rintro _ _ ⟨rfl, rfl⟩
 refine AP.two ?_ ?_
 refine AP.act [] I I I (AX.makeU (sz := 4) I I I I I I I I I I hx31i hx31m (rep_map (f := Batch.row) hx31r I) (dst_some I) (fun v33 => (AP.act [] I I I (AX.call0 I I I (L.law19_oil_ok  _ I) (dst_some I) ?_))))
 rintro _ _ ⟨v34, rfl, rfl⟩
 refine AP.ghostS (Ghost.freeze [0, 1] (K := [.us v33 116 4 (l30.map Batch.row), .us v34 58 5 (L.law19_oil.map Product.row)]) I [(9, .list 4 (l30.map Batch.row)), (10, .list 5 (L.law19_oil.map Product.row))] ⟨⟨_, I, .us 0 I⟩, ⟨_, I, .us 1 I⟩, trivial⟩ (ob' := []) (.rest _)) I (AP.act [] I I I (AX.call0 I I I (L.gradient_Along_ok L.law19_segment ([(⟨0, 100⟩ : Piece)] : List Piece) l30 L.law19_oil 30 (⟨500000, 500000⟩ : Bounds) _ hx36) (dst_some I) ?_))
 rintro _ _ ⟨v37, rfl, rfl⟩
 refine AP.q 5 I (AP.ofAO (AO.nil ?_))
 exact lg ⟨(r35.1, r35.2), v37, h, I, I⟩ [0]
 refine AP.act [] I I I (AX.call0 I I I (L.law19_oil_ok  _ I) (dst_some I) ?_)
 rintro _ _ ⟨v34, rfl, rfl⟩
 refine AP.act [] I I I (AX.makeU (sz := 4) I I I I I I I I I I hx31i hx31m (rep_map (f := Batch.row) hx31r I) (dst_some I) (fun v33 => (AP.ghostS (Ghost.freeze [0, 1] (K := [.us v34 58 5 (L.law19_oil.map Product.row), .us v33 116 4 (l30.map Batch.row)]) I [(9, .list 4 (l30.map Batch.row)), (10, .list 5 (L.law19_oil.map Product.row))] ⟨⟨_, I, .us 1 I⟩, ⟨_, I, .us 0 I⟩, trivial⟩ (ob' := []) (.rest _)) I (AP.act [] I I I (AX.call0 I I I (L.gradient_Along_ok L.law19_segment ([(⟨0, 100⟩ : Piece)] : List Piece) l30 L.law19_oil 30 (⟨500000, 500000⟩ : Bounds) _ hx36) (dst_some I) ?_)))))
 rintro _ _ ⟨v37, rfl, rfl⟩
 refine AP.q 5 I (AP.ofAO (AO.nil ?_))
 exact lg ⟨(r35.1, r35.2), v37, h, I, I⟩ [0]
 refine AP.act [] I I I (AX.makeU (sz := 4) I I I I I I I I I I hx31i hx31m (rep_map (f := Batch.row) hx31r I) (dst_some I) (fun v33 => (AP.act [] I I I (AX.call0 I I I (L.law19_segment_ok  _ I) (dst_some I) ?_))))
 rintro _ _ ⟨rfl, rfl⟩
 refine AP.act [] I I I (AX.call0 I I I (L.law19_oil_ok  _ I) (dst_some I) ?_)
 rintro _ _ ⟨v34, rfl, rfl⟩
 refine AP.ghostS (Ghost.freeze [0, 1] (K := [.us v33 116 4 (l30.map Batch.row), .us v34 58 5 (L.law19_oil.map Product.row)]) I [(9, .list 4 (l30.map Batch.row)), (10, .list 5 (L.law19_oil.map Product.row))] ⟨⟨_, I, .us 0 I⟩, ⟨_, I, .us 1 I⟩, trivial⟩ (ob' := []) (.rest _)) I (AP.act [] I I I (AX.call0 I I I (L.gradient_Along_ok L.law19_segment ([(⟨0, 100⟩ : Piece)] : List Piece) l30 L.law19_oil 30 (⟨500000, 500000⟩ : Bounds) _ hx36) (dst_some I) ?_))
 rintro _ _ ⟨v37, rfl, rfl⟩
 refine AP.q 5 I (AP.ofAO (AO.nil ?_))
 exact lg ⟨(r35.1, r35.2), v37, h, I, I⟩ [0]
 refine AP.act [] I I I (AX.makeU (sz := 4) I I I I I I I I I I hx31i hx31m (rep_map (f := Batch.row) hx31r I) (dst_some I) (fun v33 => (AP.two ?_ ?_)))
 refine AP.act [] I I I (AX.call0 I I I (L.law19_segment_ok  _ I) (dst_some I) ?_)
 rintro _ _ ⟨rfl, rfl⟩
 refine AP.two ?_ ?_
 refine AP.act [] I I I (AX.lt 2 (([(⟨0, 100⟩ : Piece)] : List Piece).map Piece.row) (AP.act [] I I I (AX.call0 I I I (L.law19_oil_ok  _ I) (dst_some I) ?_)))
 rintro _ _ ⟨v34, rfl, rfl⟩
 refine AP.ghostS (Ghost.freeze [0, 1] (K := [.us v33 116 4 (l30.map Batch.row), .us v34 58 5 (L.law19_oil.map Product.row)]) I [(9, .list 4 (l30.map Batch.row)), (10, .list 5 (L.law19_oil.map Product.row))] ⟨⟨_, I, .us 0 I⟩, ⟨_, I, .us 1 I⟩, trivial⟩ (ob' := []) (.rest _)) I (AP.act [] I I I (AX.call0 I I I (L.gradient_Along_ok L.law19_segment ([(⟨0, 100⟩ : Piece)] : List Piece) l30 L.law19_oil 30 (⟨500000, 500000⟩ : Bounds) _ hx36) (dst_some I) ?_))
 rintro _ _ ⟨v37, rfl, rfl⟩
 refine AP.q 5 I (AP.ofAO (AO.nil ?_))
 exact lg ⟨(r35.1, r35.2), v37, h, I, I⟩ [0]
 refine AP.act [] I I I (AX.call0 I I I (L.law19_oil_ok  _ I) (dst_some I) ?_)
 rintro _ _ ⟨v34, rfl, rfl⟩
 refine AP.act [] I I I (AX.lt 2 (([(⟨0, 100⟩ : Piece)] : List Piece).map Piece.row) (AP.ghostS (Ghost.freeze [0, 1] (K := [.us v33 116 4 (l30.map Batch.row), .us v34 58 5 (L.law19_oil.map Product.row)]) I [(9, .list 4 (l30.map Batch.row)), (10, .list 5 (L.law19_oil.map Product.row))] ⟨⟨_, I, .us 0 I⟩, ⟨_, I, .us 1 I⟩, trivial⟩ (ob' := []) (.rest _)) I (AP.act [] I I I (AX.call0 I I I (L.gradient_Along_ok L.law19_segment ([(⟨0, 100⟩ : Piece)] : List Piece) l30 L.law19_oil 30 (⟨500000, 500000⟩ : Bounds) _ hx36) (dst_some I) ?_))))
 rintro _ _ ⟨v37, rfl, rfl⟩
 refine AP.q 5 I (AP.ofAO (AO.nil ?_))
 exact lg ⟨(r35.1, r35.2), v37, h, I, I⟩ [0]
 refine AP.act [] I I I (AX.lt 2 (([(⟨0, 100⟩ : Piece)] : List Piece).map Piece.row) (AP.act [] I I I (AX.call0 I I I (L.law19_segment_ok  _ I) (dst_some I) ?_)))
 rintro _ _ ⟨rfl, rfl⟩
 refine AP.act [] I I I (AX.call0 I I I (L.law19_oil_ok  _ I) (dst_some I) ?_)
 rintro _ _ ⟨v34, rfl, rfl⟩
 refine AP.ghostS (Ghost.freeze [0, 1] (K := [.us v33 116 4 (l30.map Batch.row), .us v34 58 5 (L.law19_oil.map Product.row)]) I [(9, .list 4 (l30.map Batch.row)), (10, .list 5 (L.law19_oil.map Product.row))] ⟨⟨_, I, .us 0 I⟩, ⟨_, I, .us 1 I⟩, trivial⟩ (ob' := []) (.rest _)) I (AP.act [] I I I (AX.call0 I I I (L.gradient_Along_ok L.law19_segment ([(⟨0, 100⟩ : Piece)] : List Piece) l30 L.law19_oil 30 (⟨500000, 500000⟩ : Bounds) _ hx36) (dst_some I) ?_))
 rintro _ _ ⟨v37, rfl, rfl⟩
 refine AP.q 5 I (AP.ofAO (AO.nil ?_))
 exact lg ⟨(r35.1, r35.2), v37, h, I, I⟩ [0]
 rintro s ob ⟨j11, v12, h, rfl, rfl⟩
 unfold L.law19_awake.J1 at h
 refine AW.seqG (fun y13 hy13 => ?_)
 obtain ⟨r14, hx15, h⟩ := ob_some h
 refine AW.region (AO.act [] I (AX.call0 I I I (L.law19_segment_ok  _ I) (dst_some I) ?_))
 rintro _ _ ⟨rfl, rfl⟩
 refine AO.q 1 I (AO.act [] I (AX.callL I (.refl _) I I (.cons (.refl _) (.cons (.us 0 I) (.rest _))) I (L.gradient_Keeps_ok L.law19_segment j11.1 0 _ hx15) (dst_some I) (by rintro _ _ ⟨rfl, _⟩; rfl) ?_))
 rintro _ ⟨_, rfl, -⟩
 refine AO.q 5 I (AO.nil ?_)
 subst hy13
 refine AW.cutX (fun s ob => ∃ (j22 : Bool), L.law19_awake.J2 j22 = some r ∧ s = [(0, .v (.bool j22))] ∧ ob = []) [] trivial ?_ ?_
 rcases Bool.eq_false_or_eq_true ((j11.2 == 0)) with hg23 | hg23
 replace h := ife_t hg23 h
 obtain ⟨r25, hx26, h⟩ := ob_some h
 rcases Bool.eq_false_or_eq_true (r25) with hg27 | hg27
 replace h := ife_t hg27 h
 rcases Bool.eq_false_or_eq_true ((r14.2 == 0)) with hg28 | hg28
 replace h := ife_t hg28 h
 refine AW.region (AO.q 3 I (AO.known 23 I hg23 (AO.q 1 I (AO.gt I I I (AO.p (Yp.buildP (l := [.v (.int .i64 500000), .v (.int .i64 500000)]) Tryz.bld36 I) I (AO.gt I I I (AO.p (Yp.buildP (l := [.v (.int .i64 0), .v (.int .i64 500000), .v (.int .i64 500000)]) Tryz.bld43 I) I (AO.gt I I I (AO.p (Yp.buildP (l := [.v (.int .i64 419744), .v (.int .i64 419744)]) Tryz.bld36 I) I (AO.gt I I I (AO.p (Yp.buildP (l := [.v (.int .i64 100), .v (.int .i64 419744), .v (.int .i64 419744)]) Tryz.bld43 I) I (AO.gt I I I ?_))))))))))))
 refine AO.act [] I (AX.lt 3 (([(⟨0, (⟨500000, 500000⟩ : Bounds)⟩ : Level), (⟨100, (⟨419744, 419744⟩ : Bounds)⟩ : Level)] : List Level).map Level.row) (AO.gt I I I (AO.act [] I (AX.callL I (.refl _) I I (.cons (.us 0 I) (.rest _)) I (L.ref19_Same_ok j11.1 ([(⟨0, (⟨500000, 500000⟩ : Bounds)⟩ : Level), (⟨100, (⟨419744, 419744⟩ : Bounds)⟩ : Level)] : List Level) _ hx26) (dst_some I) (by rintro _ _ ⟨rfl, _⟩; rfl) ?_))))
 rintro _ ⟨_, rfl, -⟩
 refine AO.q 2 I (AO.known 32 I hg27 (AO.q 4 I (AO.known 36 I hg28 (AO.q 4 I (AO.nil ?_)))))
 exact lg ⟨(r14.1 == (-1)), h, I, I⟩ []
 replace h := ife_f hg28 h
 refine AW.region (AO.q 3 I (AO.known 23 I hg23 (AO.q 1 I (AO.gt I I I (AO.p (Yp.buildP (l := [.v (.int .i64 500000), .v (.int .i64 500000)]) Tryz.bld36 I) I (AO.gt I I I (AO.p (Yp.buildP (l := [.v (.int .i64 0), .v (.int .i64 500000), .v (.int .i64 500000)]) Tryz.bld43 I) I (AO.gt I I I (AO.p (Yp.buildP (l := [.v (.int .i64 419744), .v (.int .i64 419744)]) Tryz.bld36 I) I (AO.gt I I I (AO.p (Yp.buildP (l := [.v (.int .i64 100), .v (.int .i64 419744), .v (.int .i64 419744)]) Tryz.bld43 I) I (AO.gt I I I ?_))))))))))))
 refine AO.act [] I (AX.lt 3 (([(⟨0, (⟨500000, 500000⟩ : Bounds)⟩ : Level), (⟨100, (⟨419744, 419744⟩ : Bounds)⟩ : Level)] : List Level).map Level.row) (AO.gt I I I (AO.act [] I (AX.callL I (.refl _) I I (.cons (.us 0 I) (.rest _)) I (L.ref19_Same_ok j11.1 ([(⟨0, (⟨500000, 500000⟩ : Bounds)⟩ : Level), (⟨100, (⟨419744, 419744⟩ : Bounds)⟩ : Level)] : List Level) _ hx26) (dst_some I) (by rintro _ _ ⟨rfl, _⟩; rfl) ?_))))
 rintro _ ⟨_, rfl, -⟩
 refine AO.q 2 I (AO.known 32 I hg27 (AO.q 4 I (AO.known 36 I hg28 (AO.q 4 I (AO.nil ?_)))))
 exact lg ⟨false, h, I, I⟩ []
 replace h := ife_f hg27 h
 refine AW.region (AO.q 3 I (AO.known 23 I hg23 (AO.q 1 I (AO.gt I I I (AO.p (Yp.buildP (l := [.v (.int .i64 500000), .v (.int .i64 500000)]) Tryz.bld36 I) I (AO.gt I I I (AO.p (Yp.buildP (l := [.v (.int .i64 0), .v (.int .i64 500000), .v (.int .i64 500000)]) Tryz.bld43 I) I (AO.gt I I I (AO.p (Yp.buildP (l := [.v (.int .i64 419744), .v (.int .i64 419744)]) Tryz.bld36 I) I (AO.gt I I I (AO.p (Yp.buildP (l := [.v (.int .i64 100), .v (.int .i64 419744), .v (.int .i64 419744)]) Tryz.bld43 I) I (AO.gt I I I ?_))))))))))))
 refine AO.act [] I (AX.lt 3 (([(⟨0, (⟨500000, 500000⟩ : Bounds)⟩ : Level), (⟨100, (⟨419744, 419744⟩ : Bounds)⟩ : Level)] : List Level).map Level.row) (AO.gt I I I (AO.act [] I (AX.callL I (.refl _) I I (.cons (.us 0 I) (.rest _)) I (L.ref19_Same_ok j11.1 ([(⟨0, (⟨500000, 500000⟩ : Bounds)⟩ : Level), (⟨100, (⟨419744, 419744⟩ : Bounds)⟩ : Level)] : List Level) _ hx26) (dst_some I) (by rintro _ _ ⟨rfl, _⟩; rfl) ?_))))
 rintro _ ⟨_, rfl, -⟩
 refine AO.q 2 I (AO.known 32 I hg27 (AO.q 8 I (AO.nil ?_)))
 exact lg ⟨false, h, I, I⟩ []
 replace h := ife_f hg23 h
 refine AW.region (AO.q 3 I (AO.known 23 I hg23 (AO.q 17 I (AO.nil ?_))))
 exact lg ⟨false, h, I, I⟩ []
 rintro s ob ⟨j22, h, rfl, rfl⟩
 unfold L.law19_awake.J2 at h
 obtain rfl := Option.some.inj h
 exact AW.ret ⟨.inr I, [_], [], ⟨I, trivial⟩, sl_n, I, I⟩

end Go.Proofs.YtncfbhnecmnfpaaGreatDoor
