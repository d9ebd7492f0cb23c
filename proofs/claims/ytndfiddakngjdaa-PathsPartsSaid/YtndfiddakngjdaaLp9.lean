/- Walks that show what functions of the program compute; printed by a program of ours. No condition. -/
import Derived.Test.YtndfiddakngjdaaLp8
import Derived.Test.YtndfiddakngjdaaLp3
import Derived.Test.YtndfiddakngjdaaL6
import Derived.Test.YtndfiddakngjdaaL4c
import Derived.Test.YtndfiddakngjdaaL4b
namespace Go.Proofs.Ytndfiddakngjdaa
open Go.Aw
set_option linter.unusedVariables false
set_option linter.unusedSimpArgs false
set_option maxRecDepth 100000
set_option maxHeartbeats 4000000

theorem L.second_Few_ok (l_0 : List Int) (r : Bool) (h : L.second_Few l_0 = r) : ACalls Try.env 23 [.list 1 (l_0.map rI)] [] (fun x new => x = .v (.bool r) ∧ new = []) := by
 refine ACalls.of_body Try.func23 rfl rfl rfl (fun C hC => ?_)
 unfold L.second_Few at h
 refine AW.z I (AW.zr [.l 1 (l_0.length : Int)] I ⟨len_m, trivial⟩ ?_)
 obtain rfl := h
 exact AW.ret ⟨.inr I, [_], [], ⟨I, trivial⟩, sl_n, I, I⟩

theorem L.law25_PathsParts_ok (l_0 : List Int) (r : Bool) (h : L.law25_PathsParts l_0 = some r) : ACalls Try.env 10 [.list 1 (l_0.map rI)] [] (fun x new => x = .v (.bool r) ∧ new = []) := by
 refine ACalls.of_body Try.func10 rfl rfl rfl (fun C hC => ?_)
 unfold L.law25_PathsParts at h
 refine AW.z I (AW.seqG (fun y2 hy2 => (AW.seq (AW.region (AO.q 1 I (AO.c (L.second_Few_ok l_0 _ I) (AO.q 1 I (AO.nil (AW.ch h I ?_ ?_)))))))))
 intro hc3 h
 refine AW.seq ?_
 obtain ⟨r4, hx5, h⟩ := ob_some h
 refine AW.region (AO.c (L.law25_awake_ok  _ hx5) (AO.q 1 I (AO.nil ?_)))
 obtain rfl := Option.some.inj h
 exact AW.ret ⟨.inr I, [_], [], ⟨I, trivial⟩, sl_n, I, I⟩
 intro hc3 h
 refine AW.skip ?_
 subst hy2
 refine AW.seqG (fun y6 hy6 => ?_)
 obtain ⟨r7, hx8, h⟩ := ob_some h
 refine AW.region (AO.q 1 I (AO.act [] I (AX.call0 I I I (L.keep_New_ok l_0 _ hx8) (dst_some I) ?_)))
 rintro _ _ ⟨b9, rfl, rfl⟩
 refine AO.q 1 I (AO.nil ?_)
 subst hy6
 refine AW.seqG (fun y10 hy10 => ?_)
 obtain ⟨r11, hx12, h⟩ := ob_some h
 refine AW.region (AO.q 1 I (AO.act [0] I (AX.cg [0] (L.keep_Src_Network_ok b9 r7 _ hx12) ?_)))
 rintro _ _ _ - ⟨rfl, rfl, rfl⟩
 refine AO.act [] I (AX.alloc (cs := [.v (.slice none 0 0), .v (.slice none 0 0), .v (.slice none 0 0), .v (.slice none 0 0), .v (.int .i64 0), .v (.int .i64 0)]) (m := 6) I I I I I (dst_some I) (fun b13 => (AO.act [1] I (AX.store 1 0 0 (es' := [Network.row r11.1]) I I I I I I I I (le_ble I) I I (AO.nil ?_)))))
 subst hy10
 refine AW.seqG (fun y14 hy14 => ?_)
 obtain ⟨r15, hx16, h⟩ := ob_some h
 refine AW.region (AO.r 2 [.o 1 1] I ⟨I, trivial⟩ (AO.act [0] I (AX.cg [0] (L.keep_Src_Plan_ok b9 r11.2 r11.1 _ hx16) ?_)))
 rintro _ _ _ - ⟨rfl, rfl, rfl⟩
 refine AO.act [] I (AX.alloc (cs := [.v (.slice none 0 0), .v (.slice none 0 0), .v (.slice none 0 0)]) (m := 3) I I I I I (dst_some I) (fun b17 => (AO.act [2] I (AX.store 2 0 0 (es' := [Plan.row r15.1]) I I I I I I I I (le_ble I) I I (AO.nil ?_)))))
 subst hy14
 refine AW.seqG (fun y18 hy18 => ?_)
 obtain ⟨r19, hx20, h⟩ := ob_some h
 refine AW.region (AO.r 2 [.o 0 1, .o 1 2] I ⟨I, I, trivial⟩ (AO.act [] I (AX.call0 I I I (L.paths_Divide_ok r11.1 r15.1 _ hx20) (dst_some I) ?_)))
 rintro _ _ ⟨v21, rfl, rfl⟩
 refine AO.q 5 I (AO.nil ?_)
 subst hy18
 refine AW.seqG (fun y22 hy22 => (AW.z I (AW.ch h I ?_ ?_)))
 intro hc23 h
 refine AW.z I (AW.ghost (Ghost.pick [] (K := []) I (by decide)) ?_)
 obtain rfl := Option.some.inj h
 exact AW.ret ⟨.inr I, [_], [], ⟨I, trivial⟩, sl_n, I, I⟩
 intro hc23 h
 refine AW.skip ?_
 subst hy22
 refine AW.z I (AW.cutX (fun s ob => ∃ (j86 : List Path) (v87 : Value), L.law25_PathsParts.J1 r11 r15 r19 j86 = some r ∧ s = [(8, .v v87)] ∧ ob = [.arr b13 30 6 1 [Network.row r11.1], .arr b17 34 3 1 [Plan.row r15.1], .us v21 58 4 (r19.1.map Path.row), .us v87 58 4 (j86.map Path.row)]) [(4, _), (5, _), (6, _)] ⟨I, I, I, trivial⟩ ?_ ?_)
 refine AW.z I (AW.block (AW.ghost (Ghost.nilU 58 4) ?_))
 obtain ⟨o291, hL292, hR293⟩ := ob_some h
 clear h
 refine AW.loopX hL292 [(3, _), (4, _), (5, _), (6, _)] ⟨I, I, I, I, trivial⟩ (fun (st271 : (List Int) × Int × (List Path) × Int) s ob => ∃ (v272 : Value), s = [(8, .v v272), (9, .v (.int .i64 st271.2.2.2))] ∧ ob = [.arr b9 90 2 1 [[.list 1 (st271.1.map rI), .v (.int .i64 st271.2.1)]], .arr b13 30 6 1 [Network.row r11.1], .arr b17 34 3 1 [Plan.row r15.1], .us v21 58 4 (r19.1.map Path.row), .us v272 58 4 (st271.2.2.1.map Path.row)]) ⟨(.slice none 0 0), I, I⟩ ⟨I, I, trivial⟩ ⟨[0, 1, 2, 3, 4], I, by decide⟩ ?_
 rintro st271 r295 s ob ⟨v272, rfl, rfl⟩ h hb294
 unfold L.law25_PathsParts.B8 at h
 refine AW.seqG (fun y296 hy296 => (AW.seq (AW.region (AO.q 2 I (AO.d (Yd.lenUM 3 I I I I) I (AO.q 1 I (AO.nil (AW.ch h I ?_ ?_))))))))
 intro hc297 h
 refine AW.skip ?_
 subst hy296
 refine AW.cutX (fun s ob => ∃ (j312 : (List Int) × Int × (List Path)) (v313 : Value), L.law25_PathsParts.J9 st271 j312 = some r295 ∧ s = [(8, .v v313)] ∧ ob = [.arr b9 90 2 1 [[.list 1 (j312.1.map rI), .v (.int .i64 j312.2.1)]], .arr b13 30 6 1 [Network.row r11.1], .arr b17 34 3 1 [Plan.row r15.1], .us v21 58 4 (r19.1.map Path.row), .us v313 58 4 (j312.2.2.map Path.row)]) [(3, _), (4, _), (5, _), (6, _), (9, _)] ⟨I, I, I, I, I, trivial⟩ ?_ ?_
 refine AW.block (AW.seqG (fun y314 hy314 => ?_))
 obtain ⟨p315, hp316, h⟩ := ob_some h
 obtain ⟨hp316i, hp316x⟩ := ix_some hp316
 obtain ⟨r317, hx318, h⟩ := ob_some h
 refine AW.region (AO.q 3 I (AO.d (Yd.indexU 3 (m := p315.1) I I I I I I I hp316i (map_get hp316x)) I (AO.q 1 I (AO.d (Yd.loadU 3 p315.1 3 I I I (map_get hp316x) I (y := .v (.int .i64 p315.2.Rate)) I) I (AO.q 1 I (AO.act [0] I (AX.cg [0] (L.keep_Src_N_ok b9 (⟨st271.1, st271.2.1⟩ : batchlinekeep_Src) (wr (p315.2.Rate + 1)) _ hx318) ?_)))))))
 rintro _ _ _ - ⟨rfl, rfl, rfl⟩
 refine AO.q 1 I (AO.nil ?_)
 subst hy314
 refine AW.z I (AW.ch h I ?_ ?_)
 intro hc320 h
 refine AW.seq ?_
 obtain ⟨r321, hx322, h⟩ := ob_some h
 refine AW.region (AO.q 2 I (AO.d (Yd.indexU 3 (m := p315.1) I I I I I I I hp316i (map_get hp316x)) I (AO.d (Yd.loadU 3 p315.1 0 I I I (map_get hp316x) I (y := .agg (Path.row p315.2)) I) I (AO.act [] I (AX.call0 I I I (L.ref25_Copy_ok p315.2 _ hx322) (dst_some I) ?_)))))
 rintro _ _ ⟨rfl, rfl⟩
 refine AO.act [] I (AX.alloc (cs := [.v (.int .i64 0), .v (.int .i64 0), .v (.slice none 0 0), .v (.int .i64 0)]) (m := 4) I I I I I (dst_some I) (fun b323 => (AO.act [5] I (AX.store 5 0 0 (es' := [Path.row r321]) I I I I I I I I (le_ble I) I I (AO.nil (AW.seq (AW.region (AO.q 2 I (AO.act [5] I (AX.store 5 0 3 (es' := [[.v (.int .i64 r321.In), .v (.int .i64 r321.Out), .list 2 (r321.Hops.map Hop.row), .v (.int .i64 r317.1)]]) I I I I I I I I (le_ble I) I I (AO.nil ?_)))))))))))
 obtain ⟨l325, hx326, h⟩ := ob_some h
 refine AW.region (AO.r 2 [.o 1 5] I ⟨I, trivial⟩ (AO.act [] I (AX.lt 4 (([(⟨r321.In, r321.Out, r321.Hops, r317.1⟩ : Path)] : List Path).map Path.row) (AO.act [4] I (AX.ap 4 I hx326 (fun v327 => (AO.q 1 I (AO.nil ?_))))))))
 exact lg ⟨(r317.2.L_, r317.2.At, l325), v327, h, I, I⟩ [0, 1, 2, 3, 4]
 intro hc320 h
 refine AW.skip ?_
 exact lg ⟨(r317.2.L_, r317.2.At, st271.2.2.1), v272, h, I, I⟩ [0, 1, 2, 3, 4]
 rintro s ob ⟨j312, v313, h, rfl, rfl⟩
 unfold L.law25_PathsParts.J9 at h
 refine AW.region (AO.q 3 I ?_)
 obtain rfl := Option.some.inj h
 refine AO.nil ?_
 exact ⟨_, _, _, I, ⟨v313, I, I⟩, ⟨I, I, I, I, I, I, trivial⟩, [0, 1, 2, 3, 4], I, by decide⟩
 intro hc297 h
 obtain rfl := hb294 _ (Option.some.inj h).symm
 replace h := hR293
 refine AW.exit ?_
 exact lg ⟨st271.2.2.1, v272, h, I, I⟩ [1, 2, 3, 4]
 rintro s ob ⟨j86, v87, h, rfl, rfl⟩
 unfold L.law25_PathsParts.J1 at h
 refine AW.seqG (fun y88 hy88 => ?_)
 obtain ⟨r89, hx90, h⟩ := ob_some h
 refine AW.region (AO.r 4 [.o 0 0, .o 3 1] I ⟨I, I, trivial⟩ (AO.ghost (Ghost.freeze [3] (K := [.us v87 58 4 (j86.map Path.row)]) I [(8, .list 4 (j86.map Path.row)), (68, .list 4 (j86.map Path.row))] ⟨⟨_, I, .us 0 I⟩, ⟨_, I, .us 0 I⟩, trivial⟩ (ob' := [.arr b13 30 6 1 [Network.row r11.1], .arr b17 34 3 1 [Plan.row r15.1], .us v21 58 4 (r19.1.map Path.row)]) (.rest _)) (AO.act [] I (AX.call0 I I I (L.paths_Sum_ok r11.1 j86 r15.1.Pumps _ hx90) (dst_some I) ?_))))
 rintro _ _ ⟨rfl, rfl⟩
 refine AO.q 3 I (AO.act [] I (AX.alloc (cs := [.v (.slice none 0 0), .v (.slice none 0 0), .v (.slice none 0 0)]) (m := 3) I I I I I (dst_some I) (fun b91 => (AO.act [3] I (AX.store 3 0 0 (es' := [Plan.row r89.1]) I I I I I I I I (le_ble I) I I (AO.q 1 I (AO.nil ?_)))))))
 subst hy88
 refine AW.seqG (fun y92 hy92 => (AW.cutX (fun s ob => ∃ (j96 : Bool), L.law25_PathsParts.J2 r11 r15 r19 j86 r89 j96 = some r ∧ s = [(81, .v (.bool j96))] ∧ ob = [.arr b13 30 6 1 [Network.row r11.1], .arr b17 34 3 1 [Plan.row r15.1], .us v21 58 4 (r19.1.map Path.row), .arr b91 34 3 1 [Plan.row r89.1]]) [(4, _), (5, _), (6, _), (8, _), (12, _)] ⟨I, I, I, I, I, trivial⟩ ?_ ?_))
 rcases Bool.eq_false_or_eq_true ((r89.2 != 0)) with hg227 | hg227
 replace h := ife_t hg227 h
 refine AW.region (AO.q 3 I (AO.known 76 I hg227 (AO.q 5 I (AO.nil ?_))))
 exact lg ⟨true, h, I, I⟩ [0, 1, 2, 3]
 replace h := ife_f hg227 h
 obtain ⟨r228, hx229, h⟩ := ob_some h
 refine AW.region (AO.q 3 I (AO.known 76 I hg227 (AO.r 2 [.o 0 0, .o 1 3] I ⟨I, I, trivial⟩ (AO.gt I I I (AO.c (L.ref16_Check_ok r11.1 r89.1 _ hx229) (AO.q 2 I (AO.nil ?_)))))))
 exact lg ⟨(r228 != 0), h, I, I⟩ [0, 1, 2, 3]
 rintro s ob ⟨j96, h, rfl, rfl⟩
 unfold L.law25_PathsParts.J2 at h
 refine AW.ch h I ?_ ?_
 intro hc97 h
 refine AW.z I (AW.ghost (Ghost.pick [] (K := []) I (by decide)) ?_)
 obtain rfl := Option.some.inj h
 exact AW.ret ⟨.inr I, [_], [], ⟨I, trivial⟩, sl_n, I, I⟩
 intro hc97 h
 refine AW.skip ?_
 subst hy92
 refine AW.cutX (fun s ob => ∃ (j130 : Unit), L.law25_PathsParts.J3 r11 r15 r19 j86 j130 = some r ∧ s = [] ∧ ob = [.arr b13 30 6 1 [Network.row r11.1], .arr b17 34 3 1 [Plan.row r15.1], .us v21 58 4 (r19.1.map Path.row)]) [(4, _), (5, _), (6, _), (8, _)] ⟨I, I, I, I, trivial⟩ ?_ ?_
 refine AW.z I (AW.block ?_)
 obtain ⟨o206, hL207, hR208⟩ := ob_some h
 clear h
 refine AW.loopX hL207 [(4, _), (5, _), (6, _), (8, _), (12, _)] ⟨I, I, I, I, I, trivial⟩ (fun (st196 : Int) s ob => s = [(14, .v (.int .i64 st196))] ∧ ob = [.arr b13 30 6 1 [Network.row r11.1], .arr b17 34 3 1 [Plan.row r15.1], .us v21 58 4 (r19.1.map Path.row), .arr b91 34 3 1 [Plan.row r89.1]]) ⟨I, I⟩ ⟨I, trivial⟩ ⟨[0, 1, 2, 3], I, by decide⟩ ?_
 rintro st196 r210 s ob ⟨rfl, rfl⟩ h hb209
 unfold L.law25_PathsParts.B6 at h
 refine AW.seqG (fun y211 hy211 => (AW.zr [.o 2 3, .l 3 (r89.1.Rates.length : Int)] I ⟨len_m, I, trivial⟩ (AW.ch h I ?_ ?_)))
 intro hc212 h
 refine AW.skip ?_
 subst hy211
 refine AW.seq (AW.block (AW.cutX (fun s ob => ∃ (j218 : Bool), L.law25_PathsParts.J7 st196 j218 = some r210 ∧ s = [(127, .v (.bool j218))] ∧ ob = [.arr b13 30 6 1 [Network.row r11.1], .arr b17 34 3 1 [Plan.row r15.1], .us v21 58 4 (r19.1.map Path.row), .arr b91 34 3 1 [Plan.row r89.1]]) [(4, _), (5, _), (6, _), (8, _), (12, _), (14, _)] ⟨I, I, I, I, I, I, trivial⟩ ?_ ?_))
 obtain ⟨p220, hp221, h⟩ := ob_some h
 obtain ⟨hp221i, hp221x⟩ := ix_some hp221
 obtain ⟨p222, hp223, h⟩ := ob_some h
 obtain ⟨hp223i, hp223x⟩ := ix_some hp223
 rcases Bool.eq_false_or_eq_true (decide ((wr (p220.2 * p222.2)) < 0)) with hg224 | hg224
 replace h := ife_t hg224 h
 refine AW.rd (pd 39 0 []) [3, 1] [_, _] I (AP.r 13 [.o 1 0, .x 3 p220.1 (rI p220.2), .o 6 1, .x 8 p222.1 (rI p222.2)] I ⟨⟨hp223i, map_get hp223x⟩, I, ⟨hp221i, map_get hp221x⟩, I, trivial⟩ (AP.known 101 I hg224 (AP.q 26 I (AP.ofAO (AO.nil ?_)))))
 exact lg ⟨true, h, I, I⟩ [0, 1, 2, 3]
 replace h := ife_f hg224 h
 refine AW.rd (pd 39 0 []) [3, 1] [_, _] I (AP.r 13 [.o 1 0, .x 3 p220.1 (rI p220.2), .o 6 1, .x 8 p222.1 (rI p222.2)] I ⟨⟨hp223i, map_get hp223x⟩, I, ⟨hp221i, map_get hp221x⟩, I, trivial⟩ (AP.known 101 I hg224 (AP.r 26 [.o 1 0, .x 3 p220.1 (rI p220.2), .o 6 0, .x 8 p220.1 (rI p220.2), .o 13 1, .x 15 p222.1 (rI p222.2), .o 18 1, .x 20 p222.1 (rI p222.2)] I ⟨⟨hp223i, map_get hp223x⟩, I, ⟨hp223i, map_get hp223x⟩, I, ⟨hp221i, map_get hp221x⟩, I, ⟨hp221i, map_get hp221x⟩, I, trivial⟩ (AP.ofAO (AO.nil ?_)))))
 exact lg ⟨decide ((max p220.2 (wr (0 - p220.2))) > (max p222.2 (wr (0 - p222.2)))), h, I, I⟩ [0, 1, 2, 3]
 rintro s ob ⟨j218, h, rfl, rfl⟩
 unfold L.law25_PathsParts.J7 at h
 refine AW.ch h I ?_ ?_
 intro hc219 h
 refine AW.z I ?_
 obtain rfl := hb209 _ (Option.some.inj h).symm
 replace h := hR208
 replace h := se_l h
 refine AW.ghost (Ghost.pick [] (K := []) I (by decide)) ?_
 obtain rfl := Option.some.inj h
 exact AW.ret ⟨.inr I, [_], [], ⟨I, trivial⟩, sl_n, I, I⟩
 intro hc219 h
 refine AW.skip (AW.region (AO.q 3 I ?_))
 obtain rfl := Option.some.inj h
 refine AO.nil ?_
 exact ⟨_, _, _, I, ⟨I, I⟩, ⟨I, I, I, I, I, I, trivial⟩, [0, 1, 2, 3], I, by decide⟩
 intro hc212 h
 obtain rfl := hb209 _ (Option.some.inj h).symm
 replace h := hR208
 replace h := se_r h
 refine AW.exit ?_
 exact lg ⟨(), h, I, I⟩ [0, 1, 2]
 rintro s ob ⟨j130, h, rfl, rfl⟩
 unfold L.law25_PathsParts.J3 at h
 refine AW.seqG (fun y131 hy131 => ?_)
 obtain ⟨r132, hx133, h⟩ := ob_some h
 refine AW.region (AO.q 2 I (AO.ghost (Ghost.freeze [2] (K := [.us v21 58 4 (r19.1.map Path.row)]) I [(6, .list 4 (r19.1.map Path.row)), (128, .list 4 (r19.1.map Path.row))] ⟨⟨_, I, .us 0 I⟩, ⟨_, I, .us 0 I⟩, trivial⟩ (ob' := [.arr b13 30 6 1 [Network.row r11.1], .arr b17 34 3 1 [Plan.row r15.1]]) (.rest _)) (AO.act [] I (AX.call0 I I I (L.paths_Common_ok r19.1 j86 _ hx133) (dst_some I) ?_))))
 rintro _ _ ⟨v134, rfl, rfl⟩
 refine AO.q 1 I (AO.nil ?_)
 subst hy131
 refine AW.seqG (fun y135 hy135 => ?_)
 obtain ⟨r136, hx137, h⟩ := ob_some h
 refine AW.region (AO.q 2 I (AO.act [] I (AX.call0 I I I (L.paths_Less_ok r19.1 j86 _ hx137) (dst_some I) ?_)))
 rintro _ _ ⟨v138, rfl, rfl⟩
 refine AO.q 5 I (AO.nil ?_)
 subst hy135
 refine AW.cutX (fun s ob => ∃ (j145 : (List Int) × (List Int) × (List Bool) × Int) (b146 : Nat), L.law25_PathsParts.J4 r15 j86 r132 r136 j145 = some r ∧ s = [(18, .v (.pointer (some ⟨b146, 0, none⟩))), (19, .v (.int .i64 j145.2.2.2))] ∧ ob = [.arr b17 34 3 1 [Plan.row r15.1], .us v134 58 4 (r132.map Path.row), .arr b146 34 3 1 [[.list 1 (j145.1.map rI), .list 1 (j145.2.1.map rI), .list 1 (j145.2.2.1.map rB)]]]) [(5, _), (8, _), (15, _), (17, _)] ⟨I, I, I, I, trivial⟩ ?_ ?_
 obtain ⟨l168, hx169, h⟩ := ob_some h
 obtain ⟨r171, hx172, h⟩ := ob_some h
 refine AW.rd (.still 0 (.still 1 (.still 2 (.still 4 (.still 5 (.two 3 10 (.two 6 10 (.still 7 (.still 8 (.still 9 (.act 10 (.act 11 (.still 12 .nil)))))) (.act 6 (.still 7 (.still 8 (.still 9 (.act 11 (.still 12 .nil))))))) (.act 3 (.act 6 (.still 7 (.still 8 (.still 9 (.act 11 (.still 12 .nil))))))))))))) [0, 1] [_, _] I (AP.r 5 [.o 0 0, .o 4 1] I ⟨I, I, trivial⟩ (AP.two ?_ ?_))
 refine AP.act [3] I I I (AX.ap 3 I hx169 (fun v170 => (AP.two ?_ ?_)))
 refine AP.ghostS (Ghost.freeze [3] (K := [.us v170 58 4 (l168.map Path.row)]) I [(141, .list 4 (l168.map Path.row))] ⟨⟨_, I, .us 0 I⟩, trivial⟩ (ob' := [.arr b13 30 6 1 [Network.row r11.1], .arr b17 34 3 1 [Plan.row r15.1], .us v134 58 4 (r132.map Path.row)]) (.rest _)) I (AP.act [] I I I (AX.call0 I I I (L.paths_Sum_ok r11.1 l168 r15.1.Pumps _ hx172) (dst_some I) ?_))
 rintro _ _ ⟨rfl, rfl⟩
 refine AP.q 3 I (AP.act [] I I I (AX.alloc (cs := [.v (.slice none 0 0), .v (.slice none 0 0), .v (.slice none 0 0)]) (m := 3) I I I I I (dst_some I) (fun b173 => (AP.act [3] I I I (AX.store 3 0 0 (es' := [Plan.row r171.1]) I I I I I I I I (le_ble I) I I (AP.q 1 I (AP.ofAO (AO.nil ?_))))))))
 exact lg ⟨(r171.1.Rates, r171.1.Ports, r171.1.Pumps, r171.2), b173, h, I, I⟩ [1, 2, 3]
 refine AP.act [] I I I (AX.alloc (cs := [.v (.slice none 0 0), .v (.slice none 0 0), .v (.slice none 0 0)]) (m := 3) I I I I I (dst_some I) (fun b173 => (AP.ghostS (Ghost.freeze [3] (K := [.us v170 58 4 (l168.map Path.row)]) I [(141, .list 4 (l168.map Path.row))] ⟨⟨_, I, .us 0 I⟩, trivial⟩ (ob' := [.arr b13 30 6 1 [Network.row r11.1], .arr b17 34 3 1 [Plan.row r15.1], .us v134 58 4 (r132.map Path.row), .arr b173 34 3 1 [[.v (.slice none 0 0), .v (.slice none 0 0), .v (.slice none 0 0)]]]) (.rest _)) I (AP.act [] I I I (AX.call0 I I I (L.paths_Sum_ok r11.1 l168 r15.1.Pumps _ hx172) (dst_some I) ?_)))))
 rintro _ _ ⟨rfl, rfl⟩
 refine AP.q 3 I (AP.act [3] I I I (AX.store 3 0 0 (es' := [Plan.row r171.1]) I I I I I I I I (le_ble I) I I (AP.q 1 I (AP.ofAO (AO.nil ?_)))))
 exact lg ⟨(r171.1.Rates, r171.1.Ports, r171.1.Pumps, r171.2), b173, h, I, I⟩ [1, 2, 3]
 refine AP.act [] I I I (AX.alloc (cs := [.v (.slice none 0 0), .v (.slice none 0 0), .v (.slice none 0 0)]) (m := 3) I I I I I (dst_some I) (fun b173 => (AP.act [3] I I I (AX.ap 3 I hx169 (fun v170 => (AP.ghostS (Ghost.freeze [3] (K := [.us v170 58 4 (l168.map Path.row)]) I [(141, .list 4 (l168.map Path.row))] ⟨⟨_, I, .us 0 I⟩, trivial⟩ (ob' := [.arr b13 30 6 1 [Network.row r11.1], .arr b17 34 3 1 [Plan.row r15.1], .us v134 58 4 (r132.map Path.row), .arr b173 34 3 1 [[.v (.slice none 0 0), .v (.slice none 0 0), .v (.slice none 0 0)]]]) (.rest _)) I (AP.act [] I I I (AX.call0 I I I (L.paths_Sum_ok r11.1 l168 r15.1.Pumps _ hx172) (dst_some I) ?_))))))))
 rintro _ _ ⟨rfl, rfl⟩
 refine AP.q 3 I (AP.act [3] I I I (AX.store 3 0 0 (es' := [Plan.row r171.1]) I I I I I I I I (le_ble I) I I (AP.q 1 I (AP.ofAO (AO.nil ?_)))))
 exact lg ⟨(r171.1.Rates, r171.1.Ports, r171.1.Pumps, r171.2), b173, h, I, I⟩ [1, 2, 3]
 rintro s ob ⟨j145, b146, h, rfl, rfl⟩
 unfold L.law25_PathsParts.J4 at h
 refine AW.cutX (fun s ob => ∃ (j157 : Bool), L.law25_PathsParts.J5 j157 = some r ∧ s = [(2, .v (.bool j157))] ∧ ob = []) [] trivial ?_ ?_
 rcases Bool.eq_false_or_eq_true (r136.2) with hg158 | hg158
 replace h := ife_t hg158 h
 obtain ⟨r159, hx160, h⟩ := ob_some h
 rcases Bool.eq_false_or_eq_true (r159) with hg161 | hg161
 replace h := ife_t hg161 h
 rcases Bool.eq_false_or_eq_true ((j145.2.2.2 == 0)) with hg162 | hg162
 replace h := ife_t hg162 h
 obtain ⟨r163, hx164, h⟩ := ob_some h
 rcases Bool.eq_false_or_eq_true (r163) with hg165 | hg165
 replace h := ife_t hg165 h
 obtain ⟨r166, hx167, h⟩ := ob_some h
 refine AW.region (AO.q 2 I (AO.known 148 I hg158 (AO.q 2 I (AO.gt I I I (AO.act [] I (AX.callL I (.refl _) I I (.cons (.us 1 I) (.rest _)) I (L.ref25_Same_ok r132 j86 _ hx160) (dst_some I) (by rintro _ _ ⟨rfl, _⟩; rfl) ?_))))))
 rintro _ ⟨_, rfl, -⟩
 refine AO.q 2 I (AO.known 153 I hg161 (AO.q 4 I (AO.known 157 I hg162 (AO.r 2 [.o 0 2, .o 1 0] I ⟨I, I, trivial⟩ (AO.gt I I I (AO.c (L.ref25_SamePlan_ok (⟨j145.1, j145.2.1, j145.2.2.1⟩ : Plan) r15.1 _ hx164) (AO.q 2 I (AO.known 162 I hg165 (AO.gt I I I (AO.c (L.law25_awake_ok  _ hx167) (AO.q 2 I (AO.nil ?_))))))))))))
 exact lg ⟨r166, h, I, I⟩ []
 replace h := ife_f hg165 h
 refine AW.region (AO.q 2 I (AO.known 148 I hg158 (AO.q 2 I (AO.gt I I I (AO.act [] I (AX.callL I (.refl _) I I (.cons (.us 1 I) (.rest _)) I (L.ref25_Same_ok r132 j86 _ hx160) (dst_some I) (by rintro _ _ ⟨rfl, _⟩; rfl) ?_))))))
 rintro _ ⟨_, rfl, -⟩
 refine AO.q 2 I (AO.known 153 I hg161 (AO.q 4 I (AO.known 157 I hg162 (AO.r 2 [.o 0 2, .o 1 0] I ⟨I, I, trivial⟩ (AO.gt I I I (AO.c (L.ref25_SamePlan_ok (⟨j145.1, j145.2.1, j145.2.2.1⟩ : Plan) r15.1 _ hx164) (AO.q 2 I (AO.known 162 I hg165 (AO.q 3 I (AO.nil ?_))))))))))
 exact lg ⟨false, h, I, I⟩ []
 replace h := ife_f hg162 h
 refine AW.region (AO.q 2 I (AO.known 148 I hg158 (AO.q 2 I (AO.gt I I I (AO.act [] I (AX.callL I (.refl _) I I (.cons (.us 1 I) (.rest _)) I (L.ref25_Same_ok r132 j86 _ hx160) (dst_some I) (by rintro _ _ ⟨rfl, _⟩; rfl) ?_))))))
 rintro _ ⟨_, rfl, -⟩
 refine AO.q 2 I (AO.known 153 I hg161 (AO.q 4 I (AO.known 157 I hg162 (AO.q 8 I (AO.nil ?_)))))
 exact lg ⟨false, h, I, I⟩ []
 replace h := ife_f hg161 h
 refine AW.region (AO.q 2 I (AO.known 148 I hg158 (AO.q 2 I (AO.gt I I I (AO.act [] I (AX.callL I (.refl _) I I (.cons (.us 1 I) (.rest _)) I (L.ref25_Same_ok r132 j86 _ hx160) (dst_some I) (by rintro _ _ ⟨rfl, _⟩; rfl) ?_))))))
 rintro _ ⟨_, rfl, -⟩
 refine AO.q 2 I (AO.known 153 I hg161 (AO.q 12 I (AO.nil ?_)))
 exact lg ⟨false, h, I, I⟩ []
 replace h := ife_f hg158 h
 refine AW.region (AO.q 2 I (AO.known 148 I hg158 (AO.q 17 I (AO.nil ?_))))
 exact lg ⟨false, h, I, I⟩ []
 rintro s ob ⟨j157, h, rfl, rfl⟩
 unfold L.law25_PathsParts.J5 at h
 obtain rfl := Option.some.inj h
 exact AW.ret ⟨.inr I, [_], [], ⟨I, trivial⟩, sl_n, I, I⟩

end Go.Proofs.Ytndfiddakngjdaa
