/- Walks that show what functions of the program compute; printed by a program of ours. No condition. -/
import Derived.Test.YtehbcbedipkifaaGreatDoorZxL1
set_option maxRecDepth 100000
namespace Go.Proofs.YtehbcbedipkifaaGreatDoor
open Go.Aw
set_option linter.unusedVariables false
set_option linter.unusedSimpArgs false
set_option maxHeartbeats 4000000
theorem L.ziti_ok (l_0 : List Int) (r : KS) (h : L.ziti l_0 = some r) : ACalls Tryz.env 10 [.list 1 (l_0.map rI)] [] (fun x new => ∃ (u0 : Nat), x = .v (.pointer (some ⟨u0, 0, none⟩)) ∧ new = [.arr u0 106 2 1 [KS.row r]]) := by
 refine ACalls.of_body Tryz.func10 rfl rfl rfl (fun C hC => ?_)
 unfold L.ziti at h
 refine AW.z I (AW.seq ?_)
 obtain ⟨l1, hx2, h⟩ := ob_some h
 obtain ⟨hx2a, hx2b, hx21, hx22, hx23, hx24, hx25⟩ := sub_some hx2
 refine AW.region (AO.r 4 [.l 2 (l_0.length : Int)] I ⟨len_m, J⟩ (AO.p (Yp.subL hx2a hx2b 0 I I I I I (bnd0 hx21) ⟨_, _, I, hx22⟩ I hx23 hx24 hx25) I (AO.p (Yp.buildP (l := [.list 1 (l1.map rI), .V 0]) Tryz.bld106 I) I (AO.act [] I (AX.box (cs := [.list 1 (l1.map rI), .V 0]) (m := 2) I I I dS (fun b3 => (AO.q 1 I (AO.nil ?_))))))))
 obtain rfl := oi h
 exact AW.ret ⟨.inr I, [_], [.arr b3 106 2 1 [[.list 1 (l1.map rI), .V 0]]], ⟨I, J⟩, sl_c I (sl_n), ⟨b3, I, I⟩⟩
theorem L.zxpl_ok (b0 : Nat) (s_0 : KS) (r : Int × KS) (h : L.zxpl s_0 = some r) : ACalls Tryz.env 43 [.v (.pointer (some ⟨b0, 0, none⟩))] [.arr b0 106 2 1 [KS.row s_0]] (Gives 1 (fun x os new => x = .V r.1 ∧ os = [.arr b0 106 2 1 [KS.row r.2]] ∧ new = [])) := by
 refine ACalls.of_body Tryz.func43 rfl rfl rfl (fun C hC => ?_)
 unfold L.zxpl at h
 refine AW.z I (AW.seqG (fun y2 hy2 => (AW.dz (pd 10 0 []) [0] [_] [.o 3 0, .o 7 0, .l 8 (s_0.L_.length : Int)] I I ⟨len_m, I, I, J⟩ (AW.ch h I ?_ ?_))))
 intro hc3 h
 refine AW.z I ?_
 obtain rfl := oi h
 exact AW.ret ⟨.inr I, [_], [.arr b0 106 2 1 [KS.row s_0]], ⟨I, J⟩, sl_c I (sl_n), ⟨[.arr b0 106 2 1 [KS.row s_0]], [], I, I, I, I, I⟩⟩
 intro hc3 h
 refine AW.skip ?_
 subst hy2
 refine AW.seqG (fun y4 hy4 => (AW.region (AO.r 7 [.o 3 0] I ⟨I, J⟩ (AO.act [0] I (AX.store 0 0 1 (es' := [[.list 1 (s_0.L_.map rI), .V (wr (s_0.At + 1))]]) I I I I I I I I (le_ble I) I I (AO.nil ?_))))))
 subst hy4
 refine AW.seq ?_
 obtain ⟨p5, hp6, h⟩ := ob_some h
 obtain ⟨hp6i, hp6x⟩ := ix_some hp6
 refine AW.dt (pd 12 0 []) [0] [_] [.o 3 0, .o 7 0, .x 9 p5.1 (rI p5.2)] I I ⟨⟨hp6i, map_get hp6x⟩, I, I, J⟩ ?_
 obtain rfl := oi h
 exact AW.ret ⟨.inr I, [_], [.arr b0 106 2 1 [[.list 1 (s_0.L_.map rI), .V (wr (s_0.At + 1))]]], ⟨I, J⟩, sl_c I (sl_n), ⟨[.arr b0 106 2 1 [[.list 1 (s_0.L_.map rI), .V (wr (s_0.At + 1))]]], [], I, I, I, I, I⟩⟩
theorem L.zdjb_ok (b0 : Nat) (s_0 : KS) (n_1 : Int) (r : Int × KS) (h : L.zdjb s_0 n_1 = some r) : ACalls Tryz.env 14 [.v (.pointer (some ⟨b0, 0, none⟩)), .V n_1] [.arr b0 106 2 1 [KS.row s_0]] (Gives 1 (fun x os new => x = .V r.1 ∧ os = [.arr b0 106 2 1 [KS.row r.2]] ∧ new = [])) := by
 refine ACalls.of_body Tryz.func14 rfl rfl rfl (fun C hC => ?_)
 unfold L.zdjb at h
 refine AW.z I (AW.seq ?_)
 obtain ⟨r1, hx2, h⟩ := ob_some h
 obtain ⟨r3, hx4, h⟩ := ob_some h
 refine AW.region (AO.q 1 I (AO.act [0] I (AX.c0 [0] (L.zxpl_ok b0 _ _ hx2) ?_)))
 refine AO.q 1 I (AO.c (L.zbjp_ok _ _ _ hx4) (AO.q 1 I (AO.nil ?_)))
 obtain rfl := oi h
 exact AW.ret ⟨.inr I, [_], [.arr b0 106 2 1 [KS.row r1.2]], ⟨I, J⟩, sl_c I (sl_n), ⟨[.arr b0 106 2 1 [KS.row r1.2]], [], I, I, I, I, I⟩⟩
theorem L.zeyi_ok (first_0 : ByteArray) (n_1 : Int) (r : ByteArray) (h : L.zeyi first_0 n_1 = some r) : ACalls Tryz.env 64 [.v (.string first_0), .V n_1] [] (fun x new => x = .v (.string r) ∧ new = []) := by
 refine ACalls.of_body Tryz.func64 rfl rfl rfl (fun C hC => ?_)
 unfold L.zeyi at h
 refine AW.z I (AW.seq ?_)
 obtain ⟨x2, hx3, h⟩ := ob_some h
 obtain ⟨x4, hx5, h⟩ := ob_some h
 refine AW.region (AO.r 4 [.f 2 (.V (n_1.tmod 26))] I ⟨Yp.yd (Yp.binI (c := (n_1.tmod 26)) I I ⟨by decide, I⟩), J⟩ (AO.p (Yp.convI (c := IntKind.u8.wrap (wr (97 + (n_1.tmod 26)))) I I I I I) I (AO.act [] I (AX.buildSlice (sz := 1) (es := ([IntKind.u8.wrap (wr (97 + (n_1.tmod 26)))] : List Int).map (rK .u8)) I I I I I I I I I I I dS (fun v1 => (AO.act [] I (AX.bytesX 0 hx3 I I I I I I I I dS (AO.p (Yp.addSX I I (cat_some hx5)) I (AO.q 1 I (AO.nil (AW.ghost g0 ?_)))))))))))
 obtain rfl := oi h
 exact AW.ret pr
theorem L.ztqk_ok (b0 : Nat) (s_0 : KS) (l_1 : List Int) (r : Int × KS) (h : L.ztqk s_0 l_1 = some r) : ACalls Tryz.env 40 [.v (.pointer (some ⟨b0, 0, none⟩)), .list 1 (l_1.map rI)] [.arr b0 106 2 1 [KS.row s_0]] (Gives 1 (fun x os new => x = .V r.1 ∧ os = [.arr b0 106 2 1 [KS.row r.2]] ∧ new = [])) := by
 refine ACalls.of_body Tryz.func40 rfl rfl rfl (fun C hC => ?_)
 unfold L.ztqk at h
 refine AW.z I (AW.seq ?_)
 obtain ⟨r1, hx2, h⟩ := ob_some h
 obtain ⟨p3, hp4, h⟩ := ob_some h
 obtain ⟨hp4i, hp4x⟩ := ix_some hp4
 refine AW.region (AO.r 4 [.l 3 (l_1.length : Int)] I ⟨len_m, J⟩ (AO.act [0] I (AX.c0 [0] (L.zdjb_ok b0 _ _ _ hx2) ?_)))
 refine AO.r 3 [.x 0 p3.1 (rI p3.2)] I ⟨⟨hp4i, map_get hp4x⟩, J⟩ (AO.nil ?_)
 obtain rfl := oi h
 exact AW.ret ⟨.inr I, [_], [.arr b0 106 2 1 [KS.row r1.2]], ⟨I, J⟩, sl_c I (sl_n), ⟨[.arr b0 106 2 1 [KS.row r1.2]], [], I, I, I, I, I⟩⟩
theorem L.ziuk_ok (b0 : Nat) (s_0 : KS) (lo_1 : Int) (hi_2 : Int) (r : Int × KS) (h : L.ziuk s_0 lo_1 hi_2 = some r) : ACalls Tryz.env 41 [.v (.pointer (some ⟨b0, 0, none⟩)), .V lo_1, .V hi_2] [.arr b0 106 2 1 [KS.row s_0]] (Gives 1 (fun x os new => x = .V r.1 ∧ os = [.arr b0 106 2 1 [KS.row r.2]] ∧ new = [])) := by
 refine ACalls.of_body Tryz.func41 rfl rfl rfl (fun C hC => ?_)
 unfold L.ziuk at h
 refine AW.z I (AW.seq ?_)
 obtain ⟨r1, hx2, h⟩ := ob_some h
 refine AW.region (AO.q 6 I (AO.act [0] I (AX.c0 [0] (L.zdjb_ok b0 _ _ _ hx2) ?_)))
 refine AO.q 2 I (AO.nil ?_)
 obtain rfl := oi h
 exact AW.ret ⟨.inr I, [_], [.arr b0 106 2 1 [KS.row r1.2]], ⟨I, J⟩, sl_c I (sl_n), ⟨[.arr b0 106 2 1 [KS.row r1.2]], [], I, I, I, I, I⟩⟩
theorem L.zsex_ok (b0 : Nat) (s_0 : KS) (k_1 : Int) (from_2 : Int) (to_3 : Int) (r : Segment × KS) (h : L.zsex s_0 k_1 from_2 to_3 = some r) : ACalls Tryz.env 30 [.v (.pointer (some ⟨b0, 0, none⟩)), .V k_1, .V from_2, .V to_3] [.arr b0 106 2 1 [KS.row s_0]] (Gives 1 (fun x os new => x = .agg (Segment.row r.1) ∧ os = [.arr b0 106 2 1 [KS.row r.2]] ∧ new = [])) := by
 refine ACalls.of_body Tryz.func30 rfl rfl rfl (fun C hC => ?_)
 unfold L.zsex at h
 refine AW.seqG (fun y1 hy1 => (AW.region (AO.act [] I (AX.alloc (cs := [.v (.string ⟨#[]⟩), .V 0, .V 0, .V 0, .V 0, .V 0, .v (.slice none 0 0)]) (m := 7) I I I I I dS (fun b2 => (AO.nil ?_))))))
 subst hy1
 refine AW.cutX (fun s ob => ∃ (j6 : (List Int) × Int × Int × Int), L.zsex.J1 k_1 j6 = some r ∧ s = [(2, .V j6.2.2.1), (3, .V j6.2.2.2)] ∧ ob = [.arr b0 106 2 1 [[.list 1 (j6.1.map rI), .V j6.2.1]], .arr b2 77 7 1 [[.v (.string ⟨#[]⟩), .V 0, .V 0, .V 0, .V 0, .V 0, .v (.slice none 0 0)]]]) [(0, _), (1, _), (8, _)] ⟨I, I, I, J⟩ ?_ ?_
 refine AW.seq ?_
 obtain ⟨r216, hx217, h⟩ := ob_some h
 refine AW.region (AO.q 1 I (AO.act [0] I (AX.c0 [0] (L.zdjb_ok b0 _ _ _ hx217) ?_)))
 refine AO.q 1 I (AO.nil (AW.ch h I ?_ ?_))
 intro hc218 h
 refine AW.t I ?_
 exact lg ⟨(r216.2.L_, r216.2.At, to_3, from_2), h, I, I⟩ [0, 1]
 intro hc218 h
 refine AW.skip ?_
 exact lg ⟨(r216.2.L_, r216.2.At, from_2, to_3), h, I, I⟩ [0, 1]
 rintro s ob ⟨j6, h, rfl, rfl⟩
 unfold L.zsex.J1 at h
 refine AW.seqG (fun y7 hy7 => ?_)
 obtain ⟨r8, hx9, h⟩ := ob_some h
 obtain ⟨r11, hx12, h⟩ := ob_some h
 obtain ⟨r14, hx15, h⟩ := ob_some h
 obtain ⟨r17, hx18, h⟩ := ob_some h
 refine AW.region (AO.q 1 I (AO.c (L.zeyi_ok _ _ _ hx9) (AO.q 3 I (AO.act [] I (AX.lt 1 (([1, 2, 7, 20, 60, 200, 1000] : List Int).map rI) (AO.act [0] I (AX.c0 [0] (L.ztqk_ok b0 _ _ _ hx12) ?_)))))))
 refine AO.q 1 I (AO.act [] I (AX.lt 1 (([0, 1, 5, 1000] : List Int).map rI) (AO.act [0] I (AX.c0 [0] (L.ztqk_ok b0 _ _ _ hx15) ?_))))
 refine AO.q 1 I (AO.act [] I (AX.lt 1 (([0, 50, 1000, 100000] : List Int).map rI) (AO.act [0] I (AX.c0 [0] (L.ztqk_ok b0 _ _ _ hx18) ?_))))
 refine AO.p (Yp.buildP (l := [.v (.string r8), .V j6.2.2.1, .V j6.2.2.2, .V r11.1, .V r14.1, .V r17.1, .v (.slice none 0 0)]) Tryz.bld77 I) I (AO.act [] I (AX.alloc (cs := [.v (.string ⟨#[]⟩), .V 0, .V 0, .V 0, .V 0, .V 0, .v (.slice none 0 0)]) (m := 7) I I I I I dS (fun b19 => (AO.act [2] I (AX.store 2 0 0 (es' := [[.v (.string r8), .V j6.2.2.1, .V j6.2.2.2, .V r11.1, .V r14.1, .V r17.1, .v (.slice none 0 0)]]) I I I I I I I I (le_ble I) I I (AO.nil ?_))))))
 subst hy7
 refine AW.seqG (fun y20 hy20 => ?_)
 obtain ⟨r22, hx23, h⟩ := ob_some h
 refine AW.region (AO.q 1 I (AO.act [] I (AX.lt 1 (([1000000, 6000000, 100000000] : List Int).map rI) (AO.act [0] I (AX.c0 [0] (L.ztqk_ok b0 _ _ _ hx23) ?_)))))
 refine AO.q 1 I (AO.nil ?_)
 subst hy20
 refine AW.seqG (fun y24 hy24 => ?_)
 obtain ⟨r25, hx26, h⟩ := ob_some h
 obtain ⟨l28, hx29, h⟩ := ob_some h
 refine AW.rd (.still 0 (.still 1 (.still 2 (.still 4 (.act 3 (.still 5 (.act 6 (.act 7 (.still 8 (.drop 9 .nil)))))))))) [2] [_] I (AP.r 4 [.o 1 0] I ⟨I, J⟩ (AP.act [0] I I I (AX.c0 [0] (L.ziuk_ok b0 _ _ _ _ hx26) ?_)))
 refine AP.p I (Yp.buildP (l := [.V 0, .V r25.1, .V r22.1]) Tryz.bld104 I) I (AP.act [] I I I (AX.lt 3 (([(⟨0, r25.1, r22.1⟩ : Point)] : List Point).map Point.row) (AP.act [] I I I (AX.appendN I I I I I I I I (AppSrc.list I) (app_len0 (app_some hx29).1) (app_map0 (app_some hx29).2) dS (fun v30 => (AP.q 1 I (AP.one 3 I (fun v30o => (AP.drop [2] I I I (AX.store 2 0 6 (es' := [[.v (.string r8), .V j6.2.2.1, .V j6.2.2.2, .V r11.1, .V r14.1, .V r17.1, .v v30]]) I I I I I I (cells_v v30o) I (le_ble I) I I (AP.ofAO (AO.nil ?_))))))))))))
 subst hy24
 refine AW.cutX (fun s ob => ∃ (j104 : (List Int) × Int × (List Point)) (v105 : Value), L.zsex.J2 j6 r8 r11 r14 r17 r22 j104 = some r ∧ s = [] ∧ ob = [.arr b0 106 2 1 [[.list 1 (j104.1.map rI), .V j104.2.1]], .arr b2 77 7 1 [[.v (.string ⟨#[]⟩), .V 0, .V 0, .V 0, .V 0, .V 0, .v (.slice none 0 0)]], .arr b19 77 7 1 [[.v (.string r8), .V j6.2.2.1, .V j6.2.2.2, .V r11.1, .V r14.1, .V r17.1, .v v105]], .us v105 104 3 (j104.2.2.map Point.row)]) [(0, _), (8, _), (9, _), (10, _)] ⟨I, I, I, I, J⟩ ?_ ?_
 refine AW.z I (AW.block ?_)
 obtain ⟨o185, hL186, hR187⟩ := ob_some h
 clear h
 refine AW.loopX hL186 [(0, _), (8, _), (9, _), (10, _)] ⟨I, I, I, I, J⟩ (fun (st161 : (List Int) × Int × (List Point) × Int) s ob => ∃ (v162 : Value), s = [(11, .V st161.2.2.2)] ∧ ob = [.arr b0 106 2 1 [[.list 1 (st161.1.map rI), .V st161.2.1]], .arr b2 77 7 1 [[.v (.string ⟨#[]⟩), .V 0, .V 0, .V 0, .V 0, .V 0, .v (.slice none 0 0)]], .arr b19 77 7 1 [[.v (.string r8), .V j6.2.2.1, .V j6.2.2.2, .V r11.1, .V r14.1, .V r17.1, .v v162]], .us v162 104 3 (st161.2.2.1.map Point.row)]) ⟨v30, I, I⟩ ⟨I, J⟩ ⟨[0, 1, 2, 3], I, by decide⟩ ?_
 rintro st161 r189 s ob ⟨v162, rfl, rfl⟩ h hb188
 unfold L.zsex.B3 at h
 refine AW.seqG (fun y190 hy190 => (AW.cutX (fun s ob => ∃ (j194 : (List Int) × Int × Bool), L.zsex.J4 r11 r22 st161 j194 = some r189 ∧ s = [(51, .v (.bool j194.2.2))] ∧ ob = [.arr b0 106 2 1 [[.list 1 (j194.1.map rI), .V j194.2.1]], .arr b2 77 7 1 [[.v (.string ⟨#[]⟩), .V 0, .V 0, .V 0, .V 0, .V 0, .v (.slice none 0 0)]], .arr b19 77 7 1 [[.v (.string r8), .V j6.2.2.1, .V j6.2.2.2, .V r11.1, .V r14.1, .V r17.1, .v v162]], .us v162 104 3 (st161.2.2.1.map Point.row)]) [(0, _), (8, _), (9, _), (10, _), (11, _)] ⟨I, I, I, I, I, J⟩ ?_ ?_))
 rcases bt (decide ((st161.2.2.1.length : Int) < 7)) with hg212 | hg212
 replace h := ife_t hg212 h
 obtain ⟨r213, hx214, h⟩ := ob_some h
 refine AW.region (AO.r 2 [.o 1 2] I ⟨I, J⟩ (AO.d (Yd.lenUM 3 I I I I) I (AO.q 2 I (AO.known 47 I hg212 (AO.q 1 I (AO.gt I I I (AO.act [0] I (AX.c0 [0] (L.zdjb_ok b0 _ _ _ hx214) ?_))))))))
 refine AO.q 2 I (AO.nil ?_)
 exact lg ⟨(r213.2.L_, r213.2.At, decide (r213.1 > 0)), h, I, I⟩ [0, 1, 2, 3]
 replace h := ife_f hg212 h
 refine AW.region (AO.r 2 [.o 1 2] I ⟨I, J⟩ (AO.d (Yd.lenUM 3 I I I I) I (AO.q 2 I (AO.known 47 I hg212 (AO.q 4 I (AO.nil ?_))))))
 exact lg ⟨(st161.1, st161.2.1, false), h, I, I⟩ [0, 1, 2, 3]
 rintro s ob ⟨j194, h, rfl, rfl⟩
 unfold L.zsex.J4 at h
 refine AW.ch h I ?_ ?_
 intro hc195 h
 refine AW.skip ?_
 subst hy190
 refine AW.block (AW.seqG (fun y196 hy196 => ?_))
 obtain ⟨r197, hx198, h⟩ := ob_some h
 refine AW.region (AO.q 2 I (AO.act [0] I (AX.c0 [0] (L.ziuk_ok b0 _ _ _ _ hx198) ?_)))
 refine AO.q 2 I (AO.nil ?_)
 subst hy196
 refine AW.seqG (fun y199 hy199 => (AW.zr [.o 2 2] I ⟨I, J⟩ (AW.ch h I ?_ ?_)))
 intro hc200 h
 obtain rfl := hb188 _ (oi h).symm
 replace h := hR187
 refine AW.exit ?_
 exact lg ⟨(r197.2.L_, r197.2.At, st161.2.2.1), v162, h, I, I⟩ [0, 1, 2, 3]
 intro hc200 h
 refine AW.skip ?_
 subst hy199
 obtain ⟨r201, hx202, h⟩ := ob_some h
 obtain ⟨r204, hx205, h⟩ := ob_some h
 obtain ⟨r206, hx207, h⟩ := ob_some h
 obtain ⟨l209, hx210, h⟩ := ob_some h
 refine AW.rd (.still 0 (.still 1 (.still 2 (.still 3 (.still 5 (.still 9 (.still 10 (.two 4 6 (.act 6 (.act 7 (.still 8 (.act 11 (.still 12 (.still 13 (.still 14 (.act 15 (.act 16 (.still 17 (.drop 18 .nil))))))))))) (.act 4 (.act 7 (.still 8 (.act 11 (.still 12 (.still 13 (.still 14 (.act 15 (.act 16 (.still 17 (.drop 18 .nil))))))))))))))))))) [2] [_] I (AP.r 7 [.o 1 0] I ⟨I, J⟩ (AP.two ?_ ?_))
 refine AP.act [0] I I I (AX.c0 [0] (L.ziuk_ok b0 _ _ _ _ hx202) ?_)
 refine AP.act [] I I I (AX.lt 1 (([1, 1, 10] : List Int).map rI) (AP.act [0] I I I (AX.c0 [0] (L.ztqk_ok b0 _ _ _ hx205) ?_)))
 refine AP.q 1 I (AP.act [0] I I I (AX.c0 [0] (L.zdjb_ok b0 _ _ _ hx207) ?_))
 refine AP.q 2 I (AP.p I (Yp.buildP (l := [.V (wr (st161.2.2.2 + r197.1)), .V (wr (r201.1 * r204.1)), .V (wr (r22.1 - (wr (r206.1 * 1000))))]) Tryz.bld104 I) I (AP.act [] I I I (AX.lt 3 (([(⟨wr (st161.2.2.2 + r197.1), wr (r201.1 * r204.1), wr (r22.1 - (wr (r206.1 * 1000)))⟩ : Point)] : List Point).map Point.row) (AP.act [3] I I I (AX.ap 3 I hx210 (fun v211 => (AP.q 1 I (AP.one 3 I (fun v211o => (AP.drop [2] I I I (AX.store 2 0 6 (es' := [[.v (.string r8), .V j6.2.2.1, .V j6.2.2.2, .V r11.1, .V r14.1, .V r17.1, .v v211]]) I I I I I I (cells_v v211o) I (le_ble I) I I (AP.ofAO ?_))))))))))))
 obtain rfl := oi h
 refine AO.nil ?_
 exact ⟨_, _, _, I, ⟨v211, I, I⟩, ⟨I, I, I, I, I, J⟩, [0, 1, 2, 3], I, by decide⟩
 refine AP.act [] I I I (AX.lt 1 (([1, 1, 10] : List Int).map rI) (AP.act [0] I I I (AX.c0 [0] (L.ziuk_ok b0 _ _ _ _ hx202) ?_)))
 refine AP.act [0] I I I (AX.c0 [0] (L.ztqk_ok b0 _ _ _ hx205) ?_)
 refine AP.q 1 I (AP.act [0] I I I (AX.c0 [0] (L.zdjb_ok b0 _ _ _ hx207) ?_))
 refine AP.q 2 I (AP.p I (Yp.buildP (l := [.V (wr (st161.2.2.2 + r197.1)), .V (wr (r201.1 * r204.1)), .V (wr (r22.1 - (wr (r206.1 * 1000))))]) Tryz.bld104 I) I (AP.act [] I I I (AX.lt 3 (([(⟨wr (st161.2.2.2 + r197.1), wr (r201.1 * r204.1), wr (r22.1 - (wr (r206.1 * 1000)))⟩ : Point)] : List Point).map Point.row) (AP.act [3] I I I (AX.ap 3 I hx210 (fun v211 => (AP.q 1 I (AP.one 3 I (fun v211o => (AP.drop [2] I I I (AX.store 2 0 6 (es' := [[.v (.string r8), .V j6.2.2.1, .V j6.2.2.2, .V r11.1, .V r14.1, .V r17.1, .v v211]]) I I I I I I (cells_v v211o) I (le_ble I) I I (AP.ofAO ?_))))))))))))
 obtain rfl := oi h
 refine AO.nil ?_
 exact ⟨_, _, _, I, ⟨v211, I, I⟩, ⟨I, I, I, I, I, J⟩, [0, 1, 2, 3], I, by decide⟩
 intro hc195 h
 obtain rfl := hb188 _ (oi h).symm
 replace h := hR187
 refine AW.exit ?_
 exact lg ⟨(j194.1, j194.2.1, st161.2.2.1), v162, h, I, I⟩ [0, 1, 2, 3]
 rintro s ob ⟨j104, v105, h, rfl, rfl⟩
 unfold L.zsex.J2 at h
 refine AW.seq ?_
 obtain ⟨r106, hx107, h⟩ := ob_some h
 obtain ⟨l109, hx110, h⟩ := ob_some h
 refine AW.rd (.still 0 (.still 1 (.still 2 (.still 3 (.still 4 (.still 6 (.act 5 (.still 7 (.act 8 (.act 9 (.still 10 (.drop 11 .nil)))))))))))) [2] [_] I (AP.r 6 [.o 1 0, .o 3 0] I ⟨I, I, J⟩ (AP.act [0] I I I (AX.c0 [0] (L.ziuk_ok b0 _ _ _ _ hx107) ?_)))
 refine AP.p I (Yp.buildP (l := [.V r11.1, .V r106.1, .V r22.1]) Tryz.bld104 I) I (AP.act [] I I I (AX.lt 3 (([(⟨r11.1, r106.1, r22.1⟩ : Point)] : List Point).map Point.row) (AP.act [3] I I I (AX.ap 3 I hx110 (fun v111 => (AP.q 1 I (AP.one 3 I (fun v111o => (AP.drop [2] I I I (AX.store 2 0 6 (es' := [[.v (.string r8), .V j6.2.2.1, .V j6.2.2.2, .V r11.1, .V r14.1, .V r17.1, .v v111]]) I I I I I I (cells_v v111o) I (le_ble I) I I (AP.ofAO (AO.nil (AW.seq (AW.region (AO.r 1 [.o 0 2] I ⟨I, J⟩ (AO.act [1] I (AX.store 1 0 0 (es' := [[.v (.string r8), .V j6.2.2.1, .V j6.2.2.2, .V r11.1, .V r14.1, .V r17.1, .v v111]]) I I I I I I I I (le_ble I) I I (AO.nil ?_))))))))))))))))))
 refine AW.ghost (Ghost.freeze [3] (K := [.us v111 104 3 (l109.map Point.row)]) I [(87, .list 3 (l109.map Point.row)), (89, .agg [.v (.string r8), .V j6.2.2.1, .V j6.2.2.2, .V r11.1, .V r14.1, .V r17.1, .list 3 (l109.map Point.row)])] ⟨⟨_, I, .us 0 I⟩, ⟨_, I, .agg (.cons (.refl _) (.cons (.refl _) (.cons (.refl _) (.cons (.refl _) (.cons (.refl _) (.cons (.refl _) (.cons (.us 0 I) (.rest _))))))))⟩, J⟩ (ob' := [.arr b0 106 2 1 [KS.row r106.2], .arr b2 77 7 1 [[.v (.string r8), .V j6.2.2.1, .V j6.2.2.2, .V r11.1, .V r14.1, .V r17.1, .list 3 (l109.map Point.row)]], .arr b19 77 7 1 [[.v (.string r8), .V j6.2.2.1, .V j6.2.2.2, .V r11.1, .V r14.1, .V r17.1, .list 3 (l109.map Point.row)]]]) (.cons (.same _) (.cons (.arr (.cons (.refl _) (.cons (.refl _) (.cons (.refl _) (.cons (.refl _) (.cons (.refl _) (.cons (.refl _) (.cons (.us 0 I) (.rest _))))))))) (.cons (.arr (.cons (.refl _) (.cons (.refl _) (.cons (.refl _) (.cons (.refl _) (.cons (.refl _) (.cons (.refl _) (.cons (.us 0 I) (.rest _))))))))) (.rest _))))) (AW.ghost (Ghost.pick [0, 1] (K := [.arr b0 106 2 1 [KS.row r106.2], .arr b2 77 7 1 [[.v (.string r8), .V j6.2.2.1, .V j6.2.2.2, .V r11.1, .V r14.1, .V r17.1, .list 3 (l109.map Point.row)]]]) I (by decide)) ?_)
 obtain rfl := oi h
 exact AW.ret ⟨.inr I, [_], [.arr b0 106 2 1 [KS.row r106.2]], ⟨⟨1, _, _, _, _, _, _, _, I, I, I, I, I⟩, J⟩, sl_c I (sl_n), ⟨[.arr b0 106 2 1 [KS.row r106.2]], [], I, I, I, I, I⟩⟩
end Go.Proofs.YtehbcbedipkifaaGreatDoor
