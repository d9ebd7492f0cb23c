/- Walks that show what functions of the program compute; printed by a program of ours. No condition. -/
import Derived.Test.YtehbcbedipkifaaGreatDoorZxLh2
import Derived.Test.YtehbcbedipkifaaGreatDoorZxLk2
import Derived.Test.YtehbcbedipkifaaGreatDoorZxL4
import Derived.Test.YtehbcbedipkifaaGreatDoorZxLg4
set_option maxRecDepth 100000
namespace Go.Proofs.YtehbcbedipkifaaGreatDoor
open Go.Aw
set_option linter.unusedVariables false
set_option linter.unusedSimpArgs false
set_option maxHeartbeats 4000000
theorem L.zmyz_ok (s_0 : Station) (r : Bool) (h : L.zmyz s_0 = some r) : ACalls Tryz.env 62 [.agg (Station.row s_0)] [] (fun x new => x = .v (.bool r) ∧ new = []) := by
 refine ACalls.of_body Tryz.func62 rfl rfl rfl (fun C hC => ?_)
 unfold L.zmyz at h
 refine AW.seqG (fun y1 hy1 => (AW.region (AO.act [] I (AX.box (cs := Station.row s_0) (m := 5) I I I dS (fun b2 => (AO.q 1 I (AO.nil ?_)))))))
 subst hy1
 refine AW.cutX (fun s ob => ∃ (j13 : Bool), L.zmyz.J1 j13 = some r ∧ s = [(2, .v (.bool j13))] ∧ ob = []) [] J ?_ ?_
 obtain ⟨r14, hx15, h⟩ := ob_some h
 refine AW.region (AO.r 2 [.o 1 0] I ⟨I, J⟩ (AO.c (L.zgmr_ok _ _ hx15) (AO.q 1 I ?_)))
 rcases bt (r14) with hg16 | hg16
 replace h := ife_t hg16 h
 refine AO.known 6 I hg16 (AO.r 5 [.o 1 0] I ⟨I, J⟩ ?_)
 rcases bt (decide (s_0.Node ≥ 0)) with hg17 | hg17
 replace h := ife_t hg17 h
 refine AO.known 11 I hg17 (AO.r 5 [.o 1 0] I ⟨I, J⟩ ?_)
 rcases bt (decide (s_0.Node < 24)) with hg18 | hg18
 replace h := ife_t hg18 h
 refine AO.known 16 I hg18 (AO.r 5 [.o 1 0] I ⟨I, J⟩ ?_)
 rcases bt (decide (s_0.Head ≥ 0)) with hg19 | hg19
 replace h := ife_t hg19 h
 refine AO.known 21 I hg19 (AO.r 5 [.o 1 0] I ⟨I, J⟩ ?_)
 rcases bt (decide (s_0.Head ≤ 100000000)) with hg20 | hg20
 replace h := ife_t hg20 h
 refine AO.known 26 I hg20 (AO.r 5 [.o 1 0] I ⟨I, J⟩ ?_)
 rcases bt (decide (s_0.Fall ≥ 0)) with hg21 | hg21
 replace h := ife_t hg21 h
 refine AO.known 31 I hg21 (AO.r 5 [.o 1 0] I ⟨I, J⟩ ?_)
 rcases bt (decide (s_0.Fall ≤ 100000)) with hg22 | hg22
 replace h := ife_t hg22 h
 refine AO.known 36 I hg22 (AO.r 5 [.o 1 0] I ⟨I, J⟩ ?_)
 rcases bt (decide (s_0.Suction ≥ 0)) with hg23 | hg23
 replace h := ife_t hg23 h
 refine AO.known 41 I hg23 (AO.r 5 [.o 1 0] I ⟨I, J⟩ (AO.nil ?_))
 exact lg ⟨decide (s_0.Suction ≤ 100000000), h, I, I⟩ []
 replace h := ife_f hg23 h
 refine AO.known 41 I hg23 (AO.q 5 I (AO.nil ?_))
 exact lg ⟨false, h, I, I⟩ []
 replace h := ife_f hg22 h
 refine AO.known 36 I hg22 (AO.q 10 I (AO.nil ?_))
 exact lg ⟨false, h, I, I⟩ []
 replace h := ife_f hg21 h
 refine AO.known 31 I hg21 (AO.q 15 I (AO.nil ?_))
 exact lg ⟨false, h, I, I⟩ []
 replace h := ife_f hg20 h
 refine AO.known 26 I hg20 (AO.q 20 I (AO.nil ?_))
 exact lg ⟨false, h, I, I⟩ []
 replace h := ife_f hg19 h
 refine AO.known 21 I hg19 (AO.q 25 I (AO.nil ?_))
 exact lg ⟨false, h, I, I⟩ []
 replace h := ife_f hg18 h
 refine AO.known 16 I hg18 (AO.q 30 I (AO.nil ?_))
 exact lg ⟨false, h, I, I⟩ []
 replace h := ife_f hg17 h
 refine AO.known 11 I hg17 (AO.q 35 I (AO.nil ?_))
 exact lg ⟨false, h, I, I⟩ []
 replace h := ife_f hg16 h
 refine AO.known 6 I hg16 (AO.q 40 I (AO.nil ?_))
 exact lg ⟨false, h, I, I⟩ []
 rintro s ob ⟨j13, h, rfl, rfl⟩
 unfold L.zmyz.J1 at h
 obtain rfl := oi h
 exact AW.ret pr
theorem L.zqzf_ok (s_0 : Station) (rate_1 : Int) (r : Int × Int) (h : L.zqzf s_0 rate_1 = some r) : ACalls Tryz.env 25 [.agg (Station.row s_0), .V rate_1] [] (fun x new => x = .tup [.V r.1, .V r.2] ∧ new = []) := by
 refine ACalls.of_body Tryz.func25 rfl rfl rfl (fun C hC => ?_)
 unfold L.zqzf at h
 refine AW.seqG (fun y1 hy1 => (AW.region (AO.act [] I (AX.box (cs := Station.row s_0) (m := 5) I I I dS (fun b2 => (AO.q 2 I (AO.nil ?_)))))))
 subst hy1
 refine AW.seqG (fun y3 hy3 => (AW.seq ?_))
 obtain ⟨r4, hx5, h⟩ := ob_some h
 refine AW.region (AO.r 1 [.o 0 0] I ⟨I, J⟩ (AO.c (L.zmyz_ok _ _ hx5) (AO.q 1 I (AO.nil (AW.ch h I ?_ ?_)))))
 intro hc6 h
 refine AW.z I (AW.ghost g0 ?_)
 obtain rfl := oi h
 exact AW.ret ⟨.inr I, [_, _], [], ⟨I, I, J⟩, sl_n, I, I⟩
 intro hc6 h
 refine AW.skip ?_
 subst hy3
 refine AW.seqG (fun y7 hy7 => (AW.cutX (fun s ob => s = [(14, .v (.bool (decide (rate_1 < 0) || decide (rate_1 > 32000))))] ∧ ob = [.arr b2 83 5 1 [Station.row s_0]]) [(1, _), (2, _)] ⟨I, I, J⟩ ?_ ?_))
 refine AW.region (AO.q 3 I ?_)
 rcases bt (decide (rate_1 < 0)) with hg10 | hg10
 refine AO.known 11 I hg10 (AO.q 3 I (AO.nil ?_))
 exact lf ⟨I, I⟩ ⟨(get_b (by simp only [hg10, bz])), I, I, J⟩ [0] I
 refine AO.known 11 I hg10 (AO.q 3 I (AO.nil ?_))
 exact lf ⟨I, I⟩ ⟨(get_b (by simp only [hg10, bz])), I, I, J⟩ [0] I
 rintro s ob ⟨rfl, rfl⟩
 refine AW.ch h I ?_ ?_
 intro hc11 h
 refine AW.z I (AW.ghost g0 ?_)
 obtain rfl := oi h
 exact AW.ret ⟨.inr I, [_, _], [], ⟨I, I, J⟩, sl_n, I, I⟩
 intro hc11 h
 refine AW.skip ?_
 subst hy7
 refine AW.zr [.o 1 0, .o 3 0, .f 8 (.V (wr ((wr ((wr (s_0.Fall * rate_1)) * rate_1)).tdiv 1000)))] I ⟨Yp.yd (Yp.binI (c := wr ((wr ((wr (s_0.Fall * rate_1)) * rate_1)).tdiv 1000)) I I ⟨by decide, I⟩), I, I, J⟩ (AW.ghost g0 ?_)
 obtain rfl := oi h
 exact AW.ret ⟨.inr I, [_, _], [], ⟨I, I, J⟩, sl_n, I, I⟩
theorem L.zrdf_ok (s_0 : Station) (b_1 : Bounds) (rate_2 : Int) (r : Bounds × Int) (h : L.zrdf s_0 b_1 rate_2 = some r) : ACalls Tryz.env 33 [.agg (Station.row s_0), .agg (Bounds.row b_1), .V rate_2] [] (fun x new => x = .tup [.agg (Bounds.row r.1), .V r.2] ∧ new = []) := by
 refine ACalls.of_body Tryz.func33 rfl rfl rfl (fun C hC => ?_)
 unfold L.zrdf at h
 refine AW.seqG (fun y1 hy1 => (AW.region (AO.act [] I (AX.box (cs := Station.row s_0) (m := 5) I I I dS (fun b2 => (AO.act [] I (AX.box (cs := Bounds.row b_1) (m := 2) I I I dS (fun b3 => (AO.act [] I (AX.alloc (cs := [.V 0, .V 0]) (m := 2) I I I I I dS (fun b4 => (AO.q 1 I (AO.nil ?_)))))))))))))
 subst hy1
 refine AW.seqG (fun y5 hy5 => ?_)
 obtain ⟨r6, hx7, h⟩ := ob_some h
 refine AW.region (AO.r 2 [.o 0 0] I ⟨I, J⟩ (AO.c (L.zqzf_ok _ _ _ hx7) (AO.q 5 I (AO.nil ?_))))
 subst hy5
 refine AW.seqG (fun y8 hy8 => (AW.z I (AW.ch h I ?_ ?_)))
 intro hc9 h
 refine AW.seq (AW.region (AO.p (Yp.buildP (l := [.V 0, .V 0]) Tryz.bld71 I) I (AO.q 1 I (AO.act [2] I (AX.store 2 0 0 (es' := [[.V 0, .V 0]]) I I I I I I I I (le_ble I) I I (AO.q 1 I (AO.nil (AW.ghost (Ghost.pick [2] (K := [.arr b4 71 2 1 [[.V 0, .V 0]]]) I (by decide)) ?_))))))))
 obtain rfl := oi h
 exact AW.ret ⟨.inr I, [_, _], [], ⟨⟨0, _, _, _, _, _, _, _, I, I, I, I, I⟩, I, J⟩, sl_n, I, I⟩
 intro hc9 h
 refine AW.skip ?_
 subst hy8
 refine AW.seqG (fun y10 hy10 => (AW.seq (AW.region (AO.r 1 [.o 0 1] I ⟨I, J⟩ (AO.c (L.znpg_ok b_1 _ I) (AO.q 1 I (AO.nil (AW.ch h I ?_ ?_))))))))
 intro hc11 h
 refine AW.seq (AW.region (AO.p (Yp.buildP (l := [.V 0, .V 0]) Tryz.bld71 I) I (AO.act [2] I (AX.store 2 0 0 (es' := [[.V 0, .V 0]]) I I I I I I I I (le_ble I) I I (AO.q 1 I (AO.nil (AW.ghost (Ghost.pick [2] (K := [.arr b4 71 2 1 [[.V 0, .V 0]]]) I (by decide)) ?_)))))))
 obtain rfl := oi h
 exact AW.ret ⟨.inr I, [_, _], [], ⟨⟨0, _, _, _, _, _, _, _, I, I, I, I, I⟩, I, J⟩, sl_n, I, I⟩
 intro hc11 h
 refine AW.skip ?_
 subst hy10
 refine AW.seq (AW.region (AO.r 8 [.o 1 1, .o 5 1] I ⟨I, I, J⟩ (AO.p (Yp.buildP (l := [.V (wr (b_1.Low + r6.1)), .V (wr (b_1.High + r6.1))]) Tryz.bld71 I) I (AO.act [2] I (AX.store 2 0 0 (es' := [[.V (wr (b_1.Low + r6.1)), .V (wr (b_1.High + r6.1))]]) I I I I I I I I (le_ble I) I I (AO.q 1 I (AO.nil (AW.ghost (Ghost.pick [2] (K := [.arr b4 71 2 1 [[.V (wr (b_1.Low + r6.1)), .V (wr (b_1.High + r6.1))]]]) I (by decide)) ?_))))))))
 obtain rfl := oi h
 exact AW.ret ⟨.inr I, [_, _], [], ⟨⟨0, _, _, _, _, _, _, _, I, I, I, I, I⟩, I, J⟩, sl_n, I, I⟩
theorem L.zlrb_ok (a_0 : List Level) (b_1 : List Level) (r : Bool) (h : L.zlrb a_0 b_1 = some r) : ACalls Tryz.env 35 [.list 3 (a_0.map Level.row), .list 3 (b_1.map Level.row)] [] (fun x new => x = .v (.bool r) ∧ new = []) := by
 refine ACalls.of_body Tryz.func35 rfl rfl rfl (fun C hC => ?_)
 unfold L.zlrb at h
 refine AW.z I (AW.seqG (fun y2 hy2 => (AW.zr [.l 1 (a_0.length : Int), .l 3 (b_1.length : Int)] I ⟨len_m, len_m, J⟩ (AW.ch h I ?_ ?_))))
 intro hc3 h
 refine AW.z I ?_
 obtain rfl := oi h
 exact AW.ret pr
 intro hc3 h
 refine AW.skip ?_
 subst hy2
 refine AW.cutX (fun s ob => ∃ (j26 : Unit), L.zlrb.J1 j26 = some r ∧ s = [] ∧ ob = []) [] J ?_ ?_
 refine AW.zr [.l 1 (a_0.length : Int)] I ⟨len_m, J⟩ (AW.block (AW.listMax 11 I (fun hm30 => ?_)))
 replace hm30 : a_0.length ≤ 9223372036854775806 := by rw [List.length_map] at hm30; omega
 obtain ⟨o47, hL48, hR49⟩ := ob_some h
 clear h
 refine AW.forX hL48 [(0, _), (1, _), (12, _)] ⟨I, I, I, J⟩ (fun (k28 : Nat) (st40 : Unit) s ob => s = [(13, .V (k28 : Int))] ∧ ob = []) ⟨I, I⟩ ⟨I, J⟩ ⟨[], I, by decide⟩ ?_ ?_
 rintro k28 x31 st40 r51 s ob hx32 hk29 ⟨rfl, rfl⟩ h hb50
 unfold L.zlrb.B2 at h
 have hk29t : decide ((k28 : Int) < (a_0.length : Int)) = true := decide_eq_true (by omega)
 refine AW.z I (AW.seqG (fun y53 hy53 => (AW.condK (v := true) I hk29t (AW.skip ?_))))
 subst hy53
 refine AW.seq (AW.block (AW.z I (AW.seq ?_)))
 obtain ⟨p55, hp56, h⟩ := ob_some h
 obtain ⟨hp56i, hp56x⟩ := ix_some hp56
 refine AW.rd (pd 9 0 []) [] [] I (AP.r 8 [.x 2 k28 (Level.row x31), .x 6 p55.1 (Level.row p55.2)] I ⟨⟨hp56i, map_get hp56x⟩, ⟨I, map_get hx32⟩, J⟩ (AP.op I (Yp.eqStruct2 (r := ((x31.At == p55.2.At) && (((x31.Bounds.Low == p55.2.Bounds.Low) && ((x31.Bounds.High == p55.2.Bounds.High) && true)) && true))) (Nat.beq 71) (fun _ h => Nat.eq_of_beq_eq_true h ▸ Tryz.eq71) I I Tryz.eq81 I I I I) I (AP.ofAO (AO.nil (AW.ch h I ?_ ?_)))))
 intro hc57 h
 refine AW.z I ?_
 obtain rfl := hb50 _ (oi h).symm
 replace h := hR49
 replace h := se_r h
 obtain rfl := oi h
 exact AW.ret pr
 intro hc57 h
 refine AW.skip (AW.region (AO.r 2 [.k 0 (k28 + 1 : Nat)] I ⟨cast_wr hk29 hm30, J⟩ ?_))
 obtain rfl := oi h
 refine AO.nil ?_
 exact ⟨_, _, _, I, ⟨I, I⟩, ⟨I, I, I, I, J⟩, [], I, by decide⟩
 rintro st40 s ob ⟨rfl, rfl⟩ he
 subst he
 have h := se_l hR49
 have hk29f : decide (((a_0.length : Nat) : Int) < (a_0.length : Int)) = false := by simp
 refine AW.z I (AW.seqG (fun y59 hy59 => (AW.condK (v := false) I hk29f (AW.exit ?_))))
 exact lg ⟨(), h, I, I⟩ []
 rintro s ob ⟨j26, h, rfl, rfl⟩
 unfold L.zlrb.J1 at h
 refine AW.z I ?_
 obtain rfl := oi h
 exact AW.ret pr
theorem L.zocg_ok (l_0 : List Int) (rate_1 : Int) (pump_2 : Bool) (r : Bool) (h : L.zocg l_0 rate_1 pump_2 = some r) : ACalls Tryz.env 8 [.list 1 (l_0.map rI), .v (.int .u8 rate_1), .v (.bool pump_2)] [] (fun x new => x = .v (.bool r) ∧ new = []) := by
 refine ACalls.of_body Tryz.func8 rfl rfl rfl (fun C hC => ?_)
 unfold L.zocg at h
 refine AW.z I (AW.left (s' := [(0, .list 1 (l_0.map rI)), (1, .v (.int .u8 rate_1)), (2, .v (.bool pump_2))]) (ob' := []) ⟨⟨I, I, I, J⟩, [], I, by decide⟩ (AW.seqG (fun y2 hy2 => ?_)))
 obtain ⟨r3, hx4, h⟩ := ob_some h
 refine AW.region (AO.q 1 I (AO.act [] I (AX.call0 I I I (L.ziti_ok _ _ hx4) dS ?_)))
 rintro _ _ ⟨b5, rfl, rfl⟩
 refine AO.q 1 I (AO.nil ?_)
 subst hy2
 refine AW.left (s' := [(1, .v (.int .u8 rate_1)), (2, .v (.bool pump_2)), (7, .v (.pointer (some ⟨b5, 0, none⟩)))]) (ob' := [.arr b5 106 2 1 [KS.row r3]]) ⟨⟨I, I, I, J⟩, [0], I, by decide⟩ (AW.seqG (fun y6 hy6 => (AW.region (AO.act [] I (AX.call0 I I I (L.zqwn_ok) dS ?_)))))
 rintro _ _ ⟨v7, v8, v9, v10, v11, v12, v13, v14, rfl, rfl⟩
 refine AO.q 3 I (AO.act [] I (AX.alloc (cs := [.v (.slice none 0 0), .v (.slice none 0 0), .v (.slice none 0 0), .v (.slice none 0 0), .V 0, .V 0]) (m := 6) I I I I I dS (fun b15 => (AO.act [] I (AX.alloc (cs := [.v (.slice none 0 0), .v (.slice none 0 0), .v (.slice none 0 0)]) (m := 3) I I I I I dS (fun b16 => (AO.act [9] I (AX.store 9 0 0 (es' := [[.v v7, .v v8, .v v10, .v v11, .V 50000, .V 10]]) I I I I I I I I (le_ble I) I I (AO.act [10] I (AX.store 10 0 0 (es' := [[.v v12, .v v13, .v v14]]) I I I I I I I I (le_ble I) I I (AO.nil ?_)))))))))))
 subst hy6
 refine AW.left (s' := [(1, .v (.int .u8 rate_1)), (2, .v (.bool pump_2)), (7, .v (.pointer (some ⟨b5, 0, none⟩))), (8, .v (.pointer (some ⟨b15, 0, none⟩)))]) (ob' := [.arr b5 106 2 1 [KS.row r3], .us v7 9 1 (([(⟨#[97]⟩ : ByteArray), (⟨#[98]⟩ : ByteArray)] : List ByteArray).map rS), .us v8 77 7 [[.v (.string (⟨#[115]⟩ : ByteArray)), .V 0, .V 1, .V 100, .V 1, .V 50, .v v9]], .us v9 104 3 (([(⟨0, 0, 900000⟩ : Point), (⟨100, 20, 900000⟩ : Point)] : List Point).map Point.row), .us v10 74 3 (([(⟨(⟨#[105, 110]⟩ : ByteArray), 0, 300000⟩ : Port), (⟨(⟨#[111, 117, 116]⟩ : ByteArray), 1, 0⟩ : Port)] : List Port).map Port.row), .us v11 83 5 (([(⟨(⟨#[112]⟩ : ByteArray), 0, 500000, 200, 100000⟩ : Station)] : List Station).map Station.row), .us v12 3 1 (([20] : List Int).map rI), .us v13 3 1 (([20, (-20)] : List Int).map rI), .us v14 4 1 (([true] : List Bool).map rB), .arr b15 27 6 1 [[.v v7, .v v8, .v v10, .v v11, .V 50000, .V 10]], .arr b16 32 3 1 [[.v v12, .v v13, .v v14]]]) ⟨⟨I, I, I, I, J⟩, [0, 1, 2, 3, 4, 5, 6, 7, 8, 9, 10], I, by decide⟩ (AW.seqG (fun y17 hy17 => ?_))
 obtain ⟨r18, hx19, h⟩ := ob_some h
 refine AW.region (AO.q 1 I (AO.act [0] I (AX.c0 [0] (L.zsex_ok b5 _ _ _ _ _ hx19) ?_)))
 refine AO.act [] I (AX.alloc (cs := [.v (.string ⟨#[]⟩), .V 0, .V 0, .V 0, .V 0, .V 0, .v (.slice none 0 0)]) (m := 7) I I I I I dS (fun b20 => (AO.act [11] I (AX.store 11 0 0 (es' := [Segment.row r18.1]) I I I I I I I I (le_ble I) I I (AO.nil ?_)))))
 subst hy17
 refine AW.left (s' := [(1, .v (.int .u8 rate_1)), (2, .v (.bool pump_2)), (7, .v (.pointer (some ⟨b5, 0, none⟩))), (8, .v (.pointer (some ⟨b15, 0, none⟩))), (10, .v (.pointer (some ⟨b20, 0, none⟩)))]) (ob' := [.arr b5 106 2 1 [KS.row r18.2], .us v7 9 1 (([(⟨#[97]⟩ : ByteArray), (⟨#[98]⟩ : ByteArray)] : List ByteArray).map rS), .us v8 77 7 [[.v (.string (⟨#[115]⟩ : ByteArray)), .V 0, .V 1, .V 100, .V 1, .V 50, .v v9]], .us v9 104 3 (([(⟨0, 0, 900000⟩ : Point), (⟨100, 20, 900000⟩ : Point)] : List Point).map Point.row), .us v10 74 3 (([(⟨(⟨#[105, 110]⟩ : ByteArray), 0, 300000⟩ : Port), (⟨(⟨#[111, 117, 116]⟩ : ByteArray), 1, 0⟩ : Port)] : List Port).map Port.row), .us v11 83 5 (([(⟨(⟨#[112]⟩ : ByteArray), 0, 500000, 200, 100000⟩ : Station)] : List Station).map Station.row), .us v12 3 1 (([20] : List Int).map rI), .us v13 3 1 (([20, (-20)] : List Int).map rI), .us v14 4 1 (([true] : List Bool).map rB), .arr b15 27 6 1 [[.v v7, .v v8, .v v10, .v v11, .V 50000, .V 10]], .arr b16 32 3 1 [[.v v12, .v v13, .v v14]], .arr b20 77 7 1 [Segment.row r18.1]]) ⟨⟨I, I, I, I, I, J⟩, [0, 1, 2, 3, 4, 5, 6, 7, 8, 9, 10, 11], I, by decide⟩ (AW.seqG (fun y21 hy21 => (AW.region (AO.q 1 I (AO.act [11] I (AX.store 11 0 1 (es' := [[.v (.string r18.1.Name), .V 0, .V r18.1.To, .V r18.1.Capacity, .V r18.1.Resist, .V r18.1.Wave, .list 3 (r18.1.Points.map Point.row)]]) I I I I I I I I (le_ble I) I I ?_))))))
 refine AO.q 1 I (AO.act [11] I (AX.store 11 0 2 (es' := [[.v (.string r18.1.Name), .V 0, .V 1, .V r18.1.Capacity, .V r18.1.Resist, .V r18.1.Wave, .list 3 (r18.1.Points.map Point.row)]]) I I I I I I I I (le_ble I) I I (AO.nil ?_)))
 subst hy21
 refine AW.left (s' := [(1, .v (.int .u8 rate_1)), (2, .v (.bool pump_2)), (7, .v (.pointer (some ⟨b5, 0, none⟩))), (8, .v (.pointer (some ⟨b15, 0, none⟩))), (10, .v (.pointer (some ⟨b20, 0, none⟩)))]) (ob' := [.arr b5 106 2 1 [KS.row r18.2], .us v7 9 1 (([(⟨#[97]⟩ : ByteArray), (⟨#[98]⟩ : ByteArray)] : List ByteArray).map rS), .us v8 77 7 [[.v (.string (⟨#[115]⟩ : ByteArray)), .V 0, .V 1, .V 100, .V 1, .V 50, .v v9]], .us v9 104 3 (([(⟨0, 0, 900000⟩ : Point), (⟨100, 20, 900000⟩ : Point)] : List Point).map Point.row), .us v10 74 3 (([(⟨(⟨#[105, 110]⟩ : ByteArray), 0, 300000⟩ : Port), (⟨(⟨#[111, 117, 116]⟩ : ByteArray), 1, 0⟩ : Port)] : List Port).map Port.row), .us v11 83 5 (([(⟨(⟨#[112]⟩ : ByteArray), 0, 500000, 200, 100000⟩ : Station)] : List Station).map Station.row), .us v12 3 1 (([20] : List Int).map rI), .us v13 3 1 (([20, (-20)] : List Int).map rI), .us v14 4 1 (([true] : List Bool).map rB), .arr b15 27 6 1 [[.v v7, .v v8, .v v10, .v v11, .V 50000, .V 10]], .arr b16 32 3 1 [[.v v12, .v v13, .v v14]], .arr b20 77 7 1 [[.v (.string r18.1.Name), .V 0, .V 1, .V r18.1.Capacity, .V r18.1.Resist, .V r18.1.Wave, .list 3 (r18.1.Points.map Point.row)]]]) ⟨⟨I, I, I, I, I, J⟩, [0, 1, 2, 3, 4, 5, 6, 7, 8, 9, 10, 11], I, by decide⟩ (AW.seqG (fun y22 hy22 => (AW.region (AO.r 1 [.o 0 11] I ⟨I, J⟩ (AO.act [] I (AX.buildSlice (sz := 7) (es := ([(⟨r18.1.Name, 0, 1, r18.1.Capacity, r18.1.Resist, r18.1.Wave, r18.1.Points⟩ : Segment)] : List Segment).map Segment.row) I I I I I I I I I I I dS (fun v23 => ?_)))))))
 refine AO.q 1 I (AO.one 12 I (fun v23o => (AO.act [9] I (AX.store 9 0 1 (es' := [[.v v7, .v v23, .v v10, .v v11, .V 50000, .V 10]]) I I I I I I (cells_v v23o) I (le_ble I) I I (AO.nil ?_)))))
 subst hy22
 refine AW.left (s' := [(1, .v (.int .u8 rate_1)), (2, .v (.bool pump_2)), (7, .v (.pointer (some ⟨b5, 0, none⟩))), (8, .v (.pointer (some ⟨b15, 0, none⟩))), (10, .v (.pointer (some ⟨b20, 0, none⟩)))]) (ob' := [.arr b5 106 2 1 [KS.row r18.2], .us v7 9 1 (([(⟨#[97]⟩ : ByteArray), (⟨#[98]⟩ : ByteArray)] : List ByteArray).map rS), .us v8 77 7 [[.v (.string (⟨#[115]⟩ : ByteArray)), .V 0, .V 1, .V 100, .V 1, .V 50, .v v9]], .us v9 104 3 (([(⟨0, 0, 900000⟩ : Point), (⟨100, 20, 900000⟩ : Point)] : List Point).map Point.row), .us v10 74 3 (([(⟨(⟨#[105, 110]⟩ : ByteArray), 0, 300000⟩ : Port), (⟨(⟨#[111, 117, 116]⟩ : ByteArray), 1, 0⟩ : Port)] : List Port).map Port.row), .us v11 83 5 (([(⟨(⟨#[112]⟩ : ByteArray), 0, 500000, 200, 100000⟩ : Station)] : List Station).map Station.row), .us v12 3 1 (([20] : List Int).map rI), .us v13 3 1 (([20, (-20)] : List Int).map rI), .us v14 4 1 (([true] : List Bool).map rB), .arr b15 27 6 1 [[.v v7, .v v23, .v v10, .v v11, .V 50000, .V 10]], .arr b16 32 3 1 [[.v v12, .v v13, .v v14]], .arr b20 77 7 1 [[.v (.string r18.1.Name), .V 0, .V 1, .V r18.1.Capacity, .V r18.1.Resist, .V r18.1.Wave, .list 3 (r18.1.Points.map Point.row)]], .us v23 77 7 (([(⟨r18.1.Name, 0, 1, r18.1.Capacity, r18.1.Resist, r18.1.Wave, r18.1.Points⟩ : Segment)] : List Segment).map Segment.row)]) ⟨⟨I, I, I, I, I, J⟩, [0, 1, 2, 3, 4, 5, 6, 7, 8, 9, 10, 11, 12], I, by decide⟩ ?_
 refine AW.seqG (fun y24 hy24 => ?_)
 obtain ⟨r25, hx26, h⟩ := ob_some h
 refine AW.region (AO.q 1 I (AO.act [0] I (AX.cg [0] (L.zexx_ok b5 _ _ hx26) ?_)))
 rintro _ _ _ - ⟨v27, rfl, rfl, rfl⟩
 refine AO.q 1 I (AO.nil ?_)
 subst hy24
 refine AW.left (s' := [(1, .v (.int .u8 rate_1)), (2, .v (.bool pump_2)), (7, .v (.pointer (some ⟨b5, 0, none⟩))), (8, .v (.pointer (some ⟨b15, 0, none⟩))), (10, .v (.pointer (some ⟨b20, 0, none⟩))), (11, .v v27)]) (ob' := [.arr b5 106 2 1 [KS.row r25.2], .us v7 9 1 (([(⟨#[97]⟩ : ByteArray), (⟨#[98]⟩ : ByteArray)] : List ByteArray).map rS), .us v8 77 7 [[.v (.string (⟨#[115]⟩ : ByteArray)), .V 0, .V 1, .V 100, .V 1, .V 50, .v v9]], .us v9 104 3 (([(⟨0, 0, 900000⟩ : Point), (⟨100, 20, 900000⟩ : Point)] : List Point).map Point.row), .us v10 74 3 (([(⟨(⟨#[105, 110]⟩ : ByteArray), 0, 300000⟩ : Port), (⟨(⟨#[111, 117, 116]⟩ : ByteArray), 1, 0⟩ : Port)] : List Port).map Port.row), .us v11 83 5 (([(⟨(⟨#[112]⟩ : ByteArray), 0, 500000, 200, 100000⟩ : Station)] : List Station).map Station.row), .us v12 3 1 (([20] : List Int).map rI), .us v13 3 1 (([20, (-20)] : List Int).map rI), .us v14 4 1 (([true] : List Bool).map rB), .arr b15 27 6 1 [[.v v7, .v v23, .v v10, .v v11, .V 50000, .V 10]], .arr b16 32 3 1 [[.v v12, .v v13, .v v14]], .arr b20 77 7 1 [[.v (.string r18.1.Name), .V 0, .V 1, .V r18.1.Capacity, .V r18.1.Resist, .V r18.1.Wave, .list 3 (r18.1.Points.map Point.row)]], .us v23 77 7 (([(⟨r18.1.Name, 0, 1, r18.1.Capacity, r18.1.Resist, r18.1.Wave, r18.1.Points⟩ : Segment)] : List Segment).map Segment.row), .us v27 46 5 (r25.1.map Product.row)]) ⟨⟨I, I, I, I, I, I, J⟩, [0, 1, 2, 3, 4, 5, 6, 7, 8, 9, 10, 11, 12, 13], I, by decide⟩ ?_
 refine AW.seqG (fun y28 hy28 => ?_)
 obtain ⟨r29, hx30, h⟩ := ob_some h
 refine AW.region (AO.q 2 I (AO.d (Yd.lenUM 13 I I I I) I (AO.act [0] I (AX.cg [0] (L.ziyq_ok b5 _ _ _ _ hx30) ?_))))
 rintro _ _ _ - ⟨v31, rfl, rfl, rfl⟩
 refine AO.q 1 I (AO.nil ?_)
 subst hy28
 refine AW.left (s' := [(1, .v (.int .u8 rate_1)), (2, .v (.bool pump_2)), (7, .v (.pointer (some ⟨b5, 0, none⟩))), (8, .v (.pointer (some ⟨b15, 0, none⟩))), (10, .v (.pointer (some ⟨b20, 0, none⟩))), (11, .v v27), (12, .v v31)]) (ob' := [.arr b5 106 2 1 [KS.row r29.2], .us v7 9 1 (([(⟨#[97]⟩ : ByteArray), (⟨#[98]⟩ : ByteArray)] : List ByteArray).map rS), .us v8 77 7 [[.v (.string (⟨#[115]⟩ : ByteArray)), .V 0, .V 1, .V 100, .V 1, .V 50, .v v9]], .us v9 104 3 (([(⟨0, 0, 900000⟩ : Point), (⟨100, 20, 900000⟩ : Point)] : List Point).map Point.row), .us v10 74 3 (([(⟨(⟨#[105, 110]⟩ : ByteArray), 0, 300000⟩ : Port), (⟨(⟨#[111, 117, 116]⟩ : ByteArray), 1, 0⟩ : Port)] : List Port).map Port.row), .us v11 83 5 (([(⟨(⟨#[112]⟩ : ByteArray), 0, 500000, 200, 100000⟩ : Station)] : List Station).map Station.row), .us v12 3 1 (([20] : List Int).map rI), .us v13 3 1 (([20, (-20)] : List Int).map rI), .us v14 4 1 (([true] : List Bool).map rB), .arr b15 27 6 1 [[.v v7, .v v23, .v v10, .v v11, .V 50000, .V 10]], .arr b16 32 3 1 [[.v v12, .v v13, .v v14]], .arr b20 77 7 1 [[.v (.string r18.1.Name), .V 0, .V 1, .V r18.1.Capacity, .V r18.1.Resist, .V r18.1.Wave, .list 3 (r18.1.Points.map Point.row)]], .us v23 77 7 (([(⟨r18.1.Name, 0, 1, r18.1.Capacity, r18.1.Resist, r18.1.Wave, r18.1.Points⟩ : Segment)] : List Segment).map Segment.row), .us v27 46 5 (r25.1.map Product.row), .us v31 135 4 (r29.1.map Batch.row)]) ⟨⟨I, I, I, I, I, I, I, J⟩, [0, 1, 2, 3, 4, 5, 6, 7, 8, 9, 10, 11, 12, 13, 14], I, by decide⟩ ?_
 refine AW.seqG (fun y32 hy32 => ?_)
 obtain ⟨r33, hx34, h⟩ := ob_some h
 refine AW.region (AO.r 3 [.o 2 11] I ⟨I, J⟩ (AO.act [0] I (AX.cg [0] (L.zdti_ok b5 _ _ _ _ hx34) ?_)))
 rintro _ _ _ - ⟨v35, rfl, rfl, rfl⟩
 refine AO.ghost (Ghost.freeze [15] (K := [.us v35 102 2 (r33.1.map Piece.row)]) I [(43, .list 2 (r33.1.map Piece.row))] ⟨⟨_, I, .us 0 I⟩, J⟩ (ob' := [.arr b5 106 2 1 [KS.row r33.2], .us v7 9 1 (([(⟨#[97]⟩ : ByteArray), (⟨#[98]⟩ : ByteArray)] : List ByteArray).map rS), .us v8 77 7 [[.v (.string (⟨#[115]⟩ : ByteArray)), .V 0, .V 1, .V 100, .V 1, .V 50, .v v9]], .us v9 104 3 (([(⟨0, 0, 900000⟩ : Point), (⟨100, 20, 900000⟩ : Point)] : List Point).map Point.row), .us v10 74 3 (([(⟨(⟨#[105, 110]⟩ : ByteArray), 0, 300000⟩ : Port), (⟨(⟨#[111, 117, 116]⟩ : ByteArray), 1, 0⟩ : Port)] : List Port).map Port.row), .us v11 83 5 (([(⟨(⟨#[112]⟩ : ByteArray), 0, 500000, 200, 100000⟩ : Station)] : List Station).map Station.row), .us v12 3 1 (([20] : List Int).map rI), .us v13 3 1 (([20, (-20)] : List Int).map rI), .us v14 4 1 (([true] : List Bool).map rB), .arr b15 27 6 1 [[.v v7, .v v23, .v v10, .v v11, .V 50000, .V 10]], .arr b16 32 3 1 [[.v v12, .v v13, .v v14]], .arr b20 77 7 1 [[.v (.string r18.1.Name), .V 0, .V 1, .V r18.1.Capacity, .V r18.1.Resist, .V r18.1.Wave, .list 3 (r18.1.Points.map Point.row)]], .us v23 77 7 (([(⟨r18.1.Name, 0, 1, r18.1.Capacity, r18.1.Resist, r18.1.Wave, r18.1.Points⟩ : Segment)] : List Segment).map Segment.row), .us v27 46 5 (r25.1.map Product.row), .us v31 135 4 (r29.1.map Batch.row)]) (.rest _)) ?_
 refine AO.act [] I (AX.buildSlice (sz := 1) (es := ([r33.1] : List (List Piece)).map (rL 2 Piece.row)) I I I I I I I I I I I dS (fun v36 => (AO.q 1 I (AO.nil ?_))))
 subst hy32
 refine AW.left (s' := [(1, .v (.int .u8 rate_1)), (2, .v (.bool pump_2)), (8, .v (.pointer (some ⟨b15, 0, none⟩))), (10, .v (.pointer (some ⟨b20, 0, none⟩))), (11, .v v27), (12, .v v31), (13, .v v36)]) (ob' := [.arr b5 106 2 1 [KS.row r33.2], .us v7 9 1 (([(⟨#[97]⟩ : ByteArray), (⟨#[98]⟩ : ByteArray)] : List ByteArray).map rS), .us v8 77 7 [[.v (.string (⟨#[115]⟩ : ByteArray)), .V 0, .V 1, .V 100, .V 1, .V 50, .v v9]], .us v9 104 3 (([(⟨0, 0, 900000⟩ : Point), (⟨100, 20, 900000⟩ : Point)] : List Point).map Point.row), .us v10 74 3 (([(⟨(⟨#[105, 110]⟩ : ByteArray), 0, 300000⟩ : Port), (⟨(⟨#[111, 117, 116]⟩ : ByteArray), 1, 0⟩ : Port)] : List Port).map Port.row), .us v11 83 5 (([(⟨(⟨#[112]⟩ : ByteArray), 0, 500000, 200, 100000⟩ : Station)] : List Station).map Station.row), .us v12 3 1 (([20] : List Int).map rI), .us v13 3 1 (([20, (-20)] : List Int).map rI), .us v14 4 1 (([true] : List Bool).map rB), .arr b15 27 6 1 [[.v v7, .v v23, .v v10, .v v11, .V 50000, .V 10]], .arr b16 32 3 1 [[.v v12, .v v13, .v v14]], .arr b20 77 7 1 [[.v (.string r18.1.Name), .V 0, .V 1, .V r18.1.Capacity, .V r18.1.Resist, .V r18.1.Wave, .list 3 (r18.1.Points.map Point.row)]], .us v23 77 7 (([(⟨r18.1.Name, 0, 1, r18.1.Capacity, r18.1.Resist, r18.1.Wave, r18.1.Points⟩ : Segment)] : List Segment).map Segment.row), .us v27 46 5 (r25.1.map Product.row), .us v31 135 4 (r29.1.map Batch.row), .us v36 48 1 (([r33.1] : List (List Piece)).map (rL 2 Piece.row))]) ⟨⟨I, I, I, I, I, I, I, J⟩, [0, 1, 2, 3, 4, 5, 6, 7, 8, 9, 10, 11, 12, 13, 14, 15], I, by decide⟩ ?_
 refine AW.seqG (fun y37 hy37 => ?_)
 obtain ⟨x38, hx39, h⟩ := ob_some h
 refine AW.region (AO.q 1 I (AO.p (Yp.convI (c := wr (rate_1)) I I I I I) I (AO.r 6 [.o 1 11, .f 3 (.V x38)] I ⟨Yp.yd (Yp.binI (c := x38) I I (rem_some hx39)), I, J⟩ (AO.nil ?_))))
 subst hy37
 refine AW.left (s' := [(2, .v (.bool pump_2)), (8, .v (.pointer (some ⟨b15, 0, none⟩))), (10, .v (.pointer (some ⟨b20, 0, none⟩))), (11, .v v27), (12, .v v31), (13, .v v36), (14, .V (wr (1 + x38)))]) (ob' := [.arr b5 106 2 1 [KS.row r33.2], .us v7 9 1 (([(⟨#[97]⟩ : ByteArray), (⟨#[98]⟩ : ByteArray)] : List ByteArray).map rS), .us v8 77 7 [[.v (.string (⟨#[115]⟩ : ByteArray)), .V 0, .V 1, .V 100, .V 1, .V 50, .v v9]], .us v9 104 3 (([(⟨0, 0, 900000⟩ : Point), (⟨100, 20, 900000⟩ : Point)] : List Point).map Point.row), .us v10 74 3 (([(⟨(⟨#[105, 110]⟩ : ByteArray), 0, 300000⟩ : Port), (⟨(⟨#[111, 117, 116]⟩ : ByteArray), 1, 0⟩ : Port)] : List Port).map Port.row), .us v11 83 5 (([(⟨(⟨#[112]⟩ : ByteArray), 0, 500000, 200, 100000⟩ : Station)] : List Station).map Station.row), .us v12 3 1 (([20] : List Int).map rI), .us v13 3 1 (([20, (-20)] : List Int).map rI), .us v14 4 1 (([true] : List Bool).map rB), .arr b15 27 6 1 [[.v v7, .v v23, .v v10, .v v11, .V 50000, .V 10]], .arr b16 32 3 1 [[.v v12, .v v13, .v v14]], .arr b20 77 7 1 [[.v (.string r18.1.Name), .V 0, .V 1, .V r18.1.Capacity, .V r18.1.Resist, .V r18.1.Wave, .list 3 (r18.1.Points.map Point.row)]], .us v23 77 7 (([(⟨r18.1.Name, 0, 1, r18.1.Capacity, r18.1.Resist, r18.1.Wave, r18.1.Points⟩ : Segment)] : List Segment).map Segment.row), .us v27 46 5 (r25.1.map Product.row), .us v31 135 4 (r29.1.map Batch.row), .us v36 48 1 (([r33.1] : List (List Piece)).map (rL 2 Piece.row))]) ⟨⟨I, I, I, I, I, I, I, J⟩, [0, 1, 2, 3, 4, 5, 6, 7, 8, 9, 10, 11, 12, 13, 14, 15], I, by decide⟩ ?_
 refine AW.seqG (fun y40 hy40 => (AW.region (AO.q 1 I (AO.act [] I (AX.buildSlice (sz := 1) (es := ([wr (1 + x38)] : List Int).map rI) I I I I I I I I I I I dS (fun v41 => (AO.q 3 I (AO.act [] I (AX.buildSlice (sz := 1) (es := ([wr (1 + x38), wr (0 - (wr (1 + x38)))] : List Int).map rI) I I I I I I I I I I I dS (fun v42 => (AO.q 1 I (AO.act [] I (AX.buildSlice (sz := 1) (es := ([pump_2] : List Bool).map rB) I I I I I I I I I I I dS (fun v43 => (AO.one 16 I (fun v41o => (AO.one 17 I (fun v42o => (AO.one 18 I (fun v43o => (AO.p (Yp.buildP (l := [.v v41, .v v42, .v v43]) Tryz.bld32 (fill_step I I (cells_v v41o) I (fill_step I I (cells_v v42o) I (fill_step I I (cells_v v43o) I (fill_nil))))) I (AO.act [] I (AX.alloc (cs := [.v (.slice none 0 0), .v (.slice none 0 0), .v (.slice none 0 0)]) (m := 3) I I I I I dS (fun b44 => ?_))))))))))))))))))))))))
 refine AO.act [19] I (AX.store 19 0 0 (es' := [[.v v41, .v v42, .v v43]]) I I I I I I I I (le_ble I) I I (AO.nil ?_))
 subst hy40
 refine AW.left (s' := [(2, .v (.bool pump_2)), (8, .v (.pointer (some ⟨b15, 0, none⟩))), (10, .v (.pointer (some ⟨b20, 0, none⟩))), (11, .v v27), (12, .v v31), (13, .v v36), (14, .V (wr (1 + x38))), (15, .v (.pointer (some ⟨b44, 0, none⟩)))]) (ob' := [.arr b5 106 2 1 [KS.row r33.2], .us v7 9 1 (([(⟨#[97]⟩ : ByteArray), (⟨#[98]⟩ : ByteArray)] : List ByteArray).map rS), .us v8 77 7 [[.v (.string (⟨#[115]⟩ : ByteArray)), .V 0, .V 1, .V 100, .V 1, .V 50, .v v9]], .us v9 104 3 (([(⟨0, 0, 900000⟩ : Point), (⟨100, 20, 900000⟩ : Point)] : List Point).map Point.row), .us v10 74 3 (([(⟨(⟨#[105, 110]⟩ : ByteArray), 0, 300000⟩ : Port), (⟨(⟨#[111, 117, 116]⟩ : ByteArray), 1, 0⟩ : Port)] : List Port).map Port.row), .us v11 83 5 (([(⟨(⟨#[112]⟩ : ByteArray), 0, 500000, 200, 100000⟩ : Station)] : List Station).map Station.row), .us v12 3 1 (([20] : List Int).map rI), .us v13 3 1 (([20, (-20)] : List Int).map rI), .us v14 4 1 (([true] : List Bool).map rB), .arr b15 27 6 1 [[.v v7, .v v23, .v v10, .v v11, .V 50000, .V 10]], .arr b16 32 3 1 [[.v v12, .v v13, .v v14]], .arr b20 77 7 1 [[.v (.string r18.1.Name), .V 0, .V 1, .V r18.1.Capacity, .V r18.1.Resist, .V r18.1.Wave, .list 3 (r18.1.Points.map Point.row)]], .us v23 77 7 (([(⟨r18.1.Name, 0, 1, r18.1.Capacity, r18.1.Resist, r18.1.Wave, r18.1.Points⟩ : Segment)] : List Segment).map Segment.row), .us v27 46 5 (r25.1.map Product.row), .us v31 135 4 (r29.1.map Batch.row), .us v36 48 1 (([r33.1] : List (List Piece)).map (rL 2 Piece.row)), .us v41 3 1 (([wr (1 + x38)] : List Int).map rI), .us v42 3 1 (([wr (1 + x38), wr (0 - (wr (1 + x38)))] : List Int).map rI), .us v43 4 1 (([pump_2] : List Bool).map rB), .arr b44 32 3 1 [[.v v41, .v v42, .v v43]]]) ⟨⟨I, I, I, I, I, I, I, I, J⟩, [0, 1, 2, 3, 4, 5, 6, 7, 8, 9, 10, 11, 12, 13, 14, 15, 16, 17, 18, 19], I, by decide⟩ ?_
 refine AW.seqG (fun y45 hy45 => ?_)
 obtain ⟨r46, hx47, h⟩ := ob_some h
 refine AW.region (AO.r 5 [.o 0 9, .o 4 19] I ⟨I, I, J⟩ (AO.ghost (Ghost.freeze [1, 4, 5, 12, 13, 14, 15, 16, 17, 18] (K := [.us v7 9 1 (([(⟨#[97]⟩ : ByteArray), (⟨#[98]⟩ : ByteArray)] : List ByteArray).map rS), .us v10 74 3 (([(⟨(⟨#[105, 110]⟩ : ByteArray), 0, 300000⟩ : Port), (⟨(⟨#[111, 117, 116]⟩ : ByteArray), 1, 0⟩ : Port)] : List Port).map Port.row), .us v11 83 5 (([(⟨(⟨#[112]⟩ : ByteArray), 0, 500000, 200, 100000⟩ : Station)] : List Station).map Station.row), .us v23 77 7 (([(⟨r18.1.Name, 0, 1, r18.1.Capacity, r18.1.Resist, r18.1.Wave, r18.1.Points⟩ : Segment)] : List Segment).map Segment.row), .us v27 46 5 (r25.1.map Product.row), .us v31 135 4 (r29.1.map Batch.row), .us v36 48 1 (([r33.1] : List (List Piece)).map (rL 2 Piece.row)), .us v41 3 1 (([wr (1 + x38)] : List Int).map rI), .us v42 3 1 (([wr (1 + x38), wr (0 - (wr (1 + x38)))] : List Int).map rI), .us v43 4 1 (([pump_2] : List Bool).map rB)]) I [(11, .list 5 (r25.1.map Product.row)), (12, .list 4 (r29.1.map Batch.row)), (13, .list 1 (([r33.1] : List (List Piece)).map (rL 2 Piece.row))), (62, .agg [.list 1 (([(⟨#[97]⟩ : ByteArray), (⟨#[98]⟩ : ByteArray)] : List ByteArray).map rS), .list 7 (([(⟨r18.1.Name, 0, 1, r18.1.Capacity, r18.1.Resist, r18.1.Wave, r18.1.Points⟩ : Segment)] : List Segment).map Segment.row), .list 3 (([(⟨(⟨#[105, 110]⟩ : ByteArray), 0, 300000⟩ : Port), (⟨(⟨#[111, 117, 116]⟩ : ByteArray), 1, 0⟩ : Port)] : List Port).map Port.row), .list 5 (([(⟨(⟨#[112]⟩ : ByteArray), 0, 500000, 200, 100000⟩ : Station)] : List Station).map Station.row), .V 50000, .V 10]), (63, .list 4 (r29.1.map Batch.row)), (64, .list 5 (r25.1.map Product.row)), (65, .list 1 (([r33.1] : List (List Piece)).map (rL 2 Piece.row))), (66, .agg [.list 1 (([wr (1 + x38)] : List Int).map rI), .list 1 (([wr (1 + x38), wr (0 - (wr (1 + x38)))] : List Int).map rI), .list 1 (([pump_2] : List Bool).map rB)])] ⟨⟨_, I, .us 4 I⟩, ⟨_, I, .us 5 I⟩, ⟨_, I, .us 6 I⟩, ⟨_, I, .agg (.cons (.us 0 I) (.cons (.us 3 I) (.cons (.us 1 I) (.cons (.us 2 I) (.rest _)))))⟩, ⟨_, I, .us 5 I⟩, ⟨_, I, .us 4 I⟩, ⟨_, I, .us 6 I⟩, ⟨_, I, .agg (.cons (.us 7 I) (.cons (.us 8 I) (.cons (.us 9 I) (.rest _))))⟩, J⟩ (ob' := [.arr b5 106 2 1 [KS.row r33.2], .us v8 77 7 [[.v (.string (⟨#[115]⟩ : ByteArray)), .V 0, .V 1, .V 100, .V 1, .V 50, .v v9]], .us v9 104 3 (([(⟨0, 0, 900000⟩ : Point), (⟨100, 20, 900000⟩ : Point)] : List Point).map Point.row), .us v12 3 1 (([20] : List Int).map rI), .us v13 3 1 (([20, (-20)] : List Int).map rI), .us v14 4 1 (([true] : List Bool).map rB), .arr b15 27 6 1 [[.list 1 (([(⟨#[97]⟩ : ByteArray), (⟨#[98]⟩ : ByteArray)] : List ByteArray).map rS), .list 7 (([(⟨r18.1.Name, 0, 1, r18.1.Capacity, r18.1.Resist, r18.1.Wave, r18.1.Points⟩ : Segment)] : List Segment).map Segment.row), .list 3 (([(⟨(⟨#[105, 110]⟩ : ByteArray), 0, 300000⟩ : Port), (⟨(⟨#[111, 117, 116]⟩ : ByteArray), 1, 0⟩ : Port)] : List Port).map Port.row), .list 5 (([(⟨(⟨#[112]⟩ : ByteArray), 0, 500000, 200, 100000⟩ : Station)] : List Station).map Station.row), .V 50000, .V 10]], .arr b16 32 3 1 [[.v v12, .v v13, .v v14]], .arr b20 77 7 1 [[.v (.string r18.1.Name), .V 0, .V 1, .V r18.1.Capacity, .V r18.1.Resist, .V r18.1.Wave, .list 3 (r18.1.Points.map Point.row)]], .arr b44 32 3 1 [[.list 1 (([wr (1 + x38)] : List Int).map rI), .list 1 (([wr (1 + x38), wr (0 - (wr (1 + x38)))] : List Int).map rI), .list 1 (([pump_2] : List Bool).map rB)]]]) (.cons (.same _) (.cons (.same _) (.cons (.same _) (.cons (.same _) (.cons (.same _) (.cons (.same _) (.cons (.arr (.cons (.us 0 I) (.cons (.us 3 I) (.cons (.us 1 I) (.cons (.us 2 I) (.rest _)))))) (.cons (.same _) (.cons (.same _) (.cons (.arr (.cons (.us 7 I) (.cons (.us 8 I) (.cons (.us 9 I) (.rest _))))) (.rest _)))))))))))) ?_))
 refine AO.act [] I (AX.call0 I I I (L.zonc_ok _ _ _ _ _ _ hx47) dS ?_)
 rintro _ _ ⟨rfl, rfl⟩
 refine AO.q 3 I (AO.act [] I (AX.alloc (cs := [.v (.slice none 0 0), .v (.slice none 0 0), .v (.slice none 0 0)]) (m := 3) I I I I I dS (fun b48 => (AO.act [10] I (AX.store 10 0 0 (es' := [Pressures.row r46.1]) I I I I I I I I (le_ble I) I I (AO.q 1 I (AO.nil ?_)))))))
 subst hy45
 refine AW.left (s' := [(2, .v (.bool pump_2)), (8, .v (.pointer (some ⟨b15, 0, none⟩))), (10, .v (.pointer (some ⟨b20, 0, none⟩))), (11, .list 5 (r25.1.map Product.row)), (12, .list 4 (r29.1.map Batch.row)), (13, .list 1 (([r33.1] : List (List Piece)).map (rL 2 Piece.row))), (14, .V (wr (1 + x38))), (16, .v (.pointer (some ⟨b48, 0, none⟩))), (17, .V r46.2)]) (ob' := [.arr b5 106 2 1 [KS.row r33.2], .us v8 77 7 [[.v (.string (⟨#[115]⟩ : ByteArray)), .V 0, .V 1, .V 100, .V 1, .V 50, .v v9]], .us v9 104 3 (([(⟨0, 0, 900000⟩ : Point), (⟨100, 20, 900000⟩ : Point)] : List Point).map Point.row), .us v12 3 1 (([20] : List Int).map rI), .us v13 3 1 (([20, (-20)] : List Int).map rI), .us v14 4 1 (([true] : List Bool).map rB), .arr b15 27 6 1 [[.list 1 (([(⟨#[97]⟩ : ByteArray), (⟨#[98]⟩ : ByteArray)] : List ByteArray).map rS), .list 7 (([(⟨r18.1.Name, 0, 1, r18.1.Capacity, r18.1.Resist, r18.1.Wave, r18.1.Points⟩ : Segment)] : List Segment).map Segment.row), .list 3 (([(⟨(⟨#[105, 110]⟩ : ByteArray), 0, 300000⟩ : Port), (⟨(⟨#[111, 117, 116]⟩ : ByteArray), 1, 0⟩ : Port)] : List Port).map Port.row), .list 5 (([(⟨(⟨#[112]⟩ : ByteArray), 0, 500000, 200, 100000⟩ : Station)] : List Station).map Station.row), .V 50000, .V 10]], .arr b16 32 3 1 [[.v v12, .v v13, .v v14]], .arr b20 77 7 1 [[.v (.string r18.1.Name), .V 0, .V 1, .V r18.1.Capacity, .V r18.1.Resist, .V r18.1.Wave, .list 3 (r18.1.Points.map Point.row)]], .arr b44 32 3 1 [[.list 1 (([wr (1 + x38)] : List Int).map rI), .list 1 (([wr (1 + x38), wr (0 - (wr (1 + x38)))] : List Int).map rI), .list 1 (([pump_2] : List Bool).map rB)]], .arr b48 36 3 1 [Pressures.row r46.1]]) ⟨⟨I, I, I, I, I, I, I, I, I, J⟩, [0, 1, 2, 3, 4, 5, 6, 7, 8, 9, 10], I, by decide⟩ ?_
 refine AW.seqG (fun y49 hy49 => ?_)
 obtain ⟨p50, hp51, h⟩ := ob_some h
 obtain ⟨hp51i, hp51x⟩ := ix_some hp51
 refine AW.rd (pd 13 0 [11, 12]) [6] [_] I (AP.r 10 [.o 1 0, .x 2 p50.1 (Port.row p50.2), .o 6 0, .x 7 p50.1 (Port.row p50.2)] I ⟨⟨hp51i, map_get hp51x⟩, I, ⟨hp51i, map_get hp51x⟩, I, J⟩ (AP.op I (Yp.buildP (l := [.V p50.2.Pressure, .V p50.2.Pressure]) Tryz.bld71 I) I (AP.act [] I I I (AX.alloc (cs := [.V 0, .V 0]) (m := 2) I I I I I dS (fun b52 => (AP.act [11] I I I (AX.store 11 0 0 (es' := [[.V p50.2.Pressure, .V p50.2.Pressure]]) I I I I I I I I (le_ble I) I I (AP.ofAO (AO.nil ?_)))))))))
 subst hy49
 refine AW.left (s' := [(2, .v (.bool pump_2)), (8, .v (.pointer (some ⟨b15, 0, none⟩))), (10, .v (.pointer (some ⟨b20, 0, none⟩))), (11, .list 5 (r25.1.map Product.row)), (12, .list 4 (r29.1.map Batch.row)), (13, .list 1 (([r33.1] : List (List Piece)).map (rL 2 Piece.row))), (14, .V (wr (1 + x38))), (16, .v (.pointer (some ⟨b48, 0, none⟩))), (17, .V r46.2), (18, .v (.pointer (some ⟨b52, 0, none⟩)))]) (ob' := [.arr b5 106 2 1 [KS.row r33.2], .us v8 77 7 [[.v (.string (⟨#[115]⟩ : ByteArray)), .V 0, .V 1, .V 100, .V 1, .V 50, .v v9]], .us v9 104 3 (([(⟨0, 0, 900000⟩ : Point), (⟨100, 20, 900000⟩ : Point)] : List Point).map Point.row), .us v12 3 1 (([20] : List Int).map rI), .us v13 3 1 (([20, (-20)] : List Int).map rI), .us v14 4 1 (([true] : List Bool).map rB), .arr b15 27 6 1 [[.list 1 (([(⟨#[97]⟩ : ByteArray), (⟨#[98]⟩ : ByteArray)] : List ByteArray).map rS), .list 7 (([(⟨r18.1.Name, 0, 1, r18.1.Capacity, r18.1.Resist, r18.1.Wave, r18.1.Points⟩ : Segment)] : List Segment).map Segment.row), .list 3 (([(⟨(⟨#[105, 110]⟩ : ByteArray), 0, 300000⟩ : Port), (⟨(⟨#[111, 117, 116]⟩ : ByteArray), 1, 0⟩ : Port)] : List Port).map Port.row), .list 5 (([(⟨(⟨#[112]⟩ : ByteArray), 0, 500000, 200, 100000⟩ : Station)] : List Station).map Station.row), .V 50000, .V 10]], .arr b16 32 3 1 [[.v v12, .v v13, .v v14]], .arr b20 77 7 1 [[.v (.string r18.1.Name), .V 0, .V 1, .V r18.1.Capacity, .V r18.1.Resist, .V r18.1.Wave, .list 3 (r18.1.Points.map Point.row)]], .arr b44 32 3 1 [[.list 1 (([wr (1 + x38)] : List Int).map rI), .list 1 (([wr (1 + x38), wr (0 - (wr (1 + x38)))] : List Int).map rI), .list 1 (([pump_2] : List Bool).map rB)]], .arr b48 36 3 1 [Pressures.row r46.1], .arr b52 71 2 1 [[.V p50.2.Pressure, .V p50.2.Pressure]]]) ⟨⟨I, I, I, I, I, I, I, I, I, I, J⟩, [0, 1, 2, 3, 4, 5, 6, 7, 8, 9, 10, 11], I, by decide⟩ ?_
 refine AW.cutX (fun s ob => ∃ (j59 : Int × Int), L.zocg.J1 r18 r25 r29 r33 x38 r46 j59 = some r ∧ s = [] ∧ ob = [.arr b20 77 7 1 [[.v (.string r18.1.Name), .V 0, .V 1, .V r18.1.Capacity, .V r18.1.Resist, .V r18.1.Wave, .list 3 (r18.1.Points.map Point.row)]], .arr b48 36 3 1 [Pressures.row r46.1], .arr b52 71 2 1 [[.V j59.1, .V j59.2]]]) [(10, _), (11, _), (12, _), (13, _), (14, _), (16, _), (17, _), (18, _)] ⟨I, I, I, I, I, I, I, I, J⟩ ?_ ?_
 refine AW.z I (AW.left (s' := [(8, .v (.pointer (some ⟨b15, 0, none⟩))), (10, .v (.pointer (some ⟨b20, 0, none⟩))), (11, .list 5 (r25.1.map Product.row)), (12, .list 4 (r29.1.map Batch.row)), (13, .list 1 (([r33.1] : List (List Piece)).map (rL 2 Piece.row))), (14, .V (wr (1 + x38))), (16, .v (.pointer (some ⟨b48, 0, none⟩))), (17, .V r46.2), (18, .v (.pointer (some ⟨b52, 0, none⟩))), (81, .v (.bool pump_2))]) (ob' := [.arr b5 106 2 1 [KS.row r33.2], .us v8 77 7 [[.v (.string (⟨#[115]⟩ : ByteArray)), .V 0, .V 1, .V 100, .V 1, .V 50, .v v9]], .us v9 104 3 (([(⟨0, 0, 900000⟩ : Point), (⟨100, 20, 900000⟩ : Point)] : List Point).map Point.row), .us v12 3 1 (([20] : List Int).map rI), .us v13 3 1 (([20, (-20)] : List Int).map rI), .us v14 4 1 (([true] : List Bool).map rB), .arr b15 27 6 1 [[.list 1 (([(⟨#[97]⟩ : ByteArray), (⟨#[98]⟩ : ByteArray)] : List ByteArray).map rS), .list 7 (([(⟨r18.1.Name, 0, 1, r18.1.Capacity, r18.1.Resist, r18.1.Wave, r18.1.Points⟩ : Segment)] : List Segment).map Segment.row), .list 3 (([(⟨(⟨#[105, 110]⟩ : ByteArray), 0, 300000⟩ : Port), (⟨(⟨#[111, 117, 116]⟩ : ByteArray), 1, 0⟩ : Port)] : List Port).map Port.row), .list 5 (([(⟨(⟨#[112]⟩ : ByteArray), 0, 500000, 200, 100000⟩ : Station)] : List Station).map Station.row), .V 50000, .V 10]], .arr b16 32 3 1 [[.v v12, .v v13, .v v14]], .arr b20 77 7 1 [[.v (.string r18.1.Name), .V 0, .V 1, .V r18.1.Capacity, .V r18.1.Resist, .V r18.1.Wave, .list 3 (r18.1.Points.map Point.row)]], .arr b44 32 3 1 [[.list 1 (([wr (1 + x38)] : List Int).map rI), .list 1 (([wr (1 + x38), wr (0 - (wr (1 + x38)))] : List Int).map rI), .list 1 (([pump_2] : List Bool).map rB)]], .arr b48 36 3 1 [Pressures.row r46.1], .arr b52 71 2 1 [[.V p50.2.Pressure, .V p50.2.Pressure]]]) ⟨⟨I, I, I, I, I, I, I, I, I, I, J⟩, [0, 1, 2, 3, 4, 5, 6, 7, 8, 9, 10, 11], I, by decide⟩ ?_)
 refine AW.ch h I ?_ ?_
 intro hc129 h
 obtain ⟨p130, hp131, h⟩ := ob_some h
 obtain ⟨hp131i, hp131x⟩ := ix_some hp131
 obtain ⟨r132, hx133, h⟩ := ob_some h
 refine AW.rd (.still 0 (.still 1 (.still 2 (.still 3 (.still 5 (.act 4 (.act 6 (.still 7 (.still 8 (.still 9 (.act 10 .nil))))))))))) [6] [_] I (AP.r 5 [.o 1 0, .x 2 p130.1 (Station.row p130.2)] I ⟨⟨hp131i, map_get hp131x⟩, I, J⟩ (AP.act [] I I I (AX.of_yd (Yd.loadO 11 0 0 I I I I I (y := .agg [.V p50.2.Pressure, .V p50.2.Pressure]) I) dS (AP.c I (L.zrdf_ok _ _ _ _ hx133) (AP.q 3 I (AP.act [11] I I I (AX.store 11 0 0 (es' := [Bounds.row r132.1]) I I I I I I I I (le_ble I) I I (AP.ofAO (AO.nil ?_)))))))))
 exact lg ⟨(r132.1.Low, r132.1.High), h, I, I⟩ [8, 10, 11]
 intro hc129 h
 refine AW.skip ?_
 exact lg ⟨(p50.2.Pressure, p50.2.Pressure), h, I, I⟩ [8, 10, 11]
 rintro s ob ⟨j59, h, rfl, rfl⟩
 unfold L.zocg.J1 at h
 refine AW.seqG (fun y60 hy60 => ?_)
 obtain ⟨p61, hp62, h⟩ := ob_some h
 obtain ⟨hp62i, hp62x⟩ := ix_some hp62
 obtain ⟨r63, hx64, h⟩ := ob_some h
 refine AW.rd (pd 14 0 [8]) [0, 2] [_, _] I (AP.r 8 [.o 0 0, .x 2 p61.1 ((rL 2 Piece.row) p61.2), .o 7 1] I ⟨I, ⟨hp62i, map_get hp62x⟩, I, J⟩ (AP.act [] I I I (AX.call0 I I I (L.zwrr_ok _ _ _ _ _ _ _ hx64) dS ?_)))
 rintro _ _ ⟨v65, rfl, rfl⟩
 refine AP.q 5 I (AP.ofAO (AO.nil ?_))
 subst hy60
 refine AW.left (s' := [(16, .v (.pointer (some ⟨b48, 0, none⟩))), (17, .V r46.2), (19, .v v65), (20, .V r63.2)]) (ob' := [.arr b20 77 7 1 [[.v (.string r18.1.Name), .V 0, .V 1, .V r18.1.Capacity, .V r18.1.Resist, .V r18.1.Wave, .list 3 (r18.1.Points.map Point.row)]], .arr b48 36 3 1 [Pressures.row r46.1], .arr b52 71 2 1 [[.V j59.1, .V j59.2]], .us v65 81 3 (r63.1.map Level.row)]) ⟨⟨I, I, I, I, J⟩, [0, 1, 2, 3], I, by decide⟩ (AW.seqG (fun y66 hy66 => (AW.cutX (fun s ob => s = [(121, .v (.bool ((r46.2 != 0) || ((r63.2 != 0) || (((r46.1.Segments.length : Int) != 1) || ((r46.1.Nodes.length : Int) != 2))))))] ∧ ob = [.arr b48 36 3 1 [Pressures.row r46.1], .us v65 81 3 (r63.1.map Level.row)]) [(16, _), (19, _)] ⟨I, I, J⟩ ?_ ?_)))
 refine AW.region (AO.q 3 I ?_)
 rcases bt ((r46.2 != 0)) with hg71 | hg71
 refine AO.known 106 I hg71 (AO.q 15 I (AO.nil ?_))
 exact lf ⟨I, I⟩ ⟨(get_b (by simp only [hg71, bz])), I, I, J⟩ [1, 3] I
 refine AO.known 106 I hg71 (AO.q 4 I ?_)
 rcases bt ((r63.2 != 0)) with hg72 | hg72
 refine AO.known 110 I hg72 (AO.q 11 I (AO.nil ?_))
 exact lf ⟨I, I⟩ ⟨(get_b (by simp only [hg71, hg72, bz])), I, I, J⟩ [1, 3] I
 refine AO.known 110 I hg72 (AO.r 6 [.o 1 1, .l 2 (r46.1.Segments.length : Int)] I ⟨len_m, I, J⟩ ?_)
 rcases bt (((r46.1.Segments.length : Int) != 1)) with hg73 | hg73
 refine AO.known 116 I hg73 (AO.q 5 I (AO.nil ?_))
 exact lf ⟨I, I⟩ ⟨(get_b (by simp only [hg71, hg72, hg73, bz])), I, I, J⟩ [1, 3] I
 refine AO.known 116 I hg73 (AO.r 5 [.o 1 1, .l 2 (r46.1.Nodes.length : Int)] I ⟨len_m, I, J⟩ (AO.nil ?_))
 exact lf ⟨I, I⟩ ⟨(get_b (by simp only [hg71, hg72, hg73, bz])), I, I, J⟩ [1, 3] I
 rintro s ob ⟨rfl, rfl⟩
 refine AW.ch h I ?_ ?_
 intro hc74 h
 refine AW.z I (AW.ghost g0 ?_)
 obtain rfl := oi h
 exact AW.ret pr
 intro hc74 h
 refine AW.skip ?_
 subst hy66
 refine AW.left (s' := [(16, .v (.pointer (some ⟨b48, 0, none⟩))), (19, .v v65)]) (ob' := [.arr b48 36 3 1 [Pressures.row r46.1], .us v65 81 3 (r63.1.map Level.row)]) ⟨⟨I, I, J⟩, [0, 1], I, by decide⟩ (AW.cutX (fun s ob => ∃ (j101 : Bool), L.zocg.J2 j101 = some r ∧ s = [(6, .v (.bool j101))] ∧ ob = []) [] J ?_ ?_)
 obtain ⟨p102, hp103, h⟩ := ob_some h
 obtain ⟨hp103i, hp103x⟩ := ix_some hp103
 obtain ⟨r104, hx105, h⟩ := ob_some h
 rcases bt (r104) with hg106 | hg106
 replace h := ife_t hg106 h
 obtain ⟨p107, hp108, h⟩ := ob_some h
 obtain ⟨hp108i, hp108x⟩ := ix_some hp108
 obtain ⟨p109, hp110, h⟩ := ob_some h
 obtain ⟨hp110i, hp110x⟩ := ix_some hp110
 rcases bt (((p107.2.Low == p109.2.Bounds.Low) && ((p107.2.High == p109.2.Bounds.High) && true))) with hg111 | hg111
 replace h := ife_t hg111 h
 obtain ⟨p112, hp113, h⟩ := ob_some h
 obtain ⟨hp113i, hp113x⟩ := ix_some hp113
 rcases bt (p112.2) with hg114 | hg114
 replace h := ife_t hg114 h
 obtain ⟨p115, hp116, h⟩ := ob_some h
 obtain ⟨hp116i, hp116x⟩ := ix_some hp116
 rcases bt (p115.2) with hg117 | hg117
 replace h := ife_t hg117 h
 obtain ⟨r118, hx119, h⟩ := ob_some h
 refine AW.formL 1 I (fun hf120 => (AW.form 1 p109.1 I hp110x (fun hf121 => (AW.rd (pd 36 0 [5, 33]) [0, 1] [_, _] I (AP.r 5 [.o 1 0, .x 2 p102.1 ((rL 3 Level.row) p102.2)] I ⟨⟨hp103i, map_get hp103x⟩, I, J⟩ (AP.act [] I I I (AX.callL I (.refl _) I I (.cons (.refl _) (.cons (.us 1 I) (.rest _))) I (L.zlrb_ok _ _ _ hx105) dS (by rintro _ _ ⟨rfl, _⟩; rfl) ?_)))))))
 rintro _ ⟨_, rfl, -⟩
 refine AP.q 1 I (AP.known 128 I hg106 (AP.r 6 [.o 1 0, .x 2 p107.1 (Bounds.row p107.2)] I ⟨⟨hp108i, map_get hp108x⟩, I, J⟩ (AP.oldG I I I I ((Yp.lenUf I I I hf120).yd) dS (AP.q 1 I (AP.oldG I I I I ((Yp.indexUf (m := p109.1) I I I I I hf121 I hp110i hp110x).yd) dS (AP.q 1 I (AP.oldG I I I I (Yd.loadU 1 p109.1 1 I I I (map_get hp110x) I (y := .agg (Bounds.row p109.2.Bounds)) I) dS (AP.oldG I I I I ((Yp.eqStruct (r := ((p107.2.Low == p109.2.Bounds.Low) && ((p107.2.High == p109.2.Bounds.High) && true))) I I Tryz.eq71 I I I I).yd) dS (AP.q 2 I (AP.known 142 I hg111 (AP.r 6 [.o 1 0, .x 2 p112.1 (rB p112.2)] I ⟨⟨hp113i, map_get hp113x⟩, I, J⟩ (AP.known 148 I hg114 ?_))))))))))))
 refine AP.r 6 [.o 1 0, .x 2 p115.1 (rB p115.2)] I ⟨⟨hp116i, map_get hp116x⟩, I, J⟩ (AP.known 154 I hg117 (AP.cG I (L.zusz_ok  _ hx119) (AP.q 2 I (AP.ofAO (AO.nil ?_)))))
 exact lg ⟨r118, h, I, I⟩ []
 replace h := ife_f hg117 h
 refine AW.formL 1 I (fun hf122 => (AW.form 1 p109.1 I hp110x (fun hf123 => (AW.rd (pd 36 0 [5, 33]) [0, 1] [_, _] I (AP.r 5 [.o 1 0, .x 2 p102.1 ((rL 3 Level.row) p102.2)] I ⟨⟨hp103i, map_get hp103x⟩, I, J⟩ (AP.act [] I I I (AX.callL I (.refl _) I I (.cons (.refl _) (.cons (.us 1 I) (.rest _))) I (L.zlrb_ok _ _ _ hx105) dS (by rintro _ _ ⟨rfl, _⟩; rfl) ?_)))))))
 rintro _ ⟨_, rfl, -⟩
 refine AP.q 1 I (AP.known 128 I hg106 (AP.r 6 [.o 1 0, .x 2 p107.1 (Bounds.row p107.2)] I ⟨⟨hp108i, map_get hp108x⟩, I, J⟩ (AP.oldG I I I I ((Yp.lenUf I I I hf122).yd) dS (AP.q 1 I (AP.oldG I I I I ((Yp.indexUf (m := p109.1) I I I I I hf123 I hp110i hp110x).yd) dS (AP.q 1 I (AP.oldG I I I I (Yd.loadU 1 p109.1 1 I I I (map_get hp110x) I (y := .agg (Bounds.row p109.2.Bounds)) I) dS (AP.oldG I I I I ((Yp.eqStruct (r := ((p107.2.Low == p109.2.Bounds.Low) && ((p107.2.High == p109.2.Bounds.High) && true))) I I Tryz.eq71 I I I I).yd) dS (AP.q 2 I (AP.known 142 I hg111 (AP.r 6 [.o 1 0, .x 2 p112.1 (rB p112.2)] I ⟨⟨hp113i, map_get hp113x⟩, I, J⟩ (AP.known 148 I hg114 ?_))))))))))))
 refine AP.r 6 [.o 1 0, .x 2 p115.1 (rB p115.2)] I ⟨⟨hp116i, map_get hp116x⟩, I, J⟩ (AP.known 154 I hg117 (AP.q 3 I (AP.ofAO (AO.nil ?_))))
 exact lg ⟨false, h, I, I⟩ []
 replace h := ife_f hg114 h
 refine AW.formL 1 I (fun hf124 => (AW.form 1 p109.1 I hp110x (fun hf125 => (AW.rd (pd 36 0 [5, 33]) [0, 1] [_, _] I (AP.r 5 [.o 1 0, .x 2 p102.1 ((rL 3 Level.row) p102.2)] I ⟨⟨hp103i, map_get hp103x⟩, I, J⟩ (AP.act [] I I I (AX.callL I (.refl _) I I (.cons (.refl _) (.cons (.us 1 I) (.rest _))) I (L.zlrb_ok _ _ _ hx105) dS (by rintro _ _ ⟨rfl, _⟩; rfl) ?_)))))))
 rintro _ ⟨_, rfl, -⟩
 refine AP.q 1 I (AP.known 128 I hg106 (AP.r 6 [.o 1 0, .x 2 p107.1 (Bounds.row p107.2)] I ⟨⟨hp108i, map_get hp108x⟩, I, J⟩ (AP.oldG I I I I ((Yp.lenUf I I I hf124).yd) dS (AP.q 1 I (AP.oldG I I I I ((Yp.indexUf (m := p109.1) I I I I I hf125 I hp110i hp110x).yd) dS (AP.q 1 I (AP.oldG I I I I (Yd.loadU 1 p109.1 1 I I I (map_get hp110x) I (y := .agg (Bounds.row p109.2.Bounds)) I) dS (AP.oldG I I I I ((Yp.eqStruct (r := ((p107.2.Low == p109.2.Bounds.Low) && ((p107.2.High == p109.2.Bounds.High) && true))) I I Tryz.eq71 I I I I).yd) dS (AP.q 2 I (AP.known 142 I hg111 (AP.r 6 [.o 1 0, .x 2 p112.1 (rB p112.2)] I ⟨⟨hp113i, map_get hp113x⟩, I, J⟩ (AP.known 148 I hg114 ?_))))))))))))
 refine AP.q 9 I (AP.ofAO (AO.nil ?_))
 exact lg ⟨false, h, I, I⟩ []
 replace h := ife_f hg111 h
 refine AW.formL 1 I (fun hf126 => (AW.form 1 p109.1 I hp110x (fun hf127 => (AW.rd (pd 36 0 [5, 33]) [0, 1] [_, _] I (AP.r 5 [.o 1 0, .x 2 p102.1 ((rL 3 Level.row) p102.2)] I ⟨⟨hp103i, map_get hp103x⟩, I, J⟩ (AP.act [] I I I (AX.callL I (.refl _) I I (.cons (.refl _) (.cons (.us 1 I) (.rest _))) I (L.zlrb_ok _ _ _ hx105) dS (by rintro _ _ ⟨rfl, _⟩; rfl) ?_)))))))
 rintro _ ⟨_, rfl, -⟩
 refine AP.q 1 I (AP.known 128 I hg106 (AP.r 6 [.o 1 0, .x 2 p107.1 (Bounds.row p107.2)] I ⟨⟨hp108i, map_get hp108x⟩, I, J⟩ (AP.oldG I I I I ((Yp.lenUf I I I hf126).yd) dS (AP.q 1 I (AP.oldG I I I I ((Yp.indexUf (m := p109.1) I I I I I hf127 I hp110i hp110x).yd) dS (AP.q 1 I (AP.oldG I I I I (Yd.loadU 1 p109.1 1 I I I (map_get hp110x) I (y := .agg (Bounds.row p109.2.Bounds)) I) dS (AP.oldG I I I I ((Yp.eqStruct (r := ((p107.2.Low == p109.2.Bounds.Low) && ((p107.2.High == p109.2.Bounds.High) && true))) I I Tryz.eq71 I I I I).yd) dS (AP.q 2 I (AP.known 142 I hg111 (AP.q 15 I (AP.ofAO ?_))))))))))))
 refine AO.nil ?_
 exact lg ⟨false, h, I, I⟩ []
 replace h := ife_f hg106 h
 refine AW.rd (pd 36 0 [5, 33]) [0] [_] I (AP.r 5 [.o 1 0, .x 2 p102.1 ((rL 3 Level.row) p102.2)] I ⟨⟨hp103i, map_get hp103x⟩, I, J⟩ (AP.act [] I I I (AX.callL I (.refl _) I I (.cons (.refl _) (.cons (.us 1 I) (.rest _))) I (L.zlrb_ok _ _ _ hx105) dS (by rintro _ _ ⟨rfl, _⟩; rfl) ?_)))
 rintro _ ⟨_, rfl, -⟩
 refine AP.q 1 I (AP.known 128 I hg106 (AP.q 29 I (AP.ofAO (AO.nil ?_))))
 exact lg ⟨false, h, I, I⟩ []
 rintro s ob ⟨j101, h, rfl, rfl⟩
 unfold L.zocg.J2 at h
 obtain rfl := oi h
 exact AW.ret pr
end Go.Proofs.YtehbcbedipkifaaGreatDoor
