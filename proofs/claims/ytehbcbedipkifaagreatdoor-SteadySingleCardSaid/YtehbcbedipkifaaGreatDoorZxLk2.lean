/- Walks that show what functions of the program compute; printed by a program of ours. No condition. -/
import Derived.Test.YtehbcbedipkifaaGreatDoorZxLk1
import Derived.Test.YtehbcbedipkifaaGreatDoorZxLg2
set_option maxRecDepth 100000
namespace Go.Proofs.YtehbcbedipkifaaGreatDoor
open Go.Aw
set_option linter.unusedVariables false
set_option linter.unusedSimpArgs false
set_option maxHeartbeats 4000000
theorem L.zcjy_ok (batch_0 : Int) (r : Bool) (h : L.zcjy batch_0 = r) : ACalls Tryz.env 140 [.V batch_0] [] (fun x new => x = .v (.bool r) ∧ new = []) := by
 refine ACalls.of_body Tryz.func140 rfl rfl rfl (fun C hC => ?_)
 unfold L.zcjy at h
 refine AW.z I (AW.cutX (fun s ob => s = [(2, .v (.bool (decide (batch_0 ≥ 0) && decide (batch_0 < 1000))))] ∧ ob = []) [] J ?_ ?_)
 refine AW.region (AO.q 3 I ?_)
 rcases bt (decide (batch_0 ≥ 0)) with hg3 | hg3
 refine AO.known 5 I hg3 (AO.q 4 I (AO.nil ?_))
 exact lf ⟨I, I⟩ ⟨(get_b (by simp only [hg3, bz])), J⟩ [] I
 refine AO.known 5 I hg3 (AO.q 4 I (AO.nil ?_))
 exact lf ⟨I, I⟩ ⟨(get_b (by simp only [hg3, bz])), J⟩ [] I
 rintro s ob ⟨rfl, rfl⟩
 obtain rfl := h
 exact AW.ret pr
theorem L.zmux_ok (f_0 : List Piece) (r : Bool) (h : L.zmux f_0 = some r) : ACalls Tryz.env 90 [.list 2 (f_0.map Piece.row)] [] (fun x new => x = .v (.bool r) ∧ new = []) := by
 refine ACalls.of_body Tryz.func90 rfl rfl rfl (fun C hC => ?_)
 unfold L.zmux at h
 refine AW.z I (AW.seqG (fun y2 hy2 => (AW.zr [.l 1 (f_0.length : Int)] I ⟨len_m, J⟩ (AW.ch h I ?_ ?_))))
 intro hc3 h
 refine AW.z I ?_
 obtain rfl := oi h
 exact AW.ret pr
 intro hc3 h
 refine AW.skip ?_
 subst hy2
 refine AW.z I (AW.cutX (fun s ob => ∃ (j52 : Int), L.zmux.J1 j52 = some r ∧ s = [(3, .V j52)] ∧ ob = []) [] J ?_ ?_)
 refine AW.zr [.l 1 (f_0.length : Int)] I ⟨len_m, J⟩ (AW.block (AW.listMax 9 I (fun hm56 => ?_)))
 replace hm56 : f_0.length ≤ 9223372036854775806 := by rw [List.length_map] at hm56; omega
 obtain ⟨o98, hL99, hR100⟩ := ob_some h
 clear h
 refine AW.forX hL99 [(0, _), (9, _), (10, _)] ⟨I, I, I, J⟩ (fun (k54 : Nat) (st85 : Int) s ob => s = [(11, .V (k54 : Int)), (3, .V st85)] ∧ ob = []) ⟨I, I⟩ ⟨I, I, J⟩ ⟨[], I, by decide⟩ ?_ ?_
 rintro k54 x57 st85 r102 s ob hx58 hk55 ⟨rfl, rfl⟩ h hb101
 unfold L.zmux.B2 at h
 have hk55t : decide ((k54 : Int) < (f_0.length : Int)) = true := decide_eq_true (by omega)
 refine AW.z I (AW.seqG (fun y104 hy104 => (AW.condK (v := true) I hk55t (AW.skip ?_))))
 subst hy104
 refine AW.seq (AW.block (AW.seqG (fun y105 hy105 => (AW.region (AO.r 3 [.x 1 k54 (Piece.row x57)] I ⟨⟨I, map_get hx58⟩, J⟩ (AO.act [] I (AX.alloc (cs := [.V 0, .V 0]) (m := 2) I I I I I dS (fun b106 => (AO.q 1 I (AO.act [0] I (AX.store 0 0 0 (es' := [Piece.row x57]) I I I I I I I I (le_ble I) I I (AO.nil ?_))))))))))))
 subst hy105
 refine AW.seq (AW.cutX (fun s ob => ∃ (j113 : Bool), L.zmux.J3 x57 st85 j113 = some r102 ∧ s = [(44, .v (.bool j113))] ∧ ob = [.arr b106 102 2 1 [Piece.row x57]]) [(0, _), (3, _), (5, _), (9, _), (10, _), (11, _)] ⟨I, I, I, I, I, I, J⟩ ?_ ?_)
 refine AW.rd (pd 29 0 [2]) [0] [_] I (AP.r 2 [.o 1 0] I ⟨I, J⟩ (AP.c I (L.zcjy_ok x57.Batch _ I) (AP.q 2 I ?_)))
 rcases bt ((!(L.zcjy x57.Batch))) with hg115 | hg115
 replace h := ife_t hg115 h
 refine AP.known 20 I hg115 (AP.q 13 I (AP.skipU I I I I dS (AP.skipU I I I I dS (AP.skipU I I I I dS (AP.skipU I I I I dS (AP.skipU I I I I dS (AP.skipU I I I I dS (AP.skipU I I I I dS (AP.skipU I I I I dS (AP.skipU I I I I dS (AP.q 2 I (AP.ofAO ?_))))))))))))
 refine AO.nil ?_
 exact lg ⟨true, h, I, I⟩ [0]
 replace h := ife_f hg115 h
 refine AP.known 20 I hg115 (AP.r 5 [.o 1 0] I ⟨I, J⟩ ?_)
 rcases bt (decide (x57.Volume < 1)) with hg116 | hg116
 replace h := ife_t hg116 h
 refine AP.known 25 I hg116 (AP.q 8 I (AP.skipU I I I I dS (AP.skipU I I I I dS (AP.skipU I I I I dS (AP.skipU I I I I dS (AP.skipU I I I I dS (AP.skipU I I I I dS (AP.skipU I I I I dS (AP.skipU I I I I dS (AP.skipU I I I I dS (AP.q 2 I (AP.ofAO ?_))))))))))))
 refine AO.nil ?_
 exact lg ⟨true, h, I, I⟩ [0]
 replace h := ife_f hg116 h
 refine AP.known 25 I hg116 (AP.r 5 [.o 1 0] I ⟨I, J⟩ ?_)
 rcases bt (decide (x57.Volume > 1000000)) with hg117 | hg117
 replace h := ife_t hg117 h
 refine AP.known 30 I hg117 (AP.q 3 I (AP.skipU I I I I dS (AP.skipU I I I I dS (AP.skipU I I I I dS (AP.skipU I I I I dS (AP.skipU I I I I dS (AP.skipU I I I I dS (AP.skipU I I I I dS (AP.skipU I I I I dS (AP.skipU I I I I dS (AP.q 2 I (AP.ofAO ?_))))))))))))
 refine AO.nil ?_
 exact lg ⟨true, h, I, I⟩ [0]
 replace h := ife_f hg117 h
 refine AP.known 30 I hg117 (AP.q 3 I ?_)
 rcases bt (decide ((k54 : Int) > 0)) with hg118 | hg118
 replace h := ife_t hg118 h
 obtain ⟨p119, hp120, h⟩ := ob_some h
 obtain ⟨hp120i, hp120x⟩ := ix_some hp120
 refine AP.known 33 I hg118 (AP.r 11 [.o 1 0, .x 5 p119.1 (Piece.row p119.2)] I ⟨⟨hp120i, map_get hp120x⟩, I, J⟩ (AP.ofAO (AO.nil ?_)))
 exact lg ⟨(x57.Batch == p119.2.Batch), h, I, I⟩ [0]
 replace h := ife_f hg118 h
 refine AP.known 33 I hg118 (AP.q 11 I (AP.ofAO (AO.nil ?_)))
 exact lg ⟨false, h, I, I⟩ [0]
 rintro s ob ⟨j113, h, rfl, rfl⟩
 unfold L.zmux.J3 at h
 refine AW.ch h I ?_ ?_
 intro hc114 h
 refine AW.z I ?_
 obtain rfl := hb101 _ (oi h).symm
 replace h := hR100
 replace h := se_r h
 refine AW.ghost g0 ?_
 obtain rfl := oi h
 exact AW.ret pr
 intro hc114 h
 refine AW.skip (AW.tr [.o 2 0] I ⟨I, J⟩ (AW.region (AO.r 2 [.k 0 (k54 + 1 : Nat)] I ⟨cast_wr hk55 hm56, J⟩ ?_)))
 obtain rfl := oi h
 refine AO.nil ?_
 exact ⟨_, _, _, I, ⟨I, I⟩, ⟨I, I, I, I, I, J⟩, [], I, by decide⟩
 rintro st85 s ob ⟨rfl, rfl⟩ he
 subst he
 have h := se_l hR100
 have hk55f : decide (((f_0.length : Nat) : Int) < (f_0.length : Int)) = false := by simp
 refine AW.z I (AW.seqG (fun y122 hy122 => (AW.condK (v := false) I hk55f (AW.exit ?_))))
 exact lg ⟨st85, h, I, I⟩ []
 rintro s ob ⟨j52, h, rfl, rfl⟩
 unfold L.zmux.J1 at h
 refine AW.z I ?_
 obtain rfl := oi h
 exact AW.ret pr
theorem L.zwqi_ok (f_0 : List Piece) (r : Int) (h : L.zwqi f_0 = some r) : ACalls Tryz.env 91 [.list 2 (f_0.map Piece.row)] [] (fun x new => x = .V r ∧ new = []) := by
 refine ACalls.of_body Tryz.func91 rfl rfl rfl (fun C hC => ?_)
 unfold L.zwqi at h
 refine AW.z I (AW.z I (AW.cutX (fun s ob => ∃ (j20 : Int), L.zwqi.J1 j20 = some r ∧ s = [(3, .V j20)] ∧ ob = []) [] J ?_ ?_))
 refine AW.zr [.l 1 (f_0.length : Int)] I ⟨len_m, J⟩ (AW.block (AW.listMax 5 I (fun hm24 => ?_)))
 replace hm24 : f_0.length ≤ 9223372036854775806 := by rw [List.length_map] at hm24; omega
 obtain ⟨o36, hL37, hR38⟩ := ob_some h
 clear h
 refine AW.forY hL37 [(0, _), (6, _)] ⟨I, I, J⟩ (fun (k22 : Nat) (st33 : Int) s ob => s = [(7, .V (k22 : Int)), (3, .V st33)] ∧ ob = []) ⟨I, I⟩ ⟨I, I, J⟩ ⟨[], I, by decide⟩ ?_ ?_
 rintro k22 x25 st33 r40 s ob hx26 hk23 ⟨rfl, rfl⟩ h
 unfold L.zwqi.B2 at h
 have hk23t : decide ((k22 : Int) < (f_0.length : Int)) = true := decide_eq_true (by omega)
 refine AW.z I (AW.seqG (fun y42 hy42 => (AW.condK (v := true) I hk23t (AW.skip ?_))))
 subst hy42
 refine AW.seq (AW.block (AW.z I (AW.tr [.x 3 k22 (Piece.row x25)] I ⟨⟨I, map_get hx26⟩, J⟩ (AW.region (AO.r 2 [.k 0 (k22 + 1 : Nat)] I ⟨cast_wr hk23 hm24, J⟩ ?_)))))
 obtain rfl := oi h
 refine AO.nil ?_
 exact lg ⟨I, I⟩ []
 rintro st33 s ob ⟨rfl, rfl⟩ he
 subst he
 have h := hR38
 have hk23f : decide (((f_0.length : Nat) : Int) < (f_0.length : Int)) = false := by simp
 refine AW.z I (AW.seqG (fun y44 hy44 => (AW.condK (v := false) I hk23f (AW.exit ?_))))
 exact lg ⟨st33, h, I, I⟩ []
 rintro s ob ⟨j20, h, rfl, rfl⟩
 unfold L.zwqi.J1 at h
 refine AW.z I ?_
 obtain rfl := oi h
 exact AW.ret pr
theorem L.zjiy_ok (s_0 : Segment) (f_1 : List Piece) (r : Int) (h : L.zjiy s_0 f_1 = some r) : ACalls Tryz.env 67 [.agg (Segment.row s_0), .list 2 (f_1.map Piece.row)] [] (fun x new => x = .V r ∧ new = []) := by
 refine ACalls.of_body Tryz.func67 rfl rfl rfl (fun C hC => ?_)
 unfold L.zjiy at h
 refine AW.seqG (fun y1 hy1 => (AW.region (AO.act [] I (AX.box (cs := Segment.row s_0) (m := 7) I I I dS (fun b2 => (AO.q 1 I (AO.nil ?_)))))))
 subst hy1
 refine AW.seq (AW.block (AW.cutX (fun s ob => ∃ (j8 : Bool), L.zjiy.J1 s_0 f_1 j8 = some r ∧ s = [(5, .v (.bool j8))] ∧ ob = [.arr b2 77 7 1 [Segment.row s_0]]) [(1, _), (2, _)] ⟨I, I, J⟩ ?_ ?_))
 obtain ⟨r13, hx14, h⟩ := ob_some h
 refine AW.region (AO.r 1 [.o 0 0] I ⟨I, J⟩ (AO.c (L.zaic_ok _ _ hx14) (AO.q 2 I ?_)))
 rcases bt ((!r13)) with hg15 | hg15
 replace h := ife_t hg15 h
 refine AO.known 9 I hg15 (AO.q 5 I (AO.nil ?_))
 exact lg ⟨true, h, I, I⟩ [0]
 replace h := ife_f hg15 h
 obtain ⟨r16, hx17, h⟩ := ob_some h
 refine AO.known 9 I hg15 (AO.q 1 I (AO.gt I I I (AO.c (L.zmux_ok _ _ hx17) (AO.q 3 I (AO.nil ?_)))))
 exact lg ⟨(!r16), h, I, I⟩ [0]
 rintro s ob ⟨j8, h, rfl, rfl⟩
 unfold L.zjiy.J1 at h
 refine AW.ch h I ?_ ?_
 intro hc9 h
 refine AW.z I (AW.ghost g0 ?_)
 obtain rfl := oi h
 exact AW.ret pr
 intro hc9 h
 refine AW.seq ?_
 obtain ⟨r10, hx11, h⟩ := ob_some h
 refine AW.rd (.still 0 (.still 2 (.still 3 (.act 1 (.still 4 (.still 5 .nil)))))) [0] [_] I (AP.r 3 [.o 2 0] I ⟨I, J⟩ (AP.c I (L.zwqi_ok _ _ hx11) (AP.q 2 I (AP.ofAO (AO.nil (AW.ch h I ?_ ?_))))))
 intro hc12 h
 refine AW.z I (AW.ghost g0 ?_)
 obtain rfl := oi h
 exact AW.ret pr
 intro hc12 h
 refine AW.skip (AW.z I (AW.ghost g0 ?_))
 obtain rfl := oi h
 exact AW.ret pr
theorem L.ztca_ok (p_0 : Product) (r : Bool) (h : L.ztca p_0 = some r) : ACalls Tryz.env 92 [.agg (Product.row p_0)] [] (fun x new => x = .v (.bool r) ∧ new = []) := by
 refine ACalls.of_body Tryz.func92 rfl rfl rfl (fun C hC => ?_)
 unfold L.ztca at h
 refine AW.seqG (fun y1 hy1 => (AW.region (AO.act [] I (AX.box (cs := Product.row p_0) (m := 5) I I I dS (fun b2 => (AO.q 1 I (AO.nil ?_)))))))
 subst hy1
 refine AW.cutX (fun s ob => ∃ (j13 : Bool), L.ztca.J1 j13 = some r ∧ s = [(2, .v (.bool j13))] ∧ ob = []) [] J ?_ ?_
 obtain ⟨r14, hx15, h⟩ := ob_some h
 refine AW.region (AO.r 2 [.o 1 0] I ⟨I, J⟩ (AO.c (L.zgmr_ok _ _ hx15) (AO.q 1 I ?_)))
 rcases bt (r14) with hg16 | hg16
 replace h := ife_t hg16 h
 refine AO.known 6 I hg16 (AO.r 5 [.o 1 0] I ⟨I, J⟩ ?_)
 rcases bt (decide (p_0.Density ≥ 400)) with hg17 | hg17
 replace h := ife_t hg17 h
 refine AO.known 11 I hg17 (AO.r 5 [.o 1 0] I ⟨I, J⟩ ?_)
 rcases bt (decide (p_0.Density ≤ 1200)) with hg18 | hg18
 replace h := ife_t hg18 h
 refine AO.known 16 I hg18 (AO.r 5 [.o 1 0] I ⟨I, J⟩ ?_)
 rcases bt (decide (p_0.Expansion ≥ 0)) with hg19 | hg19
 replace h := ife_t hg19 h
 refine AO.known 21 I hg19 (AO.r 5 [.o 1 0] I ⟨I, J⟩ ?_)
 rcases bt (decide (p_0.Expansion ≤ 2000)) with hg20 | hg20
 replace h := ife_t hg20 h
 refine AO.known 26 I hg20 (AO.r 5 [.o 1 0] I ⟨I, J⟩ ?_)
 rcases bt (decide (p_0.Compress ≥ 0)) with hg21 | hg21
 replace h := ife_t hg21 h
 refine AO.known 31 I hg21 (AO.r 5 [.o 1 0] I ⟨I, J⟩ ?_)
 rcases bt (decide (p_0.Compress ≤ 5000)) with hg22 | hg22
 replace h := ife_t hg22 h
 refine AO.known 36 I hg22 (AO.r 5 [.o 1 0] I ⟨I, J⟩ ?_)
 rcases bt (decide (p_0.Friction ≥ 1)) with hg23 | hg23
 replace h := ife_t hg23 h
 refine AO.known 41 I hg23 (AO.r 5 [.o 1 0] I ⟨I, J⟩ (AO.nil ?_))
 exact lg ⟨decide (p_0.Friction ≤ 2000), h, I, I⟩ []
 replace h := ife_f hg23 h
 refine AO.known 41 I hg23 (AO.q 5 I (AO.nil ?_))
 exact lg ⟨false, h, I, I⟩ []
 replace h := ife_f hg22 h
 refine AO.known 36 I hg22 (AO.q 10 I (AO.nil ?_))
 exact lg ⟨false, h, I, I⟩ []
 replace h := ife_f hg21 h
 refine AO.known 31 I hg21 (AO.q 15 I (AO.nil ?_))
 exact lg ⟨false, h, I, I⟩ []
 replace h := ife_f hg20 h
 refine AO.known 26 I hg20 (AO.q 20 I (AO.nil ?_))
 exact lg ⟨false, h, I, I⟩ []
 replace h := ife_f hg19 h
 refine AO.known 21 I hg19 (AO.q 25 I (AO.nil ?_))
 exact lg ⟨false, h, I, I⟩ []
 replace h := ife_f hg18 h
 refine AO.known 16 I hg18 (AO.q 30 I (AO.nil ?_))
 exact lg ⟨false, h, I, I⟩ []
 replace h := ife_f hg17 h
 refine AO.known 11 I hg17 (AO.q 35 I (AO.nil ?_))
 exact lg ⟨false, h, I, I⟩ []
 replace h := ife_f hg16 h
 refine AO.known 6 I hg16 (AO.q 40 I (AO.nil ?_))
 exact lg ⟨false, h, I, I⟩ []
 rintro s ob ⟨j13, h, rfl, rfl⟩
 unfold L.ztca.J1 at h
 obtain rfl := oi h
 exact AW.ret pr
theorem L.zdld_ok (l_0 : List Product) (name_1 : ByteArray) (r : Int) (h : L.zdld l_0 name_1 = some r) : ACalls Tryz.env 93 [.list 5 (l_0.map Product.row), .v (.string name_1)] [] (fun x new => x = .V r ∧ new = []) := by
 refine ACalls.of_body Tryz.func93 rfl rfl rfl (fun C hC => ?_)
 unfold L.zdld at h
 refine AW.z I (AW.cutX (fun s ob => ∃ (j20 : Unit), L.zdld.J1 j20 = some r ∧ s = [] ∧ ob = []) [] J ?_ ?_)
 refine AW.zr [.l 1 (l_0.length : Int)] I ⟨len_m, J⟩ (AW.block (AW.listMax 6 I (fun hm24 => ?_)))
 replace hm24 : l_0.length ≤ 9223372036854775806 := by rw [List.length_map] at hm24; omega
 obtain ⟨o37, hL38, hR39⟩ := ob_some h
 clear h
 refine AW.forX hL38 [(0, _), (1, _), (7, _)] ⟨I, I, I, J⟩ (fun (k22 : Nat) (st32 : Unit) s ob => s = [(8, .V (k22 : Int))] ∧ ob = []) ⟨I, I⟩ ⟨I, J⟩ ⟨[], I, by decide⟩ ?_ ?_
 rintro k22 x25 st32 r41 s ob hx26 hk23 ⟨rfl, rfl⟩ h hb40
 unfold L.zdld.B2 at h
 have hk23t : decide ((k22 : Int) < (l_0.length : Int)) = true := decide_eq_true (by omega)
 refine AW.z I (AW.seqG (fun y43 hy43 => (AW.condK (v := true) I hk23t (AW.skip ?_))))
 subst hy43
 refine AW.seq (AW.block (AW.z I (AW.seq (AW.region (AO.r 6 [.x 2 k22 (Product.row x25)] I ⟨⟨I, map_get hx26⟩, J⟩ (AO.p (Yp.cmpS (c := sEq x25.Name name_1) I I I) I (AO.nil (AW.ch h I ?_ ?_))))))))
 intro hc45 h
 refine AW.z I ?_
 obtain rfl := hb40 _ (oi h).symm
 replace h := hR39
 replace h := se_r h
 obtain rfl := oi h
 exact AW.ret pr
 intro hc45 h
 refine AW.skip (AW.region (AO.r 2 [.k 0 (k22 + 1 : Nat)] I ⟨cast_wr hk23 hm24, J⟩ ?_))
 obtain rfl := oi h
 refine AO.nil ?_
 exact ⟨_, _, _, I, ⟨I, I⟩, ⟨I, I, I, I, J⟩, [], I, by decide⟩
 rintro st32 s ob ⟨rfl, rfl⟩ he
 subst he
 have h := se_l hR39
 have hk23f : decide (((l_0.length : Nat) : Int) < (l_0.length : Int)) = false := by simp
 refine AW.z I (AW.seqG (fun y47 hy47 => (AW.condK (v := false) I hk23f (AW.exit ?_))))
 exact lg ⟨(), h, I, I⟩ []
 rintro s ob ⟨j20, h, rfl, rfl⟩
 unfold L.zdld.J1 at h
 refine AW.z I ?_
 obtain rfl := oi h
 exact AW.ret pr
theorem L.zjqp_ok (l_0 : List Product) (r : Int) (h : L.zjqp l_0 = some r) : ACalls Tryz.env 53 [.list 5 (l_0.map Product.row)] [] (fun x new => x = .V r ∧ new = []) := by
 refine ACalls.of_body Tryz.func53 rfl rfl rfl (fun C hC => ?_)
 unfold L.zjqp at h
 refine AW.z I (AW.seqG (fun y2 hy2 => (AW.zr [.l 1 (l_0.length : Int)] I ⟨len_m, J⟩ (AW.ch h I ?_ ?_))))
 intro hc3 h
 refine AW.z I ?_
 obtain rfl := oi h
 exact AW.ret pr
 intro hc3 h
 refine AW.skip ?_
 subst hy2
 refine AW.cutX (fun s ob => ∃ (j26 : Unit), L.zjqp.J1 l_0 j26 = some r ∧ s = [] ∧ ob = []) [(0, _)] ⟨I, J⟩ ?_ ?_
 refine AW.zr [.l 1 (l_0.length : Int)] I ⟨len_m, J⟩ (AW.block (AW.listMax 8 I (fun hm87 => ?_)))
 replace hm87 : l_0.length ≤ 9223372036854775806 := by rw [List.length_map] at hm87; omega
 obtain ⟨o104, hL105, hR106⟩ := ob_some h
 clear h
 refine AW.forX hL105 [(0, _), (9, _)] ⟨I, I, J⟩ (fun (k85 : Nat) (st97 : Unit) s ob => s = [(10, .V (k85 : Int))] ∧ ob = []) ⟨I, I⟩ ⟨I, J⟩ ⟨[], I, by decide⟩ ?_ ?_
 rintro k85 x88 st97 r108 s ob hx89 hk86 ⟨rfl, rfl⟩ h hb107
 unfold L.zjqp.B4 at h
 have hk86t : decide ((k85 : Int) < (l_0.length : Int)) = true := decide_eq_true (by omega)
 refine AW.z I (AW.seqG (fun y110 hy110 => (AW.condK (v := true) I hk86t (AW.skip ?_))))
 subst hy110
 refine AW.seq (AW.block (AW.z I (AW.seq ?_)))
 obtain ⟨r112, hx113, h⟩ := ob_some h
 refine AW.region (AO.r 4 [.x 2 k85 (Product.row x88)] I ⟨⟨I, map_get hx89⟩, J⟩ (AO.c (L.ztca_ok _ _ hx113) (AO.q 1 I (AO.nil (AW.ch h I ?_ ?_)))))
 intro hc114 h
 refine AW.z I ?_
 obtain rfl := hb107 _ (oi h).symm
 replace h := hR106
 replace h := se_r h
 obtain rfl := oi h
 exact AW.ret pr
 intro hc114 h
 refine AW.skip (AW.region (AO.r 2 [.k 0 (k85 + 1 : Nat)] I ⟨cast_wr hk86 hm87, J⟩ ?_))
 obtain rfl := oi h
 refine AO.nil ?_
 exact ⟨_, _, _, I, ⟨I, I⟩, ⟨I, I, I, J⟩, [], I, by decide⟩
 rintro st97 s ob ⟨rfl, rfl⟩ he
 subst he
 have h := se_l hR106
 have hk86f : decide (((l_0.length : Nat) : Int) < (l_0.length : Int)) = false := by simp
 refine AW.z I (AW.seqG (fun y116 hy116 => (AW.condK (v := false) I hk86f (AW.exit ?_))))
 exact lg ⟨(), h, I, I⟩ []
 rintro s ob ⟨j26, h, rfl, rfl⟩
 unfold L.zjqp.J1 at h
 refine AW.cutX (fun s ob => ∃ (j49 : Unit), L.zjqp.J2 j49 = some r ∧ s = [] ∧ ob = []) [] J ?_ ?_
 refine AW.zr [.l 1 (l_0.length : Int)] I ⟨len_m, J⟩ (AW.block (AW.listMax 20 I (fun hm53 => ?_)))
 replace hm53 : l_0.length ≤ 9223372036854775806 := by rw [List.length_map] at hm53; omega
 obtain ⟨o70, hL71, hR72⟩ := ob_some h
 clear h
 refine AW.forX hL71 [(0, _), (21, _)] ⟨I, I, J⟩ (fun (k51 : Nat) (st63 : Unit) s ob => s = [(22, .V (k51 : Int))] ∧ ob = []) ⟨I, I⟩ ⟨I, J⟩ ⟨[], I, by decide⟩ ?_ ?_
 rintro k51 x54 st63 r74 s ob hx55 hk52 ⟨rfl, rfl⟩ h hb73
 unfold L.zjqp.B3 at h
 have hk52t : decide ((k51 : Int) < (l_0.length : Int)) = true := decide_eq_true (by omega)
 refine AW.z I (AW.seqG (fun y76 hy76 => (AW.condK (v := true) I hk52t (AW.skip ?_))))
 subst hy76
 refine AW.seq (AW.block (AW.z I (AW.seq ?_)))
 obtain ⟨r78, hx79, h⟩ := ob_some h
 refine AW.region (AO.r 6 [.x 3 k51 (Product.row x54)] I ⟨⟨I, map_get hx55⟩, J⟩ (AO.c (L.zdld_ok _ _ _ hx79) (AO.q 2 I (AO.nil (AW.ch h I ?_ ?_)))))
 intro hc80 h
 refine AW.z I ?_
 obtain rfl := hb73 _ (oi h).symm
 replace h := hR72
 replace h := se_r h
 obtain rfl := oi h
 exact AW.ret pr
 intro hc80 h
 refine AW.skip (AW.region (AO.r 2 [.k 0 (k51 + 1 : Nat)] I ⟨cast_wr hk52 hm53, J⟩ ?_))
 obtain rfl := oi h
 refine AO.nil ?_
 exact ⟨_, _, _, I, ⟨I, I⟩, ⟨I, I, I, J⟩, [], I, by decide⟩
 rintro st63 s ob ⟨rfl, rfl⟩ he
 subst he
 have h := se_l hR72
 have hk52f : decide (((l_0.length : Nat) : Int) < (l_0.length : Int)) = false := by simp
 refine AW.z I (AW.seqG (fun y82 hy82 => (AW.condK (v := false) I hk52f (AW.exit ?_))))
 exact lg ⟨(), h, I, I⟩ []
 rintro s ob ⟨j49, h, rfl, rfl⟩
 unfold L.zjqp.J2 at h
 refine AW.z I ?_
 obtain rfl := oi h
 exact AW.ret pr
theorem L.zkip_ok (f_0 : List Piece) (batches_1 : List Batch) (products_2 : List Product) (r : Bool) (h : L.zkip f_0 batches_1 products_2 = some r) : ACalls Tryz.env 54 [.list 2 (f_0.map Piece.row), .list 4 (batches_1.map Batch.row), .list 5 (products_2.map Product.row)] [] (fun x new => x = .v (.bool r) ∧ new = []) := by
 refine ACalls.of_body Tryz.func54 rfl rfl rfl (fun C hC => ?_)
 unfold L.zkip at h
 refine AW.z I (AW.cutX (fun s ob => ∃ (j32 : Unit), L.zkip.J1 j32 = some r ∧ s = [] ∧ ob = []) [] J ?_ ?_)
 refine AW.zr [.l 1 (f_0.length : Int)] I ⟨len_m, J⟩ (AW.block (AW.listMax 9 I (fun hm36 => ?_)))
 replace hm36 : f_0.length ≤ 9223372036854775806 := by rw [List.length_map] at hm36; omega
 obtain ⟨o61, hL62, hR63⟩ := ob_some h
 clear h
 refine AW.forX hL62 [(1, _), (2, _), (9, _), (10, _)] ⟨I, I, I, I, J⟩ (fun (k34 : Nat) (st50 : Unit) s ob => s = [(11, .V (k34 : Int))] ∧ ob = []) ⟨I, I⟩ ⟨I, J⟩ ⟨[], I, by decide⟩ ?_ ?_
 rintro k34 x37 st50 r65 s ob hx38 hk35 ⟨rfl, rfl⟩ h hb64
 unfold L.zkip.B2 at h
 have hk35t : decide ((k34 : Int) < (f_0.length : Int)) = true := decide_eq_true (by omega)
 refine AW.z I (AW.seqG (fun y67 hy67 => (AW.condK (v := true) I hk35t (AW.skip ?_))))
 subst hy67
 refine AW.seq (AW.block (AW.seqG (fun y68 hy68 => (AW.region (AO.r 2 [.x 0 k34 (Piece.row x37)] I ⟨⟨I, map_get hx38⟩, J⟩ (AO.act [] I (AX.alloc (cs := [.V 0, .V 0]) (m := 2) I I I I I dS (fun b69 => (AO.act [0] I (AX.store 0 0 0 (es' := [Piece.row x37]) I I I I I I I I (le_ble I) I I (AO.nil ?_)))))))))))
 subst hy68
 refine AW.cutX (fun s ob => ∃ (j74 : Bool), L.zkip.J3 j74 = some r65 ∧ s = [(39, .v (.bool j74))] ∧ ob = []) [(1, _), (2, _), (9, _), (10, _), (11, _)] ⟨I, I, I, I, I, J⟩ ?_ ?_
 refine AW.region (AO.r 6 [.o 1 0, .l 3 (batches_1.length : Int)] I ⟨len_m, I, J⟩ ?_)
 rcases bt (decide (x37.Batch ≥ (batches_1.length : Int))) with hg76 | hg76
 replace h := ife_t hg76 h
 refine AO.known 20 I hg76 (AO.q 19 I (AO.nil ?_))
 exact lg ⟨true, h, I, I⟩ []
 replace h := ife_f hg76 h
 obtain ⟨p77, hp78, h⟩ := ob_some h
 obtain ⟨hp78i, hp78x⟩ := ix_some hp78
 refine AO.known 20 I hg76 (AO.r 9 [.o 2 0, .x 3 p77.1 (Batch.row p77.2)] I ⟨⟨hp78i, map_get hp78x⟩, I, J⟩ ?_)
 rcases bt (decide (p77.2.Product < 0)) with hg79 | hg79
 replace h := ife_t hg79 h
 refine AO.known 29 I hg79 (AO.q 10 I (AO.nil ?_))
 exact lg ⟨true, h, I, I⟩ []
 replace h := ife_f hg79 h
 refine AO.known 29 I hg79 (AO.r 10 [.o 2 0, .x 3 p77.1 (Batch.row p77.2), .l 7 (products_2.length : Int)] I ⟨len_m, ⟨hp78i, map_get hp78x⟩, I, J⟩ (AO.nil ?_))
 exact lg ⟨decide (p77.2.Product ≥ (products_2.length : Int)), h, I, I⟩ []
 rintro s ob ⟨j74, h, rfl, rfl⟩
 unfold L.zkip.J3 at h
 refine AW.ch h I ?_ ?_
 intro hc75 h
 refine AW.z I ?_
 obtain rfl := hb64 _ (oi h).symm
 replace h := hR63
 replace h := se_r h
 obtain rfl := oi h
 exact AW.ret pr
 intro hc75 h
 refine AW.skip (AW.region (AO.r 2 [.k 0 (k34 + 1 : Nat)] I ⟨cast_wr hk35 hm36, J⟩ ?_))
 obtain rfl := oi h
 refine AO.nil ?_
 exact ⟨_, _, _, I, ⟨I, I⟩, ⟨I, I, I, I, I, J⟩, [], I, by decide⟩
 rintro st50 s ob ⟨rfl, rfl⟩ he
 subst he
 have h := se_l hR63
 have hk35f : decide (((f_0.length : Nat) : Int) < (f_0.length : Int)) = false := by simp
 refine AW.z I (AW.seqG (fun y81 hy81 => (AW.condK (v := false) I hk35f (AW.exit ?_))))
 exact lg ⟨(), h, I, I⟩ []
 rintro s ob ⟨j32, h, rfl, rfl⟩
 unfold L.zkip.J1 at h
 refine AW.z I ?_
 obtain rfl := oi h
 exact AW.ret pr
theorem L.znpg_ok (b_0 : Bounds) (r : Bool) (h : L.znpg b_0 = r) : ACalls Tryz.env 66 [.agg (Bounds.row b_0)] [] (fun x new => x = .v (.bool r) ∧ new = []) := by
 refine ACalls.of_body Tryz.func66 rfl rfl rfl (fun C hC => ?_)
 unfold L.znpg at h
 refine AW.seqG (fun y1 hy1 => (AW.region (AO.act [] I (AX.box (cs := Bounds.row b_0) (m := 2) I I I dS (fun b2 => (AO.q 1 I (AO.nil ?_)))))))
 subst hy1
 refine AW.cutX (fun s ob => s = [(2, .v (.bool (decide (b_0.Low ≤ b_0.High) && (decide (b_0.Low ≥ (-1125899906842624)) && decide (b_0.High ≤ 1125899906842624)))))] ∧ ob = []) [] J ?_ ?_
 refine AW.region (AO.r 6 [.o 1 0, .o 3 0] I ⟨I, I, J⟩ ?_)
 rcases bt (decide (b_0.Low ≤ b_0.High)) with hg6 | hg6
 refine AO.known 8 I hg6 (AO.r 5 [.o 1 0] I ⟨I, J⟩ ?_)
 rcases bt (decide (b_0.Low ≥ (-1125899906842624))) with hg7 | hg7
 refine AO.known 13 I hg7 (AO.r 5 [.o 1 0] I ⟨I, J⟩ (AO.nil ?_))
 exact lf ⟨I, I⟩ ⟨(get_b (by simp only [hg6, hg7, bz])), J⟩ [] I
 refine AO.known 13 I hg7 (AO.q 5 I (AO.nil ?_))
 exact lf ⟨I, I⟩ ⟨(get_b (by simp only [hg6, hg7, bz])), J⟩ [] I
 refine AO.known 8 I hg6 (AO.q 10 I (AO.nil ?_))
 exact lf ⟨I, I⟩ ⟨(get_b (by simp only [hg6, bz])), J⟩ [] I
 rintro s ob ⟨rfl, rfl⟩
 obtain rfl := h
 exact AW.ret pr
theorem L.zkpq_ok (l_0 : List Int) (n_1 : Int) (r : List Int) (h : L.zkpq l_0 n_1 = some r) : ACalls Tryz.env 104 [.list 1 (l_0.map rI), .V n_1] [] (fun x new => x = .list 1 (r.map rI) ∧ new = []) := by
 refine ACalls.of_body Tryz.func104 rfl rfl rfl (fun C hC => ?_)
 unfold L.zkpq at h
 refine AW.z I (AW.z I (AW.cutX (fun s ob => ∃ (j22 : Int), L.zkpq.J1 l_0 n_1 j22 = some r ∧ s = [(5, .V j22)] ∧ ob = []) [(0, _), (1, _)] ⟨I, I, J⟩ ?_ ?_))
 refine AW.block ?_
 obtain ⟨o83, hL84, hR85⟩ := ob_some h
 clear h
 refine AW.loopX hL84 [(0, _), (1, _)] ⟨I, I, J⟩ (fun (st77 : Int) s ob => s = [(5, .V st77)] ∧ ob = []) ⟨I, I⟩ ⟨I, J⟩ ⟨[], I, by decide⟩ ?_
 rintro st77 r87 s ob ⟨rfl, rfl⟩ h hb86
 unfold L.zkpq.B4 at h
 refine AW.seq (AW.cutX (fun s ob => ∃ (j91 : Bool), L.zkpq.J5 st77 j91 = some r87 ∧ s = [(17, .v (.bool j91))] ∧ ob = []) [(0, _), (1, _), (5, _)] ⟨I, I, I, J⟩ ?_ ?_)
 refine AW.region (AO.r 5 [.l 2 (l_0.length : Int)] I ⟨len_m, J⟩ ?_)
 rcases bt (decide (st77 < (l_0.length : Int))) with hg93 | hg93
 replace h := ife_t hg93 h
 obtain ⟨p94, hp95, h⟩ := ob_some h
 obtain ⟨hp95i, hp95x⟩ := ix_some hp95
 refine AO.known 10 I hg93 (AO.r 7 [.x 2 p94.1 (rI p94.2)] I ⟨⟨hp95i, map_get hp95x⟩, J⟩ (AO.nil ?_))
 exact lg ⟨decide (p94.2 < n_1), h, I, I⟩ []
 replace h := ife_f hg93 h
 refine AO.known 10 I hg93 (AO.q 7 I (AO.nil ?_))
 exact lg ⟨false, h, I, I⟩ []
 rintro s ob ⟨j91, h, rfl, rfl⟩
 unfold L.zkpq.J5 at h
 refine AW.ch h I ?_ ?_
 intro hc92 h
 refine AW.skip (AW.block (AW.region (AO.q 3 I ?_)))
 obtain rfl := oi h
 refine AO.nil ?_
 exact ⟨_, _, _, I, ⟨I, I⟩, ⟨I, I, I, J⟩, [], I, by decide⟩
 intro hc92 h
 obtain rfl := hb86 _ (oi h).symm
 replace h := hR85
 refine AW.exit ?_
 exact lg ⟨st77, h, I, I⟩ []
 rintro s ob ⟨j22, h, rfl, rfl⟩
 unfold L.zkpq.J1 at h
 refine AW.seqG (fun y23 hy23 => (AW.cutX (fun s ob => ∃ (j27 : Bool), L.zkpq.J2 l_0 n_1 j22 j27 = some r ∧ s = [(31, .v (.bool j27))] ∧ ob = []) [(0, _), (1, _), (5, _)] ⟨I, I, I, J⟩ ?_ ?_))
 refine AW.region (AO.r 5 [.l 2 (l_0.length : Int)] I ⟨len_m, J⟩ ?_)
 rcases bt (decide (j22 < (l_0.length : Int))) with hg61 | hg61
 replace h := ife_t hg61 h
 obtain ⟨p62, hp63, h⟩ := ob_some h
 obtain ⟨hp63i, hp63x⟩ := ix_some hp63
 refine AO.known 24 I hg61 (AO.r 7 [.x 2 p62.1 (rI p62.2)] I ⟨⟨hp63i, map_get hp63x⟩, J⟩ (AO.nil ?_))
 exact lg ⟨(p62.2 == n_1), h, I, I⟩ []
 replace h := ife_f hg61 h
 refine AO.known 24 I hg61 (AO.q 7 I (AO.nil ?_))
 exact lg ⟨false, h, I, I⟩ []
 rintro s ob ⟨j27, h, rfl, rfl⟩
 unfold L.zkpq.J2 at h
 refine AW.ch h I ?_ ?_
 intro hc28 h
 refine AW.z I ?_
 obtain rfl := oi h
 exact AW.ret pr
 intro hc28 h
 refine AW.skip ?_
 subst hy23
 refine AW.cutX (fun s ob => ∃ (j44 : List Int) (v45 : Value), L.zkpq.J3 j44 = some r ∧ s = [(4, .v v45)] ∧ ob = [.us v45 3 1 (j44.map rI)]) [] J ?_ ?_
 obtain ⟨l47, hx48, h⟩ := ob_some h
 obtain ⟨hx48a, hx48b, hx481, hx482, hx483, hx484, hx485⟩ := sub_some hx48
 obtain ⟨l49, hx50, h⟩ := ob_some h
 obtain ⟨l53, hx54, h⟩ := ob_some h
 obtain ⟨l56, hx57, h⟩ := ob_some h
 obtain ⟨hx57a, hx57b, hx571, hx572, hx573, hx574, hx575⟩ := sub_some hx57
 obtain ⟨l58, hx59, h⟩ := ob_some h
 refine AW.rd (.still 1 (.still 2 (.still 3 (.still 5 (.still 8 (.still 9 (.still 10 (.two 0 6 (.two 4 6 (.act 6 (.act 7 (.act 11 (.still 12 .nil)))) (.act 4 (.act 7 (.act 11 (.still 12 .nil))))) (.act 0 (.act 4 (.act 7 (.act 11 (.still 12 .nil))))))))))))) [] [] I (AP.q 2 I (AP.op I (Yp.subL hx48a hx48b 0 I I I I I (bnd0 hx481) ⟨_, _, I, hx482⟩ I hx483 hx484 hx485) I (AP.q 3 I (AP.op I (Yp.subL hx57a hx57b 0 I I I I I ⟨_, _, I, hx571⟩ (bndL hx572) I hx573 hx574 hx575) I (AP.two ?_ ?_)))))
 refine AP.act [] I I I (AX.buildSlice (sz := 1) (es := ([] : List Int).map rI) I I I I I I I I I I I dS (fun v46 => (AP.two ?_ ?_)))
 refine AP.act [0] I I I (AX.ap 0 I hx50 (fun v51 => (AP.act [] I I I (AX.lt 1 (([n_1] : List Int).map rI) (AP.act [0] I I I (AX.ap 0 I hx54 (fun v55 => (AP.act [0] I I I (AX.ap 0 I hx59 (fun v60 => (AP.q 1 I (AP.ofAO (AO.nil ?_)))))))))))))
 exact lg ⟨l58, v60, h, I, I⟩ [0]
 refine AP.act [] I I I (AX.lt 1 (([n_1] : List Int).map rI) (AP.act [0] I I I (AX.ap 0 I hx50 (fun v51 => (AP.act [0] I I I (AX.ap 0 I hx54 (fun v55 => (AP.act [0] I I I (AX.ap 0 I hx59 (fun v60 => (AP.q 1 I (AP.ofAO (AO.nil ?_)))))))))))))
 exact lg ⟨l58, v60, h, I, I⟩ [0]
 refine AP.act [] I I I (AX.lt 1 (([n_1] : List Int).map rI) (AP.act [] I I I (AX.buildSlice (sz := 1) (es := ([] : List Int).map rI) I I I I I I I I I I I dS (fun v46 => (AP.act [0] I I I (AX.ap 0 I hx50 (fun v51 => (AP.act [0] I I I (AX.ap 0 I hx54 (fun v55 => (AP.act [0] I I I (AX.ap 0 I hx59 (fun v60 => (AP.q 1 I (AP.ofAO (AO.nil ?_))))))))))))))))
 exact lg ⟨l58, v60, h, I, I⟩ [0]
 rintro s ob ⟨j44, v45, h, rfl, rfl⟩
 unfold L.zkpq.J3 at h
 refine AW.ghost (Ghost.freeze [0] (K := [.us v45 3 1 (j44.map rI)]) I [(4, .list 1 (j44.map rI))] ⟨⟨_, I, .us 0 I⟩, J⟩ (ob' := []) (.rest _)) ?_
 obtain rfl := oi h
 exact AW.ret pr
theorem L.zkrt_ok (s_0 : Segment) (f_1 : List Piece) (r : List Int) (h : L.zkrt s_0 f_1 = some r) : ACalls Tryz.env 68 [.agg (Segment.row s_0), .list 2 (f_1.map Piece.row)] [] (fun x new => x = .list 1 (r.map rI) ∧ new = []) := by
 refine ACalls.of_body Tryz.func68 rfl rfl rfl (fun C hC => ?_)
 unfold L.zkrt at h
 refine AW.seqG (fun y1 hy1 => (AW.region (AO.act [] I (AX.box (cs := Segment.row s_0) (m := 7) I I I dS (fun b2 => (AO.q 1 I (AO.nil ?_)))))))
 subst hy1
 refine AW.z I (AW.cutX (fun s ob => ∃ (j30 : List Int), L.zkrt.J1 f_1 j30 = some r ∧ s = [(5, .list 1 (j30.map rI))] ∧ ob = []) [(1, _)] ⟨I, J⟩ ?_ ?_)
 refine AW.zr [.o 1 0, .l 2 (s_0.Points.length : Int)] I ⟨len_m, I, J⟩ (AW.block (AW.listMax 11 I (fun hm98 => ?_)))
 replace hm98 : s_0.Points.length ≤ 9223372036854775806 := by rw [List.length_map] at hm98; omega
 refine AW.ghost (Ghost.freeze [] (K := []) I [(5, .list 1 ([].map rI))] ⟨⟨_, I, .nil _⟩, J⟩ (ob' := [.arr b2 77 7 1 [Segment.row s_0]]) (.rest _)) ?_
 obtain ⟨o119, hL120, hR121⟩ := ob_some h
 clear h
 refine AW.forY hL120 [(1, _), (11, _), (12, _)] ⟨I, I, I, J⟩ (fun (k96 : Nat) (st113 : List Int) s ob => s = [(13, .V (k96 : Int)), (5, .list 1 (st113.map rI))] ∧ ob = []) ⟨I, I⟩ ⟨I, I, J⟩ ⟨[], I, by decide⟩ ?_ ?_
 rintro k96 x99 st113 r123 s ob hx100 hk97 ⟨rfl, rfl⟩ h
 unfold L.zkrt.B4 at h
 have hk97t : decide ((k96 : Int) < (s_0.Points.length : Int)) = true := decide_eq_true (by omega)
 refine AW.z I (AW.seqG (fun y125 hy125 => (AW.condK (v := true) I hk97t (AW.skip ?_))))
 subst hy125
 refine AW.seq (AW.block (AW.seq (AW.region (AO.r 2 [.x 0 k96 (Point.row x99)] I ⟨⟨I, map_get hx100⟩, J⟩ (AO.act [] I (AX.alloc (cs := [.V 0, .V 0, .V 0]) (m := 3) I I I I I dS (fun b126 => (AO.act [0] I (AX.store 0 0 0 (es' := [Point.row x99]) I I I I I I I I (le_ble I) I I (AO.nil ?_))))))))))
 obtain ⟨r127, hx128, h⟩ := ob_some h
 refine AW.region (AO.r 3 [.o 2 0] I ⟨I, J⟩ (AO.act [] I (AX.call0 I I I (L.zkpq_ok _ _ _ hx128) dS ?_)))
 rintro _ _ ⟨rfl, rfl⟩
 refine AO.q 1 I (AO.nil (AW.region (AO.r 2 [.k 0 (k96 + 1 : Nat)] I ⟨cast_wr hk97 hm98, J⟩ ?_)))
 obtain rfl := oi h
 refine AO.nil ?_
 exact lg ⟨I, I⟩ []
 rintro st113 s ob ⟨rfl, rfl⟩ he
 subst he
 have h := hR121
 have hk97f : decide (((s_0.Points.length : Nat) : Int) < (s_0.Points.length : Int)) = false := by simp
 refine AW.z I (AW.seqG (fun y130 hy130 => (AW.condK (v := false) I hk97f (AW.exit ?_))))
 exact lg ⟨st113, h, I, I⟩ []
 rintro s ob ⟨j30, h, rfl, rfl⟩
 unfold L.zkrt.J1 at h
 refine AW.z I (AW.cutX (fun s ob => ∃ (j58 : List Int), L.zkrt.J2 j58 = some r ∧ s = [(5, .list 1 (j58.map rI))] ∧ ob = []) [] J ?_ ?_)
 refine AW.zr [.l 1 (f_1.length : Int)] I ⟨len_m, J⟩ (AW.block (AW.listMax 22 I (fun hm62 => ?_)))
 replace hm62 : f_1.length ≤ 9223372036854775806 := by rw [List.length_map] at hm62; omega
 obtain ⟨o83, hL84, hR85⟩ := ob_some h
 clear h
 refine AW.forY hL84 [(1, _), (23, _)] ⟨I, I, J⟩ (fun (k60 : Nat) (st77 : (List Int) × Int) s ob => s = [(24, .V (k60 : Int)), (5, .list 1 (st77.1.map rI)), (8, .V st77.2)] ∧ ob = []) ⟨I, I⟩ ⟨I, I, I, J⟩ ⟨[], I, by decide⟩ ?_ ?_
 rintro k60 x63 st77 r87 s ob hx64 hk61 ⟨rfl, rfl⟩ h
 unfold L.zkrt.B3 at h
 have hk61t : decide ((k60 : Int) < (f_1.length : Int)) = true := decide_eq_true (by omega)
 refine AW.z I (AW.seqG (fun y89 hy89 => (AW.condK (v := true) I hk61t (AW.skip ?_))))
 subst hy89
 refine AW.seq (AW.block (AW.z I (AW.zr [.x 3 k60 (Piece.row x63)] I ⟨⟨I, map_get hx64⟩, J⟩ ?_)))
 obtain ⟨r91, hx92, h⟩ := ob_some h
 refine AW.region (AO.q 2 I (AO.act [] I (AX.call0 I I I (L.zkpq_ok _ _ _ hx92) dS ?_)))
 rintro _ _ ⟨rfl, rfl⟩
 refine AO.q 1 I (AO.nil (AW.region (AO.r 2 [.k 0 (k60 + 1 : Nat)] I ⟨cast_wr hk61 hm62, J⟩ ?_)))
 obtain rfl := oi h
 refine AO.nil ?_
 exact lg ⟨I, I⟩ []
 rintro st77 s ob ⟨rfl, rfl⟩ he
 subst he
 have h := hR85
 have hk61f : decide (((f_1.length : Nat) : Int) < (f_1.length : Int)) = false := by simp
 refine AW.z I (AW.seqG (fun y94 hy94 => (AW.condK (v := false) I hk61f (AW.exit ?_))))
 exact lg ⟨st77.1, h, I, I⟩ []
 rintro s ob ⟨j58, h, rfl, rfl⟩
 unfold L.zkrt.J2 at h
 refine AW.z I ?_
 obtain rfl := oi h
 exact AW.ret pr
theorem L.zqbz_ok (f_0 : List Piece) (place_1 : Int) (r : Int) (h : L.zqbz f_0 place_1 = some r) : ACalls Tryz.env 105 [.list 2 (f_0.map Piece.row), .V place_1] [] (fun x new => x = .V r ∧ new = []) := by
 refine ACalls.of_body Tryz.func105 rfl rfl rfl (fun C hC => ?_)
 unfold L.zqbz at h
 refine AW.z I (AW.seqG (fun y2 hy2 => (AW.cutX (fun s ob => ∃ (j6 : Bool), L.zqbz.J1 f_0 place_1 j6 = some r ∧ s = [(13, .v (.bool j6))] ∧ ob = []) [(0, _), (1, _)] ⟨I, I, J⟩ ?_ ?_)))
 obtain ⟨r72, hx73, h⟩ := ob_some h
 refine AW.region (AO.q 1 I (AO.c (L.zmux_ok _ _ hx73) (AO.q 2 I ?_)))
 rcases bt ((!r72)) with hg74 | hg74
 replace h := ife_t hg74 h
 refine AO.known 10 I hg74 (AO.q 3 I (AO.nil ?_))
 exact lg ⟨true, h, I, I⟩ []
 replace h := ife_f hg74 h
 refine AO.known 10 I hg74 (AO.q 3 I (AO.nil ?_))
 exact lg ⟨decide (place_1 < 0), h, I, I⟩ []
 rintro s ob ⟨j6, h, rfl, rfl⟩
 unfold L.zqbz.J1 at h
 refine AW.ch h I ?_ ?_
 intro hc7 h
 refine AW.z I ?_
 obtain rfl := oi h
 exact AW.ret pr
 intro hc7 h
 refine AW.skip ?_
 subst hy2
 refine AW.cutX (fun s ob => ∃ (j34 : Unit), L.zqbz.J2 j34 = some r ∧ s = [] ∧ ob = []) [] J ?_ ?_
 refine AW.zr [.l 1 (f_0.length : Int)] I ⟨len_m, J⟩ (AW.block (AW.listMax 14 I (fun hm38 => ?_)))
 replace hm38 : f_0.length ≤ 9223372036854775806 := by rw [List.length_map] at hm38; omega
 obtain ⟨o59, hL60, hR61⟩ := ob_some h
 clear h
 refine AW.forX hL60 [(14, _), (15, _)] ⟨I, I, J⟩ (fun (k36 : Nat) (st53 : Int) s ob => s = [(16, .V (k36 : Int)), (1, .V st53)] ∧ ob = []) ⟨I, I⟩ ⟨I, I, J⟩ ⟨[], I, by decide⟩ ?_ ?_
 rintro k36 x39 st53 r63 s ob hx40 hk37 ⟨rfl, rfl⟩ h hb62
 unfold L.zqbz.B3 at h
 have hk37t : decide ((k36 : Int) < (f_0.length : Int)) = true := decide_eq_true (by omega)
 refine AW.z I (AW.seqG (fun y65 hy65 => (AW.condK (v := true) I hk37t (AW.skip ?_))))
 subst hy65
 refine AW.seq (AW.block (AW.seqG (fun y66 hy66 => (AW.region (AO.r 2 [.x 0 k36 (Piece.row x39)] I ⟨⟨I, map_get hx40⟩, J⟩ (AO.act [] I (AX.alloc (cs := [.V 0, .V 0]) (m := 2) I I I I I dS (fun b67 => (AO.act [0] I (AX.store 0 0 0 (es' := [Piece.row x39]) I I I I I I I I (le_ble I) I I (AO.nil ?_)))))))))))
 subst hy66
 refine AW.seq (AW.zr [.o 2 0] I ⟨I, J⟩ (AW.ch h I ?_ ?_))
 intro hc68 h
 refine AW.zr [.o 1 0] I ⟨I, J⟩ ?_
 obtain rfl := hb62 _ (oi h).symm
 replace h := hR61
 replace h := se_r h
 refine AW.ghost g0 ?_
 obtain rfl := oi h
 exact AW.ret pr
 intro hc68 h
 refine AW.skip (AW.tr [.o 2 0] I ⟨I, J⟩ (AW.region (AO.r 2 [.k 0 (k36 + 1 : Nat)] I ⟨cast_wr hk37 hm38, J⟩ ?_)))
 obtain rfl := oi h
 refine AO.nil ?_
 exact ⟨_, _, _, I, ⟨I, I⟩, ⟨I, I, I, I, J⟩, [], I, by decide⟩
 rintro st53 s ob ⟨rfl, rfl⟩ he
 subst he
 have h := se_l hR61
 have hk37f : decide (((f_0.length : Nat) : Int) < (f_0.length : Int)) = false := by simp
 refine AW.z I (AW.seqG (fun y70 hy70 => (AW.condK (v := false) I hk37f (AW.exit ?_))))
 exact lg ⟨(), h, I, I⟩ []
 rintro s ob ⟨j34, h, rfl, rfl⟩
 unfold L.zqbz.J2 at h
 refine AW.z I ?_
 obtain rfl := oi h
 exact AW.ret pr
theorem L.zqae_ok (s_0 : Segment) (f_1 : List Piece) (batches_2 : List Batch) (products_3 : List Product) (rate_4 : Int) (a_5 : Int) (b_6 : Int) (r : Int × Int × Int × Int) (h : L.zqae s_0 f_1 batches_2 products_3 rate_4 a_5 b_6 = some r) : ACalls Tryz.env 69 [.agg (Segment.row s_0), .list 2 (f_1.map Piece.row), .list 4 (batches_2.map Batch.row), .list 5 (products_3.map Product.row), .V rate_4, .V a_5, .V b_6] [] (fun x new => x = .tup [.V r.1, .V r.2.1, .V r.2.2.1, .V r.2.2.2] ∧ new = []) := by
 refine ACalls.of_body Tryz.func69 rfl rfl rfl (fun C hC => ?_)
 unfold L.zqae at h
 refine AW.seqG (fun y1 hy1 => (AW.region (AO.act [] I (AX.box (cs := Segment.row s_0) (m := 7) I I I dS (fun b2 => (AO.q 4 I (AO.nil ?_)))))))
 subst hy1
 refine AW.seqG (fun y3 hy3 => ?_)
 obtain ⟨r4, hx5, h⟩ := ob_some h
 obtain ⟨p6, hp7, h⟩ := ob_some h
 obtain ⟨hp7i, hp7x⟩ := ix_some hp7
 obtain ⟨p8, hp9, h⟩ := ob_some h
 obtain ⟨hp9i, hp9x⟩ := ix_some hp9
 refine AW.region (AO.q 4 I (AO.c (L.zqbz_ok _ _ _ hx5) (AO.r 5 [.x 0 p6.1 (Batch.row p6.2), .x 3 p8.1 (Product.row p8.2)] I ⟨⟨hp9i, map_get hp9x⟩, ⟨hp7i, map_get hp7x⟩, J⟩ (AO.act [] I (AX.alloc (cs := [.v (.string ⟨#[]⟩), .V 0, .V 0, .V 0, .V 0]) (m := 5) I I I I I dS (fun b10 => (AO.act [1] I (AX.store 1 0 0 (es' := [Product.row p8.2]) I I I I I I I I (le_ble I) I I (AO.nil ?_)))))))))
 subst hy3
 refine AW.z I (AW.cutX (fun s ob => ∃ (j25 : Int), L.zqae.J1 s_0 rate_4 a_5 b_6 p8 j25 = some r ∧ s = [(19, .V j25)] ∧ ob = [.arr b2 77 7 1 [Segment.row s_0], .arr b10 46 5 1 [Product.row p8.2]]) [(4, _), (5, _), (6, _), (7, _), (18, _)] ⟨I, I, I, I, I, J⟩ ?_ ?_)
 refine AW.block ?_
 obtain ⟨o54, hL55, hR56⟩ := ob_some h
 clear h
 refine AW.loopX hL55 [(4, _), (5, _), (6, _), (7, _), (18, _)] ⟨I, I, I, I, I, J⟩ (fun (st50 : Int) s ob => s = [(19, .V st50)] ∧ ob = [.arr b2 77 7 1 [Segment.row s_0], .arr b10 46 5 1 [Product.row p8.2]]) ⟨I, I⟩ ⟨I, J⟩ ⟨[0, 1], I, by decide⟩ ?_
 rintro st50 r58 s ob ⟨rfl, rfl⟩ h hb57
 unfold L.zqae.B3 at h
 refine AW.seq (AW.seq ?_)
 obtain ⟨p59, hp60, h⟩ := ob_some h
 obtain ⟨hp60i, hp60x⟩ := ix_some hp60
 refine AW.tr [.o 1 0, .x 4 p59.1 (Point.row p59.2)] I ⟨⟨hp60i, map_get hp60x⟩, I, J⟩ (AW.ch h I ?_ ?_)
 intro hc61 h
 refine AW.skip (AW.block (AW.region (AO.q 3 I ?_)))
 obtain rfl := oi h
 refine AO.nil ?_
 exact ⟨_, _, _, I, ⟨I, I⟩, ⟨I, I, I, I, I, I, J⟩, [0, 1], I, by decide⟩
 intro hc61 h
 obtain rfl := hb57 _ (oi h).symm
 replace h := hR56
 refine AW.exit ?_
 exact lg ⟨st50, h, I, I⟩ [0, 1]
 rintro s ob ⟨j25, h, rfl, rfl⟩
 unfold L.zqae.J1 at h
 refine AW.cutX (fun s ob => ∃ (j32 : Int × Int × Int × Int × Int × Int) (b33 : Nat) (b34 : Nat), L.zqae.J2 s_0 rate_4 a_5 b_6 p8 j32 = some r ∧ s = [(20, .v (.pointer (some ⟨b33, 0, none⟩))), (21, .v (.pointer (some ⟨b34, 0, none⟩)))] ∧ ob = [.arr b2 77 7 1 [Segment.row s_0], .arr b10 46 5 1 [Product.row p8.2], .arr b33 104 3 1 [[.V j32.1, .V j32.2.1, .V j32.2.2.1]], .arr b34 104 3 1 [[.V j32.2.2.2.1, .V j32.2.2.2.2.1, .V j32.2.2.2.2.2]]]) [(4, _), (5, _), (6, _), (7, _), (18, _)] ⟨I, I, I, I, I, J⟩ ?_ ?_
 obtain ⟨p35, hp36, h⟩ := ob_some h
 obtain ⟨hp36i, hp36x⟩ := ix_some hp36
 obtain ⟨p37, hp38, h⟩ := ob_some h
 obtain ⟨hp38i, hp38x⟩ := ix_some hp38
 refine AW.rd (.still 0 (.still 1 (.still 2 (.still 3 (.still 4 (.still 5 (.still 6 (.still 7 (.still 8 (.still 9 (.still 10 (.two 11 12 (.act 12 (.act 13 (.act 14 .nil))) (.act 11 (.act 13 (.act 14 .nil))))))))))))))) [0] [_] I (AP.r 11 [.o 1 0, .x 3 p35.1 (Point.row p35.2), .o 6 0, .x 9 p37.1 (Point.row p37.2)] I ⟨⟨hp38i, map_get hp38x⟩, I, ⟨hp36i, map_get hp36x⟩, I, J⟩ (AP.two ?_ ?_))
 refine AP.act [] I I I (AX.alloc (cs := [.V 0, .V 0, .V 0]) (m := 3) I I I I I dS (fun b39 => (AP.act [] I I I (AX.alloc (cs := [.V 0, .V 0, .V 0]) (m := 3) I I I I I dS (fun b40 => (AP.act [2] I I I (AX.store 2 0 0 (es' := [Point.row p35.2]) I I I I I I I I (le_ble I) I I (AP.act [3] I I I (AX.store 3 0 0 (es' := [Point.row p37.2]) I I I I I I I I (le_ble I) I I (AP.ofAO (AO.nil ?_)))))))))))
 exact lg ⟨(p35.2.At, p35.2.Height, p35.2.Limit, p37.2.At, p37.2.Height, p37.2.Limit), b39, b40, h, I, I⟩ [0, 1, 2, 3]
 refine AP.act [] I I I (AX.alloc (cs := [.V 0, .V 0, .V 0]) (m := 3) I I I I I dS (fun b40 => (AP.act [] I I I (AX.alloc (cs := [.V 0, .V 0, .V 0]) (m := 3) I I I I I dS (fun b39 => (AP.act [3] I I I (AX.store 3 0 0 (es' := [Point.row p35.2]) I I I I I I I I (le_ble I) I I (AP.act [2] I I I (AX.store 2 0 0 (es' := [Point.row p37.2]) I I I I I I I I (le_ble I) I I (AP.ofAO (AO.nil ?_)))))))))))
 exact lg ⟨(p35.2.At, p35.2.Height, p35.2.Limit, p37.2.At, p37.2.Height, p37.2.Limit), b39, b40, h, I, I⟩ [0, 1, 3, 2]
 rintro s ob ⟨j32, b33, b34, h, rfl, rfl⟩
 unfold L.zqae.J2 at h
 refine AW.dz (pd 39 0 []) [0, 1, 3, 2] [_, _, _, _] [.o 1 0, .o 3 1, .o 14 0, .o 17 1, .o 20 2, .o 22 3, .o 30 2, .o 32 3] I I ⟨I, I, I, I, I, I, I, I, J⟩ (AW.ghost g0 ?_)
 obtain rfl := oi h
 exact AW.ret ⟨.inr I, [_, _, _, _], [], ⟨I, I, I, I, J⟩, sl_n, I, I⟩
theorem L.zvbp_ok (a_0 : Int) (b_1 : Int) (r : Bool) (h : L.zvbp a_0 b_1 = r) : ACalls Tryz.env 106 [.V a_0, .V b_1] [] (fun x new => x = .v (.bool r) ∧ new = []) := by
 refine ACalls.of_body Tryz.func106 rfl rfl rfl (fun C hC => ?_)
 unfold L.zvbp at h
 refine AW.z I (AW.cutX (fun s ob => s = [(4, .v (.bool (decide (b_1 ≥ 1) && (decide (b_1 ≤ 1099511627776) && (decide (a_0 ≥ (-2305843009213693952)) && decide (a_0 ≤ 2305843009213693952))))))] ∧ ob = []) [] J ?_ ?_)
 refine AW.region (AO.q 3 I ?_)
 rcases bt (decide (b_1 ≥ 1)) with hg6 | hg6
 refine AO.known 7 I hg6 (AO.q 4 I ?_)
 rcases bt (decide (b_1 ≤ 1099511627776)) with hg7 | hg7
 refine AO.known 11 I hg7 (AO.q 4 I ?_)
 rcases bt (decide (a_0 ≥ (-2305843009213693952))) with hg8 | hg8
 refine AO.known 15 I hg8 (AO.q 4 I (AO.nil ?_))
 exact lf ⟨I, I⟩ ⟨(get_b (by simp only [hg6, hg7, hg8, bz])), J⟩ [] I
 refine AO.known 15 I hg8 (AO.q 4 I (AO.nil ?_))
 exact lf ⟨I, I⟩ ⟨(get_b (by simp only [hg6, hg7, hg8, bz])), J⟩ [] I
 refine AO.known 11 I hg7 (AO.q 8 I (AO.nil ?_))
 exact lf ⟨I, I⟩ ⟨(get_b (by simp only [hg6, hg7, bz])), J⟩ [] I
 refine AO.known 7 I hg6 (AO.q 12 I (AO.nil ?_))
 exact lf ⟨I, I⟩ ⟨(get_b (by simp only [hg6, bz])), J⟩ [] I
 rintro s ob ⟨rfl, rfl⟩
 obtain rfl := h
 exact AW.ret pr
theorem L.zulm_ok (a_0 : Int) (b_1 : Int) (r : Int) (h : L.zulm a_0 b_1 = some r) : ACalls Tryz.env 70 [.V a_0, .V b_1] [] (fun x new => x = .V r ∧ new = []) := by
 refine ACalls.of_body Tryz.func70 rfl rfl rfl (fun C hC => ?_)
 unfold L.zulm at h
 refine AW.z I (AW.seqG (fun y2 hy2 => (AW.seq (AW.region (AO.q 2 I (AO.c (L.zvbp_ok a_0 b_1 _ I) (AO.q 1 I (AO.nil (AW.ch h I ?_ ?_)))))))))
 intro hc3 h
 refine AW.z I ?_
 obtain rfl := oi h
 exact AW.ret pr
 intro hc3 h
 refine AW.skip ?_
 subst hy2
 refine AW.seqG (fun y4 hy4 => ?_)
 obtain ⟨x5, hx6, h⟩ := ob_some h
 refine AW.tr [.f 2 (.V x5)] I ⟨Yp.yd (Yp.binI (c := x5) I I (quo_some hx6)), J⟩ ?_
 subst hy4
 refine AW.cutX (fun s ob => ∃ (j10 : Int), L.zulm.J1 j10 = some r ∧ s = [(5, .V j10)] ∧ ob = []) [] J ?_ ?_
 refine AW.seq ?_
 obtain ⟨x11, hx12, h⟩ := ob_some h
 refine AW.tr [.f 2 (.V x11)] I ⟨Yp.yd (Yp.binI (c := x11) I I (rem_some hx12)), J⟩ (AW.ch h I ?_ ?_)
 intro hc13 h
 refine AW.t I ?_
 exact lg ⟨wr (x5 + 1), h, I, I⟩ []
 intro hc13 h
 refine AW.skip ?_
 exact lg ⟨x5, h, I, I⟩ []
 rintro s ob ⟨j10, h, rfl, rfl⟩
 unfold L.zulm.J1 at h
 refine AW.z I ?_
 obtain rfl := oi h
 exact AW.ret pr
theorem L.zfsa_ok (a_0 : Int) (b_1 : Int) (r : Int) (h : L.zfsa a_0 b_1 = some r) : ACalls Tryz.env 71 [.V a_0, .V b_1] [] (fun x new => x = .V r ∧ new = []) := by
 refine ACalls.of_body Tryz.func71 rfl rfl rfl (fun C hC => ?_)
 unfold L.zfsa at h
 refine AW.z I (AW.seqG (fun y2 hy2 => (AW.seq (AW.region (AO.q 2 I (AO.c (L.zvbp_ok a_0 b_1 _ I) (AO.q 1 I (AO.nil (AW.ch h I ?_ ?_)))))))))
 intro hc3 h
 refine AW.z I ?_
 obtain rfl := oi h
 exact AW.ret pr
 intro hc3 h
 refine AW.skip ?_
 subst hy2
 refine AW.seqG (fun y4 hy4 => ?_)
 obtain ⟨x5, hx6, h⟩ := ob_some h
 refine AW.tr [.f 2 (.V x5)] I ⟨Yp.yd (Yp.binI (c := x5) I I (quo_some hx6)), J⟩ ?_
 subst hy4
 refine AW.cutX (fun s ob => ∃ (j10 : Int), L.zfsa.J1 j10 = some r ∧ s = [(5, .V j10)] ∧ ob = []) [] J ?_ ?_
 refine AW.seq ?_
 obtain ⟨x11, hx12, h⟩ := ob_some h
 refine AW.tr [.f 2 (.V x11)] I ⟨Yp.yd (Yp.binI (c := x11) I I (rem_some hx12)), J⟩ (AW.ch h I ?_ ?_)
 intro hc13 h
 refine AW.t I ?_
 exact lg ⟨wr (x5 - 1), h, I, I⟩ []
 intro hc13 h
 refine AW.skip ?_
 exact lg ⟨x5, h, I, I⟩ []
 rintro s ob ⟨j10, h, rfl, rfl⟩
 unfold L.zfsa.J1 at h
 refine AW.z I ?_
 obtain rfl := oi h
 exact AW.ret pr
theorem L.zwrr_ok (s_0 : Segment) (f_1 : List Piece) (batches_2 : List Batch) (products_3 : List Product) (rate_4 : Int) (in_5 : Bounds) (r : (List Level) × Int) (h : L.zwrr s_0 f_1 batches_2 products_3 rate_4 in_5 = some r) : ACalls Tryz.env 34 [.agg (Segment.row s_0), .list 2 (f_1.map Piece.row), .list 4 (batches_2.map Batch.row), .list 5 (products_3.map Product.row), .V rate_4, .agg (Bounds.row in_5)] [] (fun x new => ∃ (u0 : Value), x = .tup [.v u0, .V r.2] ∧ new = [.us u0 81 3 (r.1.map Level.row)]) := by
 refine ACalls.of_body Tryz.func34 rfl rfl rfl (fun C hC => ?_)
 unfold L.zwrr at h
 refine AW.seqG (fun y1 hy1 => (AW.region (AO.act [] I (AX.box (cs := Segment.row s_0) (m := 7) I I I dS (fun b2 => (AO.act [] I (AX.box (cs := Bounds.row in_5) (m := 2) I I I dS (fun b3 => (AO.q 2 I (AO.nil ?_))))))))))
 subst hy1
 refine AW.seqG (fun y4 hy4 => (AW.seq ?_))
 obtain ⟨r5, hx6, h⟩ := ob_some h
 refine AW.region (AO.r 2 [.o 0 0] I ⟨I, J⟩ (AO.c (L.zjiy_ok _ _ _ hx6) (AO.q 1 I (AO.nil (AW.z I (AW.ch h I ?_ ?_))))))
 intro hc7 h
 refine AW.z I (AW.ghost (Ghost.nilU 81 3) (AW.ghost (Ghost.pick [2] (K := [.us (.slice none 0 0) 81 3 ([].map Level.row)]) I (by decide)) ?_))
 obtain rfl := oi h
 rotate_left
 intro hc7 h
 refine AW.skip ?_
 subst hy4
 refine AW.seqG (fun y8 hy8 => (AW.seq ?_))
 obtain ⟨r9, hx10, h⟩ := ob_some h
 refine AW.region (AO.q 1 I (AO.c (L.zjqp_ok _ _ hx10) (AO.q 1 I (AO.nil (AW.z I (AW.ch h I ?_ ?_))))))
 intro hc11 h
 refine AW.z I (AW.ghost (Ghost.nilU 81 3) (AW.ghost (Ghost.pick [2] (K := [.us (.slice none 0 0) 81 3 ([].map Level.row)]) I (by decide)) ?_))
 obtain rfl := oi h
 rotate_left
 intro hc11 h
 refine AW.skip ?_
 subst hy8
 refine AW.seqG (fun y12 hy12 => (AW.block (AW.seqG (fun y13 hy13 => ?_))))
 obtain ⟨r14, hx15, h⟩ := ob_some h
 refine AW.region (AO.q 3 I (AO.c (L.zkip_ok _ _ _ _ hx15) (AO.q 2 I (AO.nil ?_))))
 subst hy13
 refine AW.ch h I ?_ ?_
 intro hc16 h
 refine AW.z I (AW.ghost (Ghost.nilU 81 3) (AW.ghost (Ghost.pick [2] (K := [.us (.slice none 0 0) 81 3 ([].map Level.row)]) I (by decide)) ?_))
 obtain rfl := oi h
 any_goals
  exact AW.ret ⟨.inr I, [_, _], [.us (.slice none 0 0) 81 3 ([].map Level.row)], ⟨I, I, J⟩, sl_c I (sl_n), ⟨(.slice none 0 0), I, I⟩⟩
 intro hc16 h
 refine AW.cutX (fun s ob => s = [(47, .v (.bool ((rate_4 == 0) || (decide (rate_4 < (-1000)) || (decide (rate_4 > 1000) || (!(L.znpg in_5)))))))] ∧ ob = [.arr b2 77 7 1 [Segment.row s_0], .arr b3 71 2 1 [Bounds.row in_5]]) [(1, _), (2, _), (3, _), (4, _), (6, _), (11, _)] ⟨I, I, I, I, I, I, J⟩ ?_ ?_
 refine AW.region (AO.q 3 I ?_)
 rcases bt ((rate_4 == 0)) with hg21 | hg21
 refine AO.known 50 I hg21 (AO.q 13 I (AO.nil ?_))
 exact lf ⟨I, I⟩ ⟨(get_b (by simp only [hg21, bz])), I, I, I, I, I, I, J⟩ [0, 1] I
 refine AO.known 50 I hg21 (AO.q 4 I ?_)
 rcases bt (decide (rate_4 < (-1000))) with hg22 | hg22
 refine AO.known 54 I hg22 (AO.q 9 I (AO.nil ?_))
 exact lf ⟨I, I⟩ ⟨(get_b (by simp only [hg21, hg22, bz])), I, I, I, I, I, I, J⟩ [0, 1] I
 refine AO.known 54 I hg22 (AO.q 4 I ?_)
 rcases bt (decide (rate_4 > 1000)) with hg23 | hg23
 refine AO.known 58 I hg23 (AO.q 5 I (AO.nil ?_))
 exact lf ⟨I, I⟩ ⟨(get_b (by simp only [hg21, hg22, hg23, bz])), I, I, I, I, I, I, J⟩ [0, 1] I
 refine AO.known 58 I hg23 (AO.r 1 [.o 0 1] I ⟨I, J⟩ (AO.gt I I I (AO.c (L.znpg_ok in_5 _ I) (AO.q 3 I (AO.nil ?_)))))
 exact lf ⟨I, I⟩ ⟨(get_b (by simp only [hg21, hg22, hg23, bz])), I, I, I, I, I, I, J⟩ [0, 1] I
 rintro s ob ⟨rfl, rfl⟩
 refine AW.ch h I ?_ ?_
 intro hc24 h
 refine AW.z I (AW.ghost (Ghost.nilU 81 3) (AW.ghost (Ghost.pick [2] (K := [.us (.slice none 0 0) 81 3 ([].map Level.row)]) I (by decide)) ?_))
 obtain rfl := oi h
 exact AW.ret ⟨.inr I, [_, _], [.us (.slice none 0 0) 81 3 ([].map Level.row)], ⟨I, I, J⟩, sl_c I (sl_n), ⟨(.slice none 0 0), I, I⟩⟩
 intro hc24 h
 refine AW.skip ?_
 subst hy12
 refine AW.seqG (fun y25 hy25 => ?_)
 obtain ⟨r26, hx27, h⟩ := ob_some h
 refine AW.region (AO.r 2 [.o 0 0] I ⟨I, J⟩ (AO.act [] I (AX.call0 I I I (L.zkrt_ok _ _ _ hx27) dS ?_)))
 rintro _ _ ⟨rfl, rfl⟩
 refine AO.q 1 I (AO.nil ?_)
 subst hy25
 refine AW.seqG (fun y28 hy28 => ?_)
 obtain ⟨l29, hx30, h⟩ := ob_some h
 obtain ⟨m31, hx30i, hx30m, hx30r⟩ := mk_some hx30
 refine AW.region (AO.r 2 [.l 1 (r26.length : Int)] I ⟨len_m, J⟩ (AO.act [] I (AX.makeU (sz := 3) I I I I I I I I I I hx30i hx30m (rep_map (f := Level.row) hx30r I) dS (fun v32 => (AO.q 1 I (AO.nil ?_))))))
 subst hy28
 refine AW.seqG (fun y33 hy33 => (AW.region (AO.r 1 [.o 0 1] I ⟨I, J⟩ (AO.act [] I (AX.alloc (cs := [.V 0, .V 0]) (m := 2) I I I I I dS (fun b34 => (AO.act [3] I (AX.store 3 0 0 (es' := [Bounds.row in_5]) I I I I I I I I (le_ble I) I I (AO.nil ?_)))))))))
 subst hy33
 refine AW.cutX (fun s ob => ∃ (j109 : Unit), L.zwrr.J1 s_0 f_1 batches_2 products_3 rate_4 in_5 r26 l29 j109 = some r ∧ s = [] ∧ ob = [.arr b2 77 7 1 [Segment.row s_0], .us v32 81 3 (l29.map Level.row), .arr b34 71 2 1 [Bounds.row in_5]]) [(1, _), (2, _), (3, _), (4, _), (6, _), (16, _), (17, _), (18, _)] ⟨I, I, I, I, I, I, I, I, J⟩ ?_ ?_
 refine AW.z I (AW.ch h I ?_ ?_)
 intro hc275 h
 refine AW.seqG (fun y276 hy276 => ?_)
 obtain ⟨p277, hp278, h⟩ := ob_some h
 obtain ⟨hp278i, hp278x⟩ := ix_some hp278
 obtain ⟨p279, hp280, h⟩ := ob_some h
 obtain ⟨hp280i, hp280x⟩ := ix_some hp280
 refine AW.form 2 p279.1 I hp280x (fun hf281 => (AW.rd (pd 8 0 [7]) [3] [_] I (AP.r 5 [.x 2 p277.1 (rI p277.2), .o 4 0] I ⟨I, ⟨hp278i, map_get hp278x⟩, J⟩ (AP.op I (Yp.buildP (l := [.V p277.2, .V in_5.Low, .V in_5.High]) Tryz.bld81 I) I (AP.op I (Yp.indexUf (m := p279.1) I I I I I hf281 I hp280i hp280x) I (AP.act [2] I I I (AX.storeU 2 p279.1 0 I I I (map_get hp280x) I I I I (le_ble I) I (us_set (x := (⟨p277.2, in_5⟩ : Level)) I) (AP.ofAO (AO.nil ?_)))))))))
 subst hy276
 refine AW.cutX (fun s ob => ∃ (j347 : List Level), L.zwrr.J4 j347 = some r ∧ s = [] ∧ ob = [.us v32 81 3 (j347.map Level.row)]) [(17, _)] ⟨I, J⟩ ?_ ?_
 refine AW.z I (AW.block ?_)
 obtain ⟨o413, hL414, hR415⟩ := ob_some h
 clear h
 refine AW.loopX hL414 [(1, _), (2, _), (3, _), (4, _), (6, _), (16, _), (17, _), (18, _)] ⟨I, I, I, I, I, I, I, I, J⟩ (fun (st392 : (List Level) × Int × Int × Int) s ob => s = [(19, .V st392.2.2.2)] ∧ ob = [.arr b2 77 7 1 [Segment.row s_0], .us v32 81 3 (st392.1.map Level.row), .arr b34 71 2 1 [[.V st392.2.1, .V st392.2.2.1]]]) ⟨I, I⟩ ⟨I, J⟩ ⟨[0, 2, 3], I, by decide⟩ ?_
 rintro st392 r417 s ob ⟨rfl, rfl⟩ h hb416
 unfold L.zwrr.B5 at h
 refine AW.seqG (fun y418 hy418 => (AW.zr [.l 2 (r26.length : Int)] I ⟨len_m, J⟩ (AW.ch h I ?_ ?_)))
 intro hc419 h
 refine AW.skip ?_
 subst hy418
 refine AW.seq (AW.block (AW.seqG (fun y420 hy420 => ?_)))
 obtain ⟨p421, hp422, h⟩ := ob_some h
 obtain ⟨hp422i, hp422x⟩ := ix_some hp422
 obtain ⟨p423, hp424, h⟩ := ob_some h
 obtain ⟨hp424i, hp424x⟩ := ix_some hp424
 obtain ⟨r425, hx426, h⟩ := ob_some h
 refine AW.rd (pd 24 0 [14]) [0] [_] I (AP.r 14 [.o 0 0, .x 8 p421.1 (rI p421.2), .x 12 p423.1 (rI p423.2)] I ⟨⟨hp424i, map_get hp424x⟩, ⟨hp422i, map_get hp422x⟩, I, J⟩ (AP.c I (L.zqae_ok _ _ _ _ _ _ _ _ hx426) (AP.q 9 I (AP.ofAO (AO.nil ?_)))))
 subst hy420
 refine AW.seq ?_
 obtain ⟨r427, hx428, h⟩ := ob_some h
 obtain ⟨r429, hx430, h⟩ := ob_some h
 obtain ⟨r431, hx432, h⟩ := ob_some h
 obtain ⟨r433, hx434, h⟩ := ob_some h
 refine AW.rd (.still 0 (.still 1 (.still 2 (.still 3 (.still 6 (.still 7 (.still 10 (.still 11 (.still 12 (.still 13 (.still 16 (.still 17 (.act 4 (.still 5 (.act 8 (.still 9 (.act 14 (.still 15 (.act 18 (.still 19 (.still 20 (.drop 21 .nil)))))))))))))))))))))) [2] [_] I (AP.r 12 [.o 1 0, .o 7 0] I ⟨I, I, J⟩ (AP.c I (L.zulm_ok _ _ _ hx428) (AP.q 1 I (AP.c I (L.zulm_ok _ _ _ hx430) (AP.q 1 I (AP.c I (L.zfsa_ok _ _ _ hx432) (AP.q 1 I (AP.c I (L.zfsa_ok _ _ _ hx434) (AP.q 1 I (AP.p I (Yp.buildP (l := [.V (wr ((wr (st392.2.1 - r427)) - r429)), .V (wr ((wr (st392.2.2.1 - r431)) - r433))]) Tryz.bld71 I) I (AP.drop [2] I I I (AX.store 2 0 0 (es' := [[.V (wr ((wr (st392.2.1 - r427)) - r429)), .V (wr ((wr (st392.2.2.1 - r431)) - r433))]]) I I I I I I I I (le_ble I) I I (AP.ofAO ?_)))))))))))))
 refine AO.nil ?_
 obtain ⟨p435, hp436, h⟩ := ob_some h
 obtain ⟨hp436i, hp436x⟩ := ix_some hp436
 refine AW.form 1 p435.1 I hp436x (fun hf437 => (AW.rd (pd 10 0 [9]) [2] [_] I (AP.r 7 [.x 4 p423.1 (rI p423.2), .o 6 0] I ⟨I, ⟨hp424i, map_get hp424x⟩, J⟩ (AP.op I (Yp.buildP (l := [.V p423.2, .V (wr ((wr (st392.2.1 - r427)) - r429)), .V (wr ((wr (st392.2.2.1 - r431)) - r433))]) Tryz.bld81 I) I (AP.op I (Yp.indexUf (m := p435.1) I I I I I hf437 I hp436i hp436x) I (AP.act [1] I I I (AX.storeU 1 p435.1 0 I I I (map_get hp436x) I I I I (le_ble I) I (us_set (x := (⟨p423.2, (⟨wr ((wr (st392.2.1 - r427)) - r429), wr ((wr (st392.2.2.1 - r431)) - r433)⟩ : Bounds)⟩ : Level)) I) (AP.ofAO (AO.nil (AW.region (AO.q 3 I ?_)))))))))))
 obtain rfl := oi h
 refine AO.nil ?_
 exact ⟨_, _, _, I, ⟨I, I⟩, ⟨I, I, I, I, I, I, I, I, I, J⟩, [0, 1, 2], I, by decide⟩
 intro hc419 h
 obtain rfl := hb416 _ (oi h).symm
 replace h := hR415
 refine AW.exit ?_
 exact lg ⟨st392.1, h, I, I⟩ [1]
 rintro s ob ⟨j347, h, rfl, rfl⟩
 unfold L.zwrr.J4 at h
 refine AW.z I ?_
 obtain rfl := oi h
 exact AW.ret ⟨.inr I, [_, _], [.us v32 81 3 (j347.map Level.row)], ⟨I, I, J⟩, sl_c I (sl_n), ⟨v32, I, I⟩⟩
 intro hc275 h
 refine AW.skip ?_
 exact lg ⟨(), h, I, I⟩ [0, 2, 3]
 rintro s ob ⟨j109, h, rfl, rfl⟩
 unfold L.zwrr.J1 at h
 refine AW.zr [.l 1 (r26.length : Int)] I ⟨len_m, J⟩ (AW.seqG (fun y111 hy111 => ?_))
 obtain ⟨p112, hp113, h⟩ := ob_some h
 obtain ⟨hp113i, hp113x⟩ := ix_some hp113
 obtain ⟨p114, hp115, h⟩ := ob_some h
 obtain ⟨hp115i, hp115x⟩ := ix_some hp115
 refine AW.form 1 p114.1 I hp115x (fun hf116 => (AW.rd (pd 10 0 [9]) [2] [_] I (AP.r 7 [.x 4 p112.1 (rI p112.2), .o 6 0] I ⟨I, ⟨hp113i, map_get hp113x⟩, J⟩ (AP.op I (Yp.buildP (l := [.V p112.2, .V in_5.Low, .V in_5.High]) Tryz.bld81 I) I (AP.op I (Yp.indexUf (m := p114.1) I I I I I hf116 I hp115i hp115x) I (AP.act [1] I I I (AX.storeU 1 p114.1 0 I I I (map_get hp115x) I I I I (le_ble I) I (us_set (x := (⟨p112.2, in_5⟩ : Level)) I) (AP.ofAO (AO.nil ?_)))))))))
 subst hy111
 refine AW.cutX (fun s ob => ∃ (j182 : List Level), L.zwrr.J2 j182 = some r ∧ s = [] ∧ ob = [.us v32 81 3 (j182.map Level.row)]) [(17, _)] ⟨I, J⟩ ?_ ?_
 refine AW.z I (AW.block ?_)
 obtain ⟨o248, hL249, hR250⟩ := ob_some h
 clear h
 refine AW.loopX hL249 [(1, _), (2, _), (3, _), (4, _), (6, _), (16, _), (17, _), (18, _)] ⟨I, I, I, I, I, I, I, I, J⟩ (fun (st227 : (List Level) × Int × Int × Int) s ob => s = [(25, .V st227.2.2.2)] ∧ ob = [.arr b2 77 7 1 [Segment.row s_0], .us v32 81 3 (st227.1.map Level.row), .arr b34 71 2 1 [[.V st227.2.1, .V st227.2.2.1]]]) ⟨I, I⟩ ⟨I, J⟩ ⟨[0, 1, 2], I, by decide⟩ ?_
 rintro st227 r252 s ob ⟨rfl, rfl⟩ h hb251
 unfold L.zwrr.B3 at h
 refine AW.seqG (fun y253 hy253 => (AW.z I (AW.ch h I ?_ ?_)))
 intro hc254 h
 refine AW.skip ?_
 subst hy253
 refine AW.seq (AW.block (AW.seqG (fun y255 hy255 => ?_)))
 obtain ⟨p256, hp257, h⟩ := ob_some h
 obtain ⟨hp257i, hp257x⟩ := ix_some hp257
 obtain ⟨p258, hp259, h⟩ := ob_some h
 obtain ⟨hp259i, hp259x⟩ := ix_some hp259
 obtain ⟨r260, hx261, h⟩ := ob_some h
 refine AW.rd (pd 24 0 [14]) [0] [_] I (AP.r 14 [.o 0 0, .x 7 p256.1 (rI p256.2), .x 12 p258.1 (rI p258.2)] I ⟨⟨hp259i, map_get hp259x⟩, ⟨hp257i, map_get hp257x⟩, I, J⟩ (AP.c I (L.zqae_ok _ _ _ _ _ _ _ _ hx261) (AP.q 9 I (AP.ofAO (AO.nil ?_)))))
 subst hy255
 refine AW.seq ?_
 obtain ⟨r262, hx263, h⟩ := ob_some h
 obtain ⟨r264, hx265, h⟩ := ob_some h
 obtain ⟨r266, hx267, h⟩ := ob_some h
 obtain ⟨r268, hx269, h⟩ := ob_some h
 refine AW.rd (.still 0 (.still 1 (.still 2 (.still 3 (.still 6 (.still 7 (.still 8 (.still 11 (.still 12 (.still 13 (.still 14 (.still 17 (.still 18 (.still 19 (.act 4 (.still 5 (.act 9 (.still 10 (.act 15 (.still 16 (.act 20 (.still 21 (.still 22 (.drop 23 .nil)))))))))))))))))))))))) [2] [_] I (AP.r 14 [.o 1 0, .o 8 0] I ⟨I, I, J⟩ (AP.c I (L.zulm_ok _ _ _ hx263) (AP.q 1 I (AP.c I (L.zulm_ok _ _ _ hx265) (AP.q 1 I (AP.c I (L.zfsa_ok _ _ _ hx267) (AP.q 1 I (AP.c I (L.zfsa_ok _ _ _ hx269) (AP.q 1 I (AP.p I (Yp.buildP (l := [.V (wr ((wr (st227.2.1 - r262)) - r264)), .V (wr ((wr (st227.2.2.1 - r266)) - r268))]) Tryz.bld71 I) I (AP.drop [2] I I I (AX.store 2 0 0 (es' := [[.V (wr ((wr (st227.2.1 - r262)) - r264)), .V (wr ((wr (st227.2.2.1 - r266)) - r268))]]) I I I I I I I I (le_ble I) I I (AP.ofAO ?_)))))))))))))
 refine AO.nil ?_
 obtain ⟨p270, hp271, h⟩ := ob_some h
 obtain ⟨hp271i, hp271x⟩ := ix_some hp271
 refine AW.form 1 p270.1 I hp271x (fun hf272 => (AW.rd (pd 10 0 [9]) [2] [_] I (AP.r 7 [.x 4 p256.1 (rI p256.2), .o 6 0] I ⟨I, ⟨hp257i, map_get hp257x⟩, J⟩ (AP.op I (Yp.buildP (l := [.V p256.2, .V (wr ((wr (st227.2.1 - r262)) - r264)), .V (wr ((wr (st227.2.2.1 - r266)) - r268))]) Tryz.bld81 I) I (AP.op I (Yp.indexUf (m := p270.1) I I I I I hf272 I hp271i hp271x) I (AP.act [1] I I I (AX.storeU 1 p270.1 0 I I I (map_get hp271x) I I I I (le_ble I) I (us_set (x := (⟨p256.2, (⟨wr ((wr (st227.2.1 - r262)) - r264), wr ((wr (st227.2.2.1 - r266)) - r268)⟩ : Bounds)⟩ : Level)) I) (AP.ofAO (AO.nil (AW.region (AO.q 3 I ?_)))))))))))
 obtain rfl := oi h
 refine AO.nil ?_
 exact ⟨_, _, _, I, ⟨I, I⟩, ⟨I, I, I, I, I, I, I, I, I, J⟩, [0, 1, 2], I, by decide⟩
 intro hc254 h
 obtain rfl := hb251 _ (oi h).symm
 replace h := hR250
 refine AW.exit ?_
 exact lg ⟨st227.1, h, I, I⟩ [1]
 rintro s ob ⟨j182, h, rfl, rfl⟩
 unfold L.zwrr.J2 at h
 refine AW.z I ?_
 obtain rfl := oi h
 exact AW.ret ⟨.inr I, [_, _], [.us v32 81 3 (j182.map Level.row)], ⟨I, I, J⟩, sl_c I (sl_n), ⟨v32, I, I⟩⟩
end Go.Proofs.YtehbcbedipkifaaGreatDoor
