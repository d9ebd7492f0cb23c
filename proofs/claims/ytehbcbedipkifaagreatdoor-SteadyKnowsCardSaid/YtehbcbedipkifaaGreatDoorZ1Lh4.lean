/- Walks that show what functions of the program compute; printed by a program of ours. No condition. -/
import Derived.Test.YtehbcbedipkifaaGreatDoorZ1L6
import Derived.Test.YtehbcbedipkifaaGreatDoorZvLh2
import Derived.Test.YtehbcbedipkifaaGreatDoorZvLh3
set_option maxRecDepth 100000
namespace Go.Proofs.YtehbcbedipkifaaGreatDoor
open Go.Aw
set_option linter.unusedVariables false
set_option linter.unusedSimpArgs false
set_option maxHeartbeats 4000000
theorem L.zfg_ok (n_0 : Network) (p_1 : Plan) (node_2 : Int) (r : Int × Int) (h : L.zfg n_0 p_1 node_2 = some r) : ACalls Tryz.env 23 [.agg (Network.row n_0), .agg (Plan.row p_1), .V node_2] [] (fun x new => x = .tup [.V r.1, .V r.2] ∧ new = []) := by
 refine ACalls.of_body Tryz.func23 rfl rfl rfl (fun C hC => ?_)
 unfold L.zfg at h
 refine AW.seqG (fun y1 hy1 => (AW.region (AO.act [] I (AX.box (cs := Network.row n_0) (m := 6) I I I dS (fun b2 => (AO.act [] I (AX.box (cs := Plan.row p_1) (m := 3) I I I dS (fun b3 => (AO.q 2 I (AO.nil ?_))))))))))
 subst hy1
 refine AW.seqG (fun y4 hy4 => (AW.seq ?_))
 obtain ⟨r5, hx6, h⟩ := ob_some h
 refine AW.region (AO.r 2 [.o 0 0, .o 1 1] I ⟨I, I, J⟩ (AO.c (L.zbi_ok _ _ _ hx6) (AO.q 1 I (AO.nil (AW.z I (AW.ch h I ?_ ?_))))))
 intro hc7 h
 refine AW.z I (AW.ghost g0 ?_)
 obtain rfl := oi h
 exact AW.ret ⟨.inr I, [_, _], [], ⟨I, I, J⟩, sl_n, I, I⟩
 intro hc7 h
 refine AW.skip ?_
 subst hy4
 refine AW.seqG (fun y8 hy8 => (AW.cutX (fun s ob => s = [(25, .v (.bool (decide (node_2 < 0) || decide (node_2 ≥ (n_0.Nodes.length : Int)))))] ∧ ob = [.arr b2 27 6 1 [Network.row n_0], .arr b3 32 3 1 [Plan.row p_1]]) [(2, _), (3, _), (4, _)] ⟨I, I, I, J⟩ ?_ ?_))
 refine AW.region (AO.q 3 I ?_)
 rcases bt (decide (node_2 < 0)) with hg11 | hg11
 refine AO.known 19 I hg11 (AO.q 6 I (AO.nil ?_))
 exact lf ⟨I, I⟩ ⟨(get_b (by simp only [hg11, bz])), I, I, I, J⟩ [0, 1] I
 refine AO.known 19 I hg11 (AO.r 6 [.o 2 0, .l 3 (n_0.Nodes.length : Int)] I ⟨len_m, I, J⟩ (AO.nil ?_))
 exact lf ⟨I, I⟩ ⟨(get_b (by simp only [hg11, bz])), I, I, I, J⟩ [0, 1] I
 rintro s ob ⟨rfl, rfl⟩
 refine AW.ch h I ?_ ?_
 intro hc12 h
 refine AW.z I (AW.ghost g0 ?_)
 obtain rfl := oi h
 exact AW.ret ⟨.inr I, [_, _], [], ⟨I, I, J⟩, sl_n, I, I⟩
 intro hc12 h
 refine AW.skip ?_
 subst hy8
 refine AW.seq ?_
 obtain ⟨r13, hx14, h⟩ := ob_some h
 refine AW.region (AO.r 3 [.o 0 0, .o 1 1] I ⟨I, I, J⟩ (AO.c (L.zat_ok _ _ _ _ hx14) (AO.q 5 I (AO.nil (AW.z I (AW.ghost g0 ?_))))))
 obtain rfl := oi h
 exact AW.ret ⟨.inr I, [_, _], [], ⟨I, I, J⟩, sl_n, I, I⟩
theorem L.zap_ok (l_0 : List Int) (r : Bool) (h : L.zap l_0 = some r) : ACalls Tryz.env 4 [.list 1 (l_0.map rI)] [] (fun x new => x = .v (.bool r) ∧ new = []) := by
 refine ACalls.of_body Tryz.func4 rfl rfl rfl (fun C hC => ?_)
 unfold L.zap at h
 refine AW.z I (AW.seqG (fun y2 hy2 => ?_))
 obtain ⟨r3, hx4, h⟩ := ob_some h
 obtain ⟨r6, hx7, h⟩ := ob_some h
 refine AW.region (AO.q 1 I (AO.act [] I (AX.call0 I I I (L.zfk_ok _ _ hx4) dS ?_)))
 rintro _ _ ⟨b5, rfl, rfl⟩
 refine AO.act [0] I (AX.c0 [0] (L.zeh_ok b5 _ _ hx7) ?_)
 refine AO.q 6 I (AO.act [] I (AX.alloc (cs := [.v (.slice none 0 0), .v (.slice none 0 0), .v (.slice none 0 0), .v (.slice none 0 0), .V 0, .V 0]) (m := 6) I I I I I dS (fun b8 => (AO.act [] I (AX.alloc (cs := [.v (.slice none 0 0), .v (.slice none 0 0), .v (.slice none 0 0)]) (m := 3) I I I I I dS (fun b9 => (AO.act [1] I (AX.store 1 0 0 (es' := [Network.row r6.1]) I I I I I I I I (le_ble I) I I (AO.q 3 I (AO.act [2] I (AX.store 2 0 0 (es' := [Plan.row r6.2.2.2.2.1]) I I I I I I I I (le_ble I) I I (AO.nil ?_))))))))))))
 subst hy2
 refine AW.seqG (fun y10 hy10 => ?_)
 obtain ⟨r11, hx12, h⟩ := ob_some h
 refine AW.region (AO.r 5 [.o 0 1, .o 4 2] I ⟨I, I, J⟩ (AO.act [] I (AX.call0 I I I (L.zai_ok _ _ _ _ _ _ hx12) dS ?_)))
 rintro _ _ ⟨rfl, rfl⟩
 refine AO.q 3 I (AO.act [] I (AX.alloc (cs := [.v (.slice none 0 0), .v (.slice none 0 0), .v (.slice none 0 0)]) (m := 3) I I I I I dS (fun b13 => (AO.act [3] I (AX.store 3 0 0 (es' := [Pressures.row r11.1]) I I I I I I I I (le_ble I) I I (AO.q 1 I (AO.nil ?_)))))))
 subst hy10
 refine AW.seqG (fun y14 hy14 => (AW.cutX (fun s ob => s = [(60, .v (.bool ((r11.2 != 0) || (((r11.1.Known.length : Int) != (r6.1.Nodes.length : Int)) || (((r11.1.Nodes.length : Int) != (r6.1.Nodes.length : Int)) || ((r11.1.Segments.length : Int) != (r6.1.Segments.length : Int)))))))] ∧ ob = [.arr b8 27 6 1 [Network.row r6.1], .arr b9 32 3 1 [Plan.row r6.2.2.2.2.1], .arr b13 36 3 1 [Pressures.row r11.1]]) [(3, _), (7, _), (8, _)] ⟨I, I, I, J⟩ ?_ ?_))
 refine AW.region (AO.q 3 I ?_)
 rcases bt ((r11.2 != 0)) with hg19 | hg19
 refine AO.known 34 I hg19 (AO.q 26 I (AO.nil ?_))
 exact lf ⟨I, I⟩ ⟨(get_b (by simp only [hg19, bz])), I, I, I, J⟩ [1, 2, 3] I
 refine AO.known 34 I hg19 (AO.r 9 [.o 1 3, .l 2 (r11.1.Known.length : Int), .o 4 1, .l 5 (r6.1.Nodes.length : Int)] I ⟨len_m, I, len_m, I, J⟩ ?_)
 rcases bt (((r11.1.Known.length : Int) != (r6.1.Nodes.length : Int))) with hg20 | hg20
 refine AO.known 43 I hg20 (AO.q 17 I (AO.nil ?_))
 exact lf ⟨I, I⟩ ⟨(get_b (by simp only [hg19, hg20, bz])), I, I, I, J⟩ [1, 2, 3] I
 refine AO.known 43 I hg20 (AO.r 9 [.o 1 3, .l 2 (r11.1.Nodes.length : Int), .o 4 1, .l 5 (r6.1.Nodes.length : Int)] I ⟨len_m, I, len_m, I, J⟩ ?_)
 rcases bt (((r11.1.Nodes.length : Int) != (r6.1.Nodes.length : Int))) with hg21 | hg21
 refine AO.known 52 I hg21 (AO.q 8 I (AO.nil ?_))
 exact lf ⟨I, I⟩ ⟨(get_b (by simp only [hg19, hg20, hg21, bz])), I, I, I, J⟩ [1, 2, 3] I
 refine AO.known 52 I hg21 (AO.r 8 [.o 1 3, .l 2 (r11.1.Segments.length : Int), .o 4 1, .l 5 (r6.1.Segments.length : Int)] I ⟨len_m, I, len_m, I, J⟩ (AO.nil ?_))
 exact lf ⟨I, I⟩ ⟨(get_b (by simp only [hg19, hg20, hg21, bz])), I, I, I, J⟩ [1, 2, 3] I
 rintro s ob ⟨rfl, rfl⟩
 refine AW.ch h I ?_ ?_
 intro hc22 h
 refine AW.z I (AW.ghost g0 ?_)
 obtain rfl := oi h
 exact AW.ret pr
 intro hc22 h
 refine AW.skip ?_
 subst hy14
 refine AW.cutX (fun s ob => ∃ (j69 : Unit), L.zap.J1 r6 r11 j69 = some r ∧ s = [] ∧ ob = [.arr b8 27 6 1 [Network.row r6.1], .arr b9 32 3 1 [Plan.row r6.2.2.2.2.1], .arr b13 36 3 1 [Pressures.row r11.1]]) [(3, _), (7, _), (8, _)] ⟨I, I, I, J⟩ ?_ ?_
 refine AW.zr [.o 1 0, .l 2 (r6.1.Nodes.length : Int)] I ⟨len_m, I, J⟩ (AW.block (AW.listMax 62 I (fun hm142 => ?_)))
 replace hm142 : r6.1.Nodes.length ≤ 9223372036854775806 := by rw [List.length_map] at hm142; omega
 obtain ⟨o183, hL184, hR185⟩ := ob_some h
 clear h
 refine AW.forX hL184 [(3, _), (7, _), (8, _), (63, _)] ⟨I, I, I, I, J⟩ (fun (k140 : Nat) (st164 : Unit) s ob => s = [(64, .V (k140 : Int))] ∧ ob = [.arr b8 27 6 1 [Network.row r6.1], .arr b9 32 3 1 [Plan.row r6.2.2.2.2.1], .arr b13 36 3 1 [Pressures.row r11.1]]) ⟨I, I⟩ ⟨I, J⟩ ⟨[0, 1, 2], I, by decide⟩ ?_ ?_
 rintro k140 x143 st164 r187 s ob hx144 hk141 ⟨rfl, rfl⟩ h hb186
 unfold L.zap.B4 at h
 have hk141t : decide ((k140 : Int) < (r6.1.Nodes.length : Int)) = true := decide_eq_true (by omega)
 refine AW.z I (AW.seqG (fun y189 hy189 => (AW.condK (v := true) I hk141t (AW.skip ?_))))
 subst hy189
 refine AW.seq (AW.block (AW.z I (AW.seqG (fun y191 hy191 => ?_))))
 obtain ⟨r192, hx193, h⟩ := ob_some h
 refine AW.region (AO.r 3 [.o 0 0, .o 1 1] I ⟨I, I, J⟩ (AO.c (L.zfg_ok _ _ _ _ hx193) (AO.q 5 I (AO.nil ?_))))
 subst hy191
 refine AW.cutX (fun s ob => ∃ (j204 : Bool), L.zap.J5 j204 = some r187 ∧ s = [(117, .v (.bool j204))] ∧ ob = [.arr b8 27 6 1 [Network.row r6.1], .arr b9 32 3 1 [Plan.row r6.2.2.2.2.1], .arr b13 36 3 1 [Pressures.row r11.1]]) [(3, _), (7, _), (8, _), (63, _), (64, _)] ⟨I, I, I, I, I, J⟩ ?_ ?_
 rcases bt ((r192.2 != 0)) with hg206 | hg206
 replace h := ife_t hg206 h
 refine AW.rd (pd 44 0 []) [] [] I (AP.q 3 I (AP.known 76 I hg206 (AP.q 17 I (AP.skipU I I I I dS (AP.skipU I I I I dS (AP.skipU I I I I dS (AP.skipU I I I I dS (AP.skipU I I I I dS (AP.skipU I I I I dS (AP.skipU I I I I dS (AP.q 17 I (AP.ofAO ?_))))))))))))
 refine AO.nil ?_
 exact lg ⟨true, h, I, I⟩ [0, 1, 2]
 replace h := ife_f hg206 h
 obtain ⟨p207, hp208, h⟩ := ob_some h
 obtain ⟨hp208i, hp208x⟩ := ix_some hp208
 refine AW.rd (pd 44 0 []) [2] [_] I (AP.q 3 I (AP.known 76 I hg206 (AP.r 7 [.o 1 0, .x 3 p207.1 (rB p207.2)] I ⟨⟨hp208i, map_get hp208x⟩, I, J⟩ (AP.oldG I I I I ((Yp.neqB I I I I).yd) dS (AP.q 2 I ?_)))))
 rcases bt ((p207.2 != decide (r192.1 > 0))) with hg209 | hg209
 replace h := ife_t hg209 h
 refine AP.known 86 I hg209 (AP.q 7 I (AP.skipU I I I I dS (AP.skipU I I I I dS (AP.skipU I I I I dS (AP.skipU I I I I dS (AP.skipU I I I I dS (AP.skipU I I I I dS (AP.skipU I I I I dS (AP.q 17 I (AP.ofAO (AO.nil ?_)))))))))))
 exact lg ⟨true, h, I, I⟩ [0, 1, 2]
 replace h := ife_f hg209 h
 refine AP.known 86 I hg209 (AP.r 7 [.o 1 0, .x 3 p207.1 (rB p207.2)] I ⟨⟨hp208i, map_get hp208x⟩, I, J⟩ ?_)
 rcases bt ((!p207.2)) with hg210 | hg210
 replace h := ife_t hg210 h
 obtain ⟨p211, hp212, h⟩ := ob_some h
 obtain ⟨hp212i, hp212x⟩ := ix_some hp212
 refine AP.known 93 I hg210 (AP.r 5 [.o 1 0, .x 3 p211.1 (Bounds.row p211.2)] I ⟨⟨hp212i, map_get hp212x⟩, I, J⟩ (AP.oldG I I I I ((Yp.buildP (l := [.V 0, .V 0]) Tryz.bld71 I).yd) dS (AP.oldG I I I I ((Yp.eqStruct (r := ((p211.2.Low == 0) && ((p211.2.High == 0) && true))) I I Tryz.eq71 I I I I).yd) dS (AP.q 3 I ?_))))
 rcases bt ((!((p211.2.Low == 0) && ((p211.2.High == 0) && true)))) with hg213 | hg213
 replace h := ife_t hg213 h
 refine AP.known 103 I hg213 (AP.q 14 I (AP.ofAO (AO.nil ?_)))
 exact lg ⟨true, h, I, I⟩ [0, 1, 2]
 replace h := ife_f hg213 h
 refine AP.known 103 I hg213 (AP.r 14 [.o 1 0, .x 3 p211.1 (Bounds.row p211.2), .o 7 0, .x 9 p211.1 (Bounds.row p211.2)] I ⟨⟨hp212i, map_get hp212x⟩, I, ⟨hp212i, map_get hp212x⟩, I, J⟩ (AP.ofAO (AO.nil ?_)))
 exact lg ⟨decide (p211.2.Low > p211.2.High), h, I, I⟩ [0, 1, 2]
 replace h := ife_f hg210 h
 obtain ⟨p214, hp215, h⟩ := ob_some h
 obtain ⟨hp215i, hp215x⟩ := ix_some hp215
 refine AP.known 93 I hg210 (AP.r 24 [.o 11 0, .x 13 p214.1 (Bounds.row p214.2), .o 17 0, .x 19 p214.1 (Bounds.row p214.2)] I ⟨⟨hp215i, map_get hp215x⟩, I, ⟨hp215i, map_get hp215x⟩, I, J⟩ (AP.ofAO (AO.nil ?_)))
 exact lg ⟨decide (p214.2.Low > p214.2.High), h, I, I⟩ [0, 1, 2]
 rintro s ob ⟨j204, h, rfl, rfl⟩
 unfold L.zap.J5 at h
 refine AW.ch h I ?_ ?_
 intro hc205 h
 refine AW.z I ?_
 obtain rfl := hb186 _ (oi h).symm
 replace h := hR185
 replace h := se_r h
 refine AW.ghost g0 ?_
 obtain rfl := oi h
 exact AW.ret pr
 intro hc205 h
 refine AW.skip (AW.region (AO.r 2 [.k 0 (k140 + 1 : Nat)] I ⟨cast_wr hk141 hm142, J⟩ ?_))
 obtain rfl := oi h
 refine AO.nil ?_
 exact ⟨_, _, _, I, ⟨I, I⟩, ⟨I, I, I, I, I, J⟩, [0, 1, 2], I, by decide⟩
 rintro st164 s ob ⟨rfl, rfl⟩ he
 subst he
 have h := se_l hR185
 have hk141f : decide (((r6.1.Nodes.length : Nat) : Int) < (r6.1.Nodes.length : Int)) = false := by simp
 refine AW.z I (AW.seqG (fun y217 hy217 => (AW.condK (v := false) I hk141f (AW.exit ?_))))
 exact lg ⟨(), h, I, I⟩ [0, 1, 2]
 rintro s ob ⟨j69, h, rfl, rfl⟩
 unfold L.zap.J1 at h
 refine AW.cutX (fun s ob => ∃ (j96 : Unit), L.zap.J2 j96 = some r ∧ s = [] ∧ ob = []) [] J ?_ ?_
 refine AW.zr [.o 1 0, .l 2 (r6.1.Segments.length : Int)] I ⟨len_m, I, J⟩ (AW.block (AW.listMax 120 I (fun hm102 => ?_)))
 replace hm102 : r6.1.Segments.length ≤ 9223372036854775806 := by rw [List.length_map] at hm102; omega
 obtain ⟨o123, hL124, hR125⟩ := ob_some h
 clear h
 refine AW.forX hL124 [(7, _), (8, _), (121, _)] ⟨I, I, I, J⟩ (fun (k100 : Nat) (st114 : Unit) s ob => s = [(122, .V (k100 : Int))] ∧ ob = [.arr b9 32 3 1 [Plan.row r6.2.2.2.2.1], .arr b13 36 3 1 [Pressures.row r11.1]]) ⟨I, I⟩ ⟨I, J⟩ ⟨[1, 2], I, by decide⟩ ?_ ?_
 rintro k100 x103 st114 r127 s ob hx104 hk101 ⟨rfl, rfl⟩ h hb126
 unfold L.zap.B3 at h
 have hk101t : decide ((k100 : Int) < (r6.1.Segments.length : Int)) = true := decide_eq_true (by omega)
 refine AW.z I (AW.seqG (fun y129 hy129 => (AW.condK (v := true) I hk101t (AW.skip ?_))))
 subst hy129
 refine AW.seq (AW.block (AW.z I (AW.seq ?_)))
 obtain ⟨p131, hp132, h⟩ := ob_some h
 obtain ⟨hp132i, hp132x⟩ := ix_some hp132
 obtain ⟨p133, hp134, h⟩ := ob_some h
 obtain ⟨hp134i, hp134x⟩ := ix_some hp134
 refine AW.rd (pd 14 0 []) [1, 0] [_, _] I (AP.r 13 [.o 1 0, .x 3 p131.1 ((rL 3 Level.row) p131.2), .l 5 (p131.2.length : Int), .o 8 1, .x 10 p133.1 (rI p133.2)] I ⟨⟨hp134i, map_get hp134x⟩, I, len_m, ⟨hp132i, map_get hp132x⟩, I, J⟩ (AP.op I (Yp.neqB I I I I) I (AP.ofAO (AO.nil (AW.ch h I ?_ ?_)))))
 intro hc135 h
 refine AW.z I ?_
 obtain rfl := hb126 _ (oi h).symm
 replace h := hR125
 replace h := se_r h
 refine AW.ghost g0 ?_
 obtain rfl := oi h
 exact AW.ret pr
 intro hc135 h
 refine AW.skip (AW.region (AO.r 2 [.k 0 (k100 + 1 : Nat)] I ⟨cast_wr hk101 hm102, J⟩ ?_))
 obtain rfl := oi h
 refine AO.nil ?_
 exact ⟨_, _, _, I, ⟨I, I⟩, ⟨I, I, I, I, J⟩, [0, 1], I, by decide⟩
 rintro st114 s ob ⟨rfl, rfl⟩ he
 subst he
 have h := se_l hR125
 have hk101f : decide (((r6.1.Segments.length : Nat) : Int) < (r6.1.Segments.length : Int)) = false := by simp
 refine AW.z I (AW.seqG (fun y137 hy137 => (AW.condK (v := false) I hk101f (AW.exit ?_))))
 exact lg ⟨(), h, I, I⟩ []
 rintro s ob ⟨j96, h, rfl, rfl⟩
 unfold L.zap.J2 at h
 refine AW.seq ?_
 obtain ⟨r97, hx98, h⟩ := ob_some h
 refine AW.region (AO.c (L.zbt_ok  _ hx98) (AO.q 1 I (AO.nil ?_)))
 obtain rfl := oi h
 exact AW.ret pr
end Go.Proofs.YtehbcbedipkifaaGreatDoor
