/- Walks that show what functions of the program compute; printed by a program of ours. No condition. -/
import Derived.Test.YtodeekicjiengaaGreatDoorZ1L2
import Derived.Test.YtodeekicjiengaaGreatDoorZ1D
namespace Go.Proofs.YtodeekicjiengaaGreatDoor
open Go.Aw
set_option linter.unusedVariables false
set_option linter.unusedSimpArgs false
set_option maxRecDepth 100000
set_option maxHeartbeats 4000000
theorem L.keep_Ints_ok (a_0 : List Int) (b_1 : List Int) (r : Bool) (h : L.keep_Ints a_0 b_1 = some r) : ACalls Tryz.env 35 [.list 1 (a_0.map rI), .list 1 (b_1.map rI)] [] (fun x new => x = .v (.bool r) ∧ new = []) := by
 refine ACalls.of_body Tryz.func35 rfl rfl rfl (fun C hC => ?_)
 unfold L.keep_Ints at h
 refine AW.z I (AW.seqG (fun y2 hy2 => (AW.zr [.l 1 (a_0.length : Int), .l 3 (b_1.length : Int)] I ⟨len_m, len_m, J⟩ (AW.ch h I ?_ ?_))))
 intro hc3 h
 refine AW.z I ?_
 obtain rfl := oi h
 exact AW.ret ⟨.inr I, [_], [], ⟨I, J⟩, sl_n, I, I⟩
 intro hc3 h
 refine AW.skip ?_
 subst hy2
 refine AW.cutX (fun s ob => ∃ (j26 : Unit), L.keep_Ints.J1 j26 = some r ∧ s = [] ∧ ob = []) [] J ?_ ?_
 refine AW.zr [.l 1 (a_0.length : Int)] I ⟨len_m, J⟩ (AW.block (AW.listMax 11 I (fun hm30 => ?_)))
 replace hm30 : a_0.length ≤ 9223372036854775806 := by rw [List.length_map] at hm30; omega
 obtain ⟨o47, hL48, hR49⟩ := ob_some h
 clear h
 refine AW.forX hL48 [(0, _), (1, _), (12, _)] ⟨I, I, I, J⟩ (fun (k28 : Nat) (st40 : Unit) s ob => s = [(13, .V (k28 : Int))] ∧ ob = []) ⟨I, I⟩ ⟨I, J⟩ ⟨[], I, by decide⟩ ?_ ?_
 rintro k28 x31 st40 r51 s ob hx32 hk29 ⟨rfl, rfl⟩ h hb50
 unfold L.keep_Ints.B2 at h
 have hk29t : decide ((k28 : Int) < (a_0.length : Int)) = true := decide_eq_true (by omega)
 refine AW.z I (AW.seqG (fun y53 hy53 => (AW.condK (v := true) I hk29t (AW.skip ?_))))
 subst hy53
 refine AW.seq (AW.block (AW.z I (AW.seq ?_)))
 obtain ⟨p55, hp56, h⟩ := ob_some h
 obtain ⟨hp56i, hp56x⟩ := ix_some hp56
 refine AW.dt (pd 9 0 []) [] [] [.x 2 k28 (rI x31), .x 6 p55.1 (rI p55.2)] I I ⟨⟨hp56i, map_get hp56x⟩, ⟨I, map_get hx32⟩, J⟩ (AW.ch h I ?_ ?_)
 intro hc57 h
 refine AW.z I ?_
 obtain rfl := hb50 _ (oi h).symm
 replace h := hR49
 replace h := se_r h
 obtain rfl := oi h
 exact AW.ret ⟨.inr I, [_], [], ⟨I, J⟩, sl_n, I, I⟩
 intro hc57 h
 refine AW.skip (AW.region (AO.r 2 [.k 0 (k28 + 1 : Nat)] I ⟨cast_wr hk29 hm30, J⟩ ?_))
 obtain rfl := oi h
 refine AO.nil ?_
 exact ⟨_, _, _, I, ⟨I, I⟩, ⟨I, I, I, I, J⟩, [], I, by decide⟩
 rintro st40 s ob ⟨rfl, rfl⟩ he
 subst he
 have h := se_l hR49
 have hk29f : decide (((a_0.length : Nat) : Int) < (a_0.length : Int)) = false := by simp
 refine AW.z I (AW.seqG (fun y59 hy59 => (AW.condK (v := false) I hk29f (AW.exit ?_))))
 exact lg ⟨(), h, I, I⟩ []
 rintro s ob ⟨j26, h, rfl, rfl⟩
 unfold L.keep_Ints.J1 at h
 refine AW.z I ?_
 obtain rfl := oi h
 exact AW.ret ⟨.inr I, [_], [], ⟨I, J⟩, sl_n, I, I⟩
theorem L.keep_Lists_ok (a_0 : List (List Int)) (b_1 : List (List Int)) (r : Bool) (h : L.keep_Lists a_0 b_1 = some r) : ACalls Tryz.env 36 [.list 1 (a_0.map (rL 1 rI)), .list 1 (b_1.map (rL 1 rI))] [] (fun x new => x = .v (.bool r) ∧ new = []) := by
 refine ACalls.of_body Tryz.func36 rfl rfl rfl (fun C hC => ?_)
 unfold L.keep_Lists at h
 refine AW.z I (AW.seqG (fun y2 hy2 => (AW.zr [.l 1 (a_0.length : Int), .l 3 (b_1.length : Int)] I ⟨len_m, len_m, J⟩ (AW.ch h I ?_ ?_))))
 intro hc3 h
 refine AW.z I ?_
 obtain rfl := oi h
 exact AW.ret ⟨.inr I, [_], [], ⟨I, J⟩, sl_n, I, I⟩
 intro hc3 h
 refine AW.skip ?_
 subst hy2
 refine AW.cutX (fun s ob => ∃ (j30 : Unit), L.keep_Lists.J1 j30 = some r ∧ s = [] ∧ ob = []) [] J ?_ ?_
 refine AW.zr [.l 1 (a_0.length : Int)] I ⟨len_m, J⟩ (AW.block (AW.listMax 11 I (fun hm34 => ?_)))
 replace hm34 : a_0.length ≤ 9223372036854775806 := by rw [List.length_map] at hm34; omega
 obtain ⟨o55, hL56, hR57⟩ := ob_some h
 clear h
 refine AW.forX hL56 [(0, _), (1, _), (12, _)] ⟨I, I, I, J⟩ (fun (k32 : Nat) (st46 : Unit) s ob => s = [(13, .V (k32 : Int))] ∧ ob = []) ⟨I, I⟩ ⟨I, J⟩ ⟨[], I, by decide⟩ ?_ ?_
 rintro k32 x35 st46 r59 s ob hx36 hk33 ⟨rfl, rfl⟩ h hb58
 unfold L.keep_Lists.B2 at h
 have hk33t : decide ((k32 : Int) < (a_0.length : Int)) = true := decide_eq_true (by omega)
 refine AW.z I (AW.seqG (fun y61 hy61 => (AW.condK (v := true) I hk33t (AW.skip ?_))))
 subst hy61
 refine AW.seq (AW.block (AW.z I (AW.seq ?_)))
 obtain ⟨p63, hp64, h⟩ := ob_some h
 obtain ⟨hp64i, hp64x⟩ := ix_some hp64
 obtain ⟨r65, hx66, h⟩ := ob_some h
 refine AW.rd (pd 10 0 [8]) [] [] I (AP.r 8 [.x 2 k32 ((rL 1 rI) x35), .x 6 p63.1 ((rL 1 rI) p63.2)] I ⟨⟨hp64i, map_get hp64x⟩, ⟨I, map_get hx36⟩, J⟩ (AP.c I (L.keep_Ints_ok _ _ _ hx66) (AP.q 1 I (AP.ofAO (AO.nil (AW.ch h I ?_ ?_))))))
 intro hc67 h
 refine AW.z I ?_
 obtain rfl := hb58 _ (oi h).symm
 replace h := hR57
 replace h := se_r h
 obtain rfl := oi h
 exact AW.ret ⟨.inr I, [_], [], ⟨I, J⟩, sl_n, I, I⟩
 intro hc67 h
 refine AW.skip (AW.region (AO.r 2 [.k 0 (k32 + 1 : Nat)] I ⟨cast_wr hk33 hm34, J⟩ ?_))
 obtain rfl := oi h
 refine AO.nil ?_
 exact ⟨_, _, _, I, ⟨I, I⟩, ⟨I, I, I, I, J⟩, [], I, by decide⟩
 rintro st46 s ob ⟨rfl, rfl⟩ he
 subst he
 have h := se_l hR57
 have hk33f : decide (((a_0.length : Nat) : Int) < (a_0.length : Int)) = false := by simp
 refine AW.z I (AW.seqG (fun y69 hy69 => (AW.condK (v := false) I hk33f (AW.exit ?_))))
 exact lg ⟨(), h, I, I⟩ []
 rintro s ob ⟨j30, h, rfl, rfl⟩
 unfold L.keep_Lists.J1 at h
 refine AW.z I ?_
 obtain rfl := oi h
 exact AW.ret ⟨.inr I, [_], [], ⟨I, J⟩, sl_n, I, I⟩
theorem L.surge_start_ok  (r : Arr Int 24) (h : L.surge_start = some r) : ACalls Tryz.env 116 [] [] (fun x new => ∃ (u0 : Nat), x = .v (.pointer (some ⟨u0, 0, none⟩)) ∧ new = [.arr u0 209 24 1 [r.l.map cI]]) := by
 refine ACalls.of_body Tryz.func116 rfl rfl rfl (fun C hC => ?_)
 unfold L.surge_start at h
 refine AW.z I (AW.seqG (fun y2 hy2 => (AW.region (AO.act [] I (AX.alloc (cs := (Arr.rep 24 (0 : Int)).l.map cI) (m := 24) I I I I I (dst_some I) (fun b3 => (AO.nil ?_)))))))
 subst hy2
 refine AW.cutX (fun s ob => ∃ (j22 : Arr Int 24), L.surge_start.J1 j22 = some r ∧ s = [] ∧ ob = [.arr b3 209 24 1 [j22.l.map cI]]) [(1, _)] ⟨I, J⟩ ?_ ?_
 refine AW.z I (AW.block ?_)
 have hm26 : (24 : Nat) ≤ 9223372036854775806 := by decide
 obtain ⟨o40, hL41, hR42⟩ := ob_some h
 clear h
 refine AW.forJY hL41 [(1, _)] ⟨I, J⟩ (fun (k24 : Nat) (st36 : Arr Int 24) s ob => s = [(3, .V (k24 : Int))] ∧ ob = [.arr b3 209 24 1 [st36.l.map cI]]) ⟨I, I⟩ ⟨I, J⟩ ⟨[0], I, by decide⟩ ?_ ?_
 rintro k24 st36 r44 s ob hk25 ⟨rfl, rfl⟩ h
 unfold L.surge_start.B2 at h
 have hk25t : decide ((k24 : Int) < 24) = true := decide_eq_true (by omega)
 refine AW.z I (AW.seq (AW.condK (v := true) I hk25t (AW.skip (AW.seq (AW.block (AW.z I ?_))))))
 obtain ⟨p46, hp47, h⟩ := ob_some h
 obtain ⟨hp47i, hp47x⟩ := ix_some hp47
 refine AW.region (AO.q 2 I (AO.p (Yp.indexA1 (m := p46.1) I I I I I I hp47i (arr_lt hp47x)) I (AO.act [0] I (AX.store 0 0 (0 + p46.1) (es' := [(st36.set p46.1 (k24 : Int)).l.map cI]) I I I I (by omega) I I I (seg_len (arr_lt hp47x) (by simp [Arr.h, flow_streams.row])) I (congrArg (fun r => [r]) (by rw [Nat.zero_add]; exact map_setC (get_lt hp47x))) (AO.nil (AW.region (AO.r 2 [.k 0 (k24 + 1 : Nat)] I ⟨cast_wr hk25 hm26, J⟩ ?_)))))))
 obtain rfl := oi h
 refine AO.nil ?_
 exact lg ⟨I, I⟩ [0]
 rintro st36 s ob ⟨rfl, rfl⟩ he
 subst he
 have h := hR42
 have hk25f : decide (((24 : Nat) : Int) < 24) = false := by simp
 refine AW.z I (AW.seq (AW.condK (v := false) I hk25f (AW.exit ?_)))
 exact lg ⟨st36, h, I, I⟩ [0]
 rintro s ob ⟨j22, h, rfl, rfl⟩
 unfold L.surge_start.J1 at h
 refine AW.z I ?_
 obtain rfl := oi h
 exact AW.ret ⟨.inr I, [_], [.arr b3 209 24 1 [j22.l.map cI]], ⟨I, J⟩, sl_c I (sl_n), ⟨b3, I, I⟩⟩
theorem L.surge_union_find_ok (b0 : Nat) (u_0 : Arr Int 24) (k_1 : Int) (r : Int × (Arr Int 24)) (h : L.surge_union_find u_0 k_1 = some r) : ACalls Tryz.env 118 [.v (.pointer (some ⟨b0, 0, none⟩)), .V k_1] [.arr b0 209 24 1 [u_0.l.map cI]] (Gives 1 (fun x os new => x = .V r.1 ∧ os = [.arr b0 209 24 1 [r.2.l.map cI]] ∧ new = [])) := by
 refine ACalls.of_body Tryz.func118 rfl rfl rfl (fun C hC => ?_)
 unfold L.surge_union_find at h
 refine AW.z I (AW.cutX (fun s ob => ∃ (j30 : (Arr Int 24) × Int), L.surge_union_find.J1 j30 = some r ∧ s = [(1, .V j30.2)] ∧ ob = [.arr b0 209 24 1 [j30.1.l.map cI]]) [] J ?_ ?_)
 refine AW.block ?_
 obtain ⟨o59, hL60, hR61⟩ := ob_some h
 clear h
 refine AW.loopX hL60 [(0, _)] ⟨I, J⟩ (fun (st50 : (Arr Int 24) × Int) s ob => s = [(1, .V st50.2)] ∧ ob = [.arr b0 209 24 1 [st50.1.l.map cI]]) ⟨I, I⟩ ⟨I, J⟩ ⟨[0], I, by decide⟩ ?_
 rintro st50 r63 s ob ⟨rfl, rfl⟩ h hb62
 unfold L.surge_union_find.B2 at h
 refine AW.seqG (fun y64 hy64 => (AW.seq ?_))
 obtain ⟨p65, hp66, h⟩ := ob_some h
 obtain ⟨hp66i, hp66x⟩ := ix_some hp66
 refine AW.region (AO.q 3 I (AO.p (Yp.indexA1 (m := p65.1) I I I I I I hp66i (arr_lt hp66x)) I (AO.d (Yd.loadO 0 0 (0 + p65.1) I I I I (by omega) (y := .V p65.2) (by rw [Nat.zero_add]; exact map_get hp66x)) I (AO.q 2 I (AO.nil (AW.ch h I ?_ ?_))))))
 intro hc67 h
 refine AW.skip ?_
 subst hy64
 refine AW.block (AW.seq ?_)
 obtain ⟨p68, hp69, h⟩ := ob_some h
 obtain ⟨hp69i, hp69x⟩ := ix_some hp69
 refine AW.rd (.still 0 (.still 1 (.still 2 (.still 3 (.still 4 (.still 5 (.still 6 (.still 7 (.still 8 (.still 9 (.still 10 (.still 11 (.still 12 (.drop 13 .nil)))))))))))))) [0] [_] I (AP.q 6 I (AP.op I (Yp.indexA1 (m := p65.1) I I I I I I hp66i (arr_lt hp66x)) I (AP.o I (Yd.loadO 0 0 (0 + p65.1) I I I I (by omega) (y := .V p65.2) (by rw [Nat.zero_add]; exact map_get hp66x)) I (AP.q 1 I (AP.op I (Yp.indexA1 (m := p68.1) I I I I I I hp69i (arr_lt hp69x)) I (AP.o I (Yd.loadO 0 0 (0 + p68.1) I I I I (by omega) (y := .V p68.2) (by rw [Nat.zero_add]; exact map_get hp69x)) I (AP.q 1 I (AP.op I (Yp.indexA1 (m := p65.1) I I I I I I hp66i (arr_lt hp66x)) I (AP.drop [0] I I I (AX.store 0 0 (0 + p65.1) (es' := [(st50.1.set p65.1 p68.2).l.map cI]) I I I I (by omega) I I I (seg_len (arr_lt hp66x) (by simp [Arr.h, flow_streams.row])) I (congrArg (fun r => [r]) (by rw [Nat.zero_add]; exact map_setC (get_lt hp66x))) (AP.ofAO (AO.nil ?_))))))))))))
 obtain ⟨p70, hp71, h⟩ := ob_some h
 obtain ⟨hp71i, hp71x⟩ := ix_some hp71
 refine AW.region (AO.q 3 I (AO.p (Yp.indexA1 (m := p70.1) I I I I I I hp71i (arr_lt hp71x)) I (AO.d (Yd.loadO 0 0 (0 + p70.1) I I I I (by omega) (y := .V p70.2) (by rw [Nat.zero_add]; exact map_get hp71x)) I (AO.q 1 I ?_))))
 obtain rfl := oi h
 refine AO.nil ?_
 exact ⟨_, _, _, I, ⟨I, I⟩, ⟨I, I, J⟩, [0], I, by decide⟩
 intro hc67 h
 obtain rfl := hb62 _ (oi h).symm
 replace h := hR61
 refine AW.exit ?_
 exact lg ⟨(st50.1, st50.2), h, I, I⟩ [0]
 rintro s ob ⟨j30, h, rfl, rfl⟩
 unfold L.surge_union_find.J1 at h
 refine AW.z I ?_
 obtain rfl := oi h
 exact AW.ret ⟨.inr I, [_], [.arr b0 209 24 1 [j30.1.l.map cI]], ⟨I, J⟩, sl_c I (sl_n), ⟨[.arr b0 209 24 1 [j30.1.l.map cI]], [], I, I, I, I, I⟩⟩
theorem L.surge_union_join_ok (b0 : Nat) (u_0 : Arr Int 24) (a_1 : Int) (b_2 : Int) (r : Arr Int 24) (h : L.surge_union_join u_0 a_1 b_2 = some r) : ACalls Tryz.env 117 [.v (.pointer (some ⟨b0, 0, none⟩)), .V a_1, .V b_2] [.arr b0 209 24 1 [u_0.l.map cI]] (Gives 1 (fun x os new => x = .tup [] ∧ os = [.arr b0 209 24 1 [r.l.map cI]] ∧ new = [])) := by
 refine ACalls.of_body Tryz.func117 rfl rfl rfl (fun C hC => ?_)
 unfold L.surge_union_join at h
 obtain ⟨r1, hx2, h⟩ := ob_some h
 obtain ⟨r3, hx4, h⟩ := ob_some h
 obtain ⟨p5, hp6, h⟩ := ob_some h
 obtain ⟨hp6i, hp6x⟩ := ix_some hp6
 refine AW.rd (.still 0 (.still 1 (.still 2 (.still 4 (.still 5 (.still 7 (.act 3 (.act 6 (.act 8 (.act 9 .nil)))))))))) [] [] I (AP.q 6 I (AP.act [0] I I I (AX.cg [0] (L.surge_union_find_ok b0 _ _ _ hx2) ?_)))
 rintro _ _ _ - ⟨rfl, rfl, rfl⟩
 refine AP.act [0] I I I (AX.cg [0] (L.surge_union_find_ok b0 _ _ _ hx4) ?_)
 rintro _ _ _ - ⟨rfl, rfl, rfl⟩
 refine AP.act [] I I I (AX.of_yd (Yp.yd (Yp.indexA1 (m := p5.1) I I I I I I hp6i (arr_lt hp6x))) (dst_some I) (AP.act [0] I I I (AX.store 0 0 (0 + p5.1) (es' := [(r3.2.set p5.1 r3.1).l.map cI]) I I I I (by omega) I I I (seg_len (arr_lt hp6x) (by simp [Arr.h, flow_streams.row])) I (congrArg (fun r => [r]) (by rw [Nat.zero_add]; exact map_setC (get_lt hp6x))) (AP.ofAO ?_))))
 obtain rfl := oi h
 refine AO.nil ?_
 exact ⟨.inl I, [], [.arr b0 209 24 1 [(r3.2.set p5.1 r3.1).l.map cI]], J, sl_c I (sl_n), ⟨[.arr b0 209 24 1 [(r3.2.set p5.1 r3.1).l.map cI]], [], I, I, I, I, I⟩⟩
theorem L.surge_groups_1_ok (i_0 : Int) (a_1 : Plan) (a_2 : Plan) (r : Bool) (h : L.surge_groups_1 i_0 a_1 a_2 = some r) : ACalls Tryz.env 115 [.V i_0, .eptr (Plan.row a_1), .eptr (Plan.row a_2)] [] (fun x new => x = .v (.bool r) ∧ new = []) := by
 refine ACalls.of_body Tryz.func115 rfl rfl rfl (fun C hC => ?_)
 unfold L.surge_groups_1 at h
 refine AW.z I (AW.cutX (fun s ob => ∃ (j7 : Bool), L.surge_groups_1.J1 j7 = some r ∧ s = [(4, .v (.bool j7))] ∧ ob = []) [] J ?_ ?_)
 obtain ⟨p8, hp9, h⟩ := ob_some h
 obtain ⟨hp9i, hp9x⟩ := ix_some hp9
 rcases bt ((p8.2 != 0)) with hg10 | hg10
 replace h := ife_t hg10 h
 refine AW.region (AO.r 7 [.x 3 p8.1 (rI p8.2)] I ⟨⟨hp9i, map_get hp9x⟩, J⟩ (AO.known 11 I hg10 (AO.q 8 I (AO.nil ?_))))
 exact lg ⟨true, h, I, I⟩ []
 replace h := ife_f hg10 h
 obtain ⟨p11, hp12, h⟩ := ob_some h
 obtain ⟨hp12i, hp12x⟩ := ix_some hp12
 refine AW.region (AO.r 7 [.x 3 p8.1 (rI p8.2)] I ⟨⟨hp9i, map_get hp9x⟩, J⟩ (AO.known 11 I hg10 (AO.r 8 [.x 3 p11.1 (rI p11.2)] I ⟨⟨hp12i, map_get hp12x⟩, J⟩ (AO.nil ?_))))
 exact lg ⟨(p11.2 != 0), h, I, I⟩ []
 rintro s ob ⟨j7, h, rfl, rfl⟩
 unfold L.surge_groups_1.J1 at h
 obtain rfl := oi h
 exact AW.ret ⟨.inr I, [_], [], ⟨I, J⟩, sl_n, I, I⟩
theorem L.surge_groups_ok (n_0 : Network) (a_1 : Plan) (b_2 : Plan) (r : List (List Int)) (h : L.surge_groups n_0 a_1 b_2 = some r) : ACalls Tryz.env 71 [.agg (Network.row n_0), .agg (Plan.row a_1), .agg (Plan.row b_2)] [] (fun x new => x = .list 1 (r.map (rL 1 rI)) ∧ new = []) := by
 refine ACalls.of_body Tryz.func71 rfl rfl rfl (fun C hC => ?_)
 unfold L.surge_groups at h
 refine AW.seqG (fun y1 hy1 => (AW.region (AO.act [] I (AX.box (cs := Network.row n_0) (m := 6) I I I (dst_some I) (fun b2 => (AO.act [] I (AX.box (cs := Plan.row a_1) (m := 3) I I I (dst_some I) (fun b3 => (AO.act [] I (AX.box (cs := Plan.row b_2) (m := 3) I I I (dst_some I) (fun b4 => (AO.q 1 I (AO.nil ?_)))))))))))))
 subst hy1
 refine AW.seqG (fun y5 hy5 => (AW.region (AO.p (Yp.makeFunc I I) I (AO.q 1 I (AO.nil ?_)))))
 subst hy5
 refine AW.seqG (fun y6 hy6 => ?_)
 obtain ⟨r7, hx8, h⟩ := ob_some h
 refine AW.region (AO.act [] I (AX.call0 I I I (L.surge_start_ok  _ hx8) (dst_some I) ?_))
 rintro _ _ ⟨b9, rfl, rfl⟩
 refine AO.q 1 I (AO.nil ?_)
 subst hy6
 refine AW.cutX (fun s ob => ∃ (j51 : Arr Int 24), L.surge_groups.J1 n_0 a_1 b_2 j51 = some r ∧ s = [] ∧ ob = [.arr b2 30 6 1 [Network.row n_0], .arr b3 48 3 1 [Plan.row a_1], .arr b4 48 3 1 [Plan.row b_2], .arr b9 209 24 1 [j51.l.map cI]]) [(3, _), (7, _), (8, _)] ⟨I, I, I, J⟩ ?_ ?_
 refine AW.zr [.o 1 0, .l 2 (n_0.Segments.length : Int)] I ⟨len_m, I, J⟩ (AW.block (AW.listMax 20 I (fun hm416 => ?_)))
 replace hm416 : n_0.Segments.length ≤ 9223372036854775806 := by rw [List.length_map] at hm416; omega
 obtain ⟨o452, hL453, hR454⟩ := ob_some h
 clear h
 refine AW.forY hL453 [(3, _), (7, _), (8, _), (20, _), (21, _)] ⟨I, I, I, I, I, J⟩ (fun (k414 : Nat) (st441 : Arr Int 24) s ob => s = [(22, .V (k414 : Int))] ∧ ob = [.arr b2 30 6 1 [Network.row n_0], .arr b3 48 3 1 [Plan.row a_1], .arr b4 48 3 1 [Plan.row b_2], .arr b9 209 24 1 [st441.l.map cI]]) ⟨I, I⟩ ⟨I, J⟩ ⟨[0, 1, 2, 3], I, by decide⟩ ?_ ?_
 rintro k414 x417 st441 r456 s ob hx418 hk415 ⟨rfl, rfl⟩ h
 unfold L.surge_groups.B6 at h
 have hk415t : decide ((k414 : Int) < (n_0.Segments.length : Int)) = true := decide_eq_true (by omega)
 refine AW.z I (AW.seqG (fun y458 hy458 => (AW.condK (v := true) I hk415t (AW.skip ?_))))
 subst hy458
 refine AW.cutX (fun s ob => ∃ (j466 : Arr Int 24), L.surge_groups.J7 j466 = some r456 ∧ s = [] ∧ ob = [.arr b2 30 6 1 [Network.row n_0], .arr b3 48 3 1 [Plan.row a_1], .arr b4 48 3 1 [Plan.row b_2], .arr b9 209 24 1 [j466.l.map cI]]) [(3, _), (7, _), (8, _), (20, _), (21, _), (22, _)] ⟨I, I, I, I, I, I, J⟩ ?_ ?_
 refine AW.block (AW.seqG (fun y467 hy467 => (AW.region (AO.r 3 [.x 1 k414 (Segment.row x417)] I ⟨⟨I, map_get hx418⟩, J⟩ (AO.act [] I (AX.alloc (cs := [.v (.string ⟨#[]⟩), .V 0, .V 0, .V 0, .V 0, .V 0, .v (.slice none 0 0)]) (m := 7) I I I I I (dst_some I) (fun b468 => (AO.q 1 I (AO.act [4] I (AX.store 4 0 0 (es' := [Segment.row x417]) I I I I I I I I (le_ble I) I I (AO.nil ?_)))))))))))
 subst hy467
 refine AW.seq ?_
 obtain ⟨r469, hx470, h⟩ := ob_some h
 refine AW.region (AO.q 2 I (AO.act [] I (AX.callL I (.fn (.rest _) (.cons (.box 1 I (.rest _)) (.cons (.box 2 I (.rest _)) (.rest _)))) I I (.rest _) I (L.surge_groups_1_ok _ _ _ _ hx470) (dst_some I) (by rintro _ _ ⟨rfl, _⟩; rfl) ?_)))
 rintro _ ⟨_, rfl, -⟩
 refine AO.nil (AW.ch h I ?_ ?_)
 intro hc471 h
 obtain ⟨r472, hx473, h⟩ := ob_some h
 refine AW.region (AO.r 5 [.o 2 4, .o 4 4] I ⟨I, I, J⟩ (AO.act [3] I (AX.cg [3] (L.surge_union_join_ok b9 _ _ _ _ hx473) ?_)))
 rintro _ _ _ - ⟨rfl, rfl, rfl⟩
 refine AO.nil ?_
 exact lg ⟨r472, h, I, I⟩ [0, 1, 2, 3]
 intro hc471 h
 refine AW.skip ?_
 exact lg ⟨st441, h, I, I⟩ [0, 1, 2, 3]
 rintro s ob ⟨j466, h, rfl, rfl⟩
 unfold L.surge_groups.J7 at h
 refine AW.region (AO.r 2 [.k 0 (k414 + 1 : Nat)] I ⟨cast_wr hk415 hm416, J⟩ ?_)
 obtain rfl := oi h
 refine AO.nil ?_
 exact lg ⟨I, I⟩ [0, 1, 2, 3]
 rintro st441 s ob ⟨rfl, rfl⟩ he
 subst he
 have h := hR454
 have hk415f : decide (((n_0.Segments.length : Nat) : Int) < (n_0.Segments.length : Int)) = false := by simp
 refine AW.z I (AW.seqG (fun y475 hy475 => (AW.condK (v := false) I hk415f (AW.exit ?_))))
 exact lg ⟨st441, h, I, I⟩ [0, 1, 2, 3]
 rintro s ob ⟨j51, h, rfl, rfl⟩
 unfold L.surge_groups.J1 at h
 refine AW.z I (AW.z I (AW.cutX (fun s ob => ∃ (j188 : List (List Int)) (v189 : Value) (vs190 : List Value), L.surge_groups.J2 j188 = some r ∧ s = [(11, .v v189)] ∧ ob = [.uss v189 22 3 1 vs190 (j188.map fun x => some (x.map rI))]) [] J ?_ ?_))
 refine AW.zr [.o 1 0, .l 2 (n_0.Segments.length : Int)] I ⟨len_m, I, J⟩ (AW.block (AW.listMax 38 I (fun hm194 => ?_)))
 replace hm194 : n_0.Segments.length ≤ 9223372036854775806 := by rw [List.length_map] at hm194; omega
 refine AW.ghost (Ghost.nilUss 22 3 1) (AW.ghost (Ghost.nilU 3 1) ?_)
 obtain ⟨o323, hL324, hR325⟩ := ob_some h
 clear h
 refine AW.forY hL324 [(7, _), (8, _), (38, _), (39, _)] ⟨I, I, I, I, J⟩ (fun (k192 : Nat) (st280 : (Arr Int 24) × (List (List Int)) × (List Int)) s ob => ∃ (v281 : Value) (vs282 : List Value) (v283 : Value), s = [(40, .V (k192 : Int)), (11, .v v281), (12, .v v283)] ∧ ob = [.arr b3 48 3 1 [Plan.row a_1], .arr b4 48 3 1 [Plan.row b_2], .arr b9 209 24 1 [st280.1.l.map cI], .uss v281 22 3 1 vs282 (st280.2.1.map fun x => some (x.map rI)), .us v283 3 1 (st280.2.2.map rI)]) ⟨(.slice none 0 0), [], (.slice none 0 0), I, I⟩ ⟨I, I, I, J⟩ ⟨[1, 2, 3, 4, 5], I, by decide⟩ ?_ ?_
 rintro k192 x195 st280 r327 s ob hx196 hk193 ⟨v281, vs282, v283, rfl, rfl⟩ h
 unfold L.surge_groups.B3 at h
 have hk193t : decide ((k192 : Int) < (n_0.Segments.length : Int)) = true := decide_eq_true (by omega)
 refine AW.z I (AW.seqG (fun y329 hy329 => (AW.condK (v := true) I hk193t (AW.skip ?_))))
 subst hy329
 refine AW.cutX (fun s ob => ∃ (j363 : (Arr Int 24) × (List (List Int)) × (List Int)) (v364 : Value) (vs365 : List Value) (v366 : Value), L.surge_groups.J4 j363 = some r327 ∧ s = [(11, .v v364), (12, .v v366)] ∧ ob = [.arr b3 48 3 1 [Plan.row a_1], .arr b4 48 3 1 [Plan.row b_2], .arr b9 209 24 1 [j363.1.l.map cI], .uss v364 22 3 1 vs365 (j363.2.1.map fun x => some (x.map rI)), .us v366 3 1 (j363.2.2.map rI)]) [(7, _), (8, _), (38, _), (39, _), (40, _)] ⟨I, I, I, I, I, J⟩ ?_ ?_
 refine AW.block (AW.seqG (fun y367 hy367 => (AW.region (AO.r 3 [.x 1 k192 (Segment.row x195)] I ⟨⟨I, map_get hx196⟩, J⟩ (AO.act [] I (AX.alloc (cs := [.v (.string ⟨#[]⟩), .V 0, .V 0, .V 0, .V 0, .V 0, .v (.slice none 0 0)]) (m := 7) I I I I I (dst_some I) (fun b368 => (AO.q 1 I (AO.act [5] I (AX.store 5 0 0 (es' := [Segment.row x195]) I I I I I I I I (le_ble I) I I (AO.nil ?_)))))))))))
 subst hy367
 refine AW.seqG (fun y369 hy369 => (AW.seq ?_))
 obtain ⟨r370, hx371, h⟩ := ob_some h
 refine AW.region (AO.q 2 I (AO.act [] I (AX.callL I (.fn (.rest _) (.cons (.box 0 I (.rest _)) (.cons (.box 1 I (.rest _)) (.rest _)))) I I (.rest _) I (L.surge_groups_1_ok _ _ _ _ hx371) (dst_some I) (by rintro _ _ ⟨rfl, _⟩; rfl) ?_)))
 rintro _ ⟨_, rfl, -⟩
 refine AO.q 1 I (AO.nil (AW.ch h I ?_ ?_))
 intro hc372 h
 refine AW.exit ?_
 exact lg ⟨(st280.1, st280.2.1, st280.2.2), v281, vs282, v283, h, I, I⟩ [0, 1, 2, 3, 4]
 intro hc372 h
 refine AW.skip ?_
 subst hy369
 refine AW.seqG (fun y373 hy373 => ?_)
 obtain ⟨r374, hx375, h⟩ := ob_some h
 refine AW.region (AO.r 3 [.o 2 5] I ⟨I, J⟩ (AO.act [2] I (AX.cg [2] (L.surge_union_find_ok b9 _ _ _ hx375) ?_)))
 rintro _ _ _ - ⟨rfl, rfl, rfl⟩
 refine AO.q 1 I (AO.nil ?_)
 subst hy373
 refine AW.seqG (fun y376 hy376 => ?_)
 obtain ⟨r377, hx378, h⟩ := ob_some h
 refine AW.region (AO.q 2 I (AO.act [] I (AX.callL I (.refl _) I I (.cons (.us 4 I) (.rest _)) I (L.slices_Index_int_int_ok _ _ _ hx378) (dst_some I) (by rintro _ _ ⟨rfl, _⟩; rfl) ?_)))
 rintro _ ⟨_, rfl, -⟩
 refine AO.q 1 I (AO.nil ?_)
 subst hy376
 refine AW.cutX (fun s ob => ∃ (j390 : (List (List Int)) × (List Int) × Int) (v391 : Value) (vs392 : List Value) (v393 : Value), L.surge_groups.J5 k192 r374 j390 = some r327 ∧ s = [(11, .v v391), (12, .v v393), (16, .V j390.2.2)] ∧ ob = [.arr b3 48 3 1 [Plan.row a_1], .arr b4 48 3 1 [Plan.row b_2], .arr b9 209 24 1 [r374.2.l.map cI], .uss v391 22 3 1 vs392 (j390.1.map fun x => some (x.map rI)), .us v393 3 1 (j390.2.1.map rI)]) [(7, _), (8, _), (13, _), (38, _), (39, _), (40, _)] ⟨I, I, I, I, I, I, J⟩ ?_ ?_
 refine AW.z I (AW.ch h I ?_ ?_)
 intro hc401 h
 obtain ⟨l403, hx404, h⟩ := ob_some h
 obtain ⟨l407, hx408, h⟩ := ob_some h
 refine AW.region (AO.q 1 I (AO.d (Yd.lenUM 4 I I I I) I (AO.q 2 I (AO.act [] I (AX.lt 1 (([r374.1] : List Int).map rI) (AO.act [4] I (AX.ap 4 I hx404 (fun v405 => (AO.q 1 I (AO.act [] I (AX.buildSlice (sz := 1) (es := [[.v (.slice none 0 0)]]) I I I I I I I I I I I (dst_some I) (fun v406 => (AO.act [3] I (AX.appendUss 3 I I I I I I I I I (AppSrc.own 6 I I) (nils_len (app_some hx408).1) (app_nil (app_some hx408).2) (dst_some I) (fun v409 vs410 => (AO.q 3 I (AO.nil ?_)))))))))))))))))
 exact lg ⟨(l407, l403, (st280.2.2.length : Int)), v409, vs410, v405, h, I, I⟩ [0, 1, 2, 3, 4]
 intro hc401 h
 refine AW.skip ?_
 exact lg ⟨(st280.2.1, st280.2.2, r377), v281, vs282, v283, h, I, I⟩ [0, 1, 2, 3, 4]
 rintro s ob ⟨j390, v391, vs392, v393, h, rfl, rfl⟩
 unfold L.surge_groups.J5 at h
 obtain ⟨p394, hp395, h⟩ := ob_some h
 obtain ⟨hp395i, hp395x⟩ := ix_some hp395
 obtain ⟨l397, hx398, h⟩ := ob_some h
 refine AW.region (AO.q 4 I (AO.d (Yd.indexUss 3 (m := p394.1) I I I I I I I hp395i (uss_lt hp395x)) I (AO.d (Yd.loadUss 3 (m := p394.1) I I I I (uss_lt hp395x)) I (AO.ghost (Ghost.take 3 p394.1 I (map_get hp395x)) (AO.q 1 I (AO.act [] I (AX.lt 1 (([(k192 : Int)] : List Int).map rI) (AO.act [5] I (AX.ap 5 I hx398 (fun v399 => (AO.d (Yd.indexUss 3 (m := p394.1) I I I I I I I hp395i (uss_lt' hp395x)) I (AO.act [3, 5] I (AX.storeUss 3 5 p394.1 I I I I (hole_get hp395x) I I I (set_none_some _ _ _ _) (AO.nil ?_))))))))))))))
 exact lg ⟨(r374.2, (j390.1.set p394.1 l397), j390.2.1), v391, (vs392.set p394.1 v399), v393, h, I, I⟩ [0, 1, 2, 3, 4]
 rintro s ob ⟨j363, v364, vs365, v366, h, rfl, rfl⟩
 unfold L.surge_groups.J4 at h
 refine AW.region (AO.r 2 [.k 0 (k192 + 1 : Nat)] I ⟨cast_wr hk193 hm194, J⟩ ?_)
 obtain rfl := oi h
 refine AO.nil ?_
 exact lg ⟨v364, vs365, v366, I, I⟩ [0, 1, 2, 3, 4]
 rintro st280 s ob ⟨v281, vs282, v283, rfl, rfl⟩ he
 subst he
 have h := hR325
 have hk193f : decide (((n_0.Segments.length : Nat) : Int) < (n_0.Segments.length : Int)) = false := by simp
 refine AW.z I (AW.seqG (fun y412 hy412 => (AW.condK (v := false) I hk193f (AW.exit ?_))))
 exact lg ⟨st280.2.1, v281, vs282, h, I, I⟩ [3]
 rintro s ob ⟨j188, v189, vs190, h, rfl, rfl⟩
 unfold L.surge_groups.J2 at h
 refine AW.z I (AW.ghost (Ghost.freeze [0] (K := [.uss v189 22 3 1 vs190 (j188.map fun x => some (x.map rI))]) I [(11, .list 1 (j188.map (rL 1 rI))), (78, .list 1 (j188.map (rL 1 rI))), (6, .list 1 (j188.map (rL 1 rI)))] ⟨⟨_, I, Lend.ussM 0 I⟩, ⟨_, I, Lend.ussM 0 I⟩, ⟨_, I, Lend.ussM 0 I⟩, J⟩ (ob' := []) (.rest _)) ?_)
 obtain rfl := oi h
 exact AW.ret ⟨.inr I, [_], [], ⟨I, J⟩, sl_n, I, I⟩
theorem L.surge_check_ok (n_0 : Network) (a_1 : Plan) (b_2 : Plan) (r : Int) (h : L.surge_check n_0 a_1 b_2 = some r) : ACalls Tryz.env 70 [.agg (Network.row n_0), .agg (Plan.row a_1), .agg (Plan.row b_2)] [] (fun x new => x = .V r ∧ new = []) := by
 refine ACalls.of_body Tryz.func70 rfl rfl rfl (fun C hC => ?_)
 unfold L.surge_check at h
 refine AW.seqG (fun y1 hy1 => (AW.region (AO.act [] I (AX.box (cs := Network.row n_0) (m := 6) I I I (dst_some I) (fun b2 => (AO.act [] I (AX.box (cs := Plan.row a_1) (m := 3) I I I (dst_some I) (fun b3 => (AO.act [] I (AX.box (cs := Plan.row b_2) (m := 3) I I I (dst_some I) (fun b4 => (AO.q 1 I (AO.nil ?_)))))))))))))
 subst hy1
 refine AW.seq (AW.seq ?_)
 obtain ⟨r5, hx6, h⟩ := ob_some h
 refine AW.region (AO.r 2 [.o 0 0, .o 1 1] I ⟨I, I, J⟩ (AO.c (L.flow_Check_ok _ _ _ hx6) (AO.q 1 I (AO.nil (AW.z I (AW.ch h I ?_ ?_))))))
 intro hc7 h
 refine AW.z I (AW.ghost (Ghost.pick [] (K := []) I (by decide)) ?_)
 obtain rfl := oi h
 exact AW.ret ⟨.inr I, [_], [], ⟨I, J⟩, sl_n, I, I⟩
 intro hc7 h
 refine AW.skip (AW.seq ?_)
 obtain ⟨r8, hx9, h⟩ := ob_some h
 refine AW.region (AO.r 2 [.o 0 0, .o 1 2] I ⟨I, I, J⟩ (AO.c (L.flow_Check_ok _ _ _ hx9) (AO.q 1 I (AO.nil (AW.ghost (Ghost.pick [] (K := []) I (by decide)) ?_)))))
 obtain rfl := oi h
 exact AW.ret ⟨.inr I, [_], [], ⟨I, J⟩, sl_n, I, I⟩
theorem L.surge_Groups_ok (n_0 : Network) (a_1 : Plan) (b_2 : Plan) (r : (List (List Int)) × Int) (h : L.surge_Groups n_0 a_1 b_2 = some r) : ACalls Tryz.env 34 [.agg (Network.row n_0), .agg (Plan.row a_1), .agg (Plan.row b_2)] [] (fun x new => x = .tup [.list 1 (r.1.map (rL 1 rI)), .V r.2] ∧ new = []) := by
 refine ACalls.of_body Tryz.func34 rfl rfl rfl (fun C hC => ?_)
 unfold L.surge_Groups at h
 refine AW.seqG (fun y1 hy1 => (AW.region (AO.act [] I (AX.box (cs := Network.row n_0) (m := 6) I I I (dst_some I) (fun b2 => (AO.act [] I (AX.box (cs := Plan.row a_1) (m := 3) I I I (dst_some I) (fun b3 => (AO.act [] I (AX.box (cs := Plan.row b_2) (m := 3) I I I (dst_some I) (fun b4 => (AO.q 2 I (AO.nil ?_)))))))))))))
 subst hy1
 refine AW.seq (AW.seq ?_)
 obtain ⟨r5, hx6, h⟩ := ob_some h
 refine AW.region (AO.r 3 [.o 0 0, .o 1 1, .o 2 2] I ⟨I, I, I, J⟩ (AO.c (L.surge_check_ok _ _ _ _ hx6) (AO.q 1 I (AO.nil (AW.z I (AW.ch h I ?_ ?_))))))
 intro hc7 h
 refine AW.z I (AW.ghost (Ghost.freeze [] (K := []) I [(6, .list 1 ([].map (rL 1 rI)))] ⟨⟨_, I, .nil _⟩, J⟩ (ob' := [.arr b2 30 6 1 [Network.row n_0], .arr b3 48 3 1 [Plan.row a_1], .arr b4 48 3 1 [Plan.row b_2]]) (.rest _)) (AW.ghost (Ghost.pick [] (K := []) I (by decide)) ?_))
 obtain rfl := oi h
 exact AW.ret ⟨.inr I, [_, _], [], ⟨I, I, J⟩, sl_n, I, I⟩
 intro hc7 h
 refine AW.skip (AW.seq ?_)
 obtain ⟨r8, hx9, h⟩ := ob_some h
 refine AW.region (AO.r 3 [.o 0 0, .o 1 1, .o 2 2] I ⟨I, I, I, J⟩ (AO.act [] I (AX.call0 I I I (L.surge_groups_ok _ _ _ _ hx9) (dst_some I) ?_)))
 rintro _ _ ⟨rfl, rfl⟩
 refine AO.q 2 I (AO.nil (AW.ghost (Ghost.pick [] (K := []) I (by decide)) ?_))
 obtain rfl := oi h
 exact AW.ret ⟨.inr I, [_, _], [], ⟨I, I, J⟩, sl_n, I, I⟩
theorem L.surge_rise_ok (n_0 : Network) (a_1 : Plan) (b_2 : Plan) (r : List Int) (h : L.surge_rise n_0 a_1 b_2 = some r) : ACalls Tryz.env 58 [.agg (Network.row n_0), .agg (Plan.row a_1), .agg (Plan.row b_2)] [] (fun x new => ∃ (u0 : Value), x = .v u0 ∧ new = [.us u0 3 1 (r.map rI)]) := by
 refine ACalls.of_body Tryz.func58 rfl rfl rfl (fun C hC => ?_)
 unfold L.surge_rise at h
 refine AW.seqG (fun y1 hy1 => (AW.region (AO.act [] I (AX.box (cs := Network.row n_0) (m := 6) I I I (dst_some I) (fun b2 => (AO.act [] I (AX.box (cs := Plan.row a_1) (m := 3) I I I (dst_some I) (fun b3 => (AO.act [] I (AX.box (cs := Plan.row b_2) (m := 3) I I I (dst_some I) (fun b4 => (AO.q 1 I (AO.nil ?_)))))))))))))
 subst hy1
 refine AW.seqG (fun y5 hy5 => ?_)
 obtain ⟨l6, hx7, h⟩ := ob_some h
 obtain ⟨m8, hx7i, hx7m, hx7r⟩ := mk_some hx7
 refine AW.region (AO.r 3 [.o 1 0, .l 2 (n_0.Segments.length : Int)] I ⟨len_m, I, J⟩ (AO.act [] I (AX.makeU (sz := 1) I I I I I I I I I I hx7i hx7m (rep_map (f := rI) hx7r I) (dst_some I) (fun v9 => (AO.q 1 I (AO.nil ?_))))))
 subst hy5
 refine AW.cutX (fun s ob => ∃ (j233 : List Int), L.surge_rise.J1 j233 = some r ∧ s = [] ∧ ob = [.us v9 3 1 (j233.map rI)]) [(7, _)] ⟨I, J⟩ ?_ ?_
 refine AW.seqG (fun y234 hy234 => ?_)
 obtain ⟨r235, hx236, h⟩ := ob_some h
 refine AW.region (AO.r 3 [.o 0 0, .o 1 1, .o 2 2] I ⟨I, I, I, J⟩ (AO.act [] I (AX.call0 I I I (L.surge_groups_ok _ _ _ _ hx236) (dst_some I) ?_)))
 rintro _ _ ⟨rfl, rfl⟩
 refine AO.r 2 [.l 0 (r235.length : Int)] I ⟨len_m, J⟩ (AO.nil ?_)
 subst hy234
 refine AW.block (AW.listMax 23 I (fun hm239 => ?_))
 replace hm239 : r235.length ≤ 9223372036854775806 := by rw [List.length_map] at hm239; omega
 obtain ⟨o455, hL456, hR457⟩ := ob_some h
 clear h
 refine AW.forY hL456 [(3, _), (4, _), (5, _), (7, _), (23, _), (24, _)] ⟨I, I, I, I, I, I, J⟩ (fun (k237 : Nat) (st384 : List Int) s ob => s = [(25, .V (k237 : Int))] ∧ ob = [.arr b2 30 6 1 [Network.row n_0], .arr b3 48 3 1 [Plan.row a_1], .arr b4 48 3 1 [Plan.row b_2], .us v9 3 1 (st384.map rI)]) ⟨I, I⟩ ⟨I, J⟩ ⟨[0, 1, 2, 3], I, by decide⟩ ?_ ?_
 rintro k237 x240 st384 r459 s ob hx241 hk238 ⟨rfl, rfl⟩ h
 unfold L.surge_rise.B2 at h
 have hk238t : decide ((k237 : Int) < (r235.length : Int)) = true := decide_eq_true (by omega)
 refine AW.z I (AW.seqG (fun y461 hy461 => (AW.condK (v := true) I hk238t (AW.skip ?_))))
 subst hy461
 refine AW.cutX (fun s ob => ∃ (j529 : List Int), L.surge_rise.J3 j529 = some r459 ∧ s = [] ∧ ob = [.arr b2 30 6 1 [Network.row n_0], .arr b3 48 3 1 [Plan.row a_1], .arr b4 48 3 1 [Plan.row b_2], .us v9 3 1 (j529.map rI)]) [(3, _), (4, _), (5, _), (7, _), (23, _), (24, _), (25, _)] ⟨I, I, I, I, I, I, I, J⟩ ?_ ?_
 refine AW.block (AW.zr [.x 0 k237 ((rL 1 rI) x240)] I ⟨⟨I, map_get hx241⟩, J⟩ (AW.z I (AW.cutX (fun s ob => ∃ (j573 : Int), L.surge_rise.J4 x240 st384 j573 = some r459 ∧ s = [(10, .V j573)] ∧ ob = [.arr b2 30 6 1 [Network.row n_0], .arr b3 48 3 1 [Plan.row a_1], .arr b4 48 3 1 [Plan.row b_2], .us v9 3 1 (st384.map rI)]) [(3, _), (4, _), (5, _), (7, _), (9, _), (23, _), (24, _), (25, _)] ⟨I, I, I, I, I, I, I, I, J⟩ ?_ ?_)))
 refine AW.zr [.l 1 (x240.length : Int)] I ⟨len_m, J⟩ (AW.block (AW.listMax 29 I (fun hm609 => ?_)))
 replace hm609 : x240.length ≤ 9223372036854775806 := by rw [List.length_map] at hm609; omega
 obtain ⟨o645, hL646, hR647⟩ := ob_some h
 clear h
 refine AW.forY hL646 [(3, _), (4, _), (5, _), (7, _), (9, _), (23, _), (24, _), (25, _), (29, _), (30, _)] ⟨I, I, I, I, I, I, I, I, I, I, J⟩ (fun (k607 : Nat) (st634 : Int) s ob => s = [(31, .V (k607 : Int)), (10, .V st634)] ∧ ob = [.arr b2 30 6 1 [Network.row n_0], .arr b3 48 3 1 [Plan.row a_1], .arr b4 48 3 1 [Plan.row b_2], .us v9 3 1 (st384.map rI)]) ⟨I, I⟩ ⟨I, I, J⟩ ⟨[0, 1, 2, 3], I, by decide⟩ ?_ ?_
 rintro k607 x610 st634 r649 s ob hx611 hk608 ⟨rfl, rfl⟩ h
 unfold L.surge_rise.B6 at h
 have hk608t : decide ((k607 : Int) < (x240.length : Int)) = true := decide_eq_true (by omega)
 refine AW.z I (AW.seqG (fun y651 hy651 => (AW.condK (v := true) I hk608t (AW.skip ?_))))
 subst hy651
 refine AW.seq (AW.block (AW.zr [.x 0 k607 (rI x610)] I ⟨⟨I, map_get hx611⟩, J⟩ (AW.seqG (fun y653 hy653 => ?_))))
 obtain ⟨p654, hp655, h⟩ := ob_some h
 obtain ⟨hp655i, hp655x⟩ := ix_some hp655
 obtain ⟨p656, hp657, h⟩ := ob_some h
 obtain ⟨hp657i, hp657x⟩ := ix_some hp657
 refine AW.dt (pd 12 0 []) [2, 1] [_, _] [.o 1 0, .x 3 p654.1 (rI p654.2), .o 6 1, .x 8 p656.1 (rI p656.2)] I I ⟨⟨hp657i, map_get hp657x⟩, I, ⟨hp655i, map_get hp655x⟩, I, J⟩ ?_
 subst hy653
 obtain ⟨p658, hp659, h⟩ := ob_some h
 obtain ⟨hp659i, hp659x⟩ := ix_some hp659
 refine AW.tr [.o 2 0, .x 4 p658.1 (Segment.row p658.2)] I ⟨⟨hp659i, map_get hp659x⟩, I, J⟩ (AW.region (AO.r 2 [.k 0 (k607 + 1 : Nat)] I ⟨cast_wr hk608 hm609, J⟩ ?_))
 obtain rfl := oi h
 refine AO.nil ?_
 exact lg ⟨I, I⟩ [0, 1, 2, 3]
 rintro st634 s ob ⟨rfl, rfl⟩ he
 subst he
 have h := hR647
 have hk608f : decide (((x240.length : Nat) : Int) < (x240.length : Int)) = false := by simp
 refine AW.z I (AW.seqG (fun y661 hy661 => (AW.condK (v := false) I hk608f (AW.exit ?_))))
 exact lg ⟨st634, h, I, I⟩ [0, 1, 2, 3]
 rintro s ob ⟨j573, h, rfl, rfl⟩
 unfold L.surge_rise.J4 at h
 refine AW.zr [.l 1 (x240.length : Int)] I ⟨len_m, J⟩ (AW.block (AW.listMax 60 I (fun hm577 => ?_)))
 replace hm577 : x240.length ≤ 9223372036854775806 := by rw [List.length_map] at hm577; omega
 obtain ⟨o595, hL596, hR597⟩ := ob_some h
 clear h
 refine AW.forY hL596 [(3, _), (4, _), (5, _), (7, _), (10, _), (23, _), (24, _), (25, _), (60, _), (61, _)] ⟨I, I, I, I, I, I, I, I, I, I, J⟩ (fun (k575 : Nat) (st590 : List Int) s ob => s = [(62, .V (k575 : Int))] ∧ ob = [.arr b2 30 6 1 [Network.row n_0], .arr b3 48 3 1 [Plan.row a_1], .arr b4 48 3 1 [Plan.row b_2], .us v9 3 1 (st590.map rI)]) ⟨I, I⟩ ⟨I, J⟩ ⟨[0, 1, 2, 3], I, by decide⟩ ?_ ?_
 rintro k575 x578 st590 r599 s ob hx579 hk576 ⟨rfl, rfl⟩ h
 unfold L.surge_rise.B5 at h
 have hk576t : decide ((k575 : Int) < (x240.length : Int)) = true := decide_eq_true (by omega)
 refine AW.z I (AW.seqG (fun y601 hy601 => (AW.condK (v := true) I hk576t (AW.skip ?_))))
 subst hy601
 refine AW.seq (AW.block (AW.zr [.x 0 k575 (rI x578)] I ⟨⟨I, map_get hx579⟩, J⟩ ?_))
 obtain ⟨p602, hp603, h⟩ := ob_some h
 obtain ⟨hp603i, hp603x⟩ := ix_some hp603
 refine AW.region (AO.q 3 I (AO.d (Yd.indexU 3 (m := p602.1) I I I I I I I hp603i (map_get hp603x)) I (AO.act [3] I (AX.storeU 3 p602.1 0 I I I (map_get hp603x) I I I I (le_ble I) I (us_set (x := j573) I) (AO.nil (AW.region (AO.r 2 [.k 0 (k575 + 1 : Nat)] I ⟨cast_wr hk576 hm577, J⟩ ?_)))))))
 obtain rfl := oi h
 refine AO.nil ?_
 exact lg ⟨I, I⟩ [0, 1, 2, 3]
 rintro st590 s ob ⟨rfl, rfl⟩ he
 subst he
 have h := hR597
 have hk576f : decide (((x240.length : Nat) : Int) < (x240.length : Int)) = false := by simp
 refine AW.z I (AW.seqG (fun y605 hy605 => (AW.condK (v := false) I hk576f (AW.exit ?_))))
 exact lg ⟨st590, h, I, I⟩ [0, 1, 2, 3]
 rintro s ob ⟨j529, h, rfl, rfl⟩
 unfold L.surge_rise.J3 at h
 refine AW.region (AO.r 2 [.k 0 (k237 + 1 : Nat)] I ⟨cast_wr hk238 hm239, J⟩ ?_)
 obtain rfl := oi h
 refine AO.nil ?_
 exact lg ⟨I, I⟩ [0, 1, 2, 3]
 rintro st384 s ob ⟨rfl, rfl⟩ he
 subst he
 have h := hR457
 have hk238f : decide (((r235.length : Nat) : Int) < (r235.length : Int)) = false := by simp
 refine AW.z I (AW.seqG (fun y663 hy663 => (AW.condK (v := false) I hk238f (AW.exit ?_))))
 exact lg ⟨st384, h, I, I⟩ [3]
 rintro s ob ⟨j233, h, rfl, rfl⟩
 unfold L.surge_rise.J1 at h
 refine AW.z I ?_
 obtain rfl := oi h
 exact AW.ret ⟨.inr I, [_], [.us v9 3 1 (j233.map rI)], ⟨I, J⟩, sl_c I (sl_n), ⟨v9, I, I⟩⟩
theorem L.surge_Rise_ok (n_0 : Network) (a_1 : Plan) (b_2 : Plan) (r : (List Int) × Int) (h : L.surge_Rise n_0 a_1 b_2 = some r) : ACalls Tryz.env 31 [.agg (Network.row n_0), .agg (Plan.row a_1), .agg (Plan.row b_2)] [] (fun x new => ∃ (u0 : Value), x = .tup [.v u0, .V r.2] ∧ new = [.us u0 3 1 (r.1.map rI)]) := by
 refine ACalls.of_body Tryz.func31 rfl rfl rfl (fun C hC => ?_)
 unfold L.surge_Rise at h
 refine AW.seqG (fun y1 hy1 => (AW.region (AO.act [] I (AX.box (cs := Network.row n_0) (m := 6) I I I (dst_some I) (fun b2 => (AO.act [] I (AX.box (cs := Plan.row a_1) (m := 3) I I I (dst_some I) (fun b3 => (AO.act [] I (AX.box (cs := Plan.row b_2) (m := 3) I I I (dst_some I) (fun b4 => (AO.q 2 I (AO.nil ?_)))))))))))))
 subst hy1
 refine AW.seq (AW.seq ?_)
 obtain ⟨r5, hx6, h⟩ := ob_some h
 refine AW.region (AO.r 3 [.o 0 0, .o 1 1, .o 2 2] I ⟨I, I, I, J⟩ (AO.c (L.surge_check_ok _ _ _ _ hx6) (AO.q 1 I (AO.nil (AW.z I (AW.ch h I ?_ ?_))))))
 intro hc7 h
 refine AW.z I (AW.ghost (Ghost.nilU 3 1) (AW.ghost (Ghost.pick [3] (K := [.us (.slice none 0 0) 3 1 ([].map rI)]) I (by decide)) ?_))
 obtain rfl := oi h
 exact AW.ret ⟨.inr I, [_, _], [.us (.slice none 0 0) 3 1 ([].map rI)], ⟨I, I, J⟩, sl_c I (sl_n), ⟨(.slice none 0 0), I, I⟩⟩
 intro hc7 h
 refine AW.skip (AW.seq ?_)
 obtain ⟨r8, hx9, h⟩ := ob_some h
 refine AW.region (AO.r 3 [.o 0 0, .o 1 1, .o 2 2] I ⟨I, I, I, J⟩ (AO.act [] I (AX.call0 I I I (L.surge_rise_ok _ _ _ _ hx9) (dst_some I) ?_)))
 rintro _ _ ⟨v10, rfl, rfl⟩
 refine AO.q 2 I (AO.nil (AW.ghost (Ghost.pick [3] (K := [.us v10 3 1 (r8.map rI)]) I (by decide)) ?_))
 obtain rfl := oi h
 exact AW.ret ⟨.inr I, [_, _], [.us v10 3 1 (r8.map rI)], ⟨I, I, J⟩, sl_c I (sl_n), ⟨v10, I, I⟩⟩
end Go.Proofs.YtodeekicjiengaaGreatDoor
