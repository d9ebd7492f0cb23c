/- Walks that show what functions of the program compute; printed by a program of ours. No condition. -/
import Derived.Test.YtehbcbedipkifaaGreatDoorZxL1
set_option maxRecDepth 100000
namespace Go.Proofs.YtehbcbedipkifaaGreatDoor
open Go.Aw
set_option linter.unusedVariables false
set_option linter.unusedSimpArgs false
set_option maxHeartbeats 4000000
theorem L.zfnd_ok (c_0 : Int) (r : Int) (h : L.zfnd c_0 = r) : ACalls Tryz.env 148 [.v (.int .u8 c_0)] [] (fun x new => x = .V r ∧ new = []) := by
 refine ACalls.of_body Tryz.func148 rfl rfl rfl (fun C hC => ?_)
 unfold L.zfnd at h
 refine AW.z I (AW.seq (AW.block (AW.cutX (fun s ob => ∃ (j12 : Unit), L.zfnd.J1 j12 = r ∧ s = [] ∧ ob = []) [] J ?_ ?_)))
 refine AW.block (AW.block (AW.seq (AW.block (AW.seq (AW.seqG (fun y13 hy13 => (AW.cutX (fun s ob => s = [(3, .v (.bool (decide (c_0 ≥ 97) && decide (c_0 ≤ 122))))] ∧ ob = []) [(0, _)] ⟨I, J⟩ ?_ ?_)))))))
 refine AW.region (AO.q 1 I (AO.p (Yp.cmpI (c := decide (c_0 ≥ 97)) I I I) I (AO.q 1 I ?_)))
 rcases bt (decide (c_0 ≥ 97)) with hg16 | hg16
 refine AO.known 6 I hg16 (AO.q 1 I (AO.gt I I I (AO.p (Yp.cmpI (c := decide (c_0 ≤ 122)) I I I) I (AO.q 2 I (AO.nil ?_)))))
 exact lf ⟨I, I⟩ ⟨(get_b (by simp only [hg16, bz])), I, J⟩ [] I
 refine AO.known 6 I hg16 (AO.q 4 I (AO.nil ?_))
 exact lf ⟨I, I⟩ ⟨(get_b (by simp only [hg16, bz])), I, J⟩ [] I
 rintro s ob ⟨rfl, rfl⟩
 refine AW.ch h I ?_ ?_
 intro hc17 h
 refine AW.exit (AW.seq (AW.z I ?_))
 obtain rfl := h
 exact AW.ret pr
 intro hc17 h
 refine AW.skip ?_
 subst hy13
 refine AW.seq (AW.cutX (fun s ob => s = [(10, .v (.bool (decide (c_0 ≥ 48) && decide (c_0 ≤ 57))))] ∧ ob = []) [(0, _)] ⟨I, J⟩ ?_ ?_)
 refine AW.region (AO.q 1 I (AO.p (Yp.cmpI (c := decide (c_0 ≥ 48)) I I I) I (AO.q 1 I ?_)))
 rcases bt (decide (c_0 ≥ 48)) with hg20 | hg20
 refine AO.known 13 I hg20 (AO.q 1 I (AO.gt I I I (AO.p (Yp.cmpI (c := decide (c_0 ≤ 57)) I I I) I (AO.q 2 I (AO.nil ?_)))))
 exact lf ⟨I, I⟩ ⟨(get_b (by simp only [hg20, bz])), I, J⟩ [] I
 refine AO.known 13 I hg20 (AO.q 4 I (AO.nil ?_))
 exact lf ⟨I, I⟩ ⟨(get_b (by simp only [hg20, bz])), I, J⟩ [] I
 rintro s ob ⟨rfl, rfl⟩
 refine AW.ch h I ?_ ?_
 intro hc21 h
 refine AW.exit ?_
 exact lg ⟨(), h, I, I⟩ []
 intro hc21 h
 refine AW.skip (AW.seq (AW.region (AO.q 1 I (AO.p (Yp.cmpI (c := (c_0 == 45)) I I I) I (AO.q 1 I (AO.nil (AW.ch h I ?_ ?_)))))))
 intro hc22 h
 refine AW.exit ?_
 exact lg ⟨(), h, I, I⟩ []
 intro hc22 h
 refine AW.skip (AW.exit (AW.z I ?_))
 obtain rfl := h
 exact AW.ret pr
 rintro s ob ⟨j12, h, rfl, rfl⟩
 unfold L.zfnd.J1 at h
 refine AW.seq (AW.z I ?_)
 obtain rfl := h
 exact AW.ret pr
theorem L.zcvq_ok (s_0 : ByteArray) (r : Bool) (h : L.zcvq s_0 = some r) : ACalls Tryz.env 114 [.v (.string s_0)] [] (fun x new => x = .v (.bool r) ∧ new = []) := by
 refine ACalls.of_body Tryz.func114 rfl rfl rfl (fun C hC => ?_)
 unfold L.zcvq at h
 refine AW.z I (AW.seqG (fun y2 hy2 => (AW.cutX (fun s ob => ∃ (j7 : Bool), L.zcvq.J1 s_0 j7 = some r ∧ s = [(17, .v (.bool j7))] ∧ ob = []) [(0, _)] ⟨I, J⟩ ?_ ?_)))
 refine AW.region (AO.q 4 I ?_)
 rcases bt (decide ((s_0.size : Int) < 1)) with hg63 | hg63
 replace h := ife_t hg63 h
 refine AO.known 7 I hg63 (AO.q 10 I (AO.nil ?_))
 exact lg ⟨true, h, I, I⟩ []
 replace h := ife_f hg63 h
 refine AO.known 7 I hg63 ?_
 rcases bt (decide ((s_0.size : Int) > 12)) with hg64 | hg64
 replace h := ife_t hg64 h
 refine AO.q 5 I (AO.known 12 I hg64 (AO.q 5 I (AO.nil ?_)))
 exact lg ⟨true, h, I, I⟩ []
 replace h := ife_f hg64 h
 obtain ⟨p65, hp66, h⟩ := ob_some h
 obtain ⟨hp66i, hp66l, hp66x⟩ := ixs_some hp66
 refine AO.q 5 I (AO.known 12 I hg64 (AO.q 1 I (AO.gt I I I (AO.p (Yp.indexStrX (m := p65.1) I I I I hp66i hp66l hp66x) I (AO.gt I I I (AO.c (L.zfnd_ok p65.2 _ I) (AO.q 2 I (AO.nil ?_))))))))
 exact lg ⟨((L.zfnd p65.2) != 1), h, I, I⟩ []
 rintro s ob ⟨j7, h, rfl, rfl⟩
 unfold L.zcvq.J1 at h
 refine AW.ch h I ?_ ?_
 intro hc8 h
 refine AW.z I ?_
 obtain rfl := oi h
 exact AW.ret pr
 intro hc8 h
 refine AW.skip ?_
 subst hy2
 refine AW.cutX (fun s ob => ∃ (j30 : Unit), L.zcvq.J2 j30 = some r ∧ s = [] ∧ ob = []) [] J ?_ ?_
 refine AW.z I (AW.block ?_)
 obtain ⟨u35, hx36, h⟩ := ob_some h
 have hm34 : (s_0.size : Int).toNat ≤ 9223372036854775806 := by have := chk_some hx36; omega
 obtain ⟨o50, hL51, hR52⟩ := ob_some h
 clear h
 refine AW.forIX hL51 [(0, _), (19, _)] ⟨I, I, J⟩ (fun (k32 : Nat) (st44 : Unit) s ob => s = [(20, .V (k32 : Int))] ∧ ob = []) ⟨I, I⟩ ⟨I, J⟩ ⟨[], I, by decide⟩ ?_ ?_
 rintro k32 st44 r54 s ob hk33 ⟨rfl, rfl⟩ h hb53
 unfold L.zcvq.B3 at h
 have hk33t : decide ((k32 : Int) < (s_0.size : Int)) = true := decide_eq_true (by omega)
 refine AW.z I (AW.seqG (fun y56 hy56 => (AW.condK (v := true) I hk33t (AW.skip ?_))))
 subst hy56
 refine AW.seq (AW.block (AW.z I (AW.seq ?_)))
 obtain ⟨p57, hp58, h⟩ := ob_some h
 obtain ⟨hp58i, hp58l, hp58x⟩ := ixs_some hp58
 refine AW.region (AO.q 2 I (AO.p (Yp.indexStrX (m := p57.1) I I I I hp58i hp58l hp58x) I (AO.c (L.zfnd_ok p57.2 _ I) (AO.q 1 I (AO.nil (AW.ch h I ?_ ?_))))))
 intro hc59 h
 refine AW.z I ?_
 obtain rfl := hb53 _ (oi h).symm
 replace h := hR52
 replace h := se_r h
 obtain rfl := oi h
 exact AW.ret pr
 intro hc59 h
 refine AW.skip (AW.region (AO.r 2 [.k 0 (k32 + 1 : Nat)] I ⟨cast_wr hk33 hm34, J⟩ ?_))
 obtain rfl := oi h
 refine AO.nil ?_
 exact ⟨_, _, _, I, ⟨I, I⟩, ⟨I, I, I, J⟩, [], I, by decide⟩
 rintro st44 s ob ⟨rfl, rfl⟩ he
 subst he
 have h := se_l hR52
 have hk33f : decide ((((s_0.size : Int).toNat : Nat) : Int) < (s_0.size : Int)) = false := by simp
 refine AW.z I (AW.seqG (fun y61 hy61 => (AW.condK (v := false) I hk33f (AW.exit ?_))))
 exact lg ⟨(), h, I, I⟩ []
 rintro s ob ⟨j30, h, rfl, rfl⟩
 unfold L.zcvq.J2 at h
 refine AW.z I ?_
 obtain rfl := oi h
 exact AW.ret pr
theorem L.zalp_ok (n_0 : Network) (r : Arr (List ByteArray) 4) (h : L.zalp n_0 = some r) : ACalls Tryz.env 111 [.agg (Network.row n_0)] [] (fun x new => x = .agg (r.l.map (cL 1 rS)) ∧ new = []) := by
 refine ACalls.of_body Tryz.func111 rfl rfl rfl (fun C hC => ?_)
 unfold L.zalp at h
 refine AW.seqG (fun y1 hy1 => (AW.region (AO.act [] I (AX.box (cs := Network.row n_0) (m := 6) I I I dS (fun b2 => (AO.act [] I (AX.alloc (cs := [.v (.slice none 0 0), .v (.slice none 0 0), .v (.slice none 0 0), .v (.slice none 0 0)]) (m := 4) I I I I I dS (fun b3 => (AO.nil ?_)))))))))
 subst hy1
 refine AW.seqG (fun y4 hy4 => (AW.region (AO.act [] I (AX.alloc (cs := [.v (.slice none 0 0), .v (.slice none 0 0), .v (.slice none 0 0), .v (.slice none 0 0)]) (m := 4) I I I I I dS (fun b5 => (AO.nil ?_))))))
 subst hy4
 refine AW.seqG (fun y6 hy6 => (AW.region (AO.r 2 [.o 1 0] I ⟨I, J⟩ (AO.p (Yp.indexA (m := 0) I I I I I I (le_ble I)) I (AO.act [2] I (AX.store 2 0 0 (es' := [[.list 1 (n_0.Nodes.map rS), .v (.slice none 0 0), .v (.slice none 0 0), .v (.slice none 0 0)]]) I I I I I I I I (le_ble I) I I (AO.nil ?_)))))))
 subst hy6
 refine AW.cutX (fun s ob => ∃ (j41 : List ByteArray) (v42 : Value), L.zalp.J1 n_0 j41 = some r ∧ s = [] ∧ ob = [.arr b2 27 6 1 [Network.row n_0], .arr b3 168 4 1 [[.v (.slice none 0 0), .v (.slice none 0 0), .v (.slice none 0 0), .v (.slice none 0 0)]], .arr b5 168 4 1 [[.list 1 (n_0.Nodes.map rS), .v v42, .v (.slice none 0 0), .v (.slice none 0 0)]], .us v42 9 1 (j41.map rS)]) [(1, _), (2, _), (3, _)] ⟨I, I, I, J⟩ ?_ ?_
 refine AW.zr [.o 1 0, .l 2 (n_0.Segments.length : Int)] I ⟨len_m, I, J⟩ (AW.block (AW.listMax 14 I (fun hm210 => ?_)))
 replace hm210 : n_0.Segments.length ≤ 9223372036854775806 := by rw [List.length_map] at hm210; omega
 refine AW.ghost (Ghost.nilU 9 1) ?_
 obtain ⟨o239, hL240, hR241⟩ := ob_some h
 clear h
 refine AW.forY hL240 [(1, _), (2, _), (3, _), (14, _), (15, _)] ⟨I, I, I, I, I, J⟩ (fun (k208 : Nat) (st230 : List ByteArray) s ob => ∃ (v231 : Value), s = [(16, .V (k208 : Int))] ∧ ob = [.arr b2 27 6 1 [Network.row n_0], .arr b3 168 4 1 [[.v (.slice none 0 0), .v (.slice none 0 0), .v (.slice none 0 0), .v (.slice none 0 0)]], .arr b5 168 4 1 [[.list 1 (n_0.Nodes.map rS), .v v231, .v (.slice none 0 0), .v (.slice none 0 0)]], .us v231 9 1 (st230.map rS)]) ⟨(.slice none 0 0), I, I⟩ ⟨I, J⟩ ⟨[0, 1, 2, 3], I, by decide⟩ ?_ ?_
 rintro k208 x211 st230 r243 s ob hx212 hk209 ⟨v231, rfl, rfl⟩ h
 unfold L.zalp.B6 at h
 have hk209t : decide ((k208 : Int) < (n_0.Segments.length : Int)) = true := decide_eq_true (by omega)
 refine AW.z I (AW.seqG (fun y245 hy245 => (AW.condK (v := true) I hk209t (AW.skip ?_))))
 subst hy245
 refine AW.seq (AW.block (AW.seq (AW.region (AO.r 2 [.x 0 k208 (Segment.row x211)] I ⟨⟨I, map_get hx212⟩, J⟩ (AO.act [] I (AX.alloc (cs := [.v (.string ⟨#[]⟩), .V 0, .V 0, .V 0, .V 0, .V 0, .v (.slice none 0 0)]) (m := 7) I I I I I dS (fun b246 => (AO.act [4] I (AX.store 4 0 0 (es' := [Segment.row x211]) I I I I I I I I (le_ble I) I I (AO.nil ?_))))))))))
 obtain ⟨l248, hx249, h⟩ := ob_some h
 refine AW.region (AO.p (Yp.indexA (m := 1) I I I I I I (le_ble I)) I (AO.r 3 [.o 0 2, .o 2 4] I ⟨I, I, J⟩ (AO.act [] I (AX.lt 1 (([x211.Name] : List ByteArray).map rS) (AO.act [3] I (AX.ap 3 I hx249 (fun v250 => (AO.p (Yp.indexA (m := 1) I I I I I I (le_ble I)) I (AO.one 3 I (fun v250o => (AO.act [2] I (AX.store 2 0 1 (es' := [[.list 1 (n_0.Nodes.map rS), .v v250, .v (.slice none 0 0), .v (.slice none 0 0)]]) I I I I I I (cells_v v250o) I (le_ble I) I I (AO.nil (AW.region (AO.r 2 [.k 0 (k208 + 1 : Nat)] I ⟨cast_wr hk209 hm210, J⟩ ?_)))))))))))))))
 obtain rfl := oi h
 refine AO.nil ?_
 exact lg ⟨v250, I, I⟩ [0, 1, 2, 3]
 rintro st230 s ob ⟨v231, rfl, rfl⟩ he
 subst he
 have h := hR241
 have hk209f : decide (((n_0.Segments.length : Nat) : Int) < (n_0.Segments.length : Int)) = false := by simp
 refine AW.z I (AW.seqG (fun y252 hy252 => (AW.condK (v := false) I hk209f (AW.exit ?_))))
 exact lg ⟨st230, v231, h, I, I⟩ [0, 1, 2, 3]
 rintro s ob ⟨j41, v42, h, rfl, rfl⟩
 unfold L.zalp.J1 at h
 refine AW.cutX (fun s ob => ∃ (j77 : List ByteArray) (v78 : Value), L.zalp.J2 n_0 j41 j77 = some r ∧ s = [] ∧ ob = [.arr b2 27 6 1 [Network.row n_0], .arr b3 168 4 1 [[.v (.slice none 0 0), .v (.slice none 0 0), .v (.slice none 0 0), .v (.slice none 0 0)]], .arr b5 168 4 1 [[.list 1 (n_0.Nodes.map rS), .v v42, .v v78, .v (.slice none 0 0)]], .us v42 9 1 (j41.map rS), .us v78 9 1 (j77.map rS)]) [(1, _), (2, _), (3, _)] ⟨I, I, I, J⟩ ?_ ?_
 refine AW.zr [.o 1 0, .l 2 (n_0.Ports.length : Int)] I ⟨len_m, I, J⟩ (AW.block (AW.listMax 29 I (fun hm164 => ?_)))
 replace hm164 : n_0.Ports.length ≤ 9223372036854775806 := by rw [List.length_map] at hm164; omega
 refine AW.ghost (Ghost.nilU 9 1) ?_
 obtain ⟨o193, hL194, hR195⟩ := ob_some h
 clear h
 refine AW.forY hL194 [(1, _), (2, _), (3, _), (29, _), (30, _)] ⟨I, I, I, I, I, J⟩ (fun (k162 : Nat) (st184 : List ByteArray) s ob => ∃ (v185 : Value), s = [(31, .V (k162 : Int))] ∧ ob = [.arr b2 27 6 1 [Network.row n_0], .arr b3 168 4 1 [[.v (.slice none 0 0), .v (.slice none 0 0), .v (.slice none 0 0), .v (.slice none 0 0)]], .arr b5 168 4 1 [[.list 1 (n_0.Nodes.map rS), .v v42, .v v185, .v (.slice none 0 0)]], .us v42 9 1 (j41.map rS), .us v185 9 1 (st184.map rS)]) ⟨(.slice none 0 0), I, I⟩ ⟨I, J⟩ ⟨[0, 1, 2, 3, 4], I, by decide⟩ ?_ ?_
 rintro k162 x165 st184 r197 s ob hx166 hk163 ⟨v185, rfl, rfl⟩ h
 unfold L.zalp.B5 at h
 have hk163t : decide ((k162 : Int) < (n_0.Ports.length : Int)) = true := decide_eq_true (by omega)
 refine AW.z I (AW.seqG (fun y199 hy199 => (AW.condK (v := true) I hk163t (AW.skip ?_))))
 subst hy199
 refine AW.seq (AW.block (AW.seq (AW.region (AO.r 2 [.x 0 k162 (Port.row x165)] I ⟨⟨I, map_get hx166⟩, J⟩ (AO.act [] I (AX.alloc (cs := [.v (.string ⟨#[]⟩), .V 0, .V 0]) (m := 3) I I I I I dS (fun b200 => (AO.act [5] I (AX.store 5 0 0 (es' := [Port.row x165]) I I I I I I I I (le_ble I) I I (AO.nil ?_))))))))))
 obtain ⟨l202, hx203, h⟩ := ob_some h
 refine AW.region (AO.p (Yp.indexA (m := 2) I I I I I I (le_ble I)) I (AO.r 3 [.o 0 2, .o 2 5] I ⟨I, I, J⟩ (AO.act [] I (AX.lt 1 (([x165.Name] : List ByteArray).map rS) (AO.act [4] I (AX.ap 4 I hx203 (fun v204 => (AO.p (Yp.indexA (m := 2) I I I I I I (le_ble I)) I (AO.one 4 I (fun v204o => (AO.act [2] I (AX.store 2 0 2 (es' := [[.list 1 (n_0.Nodes.map rS), .v v42, .v v204, .v (.slice none 0 0)]]) I I I I I I (cells_v v204o) I (le_ble I) I I (AO.nil (AW.region (AO.r 2 [.k 0 (k162 + 1 : Nat)] I ⟨cast_wr hk163 hm164, J⟩ ?_)))))))))))))))
 obtain rfl := oi h
 refine AO.nil ?_
 exact lg ⟨v204, I, I⟩ [0, 1, 2, 3, 4]
 rintro st184 s ob ⟨v185, rfl, rfl⟩ he
 subst he
 have h := hR195
 have hk163f : decide (((n_0.Ports.length : Nat) : Int) < (n_0.Ports.length : Int)) = false := by simp
 refine AW.z I (AW.seqG (fun y206 hy206 => (AW.condK (v := false) I hk163f (AW.exit ?_))))
 exact lg ⟨st184, v185, h, I, I⟩ [0, 1, 2, 3, 4]
 rintro s ob ⟨j77, v78, h, rfl, rfl⟩
 unfold L.zalp.J2 at h
 refine AW.cutX (fun s ob => ∃ (j113 : List ByteArray) (v114 : Value), L.zalp.J3 n_0 j41 j77 j113 = some r ∧ s = [] ∧ ob = [.arr b3 168 4 1 [[.v (.slice none 0 0), .v (.slice none 0 0), .v (.slice none 0 0), .v (.slice none 0 0)]], .arr b5 168 4 1 [[.list 1 (n_0.Nodes.map rS), .v v42, .v v78, .v v114]], .us v42 9 1 (j41.map rS), .us v78 9 1 (j77.map rS), .us v114 9 1 (j113.map rS)]) [(2, _), (3, _)] ⟨I, I, J⟩ ?_ ?_
 refine AW.zr [.o 1 0, .l 2 (n_0.Stations.length : Int)] I ⟨len_m, I, J⟩ (AW.block (AW.listMax 44 I (fun hm118 => ?_)))
 replace hm118 : n_0.Stations.length ≤ 9223372036854775806 := by rw [List.length_map] at hm118; omega
 refine AW.ghost (Ghost.nilU 9 1) ?_
 obtain ⟨o147, hL148, hR149⟩ := ob_some h
 clear h
 refine AW.forY hL148 [(2, _), (3, _), (44, _), (45, _)] ⟨I, I, I, I, J⟩ (fun (k116 : Nat) (st138 : List ByteArray) s ob => ∃ (v139 : Value), s = [(46, .V (k116 : Int))] ∧ ob = [.arr b3 168 4 1 [[.v (.slice none 0 0), .v (.slice none 0 0), .v (.slice none 0 0), .v (.slice none 0 0)]], .arr b5 168 4 1 [[.list 1 (n_0.Nodes.map rS), .v v42, .v v78, .v v139]], .us v42 9 1 (j41.map rS), .us v78 9 1 (j77.map rS), .us v139 9 1 (st138.map rS)]) ⟨(.slice none 0 0), I, I⟩ ⟨I, J⟩ ⟨[1, 2, 3, 4, 5], I, by decide⟩ ?_ ?_
 rintro k116 x119 st138 r151 s ob hx120 hk117 ⟨v139, rfl, rfl⟩ h
 unfold L.zalp.B4 at h
 have hk117t : decide ((k116 : Int) < (n_0.Stations.length : Int)) = true := decide_eq_true (by omega)
 refine AW.z I (AW.seqG (fun y153 hy153 => (AW.condK (v := true) I hk117t (AW.skip ?_))))
 subst hy153
 refine AW.seq (AW.block (AW.seq (AW.region (AO.r 2 [.x 0 k116 (Station.row x119)] I ⟨⟨I, map_get hx120⟩, J⟩ (AO.act [] I (AX.alloc (cs := [.v (.string ⟨#[]⟩), .V 0, .V 0, .V 0, .V 0]) (m := 5) I I I I I dS (fun b154 => (AO.act [5] I (AX.store 5 0 0 (es' := [Station.row x119]) I I I I I I I I (le_ble I) I I (AO.nil ?_))))))))))
 obtain ⟨l156, hx157, h⟩ := ob_some h
 refine AW.region (AO.p (Yp.indexA (m := 3) I I I I I I (le_ble I)) I (AO.r 3 [.o 0 1, .o 2 5] I ⟨I, I, J⟩ (AO.act [] I (AX.lt 1 (([x119.Name] : List ByteArray).map rS) (AO.act [4] I (AX.ap 4 I hx157 (fun v158 => (AO.p (Yp.indexA (m := 3) I I I I I I (le_ble I)) I (AO.one 4 I (fun v158o => (AO.act [1] I (AX.store 1 0 3 (es' := [[.list 1 (n_0.Nodes.map rS), .v v42, .v v78, .v v158]]) I I I I I I (cells_v v158o) I (le_ble I) I I (AO.nil (AW.region (AO.r 2 [.k 0 (k116 + 1 : Nat)] I ⟨cast_wr hk117 hm118, J⟩ ?_)))))))))))))))
 obtain rfl := oi h
 refine AO.nil ?_
 exact lg ⟨v158, I, I⟩ [0, 1, 2, 3, 4]
 rintro st138 s ob ⟨v139, rfl, rfl⟩ he
 subst he
 have h := hR149
 have hk117f : decide (((n_0.Stations.length : Nat) : Int) < (n_0.Stations.length : Int)) = false := by simp
 refine AW.z I (AW.seqG (fun y160 hy160 => (AW.condK (v := false) I hk117f (AW.exit ?_))))
 exact lg ⟨st138, v139, h, I, I⟩ [0, 1, 2, 3, 4]
 rintro s ob ⟨j113, v114, h, rfl, rfl⟩
 unfold L.zalp.J3 at h
 refine AW.seq (AW.region (AO.r 1 [.o 0 1] I ⟨I, J⟩ (AO.act [0] I (AX.store 0 0 0 (es' := [[.list 1 (n_0.Nodes.map rS), .v v42, .v v78, .v v114]]) I I I I I I I I (le_ble I) I I (AO.nil (AW.ghost (Ghost.freeze [2, 3, 4] (K := [.us v42 9 1 (j41.map rS), .us v78 9 1 (j77.map rS), .us v114 9 1 (j113.map rS)]) I [(58, .agg [.list 1 (n_0.Nodes.map rS), .list 1 (j41.map rS), .list 1 (j77.map rS), .list 1 (j113.map rS)])] ⟨⟨_, I, .agg (.cons (.refl _) (.cons (.us 0 I) (.cons (.us 1 I) (.cons (.us 2 I) (.rest _)))))⟩, J⟩ (ob' := [.arr b3 168 4 1 [[.list 1 (n_0.Nodes.map rS), .list 1 (j41.map rS), .list 1 (j77.map rS), .list 1 (j113.map rS)]], .arr b5 168 4 1 [[.list 1 (n_0.Nodes.map rS), .list 1 (j41.map rS), .list 1 (j77.map rS), .list 1 (j113.map rS)]]]) (.cons (.arr (.cons (.refl _) (.cons (.us 0 I) (.cons (.us 1 I) (.cons (.us 2 I) (.rest _)))))) (.cons (.arr (.cons (.refl _) (.cons (.us 0 I) (.cons (.us 1 I) (.cons (.us 2 I) (.rest _)))))) (.rest _)))) (AW.ghost (Ghost.pick [0] (K := [.arr b3 168 4 1 [[.list 1 (n_0.Nodes.map rS), .list 1 (j41.map rS), .list 1 (j77.map rS), .list 1 (j113.map rS)]]]) I (by decide)) ?_)))))))
 obtain rfl := oi h
 exact AW.ret ⟨.inr I, [_], [], ⟨⟨0, _, _, _, _, _, _, _, I, I, I, I, I⟩, J⟩, sl_n, I, I⟩
theorem L.zsgv_ok (x_0 : Station) (a_1 : Station) (r : Bool) (h : L.zsgv x_0 a_1 = r) : ACalls Tryz.env 151 [.agg (Station.row x_0), .eptr (Station.row a_1)] [] (fun x new => x = .v (.bool r) ∧ new = []) := by
 refine ACalls.of_body Tryz.func151 rfl rfl rfl (fun C hC => ?_)
 unfold L.zsgv at h
 refine AW.seq (AW.region (AO.act [] I (AX.box (cs := Station.row x_0) (m := 5) I I I dS (fun b1 => (AO.q 1 I (AO.nil (AW.zr [.o 1 0] I ⟨I, J⟩ (AW.ghost g0 ?_))))))))
 obtain rfl := h
 exact AW.ret pr
theorem L.zybm_ok (n_0 : Network) (r : Bool) (h : L.zybm n_0 = some r) : ACalls Tryz.env 115 [.agg (Network.row n_0)] [] (fun x new => x = .v (.bool r) ∧ new = []) := by
 refine ACalls.of_body Tryz.func115 rfl rfl rfl (fun C hC => ?_)
 unfold L.zybm at h
 refine AW.seqG (fun y1 hy1 => (AW.region (AO.act [] I (AX.box (cs := Network.row n_0) (m := 6) I I I dS (fun b2 => (AO.q 1 I (AO.nil ?_)))))))
 subst hy1
 refine AW.cutX (fun s ob => ∃ (j66 : Unit), L.zybm.J1 n_0 j66 = some r ∧ s = [] ∧ ob = [.arr b2 27 6 1 [Network.row n_0]]) [(1, _)] ⟨I, J⟩ ?_ ?_
 refine AW.seqG (fun y129 hy129 => ?_)
 obtain ⟨r130, hx131, h⟩ := ob_some h
 refine AW.region (AO.r 1 [.o 0 0] I ⟨I, J⟩ (AO.act [] I (AX.call0 I I I (L.zalp_ok _ _ hx131) dS ?_)))
 rintro _ _ ⟨rfl, rfl⟩
 refine AO.q 1 I (AO.nil ?_)
 subst hy129
 refine AW.block ?_
 have hm134 : (4 : Nat) ≤ 9223372036854775806 := by decide
 obtain ⟨o190, hL191, hR192⟩ := ob_some h
 clear h
 refine AW.forIX hL191 [(1, _), (10, _)] ⟨I, I, J⟩ (fun (k132 : Nat) (st163 : Unit) s ob => s = [(11, .V (k132 : Int))] ∧ ob = [.arr b2 27 6 1 [Network.row n_0]]) ⟨I, I⟩ ⟨I, J⟩ ⟨[0], I, by decide⟩ ?_ ?_
 rintro k132 st163 r194 s ob hk133 ⟨rfl, rfl⟩ h hb193
 unfold L.zybm.B4 at h
 have hk133t : decide ((k132 : Int) < 4) = true := decide_eq_true (by omega)
 refine AW.z I (AW.seqG (fun y196 hy196 => (AW.condK (v := true) I hk133t (AW.skip ?_))))
 subst hy196
 refine AW.cutX (fun s ob => ∃ (j220 : Unit), L.zybm.J5 j220 = some r194 ∧ s = [] ∧ ob = [.arr b2 27 6 1 [Network.row n_0]]) [(1, _), (10, _), (11, _)] ⟨I, I, I, J⟩ ?_ ?_
 refine AW.block (AW.seqG (fun y221 hy221 => ?_))
 obtain ⟨p222, hp223, h⟩ := ob_some h
 obtain ⟨hp223i, hp223x⟩ := ix_some hp223
 refine AW.region (AO.p (Yp.indexAgM (m := p222.1) I I I I I I I hp223i hp223x (hlen := Arr.h _)) I (AO.q 1 I (AO.nil ?_)))
 subst hy221
 refine AW.zr [.l 1 (p222.2.length : Int)] I ⟨len_m, J⟩ (AW.block (AW.listMax 14 I (fun hm227 => ?_)))
 replace hm227 : p222.2.length ≤ 9223372036854775806 := by rw [List.length_map] at hm227; omega
 obtain ⟨o242, hL243, hR244⟩ := ob_some h
 clear h
 refine AW.forX hL243 [(1, _), (4, _), (10, _), (11, _), (14, _), (15, _)] ⟨I, I, I, I, I, I, J⟩ (fun (k225 : Nat) (st236 : Unit) s ob => s = [(16, .V (k225 : Int))] ∧ ob = [.arr b2 27 6 1 [Network.row n_0]]) ⟨I, I⟩ ⟨I, J⟩ ⟨[0], I, by decide⟩ ?_ ?_
 rintro k225 x228 st236 r246 s ob hx229 hk226 ⟨rfl, rfl⟩ h hb245
 unfold L.zybm.B6 at h
 have hk226t : decide ((k225 : Int) < (p222.2.length : Int)) = true := decide_eq_true (by omega)
 refine AW.z I (AW.seqG (fun y248 hy248 => (AW.condK (v := true) I hk226t (AW.skip ?_))))
 subst hy248
 refine AW.seq (AW.block (AW.zr [.x 1 k225 (rS x228)] I ⟨⟨I, map_get hx229⟩, J⟩ (AW.seq ?_)))
 obtain ⟨r249, hx250, h⟩ := ob_some h
 refine AW.region (AO.q 2 I (AO.c (L.zsbv_ok _ _ _ hx250) (AO.q 2 I (AO.nil (AW.ch h I ?_ ?_)))))
 intro hc251 h
 refine AW.z I ?_
 obtain rfl := hb245 _ (oi h).symm
 replace h := hR244
 replace h := se_r h
 obtain rfl := hb193 _ (oi h).symm
 replace h := hR192
 replace h := se_r h
 refine AW.ghost g0 ?_
 obtain rfl := oi h
 exact AW.ret pr
 intro hc251 h
 refine AW.skip (AW.region (AO.r 2 [.k 0 (k225 + 1 : Nat)] I ⟨cast_wr hk226 hm227, J⟩ ?_))
 obtain rfl := oi h
 refine AO.nil ?_
 exact ⟨_, _, _, I, ⟨I, I⟩, ⟨I, I, I, I, I, I, I, J⟩, [0], I, by decide⟩
 rintro st236 s ob ⟨rfl, rfl⟩ he
 subst he
 have h := se_l hR244
 have hk226f : decide (((p222.2.length : Nat) : Int) < (p222.2.length : Int)) = false := by simp
 refine AW.z I (AW.seqG (fun y253 hy253 => (AW.condK (v := false) I hk226f (AW.exit ?_))))
 exact lg ⟨(), h, I, I⟩ [0]
 rintro s ob ⟨j220, h, rfl, rfl⟩
 unfold L.zybm.J5 at h
 refine AW.region (AO.r 2 [.k 0 (k132 + 1 : Nat)] I ⟨cast_wr hk133 hm134, J⟩ ?_)
 obtain rfl := oi h
 refine AO.nil ?_
 exact ⟨_, _, _, I, ⟨I, I⟩, ⟨I, I, I, J⟩, [0], I, by decide⟩
 rintro st163 s ob ⟨rfl, rfl⟩ he
 subst he
 have h := se_l hR192
 have hk133f : decide (((4 : Nat) : Int) < 4) = false := by simp
 refine AW.z I (AW.seqG (fun y256 hy256 => (AW.condK (v := false) I hk133f (AW.exit ?_))))
 exact lg ⟨(), h, I, I⟩ [0]
 rintro s ob ⟨j66, h, rfl, rfl⟩
 unfold L.zybm.J1 at h
 refine AW.cutX (fun s ob => ∃ (j91 : Unit), L.zybm.J2 j91 = some r ∧ s = [] ∧ ob = []) [] J ?_ ?_
 refine AW.zr [.o 1 0, .l 2 (n_0.Stations.length : Int)] I ⟨len_m, I, J⟩ (AW.block (AW.listMax 29 I (fun hm95 => ?_)))
 replace hm95 : n_0.Stations.length ≤ 9223372036854775806 := by rw [List.length_map] at hm95; omega
 obtain ⟨o114, hL115, hR116⟩ := ob_some h
 clear h
 refine AW.forX hL115 [(1, _), (29, _), (30, _)] ⟨I, I, I, J⟩ (fun (k93 : Nat) (st106 : Unit) s ob => s = [(31, .V (k93 : Int))] ∧ ob = [.arr b2 27 6 1 [Network.row n_0]]) ⟨I, I⟩ ⟨I, J⟩ ⟨[0], I, by decide⟩ ?_ ?_
 rintro k93 x96 st106 r118 s ob hx97 hk94 ⟨rfl, rfl⟩ h hb117
 unfold L.zybm.B3 at h
 have hk94t : decide ((k93 : Int) < (n_0.Stations.length : Int)) = true := decide_eq_true (by omega)
 refine AW.z I (AW.seqG (fun y120 hy120 => (AW.condK (v := true) I hk94t (AW.skip ?_))))
 subst hy120
 refine AW.seq (AW.block (AW.seqG (fun y121 hy121 => (AW.region (AO.r 3 [.x 1 k93 (Station.row x96)] I ⟨⟨I, map_get hx97⟩, J⟩ (AO.act [] I (AX.alloc (cs := [.v (.string ⟨#[]⟩), .V 0, .V 0, .V 0, .V 0]) (m := 5) I I I I I dS (fun b122 => (AO.q 1 I (AO.act [1] I (AX.store 1 0 0 (es' := [Station.row x96]) I I I I I I I I (le_ble I) I I (AO.nil ?_))))))))))))
 subst hy121
 refine AW.seq ?_
 obtain ⟨r123, hx124, h⟩ := ob_some h
 refine AW.region (AO.r 2 [.o 1 0] I ⟨I, J⟩ (AO.p (Yp.makeFunc I I) I (AO.act [] I (AX.callL I (.refl _) I I (.cons (.refl _) (.cons (.fn (.rest _) (.cons (.box 1 I (.rest _)) (.rest _))) (.rest _))) I (L.zywf_ok _ (.fn 151 [] [.eptr (Station.row x96)]) I (fun x => some (L.zsgv x x96)) (fun x r h => by obtain I := oi h; exact L.zsgv_ok x x96 _ I) _ hx124) dS (by rintro _ _ ⟨rfl, _⟩; rfl) ?_))))
 rintro _ ⟨_, rfl, -⟩
 refine AO.q 2 I (AO.nil (AW.ch h I ?_ ?_))
 intro hc125 h
 refine AW.z I ?_
 obtain rfl := hb117 _ (oi h).symm
 replace h := hR116
 replace h := se_r h
 refine AW.ghost g0 ?_
 obtain rfl := oi h
 exact AW.ret pr
 intro hc125 h
 refine AW.skip (AW.region (AO.r 2 [.k 0 (k93 + 1 : Nat)] I ⟨cast_wr hk94 hm95, J⟩ ?_))
 obtain rfl := oi h
 refine AO.nil ?_
 exact ⟨_, _, _, I, ⟨I, I⟩, ⟨I, I, I, I, J⟩, [0], I, by decide⟩
 rintro st106 s ob ⟨rfl, rfl⟩ he
 subst he
 have h := se_l hR116
 have hk94f : decide (((n_0.Stations.length : Nat) : Int) < (n_0.Stations.length : Int)) = false := by simp
 refine AW.z I (AW.seqG (fun y127 hy127 => (AW.condK (v := false) I hk94f (AW.exit ?_))))
 exact lg ⟨(), h, I, I⟩ []
 rintro s ob ⟨j91, h, rfl, rfl⟩
 unfold L.zybm.J2 at h
 refine AW.z I ?_
 obtain rfl := oi h
 exact AW.ret pr
theorem L.zxqi_ok (k_0 : Int) (a_1 : Network) (r : Bool) (h : L.zxqi k_0 a_1 = r) : ACalls Tryz.env 152 [.V k_0, .eptr (Network.row a_1)] [] (fun x new => x = .v (.bool r) ∧ new = []) := by
 refine ACalls.of_body Tryz.func152 rfl rfl rfl (fun C hC => ?_)
 unfold L.zxqi at h
 refine AW.z I (AW.cutX (fun s ob => s = [(3, .v (.bool (decide (k_0 < 0) || decide (k_0 ≥ (a_1.Nodes.length : Int)))))] ∧ ob = []) [] J ?_ ?_)
 refine AW.region (AO.q 3 I ?_)
 rcases bt (decide (k_0 < 0)) with hg4 | hg4
 refine AO.known 6 I hg4 (AO.q 7 I (AO.nil ?_))
 exact lf ⟨I, I⟩ ⟨(get_b (by simp only [hg4, bz])), J⟩ [] I
 refine AO.known 6 I hg4 (AO.r 7 [.l 3 (a_1.Nodes.length : Int)] I ⟨len_m, J⟩ (AO.nil ?_))
 exact lf ⟨I, I⟩ ⟨(get_b (by simp only [hg4, bz])), J⟩ [] I
 rintro s ob ⟨rfl, rfl⟩
 obtain rfl := h
 exact AW.ret pr
theorem L.zctd_ok (n_0 : Network) (r : Bool) (h : L.zctd n_0 = some r) : ACalls Tryz.env 116 [.agg (Network.row n_0)] [] (fun x new => x = .v (.bool r) ∧ new = []) := by
 refine ACalls.of_body Tryz.func116 rfl rfl rfl (fun C hC => ?_)
 unfold L.zctd at h
 refine AW.seqG (fun y1 hy1 => (AW.region (AO.act [] I (AX.box (cs := Network.row n_0) (m := 6) I I I dS (fun b2 => (AO.q 1 I (AO.nil ?_)))))))
 subst hy1
 refine AW.z I (AW.cutX (fun s ob => ∃ (j38 : List Int) (v39 : Value), L.zctd.J1 n_0 j38 = some r ∧ s = [(3, .v v39)] ∧ ob = [.arr b2 27 6 1 [Network.row n_0], .us v39 3 1 (j38.map rI)]) [(1, _)] ⟨I, J⟩ ?_ ?_)
 refine AW.zr [.o 1 0, .l 2 (n_0.Segments.length : Int)] I ⟨len_m, I, J⟩ (AW.block (AW.listMax 11 I (fun hm209 => ?_)))
 replace hm209 : n_0.Segments.length ≤ 9223372036854775806 := by rw [List.length_map] at hm209; omega
 refine AW.ghost (Ghost.nilU 3 1) ?_
 obtain ⟨o238, hL239, hR240⟩ := ob_some h
 clear h
 refine AW.forY hL239 [(1, _), (11, _), (12, _)] ⟨I, I, I, J⟩ (fun (k207 : Nat) (st229 : List Int) s ob => ∃ (v230 : Value), s = [(13, .V (k207 : Int)), (3, .v v230)] ∧ ob = [.arr b2 27 6 1 [Network.row n_0], .us v230 3 1 (st229.map rI)]) ⟨(.slice none 0 0), I, I⟩ ⟨I, I, J⟩ ⟨[0, 1], I, by decide⟩ ?_ ?_
 rintro k207 x210 st229 r242 s ob hx211 hk208 ⟨v230, rfl, rfl⟩ h
 unfold L.zctd.B6 at h
 have hk208t : decide ((k207 : Int) < (n_0.Segments.length : Int)) = true := decide_eq_true (by omega)
 refine AW.z I (AW.seqG (fun y244 hy244 => (AW.condK (v := true) I hk208t (AW.skip ?_))))
 subst hy244
 refine AW.seq (AW.block (AW.seq (AW.region (AO.r 2 [.x 0 k207 (Segment.row x210)] I ⟨⟨I, map_get hx211⟩, J⟩ (AO.act [] I (AX.alloc (cs := [.v (.string ⟨#[]⟩), .V 0, .V 0, .V 0, .V 0, .V 0, .v (.slice none 0 0)]) (m := 7) I I I I I dS (fun b245 => (AO.act [2] I (AX.store 2 0 0 (es' := [Segment.row x210]) I I I I I I I I (le_ble I) I I (AO.nil ?_))))))))))
 obtain ⟨l247, hx248, h⟩ := ob_some h
 refine AW.region (AO.r 5 [.o 2 2, .o 4 2] I ⟨I, I, J⟩ (AO.act [] I (AX.lt 1 (([x210.From, x210.To] : List Int).map rI) (AO.act [1] I (AX.ap 1 I hx248 (fun v249 => (AO.q 1 I (AO.nil (AW.region (AO.r 2 [.k 0 (k207 + 1 : Nat)] I ⟨cast_wr hk208 hm209, J⟩ ?_))))))))))
 obtain rfl := oi h
 refine AO.nil ?_
 exact lg ⟨v249, I, I⟩ [0, 1]
 rintro st229 s ob ⟨v230, rfl, rfl⟩ he
 subst he
 have h := hR240
 have hk208f : decide (((n_0.Segments.length : Nat) : Int) < (n_0.Segments.length : Int)) = false := by simp
 refine AW.z I (AW.seqG (fun y251 hy251 => (AW.condK (v := false) I hk208f (AW.exit ?_))))
 exact lg ⟨st229, v230, h, I, I⟩ [0, 1]
 rintro s ob ⟨j38, v39, h, rfl, rfl⟩
 unfold L.zctd.J1 at h
 refine AW.cutX (fun s ob => ∃ (j74 : List Int) (v75 : Value), L.zctd.J2 n_0 j74 = some r ∧ s = [(3, .v v75)] ∧ ob = [.arr b2 27 6 1 [Network.row n_0], .us v75 3 1 (j74.map rI)]) [(1, _)] ⟨I, J⟩ ?_ ?_
 refine AW.zr [.o 1 0, .l 2 (n_0.Ports.length : Int)] I ⟨len_m, I, J⟩ (AW.block (AW.listMax 26 I (fun hm163 => ?_)))
 replace hm163 : n_0.Ports.length ≤ 9223372036854775806 := by rw [List.length_map] at hm163; omega
 obtain ⟨o192, hL193, hR194⟩ := ob_some h
 clear h
 refine AW.forY hL193 [(1, _), (26, _), (27, _)] ⟨I, I, I, J⟩ (fun (k161 : Nat) (st183 : List Int) s ob => ∃ (v184 : Value), s = [(28, .V (k161 : Int)), (3, .v v184)] ∧ ob = [.arr b2 27 6 1 [Network.row n_0], .us v184 3 1 (st183.map rI)]) ⟨v39, I, I⟩ ⟨I, I, J⟩ ⟨[0, 1], I, by decide⟩ ?_ ?_
 rintro k161 x164 st183 r196 s ob hx165 hk162 ⟨v184, rfl, rfl⟩ h
 unfold L.zctd.B5 at h
 have hk162t : decide ((k161 : Int) < (n_0.Ports.length : Int)) = true := decide_eq_true (by omega)
 refine AW.z I (AW.seqG (fun y198 hy198 => (AW.condK (v := true) I hk162t (AW.skip ?_))))
 subst hy198
 refine AW.seq (AW.block (AW.seq (AW.region (AO.r 2 [.x 0 k161 (Port.row x164)] I ⟨⟨I, map_get hx165⟩, J⟩ (AO.act [] I (AX.alloc (cs := [.v (.string ⟨#[]⟩), .V 0, .V 0]) (m := 3) I I I I I dS (fun b199 => (AO.act [2] I (AX.store 2 0 0 (es' := [Port.row x164]) I I I I I I I I (le_ble I) I I (AO.nil ?_))))))))))
 obtain ⟨l201, hx202, h⟩ := ob_some h
 refine AW.region (AO.r 3 [.o 2 2] I ⟨I, J⟩ (AO.act [] I (AX.lt 1 (([x164.Node] : List Int).map rI) (AO.act [1] I (AX.ap 1 I hx202 (fun v203 => (AO.q 1 I (AO.nil (AW.region (AO.r 2 [.k 0 (k161 + 1 : Nat)] I ⟨cast_wr hk162 hm163, J⟩ ?_))))))))))
 obtain rfl := oi h
 refine AO.nil ?_
 exact lg ⟨v203, I, I⟩ [0, 1]
 rintro st183 s ob ⟨v184, rfl, rfl⟩ he
 subst he
 have h := hR194
 have hk162f : decide (((n_0.Ports.length : Nat) : Int) < (n_0.Ports.length : Int)) = false := by simp
 refine AW.z I (AW.seqG (fun y205 hy205 => (AW.condK (v := false) I hk162f (AW.exit ?_))))
 exact lg ⟨st183, v184, h, I, I⟩ [0, 1]
 rintro s ob ⟨j74, v75, h, rfl, rfl⟩
 unfold L.zctd.J2 at h
 refine AW.cutX (fun s ob => ∃ (j110 : List Int) (v111 : Value), L.zctd.J3 n_0 j110 = some r ∧ s = [(3, .v v111)] ∧ ob = [.arr b2 27 6 1 [Network.row n_0], .us v111 3 1 (j110.map rI)]) [(1, _)] ⟨I, J⟩ ?_ ?_
 refine AW.zr [.o 1 0, .l 2 (n_0.Stations.length : Int)] I ⟨len_m, I, J⟩ (AW.block (AW.listMax 39 I (fun hm117 => ?_)))
 replace hm117 : n_0.Stations.length ≤ 9223372036854775806 := by rw [List.length_map] at hm117; omega
 obtain ⟨o146, hL147, hR148⟩ := ob_some h
 clear h
 refine AW.forY hL147 [(1, _), (39, _), (40, _)] ⟨I, I, I, J⟩ (fun (k115 : Nat) (st137 : List Int) s ob => ∃ (v138 : Value), s = [(41, .V (k115 : Int)), (3, .v v138)] ∧ ob = [.arr b2 27 6 1 [Network.row n_0], .us v138 3 1 (st137.map rI)]) ⟨v75, I, I⟩ ⟨I, I, J⟩ ⟨[0, 1], I, by decide⟩ ?_ ?_
 rintro k115 x118 st137 r150 s ob hx119 hk116 ⟨v138, rfl, rfl⟩ h
 unfold L.zctd.B4 at h
 have hk116t : decide ((k115 : Int) < (n_0.Stations.length : Int)) = true := decide_eq_true (by omega)
 refine AW.z I (AW.seqG (fun y152 hy152 => (AW.condK (v := true) I hk116t (AW.skip ?_))))
 subst hy152
 refine AW.seq (AW.block (AW.seq (AW.region (AO.r 2 [.x 0 k115 (Station.row x118)] I ⟨⟨I, map_get hx119⟩, J⟩ (AO.act [] I (AX.alloc (cs := [.v (.string ⟨#[]⟩), .V 0, .V 0, .V 0, .V 0]) (m := 5) I I I I I dS (fun b153 => (AO.act [2] I (AX.store 2 0 0 (es' := [Station.row x118]) I I I I I I I I (le_ble I) I I (AO.nil ?_))))))))))
 obtain ⟨l155, hx156, h⟩ := ob_some h
 refine AW.region (AO.r 3 [.o 2 2] I ⟨I, J⟩ (AO.act [] I (AX.lt 1 (([x118.Node] : List Int).map rI) (AO.act [1] I (AX.ap 1 I hx156 (fun v157 => (AO.q 1 I (AO.nil (AW.region (AO.r 2 [.k 0 (k115 + 1 : Nat)] I ⟨cast_wr hk116 hm117, J⟩ ?_))))))))))
 obtain rfl := oi h
 refine AO.nil ?_
 exact lg ⟨v157, I, I⟩ [0, 1]
 rintro st137 s ob ⟨v138, rfl, rfl⟩ he
 subst he
 have h := hR148
 have hk116f : decide (((n_0.Stations.length : Nat) : Int) < (n_0.Stations.length : Int)) = false := by simp
 refine AW.z I (AW.seqG (fun y159 hy159 => (AW.condK (v := false) I hk116f (AW.exit ?_))))
 exact lg ⟨st137, v138, h, I, I⟩ [0, 1]
 rintro s ob ⟨j110, v111, h, rfl, rfl⟩
 unfold L.zctd.J3 at h
 refine AW.seq ?_
 obtain ⟨r112, hx113, h⟩ := ob_some h
 refine AW.region (AO.q 1 I (AO.p (Yp.makeFunc I I) I (AO.act [] I (AX.callL I (.refl _) I I (.cons (.us 1 I) (.cons (.fn (.rest _) (.cons (.box 0 I (.rest _)) (.rest _))) (.rest _))) I (L.zvoj_ok _ (.fn 152 [] [.eptr (Network.row n_0)]) I (fun x => some (L.zxqi x n_0)) (fun x r h => by obtain I := oi h; exact L.zxqi_ok x n_0 _ I) _ hx113) dS (by rintro _ _ ⟨rfl, _⟩; rfl) ?_))))
 rintro _ ⟨_, rfl, -⟩
 refine AO.q 2 I (AO.nil (AW.ghost g0 ?_))
 obtain rfl := oi h
 exact AW.ret pr
theorem L.zcxq_ok (s_0 : Segment) (r : Bool) (h : L.zcxq s_0 = some r) : ACalls Tryz.env 154 [.agg (Segment.row s_0)] [] (fun x new => x = .v (.bool r) ∧ new = []) := by
 refine ACalls.of_body Tryz.func154 rfl rfl rfl (fun C hC => ?_)
 unfold L.zcxq at h
 refine AW.seqG (fun y1 hy1 => (AW.region (AO.act [] I (AX.box (cs := Segment.row s_0) (m := 7) I I I dS (fun b2 => (AO.q 1 I (AO.nil ?_)))))))
 subst hy1
 refine AW.seqG (fun y3 hy3 => (AW.cutX (fun s ob => s = [(27, .v (.bool ((s_0.From == s_0.To) || ((!(L.zvhs s_0.Capacity 1 1000000)) || ((!(L.zvhs s_0.Resist 0 1000)) || (!(L.zvhs s_0.Wave 0 100000)))))))] ∧ ob = [.arr b2 77 7 1 [Segment.row s_0]]) [(1, _)] ⟨I, J⟩ ?_ ?_))
 refine AW.region (AO.r 6 [.o 1 0, .o 3 0] I ⟨I, I, J⟩ ?_)
 rcases bt ((s_0.From == s_0.To)) with hg8 | hg8
 refine AO.known 10 I hg8 (AO.q 17 I (AO.nil ?_))
 exact lf ⟨I, I⟩ ⟨(get_b (by simp only [hg8, bz])), I, J⟩ [0] I
 refine AO.known 10 I hg8 (AO.r 2 [.o 1 0] I ⟨I, J⟩ (AO.gt I I I (AO.c (L.zvhs_ok s_0.Capacity 1 1000000 _ I) (AO.q 3 I ?_))))
 rcases bt ((!(L.zvhs s_0.Capacity 1 1000000))) with hg9 | hg9
 refine AO.known 16 I hg9 (AO.q 11 I (AO.nil ?_))
 exact lf ⟨I, I⟩ ⟨(get_b (by simp only [hg8, hg9, bz])), I, J⟩ [0] I
 refine AO.known 16 I hg9 (AO.r 2 [.o 1 0] I ⟨I, J⟩ (AO.gt I I I (AO.c (L.zvhs_ok s_0.Resist 0 1000 _ I) (AO.q 3 I ?_))))
 rcases bt ((!(L.zvhs s_0.Resist 0 1000))) with hg10 | hg10
 refine AO.known 22 I hg10 (AO.q 5 I (AO.nil ?_))
 exact lf ⟨I, I⟩ ⟨(get_b (by simp only [hg8, hg9, hg10, bz])), I, J⟩ [0] I
 refine AO.known 22 I hg10 (AO.r 2 [.o 1 0] I ⟨I, J⟩ (AO.gt I I I (AO.c (L.zvhs_ok s_0.Wave 0 100000 _ I) (AO.q 2 I (AO.nil ?_)))))
 exact lf ⟨I, I⟩ ⟨(get_b (by simp only [hg8, hg9, hg10, bz])), I, J⟩ [0] I
 rintro s ob ⟨rfl, rfl⟩
 refine AW.ch h I ?_ ?_
 intro hc11 h
 refine AW.z I (AW.ghost g0 ?_)
 obtain rfl := oi h
 exact AW.ret pr
 intro hc11 h
 refine AW.skip ?_
 subst hy3
 refine AW.cutX (fun s ob => ∃ (j44 : Unit), L.zcxq.J1 s_0 j44 = some r ∧ s = [] ∧ ob = [.arr b2 77 7 1 [Segment.row s_0]]) [(1, _)] ⟨I, J⟩ ?_ ?_
 refine AW.zr [.o 1 0, .l 2 (s_0.Points.length : Int)] I ⟨len_m, I, J⟩ (AW.block (AW.listMax 29 I (fun hm59 => ?_)))
 replace hm59 : s_0.Points.length ≤ 9223372036854775806 := by rw [List.length_map] at hm59; omega
 obtain ⟨o86, hL87, hR88⟩ := ob_some h
 clear h
 refine AW.forX hL87 [(1, _), (29, _), (30, _)] ⟨I, I, I, J⟩ (fun (k57 : Nat) (st74 : Unit) s ob => s = [(31, .V (k57 : Int))] ∧ ob = [.arr b2 77 7 1 [Segment.row s_0]]) ⟨I, I⟩ ⟨I, J⟩ ⟨[0], I, by decide⟩ ?_ ?_
 rintro k57 x60 st74 r90 s ob hx61 hk58 ⟨rfl, rfl⟩ h hb89
 unfold L.zcxq.B3 at h
 have hk58t : decide ((k57 : Int) < (s_0.Points.length : Int)) = true := decide_eq_true (by omega)
 refine AW.z I (AW.seqG (fun y92 hy92 => (AW.condK (v := true) I hk58t (AW.skip ?_))))
 subst hy92
 refine AW.seq (AW.block (AW.seqG (fun y93 hy93 => (AW.region (AO.r 3 [.x 1 k57 (Point.row x60)] I ⟨⟨I, map_get hx61⟩, J⟩ (AO.act [] I (AX.alloc (cs := [.V 0, .V 0, .V 0]) (m := 3) I I I I I dS (fun b94 => (AO.q 1 I (AO.act [1] I (AX.store 1 0 0 (es' := [Point.row x60]) I I I I I I I I (le_ble I) I I (AO.nil ?_))))))))))))
 subst hy93
 refine AW.cutX (fun s ob => ∃ (j100 : Bool), L.zcxq.J4 j100 = some r90 ∧ s = [(61, .v (.bool j100))] ∧ ob = [.arr b2 77 7 1 [Segment.row s_0]]) [(1, _), (29, _), (30, _), (31, _)] ⟨I, I, I, I, J⟩ ?_ ?_
 rcases bt ((!(L.zvhs x60.Height (-500) 5000))) with hg102 | hg102
 replace h := ife_t hg102 h
 refine AW.rd (pd 26 0 [2, 7]) [1] [_] I (AP.r 2 [.o 1 0] I ⟨I, J⟩ (AP.c I (L.zvhs_ok x60.Height (-500) 5000 _ I) (AP.q 2 I (AP.known 40 I hg102 (AP.q 9 I (AP.skipU I I I I dS (AP.skipU I I I I dS (AP.skipU I I I I dS (AP.skipU I I I I dS (AP.skipU I I I I dS (AP.skipU I I I I dS (AP.skipU I I I I dS ?_))))))))))))
 refine AP.skipU I I I I dS (AP.skipU I I I I dS (AP.skipU I I I I dS (AP.q 2 I (AP.ofAO (AO.nil ?_)))))
 exact lg ⟨true, h, I, I⟩ [0]
 replace h := ife_f hg102 h
 rcases bt ((!(L.zvhs x60.Limit 0 100000000))) with hg103 | hg103
 replace h := ife_t hg103 h
 refine AW.rd (pd 26 0 [2, 7]) [1] [_] I (AP.r 2 [.o 1 0] I ⟨I, J⟩ (AP.c I (L.zvhs_ok x60.Height (-500) 5000 _ I) (AP.q 2 I (AP.known 40 I hg102 (AP.r 2 [.o 1 0] I ⟨I, J⟩ (AP.cG I (L.zvhs_ok x60.Limit 0 100000000 _ I) (AP.q 3 I (AP.known 46 I hg103 (AP.q 3 I (AP.skipU I I I I dS (AP.skipU I I I I dS (AP.skipU I I I I dS ?_))))))))))))
 refine AP.skipU I I I I dS (AP.skipU I I I I dS (AP.skipU I I I I dS (AP.skipU I I I I dS (AP.skipU I I I I dS (AP.skipU I I I I dS (AP.skipU I I I I dS (AP.q 2 I (AP.ofAO (AO.nil ?_)))))))))
 exact lg ⟨true, h, I, I⟩ [0]
 replace h := ife_f hg103 h
 rcases bt (decide ((k57 : Int) > 0)) with hg104 | hg104
 replace h := ife_t hg104 h
 obtain ⟨p105, hp106, h⟩ := ob_some h
 obtain ⟨hp106i, hp106x⟩ := ix_some hp106
 refine AW.rd (pd 26 0 [2, 7]) [1, 0] [_, _] I (AP.r 2 [.o 1 0] I ⟨I, J⟩ (AP.c I (L.zvhs_ok x60.Height (-500) 5000 _ I) (AP.q 2 I (AP.known 40 I hg102 (AP.r 2 [.o 1 0] I ⟨I, J⟩ (AP.cG I (L.zvhs_ok x60.Limit 0 100000000 _ I) (AP.q 3 I (AP.known 46 I hg103 (AP.q 3 I (AP.known 49 I hg104 (AP.r 12 [.o 1 0, .o 3 1, .x 6 p105.1 (Point.row p105.2)] I ⟨⟨hp106i, map_get hp106x⟩, I, I, J⟩ (AP.ofAO ?_))))))))))))
 refine AO.nil ?_
 exact lg ⟨decide (x60.At ≤ p105.2.At), h, I, I⟩ [0]
 replace h := ife_f hg104 h
 refine AW.rd (pd 26 0 [2, 7]) [1] [_] I (AP.r 2 [.o 1 0] I ⟨I, J⟩ (AP.c I (L.zvhs_ok x60.Height (-500) 5000 _ I) (AP.q 2 I (AP.known 40 I hg102 (AP.r 2 [.o 1 0] I ⟨I, J⟩ (AP.cG I (L.zvhs_ok x60.Limit 0 100000000 _ I) (AP.q 3 I (AP.known 46 I hg103 (AP.q 3 I (AP.known 49 I hg104 (AP.q 12 I (AP.ofAO ?_))))))))))))
 refine AO.nil ?_
 exact lg ⟨false, h, I, I⟩ [0]
 rintro s ob ⟨j100, h, rfl, rfl⟩
 unfold L.zcxq.J4 at h
 refine AW.ch h I ?_ ?_
 intro hc101 h
 refine AW.z I ?_
 obtain rfl := hb89 _ (oi h).symm
 replace h := hR88
 replace h := se_r h
 refine AW.ghost g0 ?_
 obtain rfl := oi h
 exact AW.ret pr
 intro hc101 h
 refine AW.skip (AW.region (AO.r 2 [.k 0 (k57 + 1 : Nat)] I ⟨cast_wr hk58 hm59, J⟩ ?_))
 obtain rfl := oi h
 refine AO.nil ?_
 exact ⟨_, _, _, I, ⟨I, I⟩, ⟨I, I, I, I, J⟩, [0], I, by decide⟩
 rintro st74 s ob ⟨rfl, rfl⟩ he
 subst he
 have h := se_l hR88
 have hk58f : decide (((s_0.Points.length : Nat) : Int) < (s_0.Points.length : Int)) = false := by simp
 refine AW.z I (AW.seqG (fun y108 hy108 => (AW.condK (v := false) I hk58f (AW.exit ?_))))
 exact lg ⟨(), h, I, I⟩ [0]
 rintro s ob ⟨j44, h, rfl, rfl⟩
 unfold L.zcxq.J1 at h
 refine AW.cutX (fun s ob => ∃ (j50 : Bool), L.zcxq.J2 j50 = some r ∧ s = [(2, .v (.bool j50))] ∧ ob = []) [] J ?_ ?_
 obtain ⟨p51, hp52, h⟩ := ob_some h
 obtain ⟨hp52i, hp52x⟩ := ix_some hp52
 refine AW.rd (pd 21 0 []) [0] [_] I (AP.r 7 [.o 1 0, .x 2 p51.1 (Point.row p51.2)] I ⟨⟨hp52i, map_get hp52x⟩, I, J⟩ ?_)
 rcases bt ((p51.2.At == 0)) with hg53 | hg53
 replace h := ife_t hg53 h
 obtain ⟨p54, hp55, h⟩ := ob_some h
 obtain ⟨hp55i, hp55x⟩ := ix_some hp55
 refine AP.known 69 I hg53 (AP.r 14 [.o 1 0, .o 3 0, .l 4 (s_0.Points.length : Int), .x 6 p54.1 (Point.row p54.2), .o 10 0] I ⟨I, ⟨hp55i, map_get hp55x⟩, len_m, I, I, J⟩ (AP.ofAO (AO.nil ?_)))
 exact lg ⟨(p54.2.At == s_0.Capacity), h, I, I⟩ []
 replace h := ife_f hg53 h
 refine AP.known 69 I hg53 (AP.q 14 I (AP.ofAO (AO.nil ?_)))
 exact lg ⟨false, h, I, I⟩ []
 rintro s ob ⟨j50, h, rfl, rfl⟩
 unfold L.zcxq.J2 at h
 obtain rfl := oi h
 exact AW.ret pr
theorem L.zyto_ok (s_0 : Segment) (r : Bool) (h : L.zyto s_0 = some r) : ACalls Tryz.env 153 [.agg (Segment.row s_0)] [] (fun x new => x = .v (.bool r) ∧ new = []) := by
 refine ACalls.of_body Tryz.func153 rfl rfl rfl (fun C hC => ?_)
 unfold L.zyto at h
 refine AW.seq (AW.region (AO.act [] I (AX.box (cs := Segment.row s_0) (m := 7) I I I dS (fun b1 => (AO.q 1 I (AO.nil (AW.seq ?_)))))))
 obtain ⟨r2, hx3, h⟩ := ob_some h
 refine AW.region (AO.r 1 [.o 0 0] I ⟨I, J⟩ (AO.c (L.zcxq_ok _ _ hx3) (AO.q 2 I (AO.nil (AW.ghost g0 ?_)))))
 obtain rfl := oi h
 exact AW.ret pr
theorem L.zxcm_ok (p_0 : Port) (r : Bool) (h : L.zxcm p_0 = r) : ACalls Tryz.env 156 [.agg (Port.row p_0)] [] (fun x new => x = .v (.bool r) ∧ new = []) := by
 refine ACalls.of_body Tryz.func156 rfl rfl rfl (fun C hC => ?_)
 unfold L.zxcm at h
 refine AW.seq (AW.region (AO.act [] I (AX.box (cs := Port.row p_0) (m := 3) I I I dS (fun b1 => (AO.q 1 I (AO.nil (AW.seq (AW.region (AO.r 2 [.o 1 0] I ⟨I, J⟩ (AO.c (L.zvhs_ok p_0.Pressure 0 100000000 _ I) (AO.q 2 I (AO.nil (AW.ghost g0 ?_)))))))))))))
 obtain rfl := h
 exact AW.ret pr
theorem L.zeku_ok (s_0 : Station) (r : Bool) (h : L.zeku s_0 = r) : ACalls Tryz.env 159 [.agg (Station.row s_0)] [] (fun x new => x = .v (.bool r) ∧ new = []) := by
 refine ACalls.of_body Tryz.func159 rfl rfl rfl (fun C hC => ?_)
 unfold L.zeku at h
 refine AW.seqG (fun y1 hy1 => (AW.region (AO.act [] I (AX.box (cs := Station.row s_0) (m := 5) I I I dS (fun b2 => (AO.q 1 I (AO.nil ?_)))))))
 subst hy1
 refine AW.cutX (fun s ob => s = [(2, .v (.bool ((!(L.zvhs s_0.Head 0 100000000)) || ((!(L.zvhs s_0.Fall 0 100000)) || (!(L.zvhs s_0.Suction 0 100000000))))))] ∧ ob = []) [] J ?_ ?_
 refine AW.region (AO.r 2 [.o 1 0] I ⟨I, J⟩ (AO.c (L.zvhs_ok s_0.Head 0 100000000 _ I) (AO.q 2 I ?_)))
 rcases bt ((!(L.zvhs s_0.Head 0 100000000))) with hg6 | hg6
 refine AO.known 7 I hg6 (AO.q 12 I (AO.nil ?_))
 exact lf ⟨I, I⟩ ⟨(get_b (by simp only [hg6, bz])), J⟩ [] I
 refine AO.known 7 I hg6 (AO.r 2 [.o 1 0] I ⟨I, J⟩ (AO.gt I I I (AO.c (L.zvhs_ok s_0.Fall 0 100000 _ I) (AO.q 3 I ?_))))
 rcases bt ((!(L.zvhs s_0.Fall 0 100000))) with hg7 | hg7
 refine AO.known 13 I hg7 (AO.q 6 I (AO.nil ?_))
 exact lf ⟨I, I⟩ ⟨(get_b (by simp only [hg6, hg7, bz])), J⟩ [] I
 refine AO.known 13 I hg7 (AO.r 2 [.o 1 0] I ⟨I, J⟩ (AO.gt I I I (AO.c (L.zvhs_ok s_0.Suction 0 100000000 _ I) (AO.q 3 I (AO.nil ?_)))))
 exact lf ⟨I, I⟩ ⟨(get_b (by simp only [hg6, hg7, bz])), J⟩ [] I
 rintro s ob ⟨rfl, rfl⟩
 obtain rfl := h
 exact AW.ret pr
theorem L.zdqn_ok (n_0 : Network) (r : Bool) (h : L.zdqn n_0 = some r) : ACalls Tryz.env 117 [.agg (Network.row n_0)] [] (fun x new => x = .v (.bool r) ∧ new = []) := by
 refine ACalls.of_body Tryz.func117 rfl rfl rfl (fun C hC => ?_)
 unfold L.zdqn at h
 refine AW.seqG (fun y1 hy1 => (AW.region (AO.act [] I (AX.box (cs := Network.row n_0) (m := 6) I I I dS (fun b2 => (AO.q 1 I (AO.nil ?_)))))))
 subst hy1
 refine AW.seqG (fun y3 hy3 => (AW.seq ?_))
 obtain ⟨r4, hx5, h⟩ := ob_some h
 refine AW.region (AO.r 2 [.o 1 0] I ⟨I, J⟩ (AO.c (L.zwuu_ok _ (.v (.func (.func 153) #[] #[])) I (fun x => L.zyto x) (fun x r h => L.zyto_ok x r h) _ hx5) (AO.nil (AW.ch h I ?_ ?_))))
 intro hc6 h
 refine AW.z I (AW.ghost g0 ?_)
 obtain rfl := oi h
 exact AW.ret pr
 intro hc6 h
 refine AW.skip ?_
 subst hy3
 refine AW.seqG (fun y7 hy7 => (AW.seq ?_))
 obtain ⟨r8, hx9, h⟩ := ob_some h
 refine AW.region (AO.r 2 [.o 1 0] I ⟨I, J⟩ (AO.c (L.zdru_ok _ (.v (.func (.func 156) #[] #[])) I (fun x => some (L.zxcm x)) (fun x r h => by obtain I := oi h; exact L.zxcm_ok x _ I) _ hx9) (AO.nil (AW.ch h I ?_ ?_))))
 intro hc10 h
 refine AW.z I (AW.ghost g0 ?_)
 obtain rfl := oi h
 exact AW.ret pr
 intro hc10 h
 refine AW.skip ?_
 subst hy7
 refine AW.seq (AW.seq ?_)
 obtain ⟨r11, hx12, h⟩ := ob_some h
 refine AW.region (AO.r 2 [.o 1 0] I ⟨I, J⟩ (AO.c (L.ztlc_ok _ (.v (.func (.func 159) #[] #[])) I (fun x => some (L.zeku x)) (fun x r h => by obtain I := oi h; exact L.zeku_ok x _ I) _ hx12) (AO.nil (AW.ch h I ?_ ?_))))
 intro hc13 h
 refine AW.z I (AW.ghost g0 ?_)
 obtain rfl := oi h
 exact AW.ret pr
 intro hc13 h
 refine AW.skip (AW.cutX (fun s ob => s = [(2, .v (.bool ((L.zvhs n_0.Vapour (-100000) 100000000) && (L.zvhs n_0.Settle 0 100))))] ∧ ob = []) [] J ?_ ?_)
 refine AW.region (AO.r 2 [.o 1 0] I ⟨I, J⟩ (AO.c (L.zvhs_ok n_0.Vapour (-100000) 100000000 _ I) (AO.q 1 I ?_)))
 rcases bt ((L.zvhs n_0.Vapour (-100000) 100000000)) with hg16 | hg16
 refine AO.known 15 I hg16 (AO.r 2 [.o 1 0] I ⟨I, J⟩ (AO.gt I I I (AO.c (L.zvhs_ok n_0.Settle 0 100 _ I) (AO.q 2 I (AO.nil ?_)))))
 exact lf ⟨I, I⟩ ⟨(get_b (by simp only [hg16, bz])), J⟩ [] I
 refine AO.known 15 I hg16 (AO.q 5 I (AO.nil ?_))
 exact lf ⟨I, I⟩ ⟨(get_b (by simp only [hg16, bz])), J⟩ [] I
 rintro s ob ⟨rfl, rfl⟩
 obtain rfl := oi h
 exact AW.ret pr
theorem L.zqbg_ok (s_0 : ByteArray) (r : Bool) (h : L.zqbg s_0 = some r) : ACalls Tryz.env 113 [.v (.string s_0)] [] (fun x new => x = .v (.bool r) ∧ new = []) := by
 refine ACalls.of_body Tryz.func113 rfl rfl rfl (fun C hC => ?_)
 unfold L.zqbg at h
 refine AW.z I (AW.seq ?_)
 obtain ⟨r1, hx2, h⟩ := ob_some h
 refine AW.region (AO.q 1 I (AO.c (L.zcvq_ok _ _ hx2) (AO.q 2 I (AO.nil ?_))))
 obtain rfl := oi h
 exact AW.ret pr
theorem L.zfta_ok (n_0 : Network) (r : Int) (h : L.zfta n_0 = some r) : ACalls Tryz.env 76 [.agg (Network.row n_0)] [] (fun x new => x = .V r ∧ new = []) := by
 refine ACalls.of_body Tryz.func76 rfl rfl rfl (fun C hC => ?_)
 unfold L.zfta at h
 refine AW.seqG (fun y1 hy1 => (AW.region (AO.act [] I (AX.box (cs := Network.row n_0) (m := 6) I I I dS (fun b2 => (AO.q 1 I (AO.nil ?_)))))))
 subst hy1
 refine AW.seqG (fun y3 hy3 => (AW.seq ?_))
 obtain ⟨r4, hx5, h⟩ := ob_some h
 refine AW.region (AO.r 1 [.o 0 0] I ⟨I, J⟩ (AO.c (L.znhd_ok _ _ hx5) (AO.q 1 I (AO.nil (AW.ch h I ?_ ?_)))))
 intro hc6 h
 refine AW.z I (AW.ghost g0 ?_)
 obtain rfl := oi h
 exact AW.ret pr
 intro hc6 h
 refine AW.skip ?_
 subst hy3
 refine AW.cutX (fun s ob => ∃ (j32 : Unit), L.zfta.J1 n_0 j32 = some r ∧ s = [] ∧ ob = [.arr b2 27 6 1 [Network.row n_0]]) [(1, _)] ⟨I, J⟩ ?_ ?_
 refine AW.seqG (fun y44 hy44 => ?_)
 obtain ⟨r45, hx46, h⟩ := ob_some h
 refine AW.region (AO.r 1 [.o 0 0] I ⟨I, J⟩ (AO.act [] I (AX.call0 I I I (L.zalp_ok _ _ hx46) dS ?_)))
 rintro _ _ ⟨rfl, rfl⟩
 refine AO.q 1 I (AO.nil ?_)
 subst hy44
 refine AW.block ?_
 have hm49 : (4 : Nat) ≤ 9223372036854775806 := by decide
 obtain ⟨o67, hL68, hR69⟩ := ob_some h
 clear h
 refine AW.forIX hL68 [(1, _), (9, _)] ⟨I, I, J⟩ (fun (k47 : Nat) (st59 : Unit) s ob => s = [(10, .V (k47 : Int))] ∧ ob = [.arr b2 27 6 1 [Network.row n_0]]) ⟨I, I⟩ ⟨I, J⟩ ⟨[0], I, by decide⟩ ?_ ?_
 rintro k47 st59 r71 s ob hk48 ⟨rfl, rfl⟩ h hb70
 unfold L.zfta.B2 at h
 have hk48t : decide ((k47 : Int) < 4) = true := decide_eq_true (by omega)
 refine AW.z I (AW.seqG (fun y73 hy73 => (AW.condK (v := true) I hk48t (AW.skip ?_))))
 subst hy73
 refine AW.seq (AW.block (AW.seq ?_))
 obtain ⟨p74, hp75, h⟩ := ob_some h
 obtain ⟨hp75i, hp75x⟩ := ix_some hp75
 refine AW.region (AO.p (Yp.indexAgM (m := p74.1) I I I I I I I hp75i hp75x (hlen := Arr.h _)) I (AO.q 1 I (AO.nil (AW.seq ?_))))
 obtain ⟨r76, hx77, h⟩ := ob_some h
 refine AW.region (AO.q 1 I (AO.c (L.zmkj_ok _ (.v (.func (.func 113) #[] #[])) I (fun x => L.zqbg x) (fun x r h => L.zqbg_ok x r h) _ hx77) (AO.nil (AW.ch h I ?_ ?_))))
 intro hc78 h
 refine AW.z I ?_
 obtain rfl := hb70 _ (oi h).symm
 replace h := hR69
 replace h := se_r h
 refine AW.ghost g0 ?_
 obtain rfl := oi h
 exact AW.ret pr
 intro hc78 h
 refine AW.skip (AW.region (AO.r 2 [.k 0 (k47 + 1 : Nat)] I ⟨cast_wr hk48 hm49, J⟩ ?_))
 obtain rfl := oi h
 refine AO.nil ?_
 exact ⟨_, _, _, I, ⟨I, I⟩, ⟨I, I, I, J⟩, [0], I, by decide⟩
 rintro st59 s ob ⟨rfl, rfl⟩ he
 subst he
 have h := se_l hR69
 have hk48f : decide (((4 : Nat) : Int) < 4) = false := by simp
 refine AW.z I (AW.seqG (fun y80 hy80 => (AW.condK (v := false) I hk48f (AW.exit ?_))))
 exact lg ⟨(), h, I, I⟩ [0]
 rintro s ob ⟨j32, h, rfl, rfl⟩
 unfold L.zfta.J1 at h
 refine AW.seq (AW.block (AW.seqG (fun y33 hy33 => ?_)))
 obtain ⟨r34, hx35, h⟩ := ob_some h
 refine AW.region (AO.r 1 [.o 0 0] I ⟨I, J⟩ (AO.c (L.zybm_ok _ _ hx35) (AO.q 1 I (AO.nil ?_))))
 subst hy33
 refine AW.ch h I ?_ ?_
 intro hc36 h
 refine AW.z I (AW.ghost g0 ?_)
 obtain rfl := oi h
 exact AW.ret pr
 intro hc36 h
 refine AW.seqG (fun y37 hy37 => ?_)
 obtain ⟨r38, hx39, h⟩ := ob_some h
 refine AW.region (AO.r 1 [.o 0 0] I ⟨I, J⟩ (AO.c (L.zctd_ok _ _ hx39) (AO.q 2 I (AO.nil ?_))))
 subst hy37
 refine AW.ch h I ?_ ?_
 intro hc40 h
 refine AW.z I (AW.ghost g0 ?_)
 obtain rfl := oi h
 exact AW.ret pr
 intro hc40 h
 refine AW.seq ?_
 obtain ⟨r41, hx42, h⟩ := ob_some h
 refine AW.region (AO.r 1 [.o 0 0] I ⟨I, J⟩ (AO.c (L.zdqn_ok _ _ hx42) (AO.q 2 I (AO.nil (AW.ch h I ?_ ?_)))))
 intro hc43 h
 refine AW.z I (AW.ghost g0 ?_)
 obtain rfl := oi h
 exact AW.ret pr
 intro hc43 h
 refine AW.skip (AW.z I (AW.ghost g0 ?_))
 obtain rfl := oi h
 exact AW.ret pr
theorem L.zuui_ok (b0 : Nat) (s_0 : flow_streams) (from_1 : Int) (to_2 : Int) (rate_3 : Int) (r : flow_streams) (h : L.zuui s_0 from_1 to_2 rate_3 = some r) : ACalls Tryz.env 144 [.v (.pointer (some ⟨b0, 0, none⟩)), .V from_1, .V to_2, .V rate_3] [.arr b0 165 48 1 [s_0.come.l.map cI ++ (s_0.leave.l.map cI ++ [])]] (Gives 1 (fun x os new => x = .tup [] ∧ os = [.arr b0 165 48 1 [r.come.l.map cI ++ (r.leave.l.map cI ++ [])]] ∧ new = [])) := by
 refine ACalls.of_body Tryz.func144 rfl rfl rfl (fun C hC => ?_)
 unfold L.zuui at h
 refine AW.cutX (fun s ob => ∃ (j2 : Int × Int × Int), L.zuui.J1 s_0 j2 = some r ∧ s = [(1, .V j2.1), (2, .V j2.2.1), (3, .V j2.2.2)] ∧ ob = [.arr b0 165 48 1 [s_0.come.l.map cI ++ (s_0.leave.l.map cI ++ [])]]) [(0, _)] ⟨I, J⟩ ?_ ?_
 refine AW.z I (AW.ch h I ?_ ?_)
 intro hc16 h
 refine AW.t I ?_
 exact lg ⟨(to_2, from_1, wr (0 - rate_3)), h, I, I⟩ [0]
 intro hc16 h
 refine AW.skip ?_
 exact lg ⟨(from_1, to_2, rate_3), h, I, I⟩ [0]
 rintro s ob ⟨j2, h, rfl, rfl⟩
 unfold L.zuui.J1 at h
 refine AW.cutX (fun s ob => ∃ (j7 : Arr Int 24), L.zuui.J2 s_0 j2 j7 = some r ∧ s = [] ∧ ob = [.arr b0 165 48 1 [s_0.come.l.map cI ++ (j7.l.map cI ++ [])]]) [(0, _), (2, _), (3, _)] ⟨I, I, I, J⟩ ?_ ?_
 refine AW.z I (AW.ch h I ?_ ?_)
 intro hc13 h
 obtain ⟨p14, hp15, h⟩ := ob_some h
 obtain ⟨hp15i, hp15x⟩ := ix_some hp15
 refine AW.rd (.still 0 (.still 1 (.still 2 (.still 3 (.still 4 (.still 5 (.still 6 (.still 7 (.still 8 (.still 9 (.still 10 (.drop 11 .nil)))))))))))) [0] [_] I (AP.q 4 I (AP.op I (Yp.indexA1 (m := p14.1) I I I I I I hp15i (arr_lt hp15x)) I (AP.o I (Yd.loadO 0 0 (24 + p14.1) I I I I (by omega) (y := .V p14.2) (seg_skip (k := 24) (by simp [Arr.h, flow_streams.row]) (seg_here hp15x))) I (AP.q 4 I (AP.op I (Yp.indexA1 (m := p14.1) I I I I I I hp15i (arr_lt hp15x)) I (AP.drop [0] I I I (AX.store 0 0 (24 + p14.1) (es' := [s_0.come.l.map cI ++ ((s_0.leave.set p14.1 (wr (p14.2 + j2.2.2))).l.map cI ++ [])]) I I I I (by omega) I I I (seg_len (arr_lt hp15x) (by simp [Arr.h, flow_streams.row])) I (congrArg (fun r => [r]) (seg_set_skip (k := 24) (by simp [Arr.h, flow_streams.row]) (seg_set_here (get_lt hp15x)))) (AP.ofAO (AO.nil ?_)))))))))
 exact lg ⟨(s_0.leave.set p14.1 (wr (p14.2 + j2.2.2))), h, I, I⟩ [0]
 intro hc13 h
 refine AW.skip ?_
 exact lg ⟨s_0.leave, h, I, I⟩ [0]
 rintro s ob ⟨j7, h, rfl, rfl⟩
 unfold L.zuui.J2 at h
 refine AW.z I (AW.ch h I ?_ ?_)
 intro hc9 h
 obtain ⟨p10, hp11, h⟩ := ob_some h
 obtain ⟨hp11i, hp11x⟩ := ix_some hp11
 refine AW.rd (.still 0 (.still 1 (.still 2 (.still 3 (.still 4 (.still 5 (.still 6 (.still 7 (.still 8 (.still 9 (.still 10 (.drop 11 .nil)))))))))))) [0] [_] I (AP.q 4 I (AP.op I (Yp.indexA1 (m := p10.1) I I I I I I hp11i (arr_lt hp11x)) I (AP.o I (Yd.loadO 0 0 (0 + p10.1) I I I I (by omega) (y := .V p10.2) (by rw [Nat.zero_add]; exact seg_here hp11x)) I (AP.q 4 I (AP.op I (Yp.indexA1 (m := p10.1) I I I I I I hp11i (arr_lt hp11x)) I (AP.drop [0] I I I (AX.store 0 0 (0 + p10.1) (es' := [(s_0.come.set p10.1 (wr (p10.2 + j2.2.2))).l.map cI ++ (j7.l.map cI ++ [])]) I I I I (by omega) I I I (seg_len (arr_lt hp11x) (by simp [Arr.h, flow_streams.row])) I (congrArg (fun r => [r]) (by rw [Nat.zero_add]; exact seg_set_here (get_lt hp11x))) (AP.ofAO ?_))))))))
 obtain rfl := oi h
 refine AO.nil ?_
 exact ⟨.inl I, [], [.arr b0 165 48 1 [(s_0.come.set p10.1 (wr (p10.2 + j2.2.2))).l.map cI ++ (j7.l.map cI ++ [])]], J, sl_c I (sl_n), ⟨[.arr b0 165 48 1 [(s_0.come.set p10.1 (wr (p10.2 + j2.2.2))).l.map cI ++ (j7.l.map cI ++ [])]], [], I, I, I, I, I⟩⟩
 intro hc9 h
 obtain rfl := oi h
 refine AW.skip ?_
 exact ⟨.inl I, [], [.arr b0 165 48 1 [s_0.come.l.map cI ++ (j7.l.map cI ++ [])]], J, sl_c I (sl_n), ⟨[.arr b0 165 48 1 [s_0.come.l.map cI ++ (j7.l.map cI ++ [])]], [], I, I, I, I, I⟩⟩
theorem L.zzkf_ok (n_0 : Network) (p_1 : Plan) (r : flow_streams) (h : L.zzkf n_0 p_1 = some r) : ACalls Tryz.env 109 [.agg (Network.row n_0), .agg (Plan.row p_1)] [] (fun x new => x = .agg (flow_streams.row r) ∧ new = []) := by
 refine ACalls.of_body Tryz.func109 rfl rfl rfl (fun C hC => ?_)
 unfold L.zzkf at h
 refine AW.seqG (fun y1 hy1 => (AW.region (AO.act [] I (AX.box (cs := Network.row n_0) (m := 6) I I I dS (fun b2 => (AO.act [] I (AX.box (cs := Plan.row p_1) (m := 3) I I I dS (fun b3 => (AO.act [] I (AX.alloc (cs := (Arr.rep 24 (0 : Int)).l.map cI ++ ((Arr.rep 24 (0 : Int)).l.map cI ++ [])) (m := 48) I I I I I dS (fun b4 => (AO.nil ?_))))))))))))
 subst hy1
 refine AW.seqG (fun y5 hy5 => (AW.region (AO.act [] I (AX.alloc (cs := (Arr.rep 24 (0 : Int)).l.map cI ++ ((Arr.rep 24 (0 : Int)).l.map cI ++ [])) (m := 48) I I I I I dS (fun b6 => (AO.nil ?_))))))
 subst hy5
 refine AW.cutX (fun s ob => ∃ (j39 : (Arr Int 24) × (Arr Int 24)), L.zzkf.J1 n_0 p_1 j39 = some r ∧ s = [] ∧ ob = [.arr b2 27 6 1 [Network.row n_0], .arr b3 32 3 1 [Plan.row p_1], .arr b4 165 48 1 [(Arr.rep 24 (0 : Int)).l.map cI ++ ((Arr.rep 24 (0 : Int)).l.map cI ++ [])], .arr b6 165 48 1 [j39.1.l.map cI ++ (j39.2.l.map cI ++ [])]]) [(2, _), (3, _), (4, _), (5, _)] ⟨I, I, I, I, J⟩ ?_ ?_
 refine AW.zr [.o 1 0, .l 2 (n_0.Segments.length : Int)] I ⟨len_m, I, J⟩ (AW.block (AW.listMax 11 I (fun hm120 => ?_)))
 replace hm120 : n_0.Segments.length ≤ 9223372036854775806 := by rw [List.length_map] at hm120; omega
 obtain ⟨o147, hL148, hR149⟩ := ob_some h
 clear h
 refine AW.forY hL148 [(2, _), (3, _), (4, _), (5, _), (11, _), (12, _)] ⟨I, I, I, I, I, I, J⟩ (fun (k118 : Nat) (st139 : (Arr Int 24) × (Arr Int 24)) s ob => s = [(13, .V (k118 : Int))] ∧ ob = [.arr b2 27 6 1 [Network.row n_0], .arr b3 32 3 1 [Plan.row p_1], .arr b4 165 48 1 [(Arr.rep 24 (0 : Int)).l.map cI ++ ((Arr.rep 24 (0 : Int)).l.map cI ++ [])], .arr b6 165 48 1 [st139.1.l.map cI ++ (st139.2.l.map cI ++ [])]]) ⟨I, I⟩ ⟨I, J⟩ ⟨[0, 1, 2, 3], I, by decide⟩ ?_ ?_
 rintro k118 x121 st139 r151 s ob hx122 hk119 ⟨rfl, rfl⟩ h
 unfold L.zzkf.B4 at h
 have hk119t : decide ((k118 : Int) < (n_0.Segments.length : Int)) = true := decide_eq_true (by omega)
 refine AW.z I (AW.seqG (fun y153 hy153 => (AW.condK (v := true) I hk119t (AW.skip ?_))))
 subst hy153
 refine AW.seq (AW.block (AW.seq (AW.region (AO.r 3 [.x 1 k118 (Segment.row x121)] I ⟨⟨I, map_get hx122⟩, J⟩ (AO.act [] I (AX.alloc (cs := [.v (.string ⟨#[]⟩), .V 0, .V 0, .V 0, .V 0, .V 0, .v (.slice none 0 0)]) (m := 7) I I I I I dS (fun b154 => (AO.q 1 I (AO.act [4] I (AX.store 4 0 0 (es' := [Segment.row x121]) I I I I I I I I (le_ble I) I I (AO.nil ?_)))))))))))
 obtain ⟨p155, hp156, h⟩ := ob_some h
 obtain ⟨hp156i, hp156x⟩ := ix_some hp156
 obtain ⟨r157, hx158, h⟩ := ob_some h
 refine AW.rd (pd 10 0 [9]) [4, 1] [_, _] I (AP.r 9 [.o 1 0, .o 3 0, .o 5 1, .x 7 p155.1 (rI p155.2)] I ⟨⟨hp156i, map_get hp156x⟩, I, I, I, J⟩ (AP.act [3] I I I (AX.c0 [3] (L.zuui_ok b6 _ _ _ _ _ hx158) ?_)))
 refine AP.ofAO (AO.nil (AW.region (AO.r 2 [.k 0 (k118 + 1 : Nat)] I ⟨cast_wr hk119 hm120, J⟩ ?_)))
 obtain rfl := oi h
 refine AO.nil ?_
 exact lg ⟨I, I⟩ [0, 1, 2, 3]
 rintro st139 s ob ⟨rfl, rfl⟩ he
 subst he
 have h := hR149
 have hk119f : decide (((n_0.Segments.length : Nat) : Int) < (n_0.Segments.length : Int)) = false := by simp
 refine AW.z I (AW.seqG (fun y160 hy160 => (AW.condK (v := false) I hk119f (AW.exit ?_))))
 exact lg ⟨(st139.1, st139.2), h, I, I⟩ [0, 1, 2, 3]
 rintro s ob ⟨j39, h, rfl, rfl⟩
 unfold L.zzkf.J1 at h
 refine AW.cutX (fun s ob => ∃ (j72 : (Arr Int 24) × (Arr Int 24)), L.zzkf.J2 j72 = some r ∧ s = [] ∧ ob = [.arr b4 165 48 1 [(Arr.rep 24 (0 : Int)).l.map cI ++ ((Arr.rep 24 (0 : Int)).l.map cI ++ [])], .arr b6 165 48 1 [j72.1.l.map cI ++ (j72.2.l.map cI ++ [])]]) [(4, _), (5, _)] ⟨I, I, J⟩ ?_ ?_
 refine AW.zr [.o 1 0, .l 2 (n_0.Ports.length : Int)] I ⟨len_m, I, J⟩ (AW.block (AW.listMax 30 I (fun hm76 => ?_)))
 replace hm76 : n_0.Ports.length ≤ 9223372036854775806 := by rw [List.length_map] at hm76; omega
 obtain ⟨o103, hL104, hR105⟩ := ob_some h
 clear h
 refine AW.forY hL104 [(3, _), (4, _), (5, _), (30, _), (31, _)] ⟨I, I, I, I, I, J⟩ (fun (k74 : Nat) (st95 : (Arr Int 24) × (Arr Int 24)) s ob => s = [(32, .V (k74 : Int))] ∧ ob = [.arr b3 32 3 1 [Plan.row p_1], .arr b4 165 48 1 [(Arr.rep 24 (0 : Int)).l.map cI ++ ((Arr.rep 24 (0 : Int)).l.map cI ++ [])], .arr b6 165 48 1 [st95.1.l.map cI ++ (st95.2.l.map cI ++ [])]]) ⟨I, I⟩ ⟨I, J⟩ ⟨[1, 2, 3], I, by decide⟩ ?_ ?_
 rintro k74 x77 st95 r107 s ob hx78 hk75 ⟨rfl, rfl⟩ h
 unfold L.zzkf.B3 at h
 have hk75t : decide ((k74 : Int) < (n_0.Ports.length : Int)) = true := decide_eq_true (by omega)
 refine AW.z I (AW.seqG (fun y109 hy109 => (AW.condK (v := true) I hk75t (AW.skip ?_))))
 subst hy109
 refine AW.seq (AW.block (AW.seq (AW.region (AO.r 3 [.x 1 k74 (Port.row x77)] I ⟨⟨I, map_get hx78⟩, J⟩ (AO.act [] I (AX.alloc (cs := [.v (.string ⟨#[]⟩), .V 0, .V 0]) (m := 3) I I I I I dS (fun b110 => (AO.q 1 I (AO.act [3] I (AX.store 3 0 0 (es' := [Port.row x77]) I I I I I I I I (le_ble I) I I (AO.nil ?_)))))))))))
 obtain ⟨p111, hp112, h⟩ := ob_some h
 obtain ⟨hp112i, hp112x⟩ := ix_some hp112
 obtain ⟨r113, hx114, h⟩ := ob_some h
 refine AW.rd (pd 8 0 [7]) [3, 0] [_, _] I (AP.r 7 [.o 1 0, .o 3 1, .x 5 p111.1 (rI p111.2)] I ⟨⟨hp112i, map_get hp112x⟩, I, I, J⟩ (AP.act [2] I I I (AX.c0 [2] (L.zuui_ok b6 _ _ _ _ _ hx114) ?_)))
 refine AP.ofAO (AO.nil (AW.region (AO.r 2 [.k 0 (k74 + 1 : Nat)] I ⟨cast_wr hk75 hm76, J⟩ ?_)))
 obtain rfl := oi h
 refine AO.nil ?_
 exact lg ⟨I, I⟩ [0, 1, 2]
 rintro st95 s ob ⟨rfl, rfl⟩ he
 subst he
 have h := hR105
 have hk75f : decide (((n_0.Ports.length : Nat) : Int) < (n_0.Ports.length : Int)) = false := by simp
 refine AW.z I (AW.seqG (fun y116 hy116 => (AW.condK (v := false) I hk75f (AW.exit ?_))))
 exact lg ⟨(st95.1, st95.2), h, I, I⟩ [1, 2]
 rintro s ob ⟨j72, h, rfl, rfl⟩
 unfold L.zzkf.J2 at h
 refine AW.seq (AW.region (AO.d (Yd.loadO 1 0 0 I I I I I (y := .agg (j72.1.l.map cI ++ (j72.2.l.map cI ++ []))) (part_all I (by simp [Arr.h, flow_streams.row]))) I (AO.act [0] I (AX.store 0 0 0 (es' := [j72.1.l.map cI ++ (j72.2.l.map cI ++ [])]) I I I I I I I (by simp [Arr.h, flow_streams.row]) (by simp [Arr.h, flow_streams.row]) I (congrArg (fun r => [r]) (setC_all (by simp [Arr.h, flow_streams.row]))) (AO.nil (AW.ghost (Ghost.pick [0] (K := [.arr b4 165 48 1 [j72.1.l.map cI ++ (j72.2.l.map cI ++ [])]]) I (by decide)) ?_))))))
 obtain rfl := oi h
 exact AW.ret ⟨.inr I, [_], [], ⟨⟨0, _, _, _, _, _, _, _, I, I, I, I, (part_all I (by simp [Arr.h, flow_streams.row]))⟩, J⟩, sl_n, I, I⟩
theorem L.zfct_ok (rate_0 : Int) (r : Bool) (h : L.zfct rate_0 = r) : ACalls Tryz.env 108 [.V rate_0] [] (fun x new => x = .v (.bool r) ∧ new = []) := by
 refine ACalls.of_body Tryz.func108 rfl rfl rfl (fun C hC => ?_)
 unfold L.zfct at h
 refine AW.z I (AW.seq (AW.region (AO.q 1 I (AO.c (L.zqkj_ok rate_0 1000 _ I) (AO.q 2 I (AO.nil ?_))))))
 obtain rfl := h
 exact AW.ret pr
theorem L.zmqu_ok (n_0 : Network) (p_1 : Plan) (r : Int) (h : L.zmqu n_0 p_1 = some r) : ACalls Tryz.env 74 [.agg (Network.row n_0), .agg (Plan.row p_1)] [] (fun x new => x = .V r ∧ new = []) := by
 refine ACalls.of_body Tryz.func74 rfl rfl rfl (fun C hC => ?_)
 unfold L.zmqu at h
 refine AW.seqG (fun y1 hy1 => (AW.region (AO.act [] I (AX.box (cs := Network.row n_0) (m := 6) I I I dS (fun b2 => (AO.act [] I (AX.box (cs := Plan.row p_1) (m := 3) I I I dS (fun b3 => (AO.q 1 I (AO.nil ?_))))))))))
 subst hy1
 refine AW.seqG (fun y4 hy4 => (AW.seq ?_))
 obtain ⟨r5, hx6, h⟩ := ob_some h
 refine AW.region (AO.r 1 [.o 0 0] I ⟨I, J⟩ (AO.c (L.zfta_ok _ _ hx6) (AO.q 1 I (AO.nil (AW.z I (AW.ch h I ?_ ?_))))))
 intro hc7 h
 refine AW.z I (AW.ghost g0 ?_)
 obtain rfl := oi h
 exact AW.ret pr
 intro hc7 h
 refine AW.skip ?_
 subst hy4
 refine AW.seqG (fun y8 hy8 => (AW.cutX (fun s ob => s = [(38, .v (.bool (((p_1.Rates.length : Int) != (n_0.Segments.length : Int)) || (((p_1.Ports.length : Int) != (n_0.Ports.length : Int)) || ((p_1.Pumps.length : Int) != (n_0.Stations.length : Int))))))] ∧ ob = [.arr b2 27 6 1 [Network.row n_0], .arr b3 32 3 1 [Plan.row p_1]]) [(2, _), (3, _)] ⟨I, I, J⟩ ?_ ?_))
 refine AW.region (AO.r 8 [.o 1 1, .l 2 (p_1.Rates.length : Int), .o 4 0, .l 5 (n_0.Segments.length : Int)] I ⟨len_m, I, len_m, I, J⟩ ?_)
 rcases bt (((p_1.Rates.length : Int) != (n_0.Segments.length : Int))) with hg12 | hg12
 refine AO.known 21 I hg12 (AO.q 17 I (AO.nil ?_))
 exact lf ⟨I, I⟩ ⟨(get_b (by simp only [hg12, bz])), I, I, J⟩ [0, 1] I
 refine AO.known 21 I hg12 (AO.r 9 [.o 1 1, .l 2 (p_1.Ports.length : Int), .o 4 0, .l 5 (n_0.Ports.length : Int)] I ⟨len_m, I, len_m, I, J⟩ ?_)
 rcases bt (((p_1.Ports.length : Int) != (n_0.Ports.length : Int))) with hg13 | hg13
 refine AO.known 30 I hg13 (AO.q 8 I (AO.nil ?_))
 exact lf ⟨I, I⟩ ⟨(get_b (by simp only [hg12, hg13, bz])), I, I, J⟩ [0, 1] I
 refine AO.known 30 I hg13 (AO.r 8 [.o 1 1, .l 2 (p_1.Pumps.length : Int), .o 4 0, .l 5 (n_0.Stations.length : Int)] I ⟨len_m, I, len_m, I, J⟩ (AO.nil ?_))
 exact lf ⟨I, I⟩ ⟨(get_b (by simp only [hg12, hg13, bz])), I, I, J⟩ [0, 1] I
 rintro s ob ⟨rfl, rfl⟩
 refine AW.ch h I ?_ ?_
 intro hc14 h
 refine AW.z I (AW.ghost g0 ?_)
 obtain rfl := oi h
 exact AW.ret pr
 intro hc14 h
 refine AW.skip ?_
 subst hy8
 refine AW.cutX (fun s ob => ∃ (j39 : Unit), L.zmqu.J1 n_0 p_1 j39 = some r ∧ s = [] ∧ ob = [.arr b2 27 6 1 [Network.row n_0], .arr b3 32 3 1 [Plan.row p_1]]) [(2, _), (3, _)] ⟨I, I, J⟩ ?_ ?_
 refine AW.zr [.o 1 0, .l 2 (n_0.Segments.length : Int)] I ⟨len_m, I, J⟩ (AW.block (AW.listMax 40 I (fun hm56 => ?_)))
 replace hm56 : n_0.Segments.length ≤ 9223372036854775806 := by rw [List.length_map] at hm56; omega
 obtain ⟨o75, hL76, hR77⟩ := ob_some h
 clear h
 refine AW.forX hL76 [(2, _), (3, _), (40, _), (41, _)] ⟨I, I, I, I, J⟩ (fun (k54 : Nat) (st67 : Unit) s ob => s = [(42, .V (k54 : Int))] ∧ ob = [.arr b2 27 6 1 [Network.row n_0], .arr b3 32 3 1 [Plan.row p_1]]) ⟨I, I⟩ ⟨I, J⟩ ⟨[0, 1], I, by decide⟩ ?_ ?_
 rintro k54 x57 st67 r79 s ob hx58 hk55 ⟨rfl, rfl⟩ h hb78
 unfold L.zmqu.B2 at h
 have hk55t : decide ((k54 : Int) < (n_0.Segments.length : Int)) = true := decide_eq_true (by omega)
 refine AW.z I (AW.seqG (fun y81 hy81 => (AW.condK (v := true) I hk55t (AW.skip ?_))))
 subst hy81
 refine AW.seq (AW.block (AW.seqG (fun y82 hy82 => (AW.region (AO.r 3 [.x 1 k54 (Segment.row x57)] I ⟨⟨I, map_get hx58⟩, J⟩ (AO.act [] I (AX.alloc (cs := [.v (.string ⟨#[]⟩), .V 0, .V 0, .V 0, .V 0, .V 0, .v (.slice none 0 0)]) (m := 7) I I I I I dS (fun b83 => (AO.q 1 I (AO.act [2] I (AX.store 2 0 0 (es' := [Segment.row x57]) I I I I I I I I (le_ble I) I I (AO.nil ?_))))))))))))
 subst hy82
 refine AW.seq ?_
 obtain ⟨p84, hp85, h⟩ := ob_some h
 obtain ⟨hp85i, hp85x⟩ := ix_some hp85
 refine AW.rd (pd 10 0 [8]) [1, 2] [_, _] I (AP.r 8 [.o 1 0, .x 3 p84.1 (rI p84.2), .o 6 1] I ⟨I, ⟨hp85i, map_get hp85x⟩, I, J⟩ (AP.c I (L.zqkj_ok p84.2 (min 1000 x57.Capacity) _ I) (AP.q 1 I (AP.ofAO (AO.nil (AW.ch h I ?_ ?_))))))
 intro hc86 h
 refine AW.z I ?_
 obtain rfl := hb78 _ (oi h).symm
 replace h := hR77
 replace h := se_r h
 refine AW.ghost g0 ?_
 obtain rfl := oi h
 exact AW.ret pr
 intro hc86 h
 refine AW.skip (AW.region (AO.r 2 [.k 0 (k54 + 1 : Nat)] I ⟨cast_wr hk55 hm56, J⟩ ?_))
 obtain rfl := oi h
 refine AO.nil ?_
 exact ⟨_, _, _, I, ⟨I, I⟩, ⟨I, I, I, I, I, J⟩, [0, 1], I, by decide⟩
 rintro st67 s ob ⟨rfl, rfl⟩ he
 subst he
 have h := se_l hR77
 have hk55f : decide (((n_0.Segments.length : Nat) : Int) < (n_0.Segments.length : Int)) = false := by simp
 refine AW.z I (AW.seqG (fun y88 hy88 => (AW.condK (v := false) I hk55f (AW.exit ?_))))
 exact lg ⟨(), h, I, I⟩ [0, 1]
 rintro s ob ⟨j39, h, rfl, rfl⟩
 unfold L.zmqu.J1 at h
 refine AW.seqG (fun y40 hy40 => (AW.seq ?_))
 obtain ⟨r41, hx42, h⟩ := ob_some h
 refine AW.region (AO.r 2 [.o 1 1] I ⟨I, J⟩ (AO.c (L.zvoj_ok _ (.v (.func (.func 108) #[] #[])) I (fun x => some (L.zfct x)) (fun x r h => by obtain I := oi h; exact L.zfct_ok x _ I) _ hx42) (AO.nil (AW.ch h I ?_ ?_))))
 intro hc43 h
 refine AW.z I (AW.ghost g0 ?_)
 obtain rfl := oi h
 exact AW.ret pr
 intro hc43 h
 refine AW.skip ?_
 subst hy40
 refine AW.seqG (fun y44 hy44 => (AW.seq ?_))
 obtain ⟨r45, hx46, h⟩ := ob_some h
 refine AW.region (AO.r 2 [.o 0 0, .o 1 1] I ⟨I, I, J⟩ (AO.act [] I (AX.call0 I I I (L.zzkf_ok _ _ _ hx46) dS ?_)))
 rintro _ _ ⟨rfl, rfl⟩
 refine AO.act [] I (AX.alloc (cs := (Arr.rep 24 (0 : Int)).l.map cI ++ ((Arr.rep 24 (0 : Int)).l.map cI ++ [])) (m := 48) I I I I I dS (fun b47 => (AO.act [2] I (AX.store 2 0 0 (es' := [r45.come.l.map cI ++ (r45.leave.l.map cI ++ [])]) I I I I I I I (by simp [Arr.h, flow_streams.row]) (by simp [Arr.h, flow_streams.row]) I (congrArg (fun r => [r]) (setC_all (by simp [Arr.h, flow_streams.row]))) (AO.nil (AW.seq (AW.region (AO.q 1 I (AO.d (Yd.loadO 2 0 0 I I I I I (y := .agg (r45.come.l.map cI)) (part_here I (by simp [Arr.h, flow_streams.row]))) I (AO.q 1 I (AO.d (Yd.loadO 2 0 24 I I I I I (y := .agg (r45.leave.l.map cI)) (part_skip (k := 24) I I (by simp [Arr.h, flow_streams.row]) (part_here I (by simp [Arr.h, flow_streams.row])))) I (AO.p (Yp.eqArr (a := r45.come) (b := r45.leave) I I I I I Tryz.eq163 I I I) I (AO.nil (AW.ch h I ?_ ?_))))))))))))))
 intro hc48 h
 refine AW.z I (AW.ghost g0 ?_)
 obtain rfl := oi h
 exact AW.ret pr
 intro hc48 h
 refine AW.skip ?_
 subst hy44
 refine AW.seq (AW.seq ?_)
 obtain ⟨r49, hx50, h⟩ := ob_some h
 refine AW.rd (.still 0 (.still 1 (.still 4 (.still 5 (.still 6 (.act 2 (.act 3 (.still 7 .nil)))))))) [0, 1] [_, _] I (AP.r 5 [.o 0 0, .o 1 1, .o 3 0, .l 4 (n_0.Nodes.length : Int)] I ⟨len_m, I, I, I, J⟩ (AP.act [] I I I (AX.call0 I I I (L.zsgw_ok _ _ _ hx50) dS ?_)))
 rintro _ _ ⟨v51, rfl, rfl⟩
 refine AP.act [] I I I (AX.of_yd (Yd.lenUM 3 I I I I) dS (AP.q 1 I (AP.ofAO (AO.nil (AW.ch h I ?_ ?_)))))
 intro hc52 h
 refine AW.z I (AW.ghost g0 ?_)
 obtain rfl := oi h
 exact AW.ret pr
 intro hc52 h
 refine AW.skip (AW.z I (AW.ghost g0 ?_))
 obtain rfl := oi h
 exact AW.ret pr
end Go.Proofs.YtehbcbedipkifaaGreatDoor
