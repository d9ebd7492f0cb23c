/- Walks that show what functions of the program compute; printed by a program of ours. No condition. -/
import Derived.Test.YtehbcbedipkifaaGreatDoorZxL2
import Derived.Test.YtehbcbedipkifaaGreatDoorZxD
set_option maxRecDepth 100000
namespace Go.Proofs.YtehbcbedipkifaaGreatDoor
open Go.Aw
set_option linter.unusedVariables false
set_option linter.unusedSimpArgs false
set_option maxHeartbeats 4000000
theorem L.zmae_ok (n_0 : Int) (low_1 : Int) (high_2 : Int) (r : Bool) (h : L.zmae n_0 low_1 high_2 = r) : ACalls Tryz.env 136 [.V n_0, .V low_1, .V high_2] [] (fun x new => x = .v (.bool r) ∧ new = []) := by
 refine ACalls.of_body Tryz.func136 rfl rfl rfl (fun C hC => ?_)
 unfold L.zmae at h
 refine AW.z I (AW.cutX (fun s ob => s = [(6, .v (.bool (decide (n_0 ≥ low_1) && decide (n_0 ≤ high_2))))] ∧ ob = []) [] J ?_ ?_)
 refine AW.region (AO.q 4 I ?_)
 rcases bt (decide (n_0 ≥ low_1)) with hg3 | hg3
 refine AO.known 10 I hg3 (AO.q 5 I (AO.nil ?_))
 exact lf ⟨I, I⟩ ⟨(get_b (by simp only [hg3, bz])), J⟩ [] I
 refine AO.known 10 I hg3 (AO.q 5 I (AO.nil ?_))
 exact lf ⟨I, I⟩ ⟨(get_b (by simp only [hg3, bz])), J⟩ [] I
 rintro s ob ⟨rfl, rfl⟩
 obtain rfl := h
 exact AW.ret pr
theorem L.zghg_ok (n_0 : Network) (r : Arr (List ByteArray) 4) (h : L.zghg n_0 = some r) : ACalls Tryz.env 137 [.agg (Network.row n_0)] [] (fun x new => x = .agg (r.l.map (cL 1 rS)) ∧ new = []) := by
 refine ACalls.of_body Tryz.func137 rfl rfl rfl (fun C hC => ?_)
 unfold L.zghg at h
 refine AW.seqG (fun y1 hy1 => (AW.region (AO.act [] I (AX.box (cs := Network.row n_0) (m := 6) I I I dS (fun b2 => (AO.act [] I (AX.alloc (cs := [.v (.slice none 0 0), .v (.slice none 0 0), .v (.slice none 0 0), .v (.slice none 0 0)]) (m := 4) I I I I I dS (fun b3 => (AO.nil ?_)))))))))
 subst hy1
 refine AW.seqG (fun y4 hy4 => (AW.region (AO.act [] I (AX.alloc (cs := [.v (.slice none 0 0), .v (.slice none 0 0), .v (.slice none 0 0), .v (.slice none 0 0)]) (m := 4) I I I I I dS (fun b5 => (AO.nil ?_))))))
 subst hy4
 refine AW.seqG (fun y6 hy6 => (AW.region (AO.r 2 [.o 1 0] I ⟨I, J⟩ (AO.p (Yp.indexA (m := 0) I I I I I I (le_ble I)) I (AO.act [2] I (AX.store 2 0 0 (es' := [[.list 1 (n_0.Nodes.map rS), .v (.slice none 0 0), .v (.slice none 0 0), .v (.slice none 0 0)]]) I I I I I I I I (le_ble I) I I (AO.nil ?_)))))))
 subst hy6
 refine AW.cutX (fun s ob => ∃ (j41 : List ByteArray) (v42 : Value), L.zghg.J1 n_0 j41 = some r ∧ s = [] ∧ ob = [.arr b2 27 6 1 [Network.row n_0], .arr b3 168 4 1 [[.v (.slice none 0 0), .v (.slice none 0 0), .v (.slice none 0 0), .v (.slice none 0 0)]], .arr b5 168 4 1 [[.list 1 (n_0.Nodes.map rS), .v v42, .v (.slice none 0 0), .v (.slice none 0 0)]], .us v42 9 1 (j41.map rS)]) [(1, _), (2, _), (3, _)] ⟨I, I, I, J⟩ ?_ ?_
 refine AW.zr [.o 1 0, .l 2 (n_0.Segments.length : Int)] I ⟨len_m, I, J⟩ (AW.block (AW.listMax 14 I (fun hm210 => ?_)))
 replace hm210 : n_0.Segments.length ≤ 9223372036854775806 := by rw [List.length_map] at hm210; omega
 refine AW.ghost (Ghost.nilU 9 1) ?_
 obtain ⟨o239, hL240, hR241⟩ := ob_some h
 clear h
 refine AW.forY hL240 [(1, _), (2, _), (3, _), (14, _), (15, _)] ⟨I, I, I, I, I, J⟩ (fun (k208 : Nat) (st230 : List ByteArray) s ob => ∃ (v231 : Value), s = [(16, .V (k208 : Int))] ∧ ob = [.arr b2 27 6 1 [Network.row n_0], .arr b3 168 4 1 [[.v (.slice none 0 0), .v (.slice none 0 0), .v (.slice none 0 0), .v (.slice none 0 0)]], .arr b5 168 4 1 [[.list 1 (n_0.Nodes.map rS), .v v231, .v (.slice none 0 0), .v (.slice none 0 0)]], .us v231 9 1 (st230.map rS)]) ⟨(.slice none 0 0), I, I⟩ ⟨I, J⟩ ⟨[0, 1, 2, 3], I, by decide⟩ ?_ ?_
 rintro k208 x211 st230 r243 s ob hx212 hk209 ⟨v231, rfl, rfl⟩ h
 unfold L.zghg.B6 at h
 have hk209t : decide ((k208 : Int) < (n_0.Segments.length : Int)) = true := decide_eq_true (by omega)
 refine AW.z I (AW.seqG (fun y245 hy245 => (AW.condK (v := true) I hk209t (AW.skip ?_))))
 subst hy245
 refine AW.seq (AW.block (AW.seq (AW.region (AO.r 2 [.x 0 k208 (Segment.row x211)] I ⟨⟨I, map_get hx212⟩, J⟩ (AO.act [] I (AX.alloc (cs := [.v (.string ⟨#[]⟩), .V 0, .V 0, .V 0, .V 0, .V 0, .v (.slice none 0 0)]) (m := 7) I I I I I dS (fun b246 => (AO.act [4] I (AX.store 4 0 0 (es' := [Segment.row x211]) I I I I I I I I (le_ble I) I I (AO.nil ?_))))))))))
 obtain ⟨l248, hx249, h⟩ := ob_some h
 refine AW.region (AO.p (Yp.indexA (m := 1) I I I I I I (le_ble I)) I (AO.r 3 [.o 0 2, .o 2 4] I ⟨I, I, J⟩ (AO.act [] I (AX.lt 1 (([x211.Name] : List ByteArray).map rS) (AO.act [3] I (AX.ap 3 I hx249 (fun v250 => (AO.p (Yp.indexA (m := 1) I I I I I I (le_ble I)) I (AO.one 3 I (fun v250o => (AO.act [2] I (AX.store 2 0 1 (es' := [[.list 1 (n_0.Nodes.map rS), .v v250, .v (.slice none 0 0), .v (.slice none 0 0)]]) I I I I I I (cells_v v250o) I (le_ble I) I I (AO.nil (AW.region (AO.r 2 [.k 0 (k208 + 1 : Nat)] I ⟨cast_wr hk209 hm210, J⟩ ?_)))))))))))))))
 obtain rfl := oi h
 refine AO.nil ?_
 exact lg ⟨v250, I, I⟩ [0, 1, 2, 3]
 rintro st230 s ob ⟨v231, rfl, rfl⟩ he
 subst he
 have h := hR241
 have hk209f : decide (((n_0.Segments.length : Nat) : Int) < (n_0.Segments.length : Int)) = false := by simp
 refine AW.z I (AW.seqG (fun y252 hy252 => (AW.condK (v := false) I hk209f (AW.exit ?_))))
 exact lg ⟨st230, v231, h, I, I⟩ [0, 1, 2, 3]
 rintro s ob ⟨j41, v42, h, rfl, rfl⟩
 unfold L.zghg.J1 at h
 refine AW.cutX (fun s ob => ∃ (j77 : List ByteArray) (v78 : Value), L.zghg.J2 n_0 j41 j77 = some r ∧ s = [] ∧ ob = [.arr b2 27 6 1 [Network.row n_0], .arr b3 168 4 1 [[.v (.slice none 0 0), .v (.slice none 0 0), .v (.slice none 0 0), .v (.slice none 0 0)]], .arr b5 168 4 1 [[.list 1 (n_0.Nodes.map rS), .v v42, .v v78, .v (.slice none 0 0)]], .us v42 9 1 (j41.map rS), .us v78 9 1 (j77.map rS)]) [(1, _), (2, _), (3, _)] ⟨I, I, I, J⟩ ?_ ?_
 refine AW.zr [.o 1 0, .l 2 (n_0.Ports.length : Int)] I ⟨len_m, I, J⟩ (AW.block (AW.listMax 29 I (fun hm164 => ?_)))
 replace hm164 : n_0.Ports.length ≤ 9223372036854775806 := by rw [List.length_map] at hm164; omega
 refine AW.ghost (Ghost.nilU 9 1) ?_
 obtain ⟨o193, hL194, hR195⟩ := ob_some h
 clear h
 refine AW.forY hL194 [(1, _), (2, _), (3, _), (29, _), (30, _)] ⟨I, I, I, I, I, J⟩ (fun (k162 : Nat) (st184 : List ByteArray) s ob => ∃ (v185 : Value), s = [(31, .V (k162 : Int))] ∧ ob = [.arr b2 27 6 1 [Network.row n_0], .arr b3 168 4 1 [[.v (.slice none 0 0), .v (.slice none 0 0), .v (.slice none 0 0), .v (.slice none 0 0)]], .arr b5 168 4 1 [[.list 1 (n_0.Nodes.map rS), .v v42, .v v185, .v (.slice none 0 0)]], .us v42 9 1 (j41.map rS), .us v185 9 1 (st184.map rS)]) ⟨(.slice none 0 0), I, I⟩ ⟨I, J⟩ ⟨[0, 1, 2, 3, 4], I, by decide⟩ ?_ ?_
 rintro k162 x165 st184 r197 s ob hx166 hk163 ⟨v185, rfl, rfl⟩ h
 unfold L.zghg.B5 at h
 have hk163t : decide ((k162 : Int) < (n_0.Ports.length : Int)) = true := decide_eq_true (by omega)
 refine AW.z I (AW.seqG (fun y199 hy199 => (AW.condK (v := true) I hk163t (AW.skip ?_))))
 subst hy199
 refine AW.seq (AW.block (AW.seq (AW.region (AO.r 2 [.x 0 k162 (Port.row x165)] I ⟨⟨I, map_get hx166⟩, J⟩ (AO.act [] I (AX.alloc (cs := [.v (.string ⟨#[]⟩), .V 0, .V 0]) (m := 3) I I I I I dS (fun b200 => (AO.act [5] I (AX.store 5 0 0 (es' := [Port.row x165]) I I I I I I I I (le_ble I) I I (AO.nil ?_))))))))))
 obtain ⟨l202, hx203, h⟩ := ob_some h
 refine AW.region (AO.p (Yp.indexA (m := 2) I I I I I I (le_ble I)) I (AO.r 3 [.o 0 2, .o 2 5] I ⟨I, I, J⟩ (AO.act [] I (AX.lt 1 (([x165.Name] : List ByteArray).map rS) (AO.act [4] I (AX.ap 4 I hx203 (fun v204 => (AO.p (Yp.indexA (m := 2) I I I I I I (le_ble I)) I (AO.one 4 I (fun v204o => (AO.act [2] I (AX.store 2 0 2 (es' := [[.list 1 (n_0.Nodes.map rS), .v v42, .v v204, .v (.slice none 0 0)]]) I I I I I I (cells_v v204o) I (le_ble I) I I (AO.nil (AW.region (AO.r 2 [.k 0 (k162 + 1 : Nat)] I ⟨cast_wr hk163 hm164, J⟩ ?_)))))))))))))))
 obtain rfl := oi h
 refine AO.nil ?_
 exact lg ⟨v204, I, I⟩ [0, 1, 2, 3, 4]
 rintro st184 s ob ⟨v185, rfl, rfl⟩ he
 subst he
 have h := hR195
 have hk163f : decide (((n_0.Ports.length : Nat) : Int) < (n_0.Ports.length : Int)) = false := by simp
 refine AW.z I (AW.seqG (fun y206 hy206 => (AW.condK (v := false) I hk163f (AW.exit ?_))))
 exact lg ⟨st184, v185, h, I, I⟩ [0, 1, 2, 3, 4]
 rintro s ob ⟨j77, v78, h, rfl, rfl⟩
 unfold L.zghg.J2 at h
 refine AW.cutX (fun s ob => ∃ (j113 : List ByteArray) (v114 : Value), L.zghg.J3 n_0 j41 j77 j113 = some r ∧ s = [] ∧ ob = [.arr b3 168 4 1 [[.v (.slice none 0 0), .v (.slice none 0 0), .v (.slice none 0 0), .v (.slice none 0 0)]], .arr b5 168 4 1 [[.list 1 (n_0.Nodes.map rS), .v v42, .v v78, .v v114]], .us v42 9 1 (j41.map rS), .us v78 9 1 (j77.map rS), .us v114 9 1 (j113.map rS)]) [(2, _), (3, _)] ⟨I, I, J⟩ ?_ ?_
 refine AW.zr [.o 1 0, .l 2 (n_0.Stations.length : Int)] I ⟨len_m, I, J⟩ (AW.block (AW.listMax 44 I (fun hm118 => ?_)))
 replace hm118 : n_0.Stations.length ≤ 9223372036854775806 := by rw [List.length_map] at hm118; omega
 refine AW.ghost (Ghost.nilU 9 1) ?_
 obtain ⟨o147, hL148, hR149⟩ := ob_some h
 clear h
 refine AW.forY hL148 [(2, _), (3, _), (44, _), (45, _)] ⟨I, I, I, I, J⟩ (fun (k116 : Nat) (st138 : List ByteArray) s ob => ∃ (v139 : Value), s = [(46, .V (k116 : Int))] ∧ ob = [.arr b3 168 4 1 [[.v (.slice none 0 0), .v (.slice none 0 0), .v (.slice none 0 0), .v (.slice none 0 0)]], .arr b5 168 4 1 [[.list 1 (n_0.Nodes.map rS), .v v42, .v v78, .v v139]], .us v42 9 1 (j41.map rS), .us v78 9 1 (j77.map rS), .us v139 9 1 (st138.map rS)]) ⟨(.slice none 0 0), I, I⟩ ⟨I, J⟩ ⟨[1, 2, 3, 4, 5], I, by decide⟩ ?_ ?_
 rintro k116 x119 st138 r151 s ob hx120 hk117 ⟨v139, rfl, rfl⟩ h
 unfold L.zghg.B4 at h
 have hk117t : decide ((k116 : Int) < (n_0.Stations.length : Int)) = true := decide_eq_true (by omega)
 refine AW.z I (AW.seqG (fun y153 hy153 => (AW.condK (v := true) I hk117t (AW.skip ?_))))
 subst hy153
 refine AW.seq (AW.block (AW.seq (AW.region (AO.r 2 [.x 0 k116 (Station.row x119)] I ⟨⟨I, map_get hx120⟩, J⟩ (AO.act [] I (AX.alloc (cs := [.v (.string ⟨#[]⟩), .V 0, .V 0, .V 0, .V 0]) (m := 5) I I I I I dS (fun b154 => (AO.act [5] I (AX.store 5 0 0 (es' := [Station.row x119]) I I I I I I I I (le_ble I) I I (AO.nil ?_))))))))))
 obtain ⟨l156, hx157, h⟩ := ob_some h
 refine AW.region (AO.p (Yp.indexA (m := 3) I I I I I I (le_ble I)) I (AO.r 3 [.o 0 1, .o 2 5] I ⟨I, I, J⟩ (AO.act [] I (AX.lt 1 (([x119.Name] : List ByteArray).map rS) (AO.act [4] I (AX.ap 4 I hx157 (fun v158 => (AO.p (Yp.indexA (m := 3) I I I I I I (le_ble I)) I (AO.one 4 I (fun v158o => (AO.act [1] I (AX.store 1 0 3 (es' := [[.list 1 (n_0.Nodes.map rS), .v v42, .v v78, .v v158]]) I I I I I I (cells_v v158o) I (le_ble I) I I (AO.nil (AW.region (AO.r 2 [.k 0 (k116 + 1 : Nat)] I ⟨cast_wr hk117 hm118, J⟩ ?_)))))))))))))))
 obtain rfl := oi h
 refine AO.nil ?_
 exact lg ⟨v158, I, I⟩ [0, 1, 2, 3, 4]
 rintro st138 s ob ⟨v139, rfl, rfl⟩ he
 subst he
 have h := hR149
 have hk117f : decide (((n_0.Stations.length : Nat) : Int) < (n_0.Stations.length : Int)) = false := by simp
 refine AW.z I (AW.seqG (fun y160 hy160 => (AW.condK (v := false) I hk117f (AW.exit ?_))))
 exact lg ⟨st138, v139, h, I, I⟩ [0, 1, 2, 3, 4]
 rintro s ob ⟨j113, v114, h, rfl, rfl⟩
 unfold L.zghg.J3 at h
 refine AW.seq (AW.region (AO.r 1 [.o 0 1] I ⟨I, J⟩ (AO.act [0] I (AX.store 0 0 0 (es' := [[.list 1 (n_0.Nodes.map rS), .v v42, .v v78, .v v114]]) I I I I I I I I (le_ble I) I I (AO.nil (AW.ghost (Ghost.freeze [2, 3, 4] (K := [.us v42 9 1 (j41.map rS), .us v78 9 1 (j77.map rS), .us v114 9 1 (j113.map rS)]) I [(58, .agg [.list 1 (n_0.Nodes.map rS), .list 1 (j41.map rS), .list 1 (j77.map rS), .list 1 (j113.map rS)])] ⟨⟨_, I, .agg (.cons (.refl _) (.cons (.us 0 I) (.cons (.us 1 I) (.cons (.us 2 I) (.rest _)))))⟩, J⟩ (ob' := [.arr b3 168 4 1 [[.list 1 (n_0.Nodes.map rS), .list 1 (j41.map rS), .list 1 (j77.map rS), .list 1 (j113.map rS)]], .arr b5 168 4 1 [[.list 1 (n_0.Nodes.map rS), .list 1 (j41.map rS), .list 1 (j77.map rS), .list 1 (j113.map rS)]]]) (.cons (.arr (.cons (.refl _) (.cons (.us 0 I) (.cons (.us 1 I) (.cons (.us 2 I) (.rest _)))))) (.cons (.arr (.cons (.refl _) (.cons (.us 0 I) (.cons (.us 1 I) (.cons (.us 2 I) (.rest _)))))) (.rest _)))) (AW.ghost (Ghost.pick [0] (K := [.arr b3 168 4 1 [[.list 1 (n_0.Nodes.map rS), .list 1 (j41.map rS), .list 1 (j77.map rS), .list 1 (j113.map rS)]]]) I (by decide)) ?_)))))))
 obtain rfl := oi h
 exact AW.ret ⟨.inr I, [_], [], ⟨⟨0, _, _, _, _, _, _, _, I, I, I, I, I⟩, J⟩, sl_n, I, I⟩
theorem L.zgmr_ok (s_0 : ByteArray) (r : Bool) (h : L.zgmr s_0 = some r) : ACalls Tryz.env 102 [.v (.string s_0)] [] (fun x new => x = .v (.bool r) ∧ new = []) := by
 refine ACalls.of_body Tryz.func102 rfl rfl rfl (fun C hC => ?_)
 unfold L.zgmr at h
 refine AW.z I (AW.seqG (fun y2 hy2 => (AW.cutX (fun s ob => ∃ (j10 : Bool), L.zgmr.J1 s_0 j10 = some r ∧ s = [(21, .v (.bool j10))] ∧ ob = []) [(0, _)] ⟨I, J⟩ ?_ ?_)))
 refine AW.region (AO.q 4 I ?_)
 rcases bt (decide ((s_0.size : Int) < 1)) with hg266 | hg266
 replace h := ife_t hg266 h
 refine AO.known 7 I hg266 (AO.q 14 I (AO.nil ?_))
 exact lg ⟨true, h, I, I⟩ []
 replace h := ife_f hg266 h
 refine AO.known 7 I hg266 ?_
 rcases bt (decide ((s_0.size : Int) > 12)) with hg267 | hg267
 replace h := ife_t hg267 h
 refine AO.q 5 I (AO.known 12 I hg267 (AO.q 9 I (AO.nil ?_)))
 exact lg ⟨true, h, I, I⟩ []
 replace h := ife_f hg267 h
 obtain ⟨p268, hp269, h⟩ := ob_some h
 obtain ⟨hp269i, hp269l, hp269x⟩ := ixs_some hp269
 refine AO.q 5 I (AO.known 12 I hg267 (AO.q 1 I (AO.gt I I I (AO.p (Yp.indexStrX (m := p268.1) I I I I hp269i hp269l hp269x) I (AO.gt I I I (AO.p (Yp.cmpI (c := decide (p268.2 < 97)) I I I) I (AO.q 2 I ?_)))))))
 rcases bt (decide (p268.2 < 97)) with hg270 | hg270
 replace h := ife_t hg270 h
 refine AO.known 17 I hg270 (AO.q 4 I (AO.nil ?_))
 exact lg ⟨true, h, I, I⟩ []
 replace h := ife_f hg270 h
 refine AO.known 17 I hg270 (AO.q 1 I (AO.gt I I I (AO.p (Yp.indexStrX (m := p268.1) I I I I hp269i hp269l hp269x) I (AO.gt I I I (AO.p (Yp.cmpI (c := decide (p268.2 > 122)) I I I) I (AO.q 1 I (AO.nil ?_)))))))
 exact lg ⟨decide (p268.2 > 122), h, I, I⟩ []
 rintro s ob ⟨j10, h, rfl, rfl⟩
 unfold L.zgmr.J1 at h
 refine AW.ch h I ?_ ?_
 intro hc11 h
 refine AW.z I ?_
 obtain rfl := oi h
 exact AW.ret pr
 intro hc11 h
 refine AW.skip ?_
 subst hy2
 refine AW.cutX (fun s ob => ∃ (j107 : Unit), L.zgmr.J2 j107 = some r ∧ s = [] ∧ ob = []) [] J ?_ ?_
 refine AW.z I (AW.block ?_)
 obtain ⟨o203, hL204, hR205⟩ := ob_some h
 clear h
 refine AW.loopX hL204 [(0, _)] ⟨I, J⟩ (fun (st172 : Int) s ob => s = [(3, .V st172)] ∧ ob = []) ⟨I, I⟩ ⟨I, J⟩ ⟨[], I, by decide⟩ ?_
 rintro st172 r207 s ob ⟨rfl, rfl⟩ h hb206
 unfold L.zgmr.B3 at h
 refine AW.seqG (fun y208 hy208 => (AW.z I (AW.ch h I ?_ ?_)))
 intro hc209 h
 refine AW.skip ?_
 subst hy208
 refine AW.seq (AW.block (AW.cutX (fun s ob => ∃ (j236 : Bool), L.zgmr.J4 st172 j236 = some r207 ∧ s = [(55, .v (.bool j236))] ∧ ob = []) [(0, _), (3, _)] ⟨I, I, J⟩ ?_ ?_))
 obtain ⟨p238, hp239, h⟩ := ob_some h
 obtain ⟨hp239i, hp239l, hp239x⟩ := ixs_some hp239
 refine AW.region (AO.q 2 I (AO.p (Yp.indexStrX (m := p238.1) I I I I hp239i hp239l hp239x) I (AO.p (Yp.cmpI (c := decide (p238.2 < 97)) I I I) I (AO.q 1 I ?_))))
 rcases bt (decide (p238.2 < 97)) with hg240 | hg240
 replace h := ife_t hg240 h
 refine AO.known 32 I hg240 (AO.q 8 I (AO.gt I I I (AO.p (Yp.indexStrX (m := p238.1) I I I I hp239i hp239l hp239x) I (AO.gt I I I (AO.p (Yp.cmpI (c := decide (p238.2 < 48)) I I I) I (AO.q 1 I ?_))))))
 rcases bt (decide (p238.2 < 48)) with hg243 | hg243
 replace h := ife_t hg243 h
 refine AO.known 43 I hg243 (AO.q 9 I (AO.gt I I I (AO.p (Yp.indexStrX (m := p238.1) I I I I hp239i hp239l hp239x) I (AO.gt I I I (AO.p (Yp.cmpI (c := (p238.2 != 45)) I I I) I (AO.q 1 I (AO.nil ?_)))))))
 exact lg ⟨(p238.2 != 45), h, I, I⟩ []
 replace h := ife_f hg243 h
 refine AO.known 43 I hg243 (AO.q 2 I (AO.gt I I I (AO.p (Yp.indexStrX (m := p238.1) I I I I hp239i hp239l hp239x) I (AO.gt I I I (AO.p (Yp.cmpI (c := decide (p238.2 > 57)) I I I) I (AO.q 3 I ?_))))))
 rcases bt (decide (p238.2 > 57)) with hg248 | hg248
 replace h := ife_t hg248 h
 refine AO.known 50 I hg248 (AO.q 2 I (AO.gt I I I (AO.p (Yp.indexStrX (m := p238.1) I I I I hp239i hp239l hp239x) I (AO.gt I I I (AO.p (Yp.cmpI (c := (p238.2 != 45)) I I I) I (AO.q 1 I (AO.nil ?_)))))))
 exact lg ⟨(p238.2 != 45), h, I, I⟩ []
 replace h := ife_f hg248 h
 refine AO.known 50 I hg248 (AO.q 5 I (AO.nil ?_))
 exact lg ⟨false, h, I, I⟩ []
 replace h := ife_f hg240 h
 refine AO.known 32 I hg240 (AO.q 2 I (AO.gt I I I (AO.p (Yp.indexStrX (m := p238.1) I I I I hp239i hp239l hp239x) I (AO.gt I I I (AO.p (Yp.cmpI (c := decide (p238.2 > 122)) I I I) I (AO.q 2 I ?_))))))
 rcases bt (decide (p238.2 > 122)) with hg253 | hg253
 replace h := ife_t hg253 h
 refine AO.known 38 I hg253 (AO.q 2 I (AO.gt I I I (AO.p (Yp.indexStrX (m := p238.1) I I I I hp239i hp239l hp239x) I (AO.gt I I I (AO.p (Yp.cmpI (c := decide (p238.2 < 48)) I I I) I (AO.q 1 I ?_))))))
 rcases bt (decide (p238.2 < 48)) with hg256 | hg256
 replace h := ife_t hg256 h
 refine AO.known 43 I hg256 (AO.q 9 I (AO.gt I I I (AO.p (Yp.indexStrX (m := p238.1) I I I I hp239i hp239l hp239x) I (AO.gt I I I (AO.p (Yp.cmpI (c := (p238.2 != 45)) I I I) I (AO.q 1 I (AO.nil ?_)))))))
 exact lg ⟨(p238.2 != 45), h, I, I⟩ []
 replace h := ife_f hg256 h
 refine AO.known 43 I hg256 (AO.q 2 I (AO.gt I I I (AO.p (Yp.indexStrX (m := p238.1) I I I I hp239i hp239l hp239x) I (AO.gt I I I (AO.p (Yp.cmpI (c := decide (p238.2 > 57)) I I I) I (AO.q 3 I ?_))))))
 rcases bt (decide (p238.2 > 57)) with hg261 | hg261
 replace h := ife_t hg261 h
 refine AO.known 50 I hg261 (AO.q 2 I (AO.gt I I I (AO.p (Yp.indexStrX (m := p238.1) I I I I hp239i hp239l hp239x) I (AO.gt I I I (AO.p (Yp.cmpI (c := (p238.2 != 45)) I I I) I (AO.q 1 I (AO.nil ?_)))))))
 exact lg ⟨(p238.2 != 45), h, I, I⟩ []
 replace h := ife_f hg261 h
 refine AO.known 50 I hg261 (AO.q 5 I (AO.nil ?_))
 exact lg ⟨false, h, I, I⟩ []
 replace h := ife_f hg253 h
 refine AO.known 38 I hg253 (AO.q 5 I (AO.skipU I I dS (AO.skipU I I dS (AO.skipU I I dS (AO.skipU I I dS (AO.q 8 I (AO.nil ?_)))))))
 exact lg ⟨false, h, I, I⟩ []
 rintro s ob ⟨j236, h, rfl, rfl⟩
 unfold L.zgmr.J4 at h
 refine AW.ch h I ?_ ?_
 intro hc237 h
 refine AW.z I ?_
 obtain rfl := hb206 _ (oi h).symm
 replace h := hR205
 replace h := se_l h
 obtain rfl := oi h
 exact AW.ret pr
 intro hc237 h
 refine AW.skip (AW.region (AO.q 3 I ?_))
 obtain rfl := oi h
 refine AO.nil ?_
 exact ⟨_, _, _, I, ⟨I, I⟩, ⟨I, I, J⟩, [], I, by decide⟩
 intro hc209 h
 obtain rfl := hb206 _ (oi h).symm
 replace h := hR205
 replace h := se_r h
 refine AW.exit ?_
 exact lg ⟨(), h, I, I⟩ []
 rintro s ob ⟨j107, h, rfl, rfl⟩
 unfold L.zgmr.J2 at h
 refine AW.z I ?_
 obtain rfl := oi h
 exact AW.ret pr
theorem L.zaag_ok (l_0 : List ByteArray) (r : Bool) (h : L.zaag l_0 = some r) : ACalls Tryz.env 138 [.list 1 (l_0.map rS)] [] (fun x new => x = .v (.bool r) ∧ new = []) := by
 refine ACalls.of_body Tryz.func138 rfl rfl rfl (fun C hC => ?_)
 unfold L.zaag at h
 refine AW.z I (AW.cutX (fun s ob => ∃ (j60 : Unit), L.zaag.J1 j60 = some r ∧ s = [] ∧ ob = []) [] J ?_ ?_)
 refine AW.zr [.l 1 (l_0.length : Int)] I ⟨len_m, J⟩ (AW.block (AW.listMax 5 I (fun hm64 => ?_)))
 replace hm64 : l_0.length ≤ 9223372036854775806 := by rw [List.length_map] at hm64; omega
 obtain ⟨o117, hL118, hR119⟩ := ob_some h
 clear h
 refine AW.forX hL118 [(0, _), (6, _)] ⟨I, I, J⟩ (fun (k62 : Nat) (st92 : Unit) s ob => s = [(7, .V (k62 : Int))] ∧ ob = []) ⟨I, I⟩ ⟨I, J⟩ ⟨[], I, by decide⟩ ?_ ?_
 rintro k62 x65 st92 r121 s ob hx66 hk63 ⟨rfl, rfl⟩ h hb120
 unfold L.zaag.B2 at h
 have hk63t : decide ((k62 : Int) < (l_0.length : Int)) = true := decide_eq_true (by omega)
 refine AW.z I (AW.seqG (fun y123 hy123 => (AW.condK (v := true) I hk63t (AW.skip ?_))))
 subst hy123
 refine AW.cutX (fun s ob => ∃ (j145 : Unit), L.zaag.J3 j145 = some r121 ∧ s = [] ∧ ob = []) [(0, _), (6, _), (7, _)] ⟨I, I, I, J⟩ ?_ ?_
 refine AW.block (AW.z I (AW.z I (AW.block ?_)))
 obtain ⟨o167, hL168, hR169⟩ := ob_some h
 clear h
 refine AW.loopX hL168 [(0, _), (3, _), (6, _), (7, _)] ⟨I, I, I, I, J⟩ (fun (st161 : Int) s ob => s = [(4, .V st161)] ∧ ob = []) ⟨I, I⟩ ⟨I, J⟩ ⟨[], I, by decide⟩ ?_
 rintro st161 r171 s ob ⟨rfl, rfl⟩ h hb170
 unfold L.zaag.B4 at h
 refine AW.seqG (fun y172 hy172 => (AW.z I (AW.ch h I ?_ ?_)))
 intro hc173 h
 refine AW.skip ?_
 subst hy172
 refine AW.seq (AW.block (AW.seq ?_))
 obtain ⟨p174, hp175, h⟩ := ob_some h
 obtain ⟨hp175i, hp175x⟩ := ix_some hp175
 refine AW.rd (pd 9 0 []) [] [] I (AP.r 8 [.x 2 k62 (rS x65), .x 6 p174.1 (rS p174.2)] I ⟨⟨hp175i, map_get hp175x⟩, ⟨I, map_get hx66⟩, J⟩ (AP.op I (Yp.cmpS (c := sEq x65 p174.2) I I I) I (AP.ofAO (AO.nil (AW.ch h I ?_ ?_)))))
 intro hc176 h
 refine AW.z I ?_
 obtain rfl := hb170 _ (oi h).symm
 replace h := hR169
 replace h := se_l h
 obtain rfl := hb120 _ (oi h).symm
 replace h := hR119
 replace h := se_r h
 obtain rfl := oi h
 exact AW.ret pr
 intro hc176 h
 refine AW.skip (AW.region (AO.q 3 I ?_))
 obtain rfl := oi h
 refine AO.nil ?_
 exact ⟨_, _, _, I, ⟨I, I⟩, ⟨I, I, I, I, I, J⟩, [], I, by decide⟩
 intro hc173 h
 obtain rfl := hb170 _ (oi h).symm
 replace h := hR169
 replace h := se_r h
 refine AW.exit ?_
 exact lg ⟨(), h, I, I⟩ []
 rintro s ob ⟨j145, h, rfl, rfl⟩
 unfold L.zaag.J3 at h
 refine AW.region (AO.r 2 [.k 0 (k62 + 1 : Nat)] I ⟨cast_wr hk63 hm64, J⟩ ?_)
 obtain rfl := oi h
 refine AO.nil ?_
 exact ⟨_, _, _, I, ⟨I, I⟩, ⟨I, I, I, J⟩, [], I, by decide⟩
 rintro st92 s ob ⟨rfl, rfl⟩ he
 subst he
 have h := se_l hR119
 have hk63f : decide (((l_0.length : Nat) : Int) < (l_0.length : Int)) = false := by simp
 refine AW.z I (AW.seqG (fun y180 hy180 => (AW.condK (v := false) I hk63f (AW.exit ?_))))
 exact lg ⟨(), h, I, I⟩ []
 rintro s ob ⟨j60, h, rfl, rfl⟩
 unfold L.zaag.J1 at h
 refine AW.z I ?_
 obtain rfl := oi h
 exact AW.ret pr
theorem L.zimi_ok (s_0 : Segment) (r : Bool) (h : L.zimi s_0 = some r) : ACalls Tryz.env 139 [.agg (Segment.row s_0)] [] (fun x new => x = .v (.bool r) ∧ new = []) := by
 refine ACalls.of_body Tryz.func139 rfl rfl rfl (fun C hC => ?_)
 unfold L.zimi at h
 refine AW.seqG (fun y1 hy1 => (AW.region (AO.act [] I (AX.box (cs := Segment.row s_0) (m := 7) I I I dS (fun b2 => (AO.q 1 I (AO.nil ?_)))))))
 subst hy1
 refine AW.seqG (fun y3 hy3 => (AW.cutX (fun s ob => ∃ (j13 : Bool), L.zimi.J1 s_0 j13 = some r ∧ s = [(49, .v (.bool j13))] ∧ ob = [.arr b2 77 7 1 [Segment.row s_0]]) [(1, _)] ⟨I, J⟩ ?_ ?_))
 refine AW.rd (pd 45 0 [8, 14, 20]) [0] [_] I (AP.r 6 [.o 1 0, .o 3 0] I ⟨I, I, J⟩ ?_)
 rcases bt ((s_0.From == s_0.To)) with hg108 | hg108
 replace h := ife_t hg108 h
 refine AP.known 10 I hg108 (AP.q 39 I (AP.ofAO (AO.nil ?_)))
 exact lg ⟨true, h, I, I⟩ [0]
 replace h := ife_f hg108 h
 refine AP.known 10 I hg108 (AP.r 2 [.o 1 0] I ⟨I, J⟩ (AP.cG I (L.zmae_ok s_0.Capacity 1 1000000 _ I) (AP.q 3 I ?_)))
 rcases bt ((!(L.zmae s_0.Capacity 1 1000000))) with hg109 | hg109
 replace h := ife_t hg109 h
 refine AP.known 16 I hg109 (AP.q 33 I (AP.ofAO (AO.nil ?_)))
 exact lg ⟨true, h, I, I⟩ [0]
 replace h := ife_f hg109 h
 refine AP.known 16 I hg109 (AP.r 2 [.o 1 0] I ⟨I, J⟩ (AP.cG I (L.zmae_ok s_0.Resist 0 1000 _ I) (AP.q 3 I ?_)))
 rcases bt ((!(L.zmae s_0.Resist 0 1000))) with hg110 | hg110
 replace h := ife_t hg110 h
 refine AP.known 22 I hg110 (AP.q 27 I (AP.ofAO (AO.nil ?_)))
 exact lg ⟨true, h, I, I⟩ [0]
 replace h := ife_f hg110 h
 refine AP.known 22 I hg110 (AP.r 2 [.o 1 0] I ⟨I, J⟩ (AP.cG I (L.zmae_ok s_0.Wave 0 100000 _ I) (AP.q 3 I ?_)))
 rcases bt ((!(L.zmae s_0.Wave 0 100000))) with hg111 | hg111
 replace h := ife_t hg111 h
 refine AP.known 28 I hg111 (AP.q 21 I (AP.ofAO (AO.nil ?_)))
 exact lg ⟨true, h, I, I⟩ [0]
 replace h := ife_f hg111 h
 obtain ⟨p112, hp113, h⟩ := ob_some h
 obtain ⟨hp113i, hp113x⟩ := ix_some hp113
 refine AP.known 28 I hg111 (AP.r 8 [.o 1 0, .x 2 p112.1 (Point.row p112.2)] I ⟨⟨hp113i, map_get hp113x⟩, I, J⟩ ?_)
 rcases bt ((p112.2.At != 0)) with hg114 | hg114
 replace h := ife_t hg114 h
 refine AP.known 36 I hg114 (AP.q 13 I (AP.ofAO (AO.nil ?_)))
 exact lg ⟨true, h, I, I⟩ [0]
 replace h := ife_f hg114 h
 obtain ⟨p115, hp116, h⟩ := ob_some h
 obtain ⟨hp116i, hp116x⟩ := ix_some hp116
 refine AP.known 36 I hg114 (AP.r 13 [.o 1 0, .o 3 0, .l 4 (s_0.Points.length : Int), .x 6 p115.1 (Point.row p115.2), .o 10 0] I ⟨I, ⟨hp116i, map_get hp116x⟩, len_m, I, I, J⟩ (AP.ofAO (AO.nil ?_)))
 exact lg ⟨(p115.2.At != s_0.Capacity), h, I, I⟩ [0]
 rintro s ob ⟨j13, h, rfl, rfl⟩
 unfold L.zimi.J1 at h
 refine AW.ch h I ?_ ?_
 intro hc14 h
 refine AW.z I (AW.ghost g0 ?_)
 obtain rfl := oi h
 exact AW.ret pr
 intro hc14 h
 refine AW.skip ?_
 subst hy3
 refine AW.cutX (fun s ob => ∃ (j49 : Unit), L.zimi.J2 j49 = some r ∧ s = [] ∧ ob = []) [] J ?_ ?_
 refine AW.zr [.o 1 0, .l 2 (s_0.Points.length : Int)] I ⟨len_m, I, J⟩ (AW.block (AW.listMax 51 I (fun hm53 => ?_)))
 replace hm53 : s_0.Points.length ≤ 9223372036854775806 := by rw [List.length_map] at hm53; omega
 obtain ⟨o82, hL83, hR84⟩ := ob_some h
 clear h
 refine AW.forX hL83 [(1, _), (51, _), (52, _)] ⟨I, I, I, J⟩ (fun (k51 : Nat) (st69 : Unit) s ob => s = [(53, .V (k51 : Int))] ∧ ob = [.arr b2 77 7 1 [Segment.row s_0]]) ⟨I, I⟩ ⟨I, J⟩ ⟨[0], I, by decide⟩ ?_ ?_
 rintro k51 x54 st69 r86 s ob hx55 hk52 ⟨rfl, rfl⟩ h hb85
 unfold L.zimi.B3 at h
 have hk52t : decide ((k51 : Int) < (s_0.Points.length : Int)) = true := decide_eq_true (by omega)
 refine AW.z I (AW.seqG (fun y88 hy88 => (AW.condK (v := true) I hk52t (AW.skip ?_))))
 subst hy88
 refine AW.seq (AW.block (AW.seqG (fun y89 hy89 => (AW.region (AO.r 3 [.x 1 k51 (Point.row x54)] I ⟨⟨I, map_get hx55⟩, J⟩ (AO.act [] I (AX.alloc (cs := [.V 0, .V 0, .V 0]) (m := 3) I I I I I dS (fun b90 => (AO.q 1 I (AO.act [1] I (AX.store 1 0 0 (es' := [Point.row x54]) I I I I I I I I (le_ble I) I I (AO.nil ?_))))))))))))
 subst hy89
 refine AW.cutX (fun s ob => ∃ (j97 : Bool), L.zimi.J4 j97 = some r86 ∧ s = [(83, .v (.bool j97))] ∧ ob = [.arr b2 77 7 1 [Segment.row s_0]]) [(1, _), (51, _), (52, _), (53, _)] ⟨I, I, I, I, J⟩ ?_ ?_
 rcases bt (decide ((k51 : Int) > 0)) with hg99 | hg99
 replace h := ife_t hg99 h
 obtain ⟨p100, hp101, h⟩ := ob_some h
 obtain ⟨hp101i, hp101x⟩ := ix_some hp101
 refine AW.rd (pd 26 0 [17, 23]) [1, 0] [_, _] I (AP.q 3 I (AP.known 60 I hg99 (AP.r 12 [.o 1 0, .o 3 1, .x 6 p100.1 (Point.row p100.2)] I ⟨⟨hp101i, map_get hp101x⟩, I, I, J⟩ ?_)))
 rcases bt (decide (x54.At ≤ p100.2.At)) with hg102 | hg102
 replace h := ife_t hg102 h
 refine AP.known 72 I hg102 (AP.q 11 I (AP.ofAO (AO.nil ?_)))
 exact lg ⟨true, h, I, I⟩ [0]
 replace h := ife_f hg102 h
 refine AP.known 72 I hg102 (AP.r 2 [.o 1 0] I ⟨I, J⟩ (AP.cG I (L.zmae_ok x54.Height (-500) 5000 _ I) (AP.q 3 I ?_)))
 rcases bt ((!(L.zmae x54.Height (-500) 5000))) with hg103 | hg103
 replace h := ife_t hg103 h
 refine AP.known 78 I hg103 (AP.q 5 I (AP.ofAO (AO.nil ?_)))
 exact lg ⟨true, h, I, I⟩ [0]
 replace h := ife_f hg103 h
 refine AP.known 78 I hg103 (AP.r 2 [.o 1 0] I ⟨I, J⟩ (AP.cG I (L.zmae_ok x54.Limit 0 100000000 _ I) (AP.q 2 I (AP.ofAO (AO.nil ?_)))))
 exact lg ⟨(!(L.zmae x54.Limit 0 100000000)), h, I, I⟩ [0]
 replace h := ife_f hg99 h
 refine AW.rd (pd 26 0 [17, 23]) [1] [_] I (AP.q 3 I (AP.known 60 I hg99 (AP.r 14 [.o 13 0] I ⟨I, J⟩ (AP.cG I (L.zmae_ok x54.Height (-500) 5000 _ I) (AP.q 3 I ?_)))))
 rcases bt ((!(L.zmae x54.Height (-500) 5000))) with hg104 | hg104
 replace h := ife_t hg104 h
 refine AP.known 78 I hg104 (AP.q 5 I (AP.ofAO (AO.nil ?_)))
 exact lg ⟨true, h, I, I⟩ [0]
 replace h := ife_f hg104 h
 refine AP.known 78 I hg104 (AP.r 2 [.o 1 0] I ⟨I, J⟩ (AP.cG I (L.zmae_ok x54.Limit 0 100000000 _ I) (AP.q 2 I (AP.ofAO (AO.nil ?_)))))
 exact lg ⟨(!(L.zmae x54.Limit 0 100000000)), h, I, I⟩ [0]
 rintro s ob ⟨j97, h, rfl, rfl⟩
 unfold L.zimi.J4 at h
 refine AW.ch h I ?_ ?_
 intro hc98 h
 refine AW.z I ?_
 obtain rfl := hb85 _ (oi h).symm
 replace h := hR84
 replace h := se_r h
 refine AW.ghost g0 ?_
 obtain rfl := oi h
 exact AW.ret pr
 intro hc98 h
 refine AW.skip (AW.region (AO.r 2 [.k 0 (k51 + 1 : Nat)] I ⟨cast_wr hk52 hm53, J⟩ ?_))
 obtain rfl := oi h
 refine AO.nil ?_
 exact ⟨_, _, _, I, ⟨I, I⟩, ⟨I, I, I, I, J⟩, [0], I, by decide⟩
 rintro st69 s ob ⟨rfl, rfl⟩ he
 subst he
 have h := se_l hR84
 have hk52f : decide (((s_0.Points.length : Nat) : Int) < (s_0.Points.length : Int)) = false := by simp
 refine AW.z I (AW.seqG (fun y106 hy106 => (AW.condK (v := false) I hk52f (AW.exit ?_))))
 exact lg ⟨(), h, I, I⟩ []
 rintro s ob ⟨j49, h, rfl, rfl⟩
 unfold L.zimi.J2 at h
 refine AW.z I ?_
 obtain rfl := oi h
 exact AW.ret pr
theorem L.zgcl_ok (n_0 : Network) (r : Int) (h : L.zgcl n_0 = some r) : ACalls Tryz.env 88 [.agg (Network.row n_0)] [] (fun x new => x = .V r ∧ new = []) := by
 refine ACalls.of_body Tryz.func88 rfl rfl rfl (fun C hC => ?_)
 unfold L.zgcl at h
 refine AW.seqG (fun y1 hy1 => (AW.region (AO.act [] I (AX.box (cs := Network.row n_0) (m := 6) I I I dS (fun b2 => (AO.q 1 I (AO.nil ?_)))))))
 subst hy1
 refine AW.seqG (fun y3 hy3 => (AW.cutX (fun s ob => s = [(49, .v (.bool ((!(L.zmae (n_0.Nodes.length : Int) 1 24)) || (decide ((n_0.Segments.length : Int) > 32) || (decide ((n_0.Ports.length : Int) > 24) || decide ((n_0.Stations.length : Int) > 12))))))] ∧ ob = [.arr b2 27 6 1 [Network.row n_0]]) [(1, _)] ⟨I, J⟩ ?_ ?_))
 refine AW.region (AO.r 3 [.o 1 0, .l 2 (n_0.Nodes.length : Int)] I ⟨len_m, I, J⟩ (AO.c (L.zmae_ok (n_0.Nodes.length : Int) 1 24 _ I) (AO.q 2 I ?_)))
 rcases bt ((!(L.zmae (n_0.Nodes.length : Int) 1 24))) with hg8 | hg8
 refine AO.known 32 I hg8 (AO.q 17 I (AO.nil ?_))
 exact lf ⟨I, I⟩ ⟨(get_b (by simp only [hg8, bz])), I, J⟩ [0] I
 refine AO.known 32 I hg8 (AO.r 6 [.o 1 0, .l 2 (n_0.Segments.length : Int)] I ⟨len_m, I, J⟩ ?_)
 rcases bt (decide ((n_0.Segments.length : Int) > 32)) with hg9 | hg9
 refine AO.known 38 I hg9 (AO.q 11 I (AO.nil ?_))
 exact lf ⟨I, I⟩ ⟨(get_b (by simp only [hg8, hg9, bz])), I, J⟩ [0] I
 refine AO.known 38 I hg9 (AO.r 6 [.o 1 0, .l 2 (n_0.Ports.length : Int)] I ⟨len_m, I, J⟩ ?_)
 rcases bt (decide ((n_0.Ports.length : Int) > 24)) with hg10 | hg10
 refine AO.known 44 I hg10 (AO.q 5 I (AO.nil ?_))
 exact lf ⟨I, I⟩ ⟨(get_b (by simp only [hg8, hg9, hg10, bz])), I, J⟩ [0] I
 refine AO.known 44 I hg10 (AO.r 5 [.o 1 0, .l 2 (n_0.Stations.length : Int)] I ⟨len_m, I, J⟩ (AO.nil ?_))
 exact lf ⟨I, I⟩ ⟨(get_b (by simp only [hg8, hg9, hg10, bz])), I, J⟩ [0] I
 rintro s ob ⟨rfl, rfl⟩
 refine AW.ch h I ?_ ?_
 intro hc11 h
 refine AW.z I (AW.ghost g0 ?_)
 obtain rfl := oi h
 exact AW.ret pr
 intro hc11 h
 refine AW.skip ?_
 subst hy3
 refine AW.cutX (fun s ob => ∃ (j30 : Unit), L.zgcl.J1 n_0 j30 = some r ∧ s = [] ∧ ob = [.arr b2 27 6 1 [Network.row n_0]]) [(1, _)] ⟨I, J⟩ ?_ ?_
 refine AW.zr [.o 1 0, .l 2 (n_0.Segments.length : Int)] I ⟨len_m, I, J⟩ (AW.block (AW.listMax 51 I (fun hm814 => ?_)))
 replace hm814 : n_0.Segments.length ≤ 9223372036854775806 := by rw [List.length_map] at hm814; omega
 obtain ⟨o827, hL828, hR829⟩ := ob_some h
 clear h
 refine AW.forX hL828 [(1, _), (51, _), (52, _)] ⟨I, I, I, J⟩ (fun (k812 : Nat) (st822 : Unit) s ob => s = [(53, .V (k812 : Int))] ∧ ob = [.arr b2 27 6 1 [Network.row n_0]]) ⟨I, I⟩ ⟨I, J⟩ ⟨[0], I, by decide⟩ ?_ ?_
 rintro k812 x815 st822 r831 s ob hx816 hk813 ⟨rfl, rfl⟩ h hb830
 unfold L.zgcl.B24 at h
 have hk813t : decide ((k812 : Int) < (n_0.Segments.length : Int)) = true := decide_eq_true (by omega)
 refine AW.z I (AW.seqG (fun y833 hy833 => (AW.condK (v := true) I hk813t (AW.skip ?_))))
 subst hy833
 refine AW.seq (AW.block (AW.seq (AW.region (AO.r 2 [.x 0 k812 (Segment.row x815)] I ⟨⟨I, map_get hx816⟩, J⟩ (AO.act [] I (AX.alloc (cs := [.v (.string ⟨#[]⟩), .V 0, .V 0, .V 0, .V 0, .V 0, .v (.slice none 0 0)]) (m := 7) I I I I I dS (fun b834 => (AO.act [1] I (AX.store 1 0 0 (es' := [Segment.row x815]) I I I I I I I I (le_ble I) I I (AO.nil (AW.seq (AW.region (AO.r 3 [.o 1 1, .l 2 (x815.Points.length : Int)] I ⟨len_m, I, J⟩ (AO.c (L.zmae_ok (x815.Points.length : Int) 2 8 _ I) (AO.q 1 I ?_)))))))))))))))
 refine AO.nil (AW.ch h I ?_ ?_)
 intro hc835 h
 refine AW.z I ?_
 obtain rfl := hb830 _ (oi h).symm
 replace h := hR829
 replace h := se_r h
 refine AW.ghost g0 ?_
 obtain rfl := oi h
 exact AW.ret pr
 intro hc835 h
 refine AW.skip (AW.region (AO.r 2 [.k 0 (k812 + 1 : Nat)] I ⟨cast_wr hk813 hm814, J⟩ ?_))
 obtain rfl := oi h
 refine AO.nil ?_
 exact ⟨_, _, _, I, ⟨I, I⟩, ⟨I, I, I, I, J⟩, [0], I, by decide⟩
 rintro st822 s ob ⟨rfl, rfl⟩ he
 subst he
 have h := se_l hR829
 have hk813f : decide (((n_0.Segments.length : Nat) : Int) < (n_0.Segments.length : Int)) = false := by simp
 refine AW.z I (AW.seqG (fun y837 hy837 => (AW.condK (v := false) I hk813f (AW.exit ?_))))
 exact lg ⟨(), h, I, I⟩ [0]
 rintro s ob ⟨j30, h, rfl, rfl⟩
 unfold L.zgcl.J1 at h
 refine AW.seqG (fun y31 hy31 => ?_)
 obtain ⟨r32, hx33, h⟩ := ob_some h
 refine AW.region (AO.r 1 [.o 0 0] I ⟨I, J⟩ (AO.act [] I (AX.call0 I I I (L.zghg_ok _ _ hx33) dS ?_)))
 rintro _ _ ⟨rfl, rfl⟩
 refine AO.act [] I (AX.alloc (cs := [.v (.slice none 0 0), .v (.slice none 0 0), .v (.slice none 0 0), .v (.slice none 0 0)]) (m := 4) I I I I I dS (fun b34 => (AO.act [1] I (AX.store 1 0 0 (es' := [r32.l.map (cL 1 rS)]) I I I I I I I (by simp [Arr.h, flow_streams.row]) (by simp [Arr.h, flow_streams.row]) I (congrArg (fun r => [r]) (setC_all (by simp [Arr.h, flow_streams.row]))) (AO.nil ?_)))))
 subst hy31
 refine AW.cutX (fun s ob => ∃ (j96 : Unit), L.zgcl.J2 n_0 r32 j96 = some r ∧ s = [] ∧ ob = [.arr b2 27 6 1 [Network.row n_0], .arr b34 168 4 1 [r32.l.map (cL 1 rS)]]) [(1, _), (5, _)] ⟨I, I, J⟩ ?_ ?_
 refine AW.seqG (fun y684 hy684 => (AW.region (AO.d (Yd.loadO 1 0 0 I I I I I (y := .agg (r32.l.map (cL 1 rS))) (part_all I (by simp [Arr.h, flow_streams.row]))) I (AO.q 1 I (AO.nil ?_)))))
 subst hy684
 refine AW.block ?_
 have hm687 : (4 : Nat) ≤ 9223372036854775806 := by decide
 obtain ⟨o743, hL744, hR745⟩ := ob_some h
 clear h
 refine AW.forIX hL744 [(1, _), (5, _), (65, _)] ⟨I, I, I, J⟩ (fun (k685 : Nat) (st716 : Unit) s ob => s = [(66, .V (k685 : Int))] ∧ ob = [.arr b2 27 6 1 [Network.row n_0], .arr b34 168 4 1 [r32.l.map (cL 1 rS)]]) ⟨I, I⟩ ⟨I, J⟩ ⟨[0, 1], I, by decide⟩ ?_ ?_
 rintro k685 st716 r747 s ob hk686 ⟨rfl, rfl⟩ h hb746
 unfold L.zgcl.B21 at h
 have hk686t : decide ((k685 : Int) < 4) = true := decide_eq_true (by omega)
 refine AW.z I (AW.seqG (fun y749 hy749 => (AW.condK (v := true) I hk686t (AW.skip ?_))))
 subst hy749
 refine AW.cutX (fun s ob => ∃ (j773 : Unit), L.zgcl.J22 j773 = some r747 ∧ s = [] ∧ ob = [.arr b2 27 6 1 [Network.row n_0], .arr b34 168 4 1 [r32.l.map (cL 1 rS)]]) [(1, _), (5, _), (65, _), (66, _)] ⟨I, I, I, I, J⟩ ?_ ?_
 refine AW.block (AW.seqG (fun y774 hy774 => ?_))
 obtain ⟨p775, hp776, h⟩ := ob_some h
 obtain ⟨hp776i, hp776x⟩ := ix_some hp776
 refine AW.region (AO.p (Yp.indexAgM (m := p775.1) I I I I I I I hp776i hp776x (hlen := Arr.h _)) I (AO.q 1 I (AO.nil ?_)))
 subst hy774
 refine AW.zr [.l 1 (p775.2.length : Int)] I ⟨len_m, J⟩ (AW.block (AW.listMax 69 I (fun hm780 => ?_)))
 replace hm780 : p775.2.length ≤ 9223372036854775806 := by rw [List.length_map] at hm780; omega
 obtain ⟨o795, hL796, hR797⟩ := ob_some h
 clear h
 refine AW.forX hL796 [(1, _), (5, _), (65, _), (66, _), (69, _), (70, _)] ⟨I, I, I, I, I, I, J⟩ (fun (k778 : Nat) (st789 : Unit) s ob => s = [(71, .V (k778 : Int))] ∧ ob = [.arr b2 27 6 1 [Network.row n_0], .arr b34 168 4 1 [r32.l.map (cL 1 rS)]]) ⟨I, I⟩ ⟨I, J⟩ ⟨[0, 1], I, by decide⟩ ?_ ?_
 rintro k778 x781 st789 r799 s ob hx782 hk779 ⟨rfl, rfl⟩ h hb798
 unfold L.zgcl.B23 at h
 have hk779t : decide ((k778 : Int) < (p775.2.length : Int)) = true := decide_eq_true (by omega)
 refine AW.z I (AW.seqG (fun y801 hy801 => (AW.condK (v := true) I hk779t (AW.skip ?_))))
 subst hy801
 refine AW.seq (AW.block (AW.zr [.x 0 k778 (rS x781)] I ⟨⟨I, map_get hx782⟩, J⟩ (AW.seq ?_)))
 obtain ⟨r802, hx803, h⟩ := ob_some h
 refine AW.region (AO.q 1 I (AO.c (L.zgmr_ok _ _ hx803) (AO.q 1 I (AO.nil (AW.ch h I ?_ ?_)))))
 intro hc804 h
 refine AW.z I ?_
 obtain rfl := hb798 _ (oi h).symm
 replace h := hR797
 replace h := se_r h
 obtain rfl := hb746 _ (oi h).symm
 replace h := hR745
 replace h := se_r h
 refine AW.ghost g0 ?_
 obtain rfl := oi h
 exact AW.ret pr
 intro hc804 h
 refine AW.skip (AW.region (AO.r 2 [.k 0 (k778 + 1 : Nat)] I ⟨cast_wr hk779 hm780, J⟩ ?_))
 obtain rfl := oi h
 refine AO.nil ?_
 exact ⟨_, _, _, I, ⟨I, I⟩, ⟨I, I, I, I, I, I, I, J⟩, [0, 1], I, by decide⟩
 rintro st789 s ob ⟨rfl, rfl⟩ he
 subst he
 have h := se_l hR797
 have hk779f : decide (((p775.2.length : Nat) : Int) < (p775.2.length : Int)) = false := by simp
 refine AW.z I (AW.seqG (fun y806 hy806 => (AW.condK (v := false) I hk779f (AW.exit ?_))))
 exact lg ⟨(), h, I, I⟩ [0, 1]
 rintro s ob ⟨j773, h, rfl, rfl⟩
 unfold L.zgcl.J22 at h
 refine AW.region (AO.r 2 [.k 0 (k685 + 1 : Nat)] I ⟨cast_wr hk686 hm687, J⟩ ?_)
 obtain rfl := oi h
 refine AO.nil ?_
 exact ⟨_, _, _, I, ⟨I, I⟩, ⟨I, I, I, I, J⟩, [0, 1], I, by decide⟩
 rintro st716 s ob ⟨rfl, rfl⟩ he
 subst he
 have h := se_l hR745
 have hk686f : decide (((4 : Nat) : Int) < 4) = false := by simp
 refine AW.z I (AW.seqG (fun y809 hy809 => (AW.condK (v := false) I hk686f (AW.exit ?_))))
 exact lg ⟨(), h, I, I⟩ [0, 1]
 rintro s ob ⟨j96, h, rfl, rfl⟩
 unfold L.zgcl.J2 at h
 refine AW.cutX (fun s ob => ∃ (j120 : Unit), L.zgcl.J3 n_0 j120 = some r ∧ s = [] ∧ ob = [.arr b2 27 6 1 [Network.row n_0]]) [(1, _)] ⟨I, J⟩ ?_ ?_
 refine AW.seqG (fun y648 hy648 => (AW.region (AO.d (Yd.loadO 1 0 0 I I I I I (y := .agg (r32.l.map (cL 1 rS))) (part_all I (by simp [Arr.h, flow_streams.row]))) I (AO.q 1 I (AO.nil ?_)))))
 subst hy648
 refine AW.block ?_
 have hm651 : (4 : Nat) ≤ 9223372036854775806 := by decide
 obtain ⟨o669, hL670, hR671⟩ := ob_some h
 clear h
 refine AW.forIX hL670 [(1, _), (80, _)] ⟨I, I, J⟩ (fun (k649 : Nat) (st661 : Unit) s ob => s = [(81, .V (k649 : Int))] ∧ ob = [.arr b2 27 6 1 [Network.row n_0]]) ⟨I, I⟩ ⟨I, J⟩ ⟨[0], I, by decide⟩ ?_ ?_
 rintro k649 st661 r673 s ob hk650 ⟨rfl, rfl⟩ h hb672
 unfold L.zgcl.B20 at h
 have hk650t : decide ((k649 : Int) < 4) = true := decide_eq_true (by omega)
 refine AW.z I (AW.seqG (fun y675 hy675 => (AW.condK (v := true) I hk650t (AW.skip ?_))))
 subst hy675
 refine AW.seq (AW.block (AW.seq ?_))
 obtain ⟨p676, hp677, h⟩ := ob_some h
 obtain ⟨hp677i, hp677x⟩ := ix_some hp677
 refine AW.region (AO.p (Yp.indexAgM (m := p676.1) I I I I I I I hp677i hp677x (hlen := Arr.h _)) I (AO.q 1 I (AO.nil (AW.seq ?_))))
 obtain ⟨r678, hx679, h⟩ := ob_some h
 refine AW.region (AO.q 1 I (AO.c (L.zaag_ok _ _ hx679) (AO.nil (AW.ch h I ?_ ?_))))
 intro hc680 h
 refine AW.z I ?_
 obtain rfl := hb672 _ (oi h).symm
 replace h := hR671
 replace h := se_r h
 refine AW.ghost g0 ?_
 obtain rfl := oi h
 exact AW.ret pr
 intro hc680 h
 refine AW.skip (AW.region (AO.r 2 [.k 0 (k649 + 1 : Nat)] I ⟨cast_wr hk650 hm651, J⟩ ?_))
 obtain rfl := oi h
 refine AO.nil ?_
 exact ⟨_, _, _, I, ⟨I, I⟩, ⟨I, I, I, J⟩, [0], I, by decide⟩
 rintro st661 s ob ⟨rfl, rfl⟩ he
 subst he
 have h := se_l hR671
 have hk650f : decide (((4 : Nat) : Int) < 4) = false := by simp
 refine AW.z I (AW.seqG (fun y682 hy682 => (AW.condK (v := false) I hk650f (AW.exit ?_))))
 exact lg ⟨(), h, I, I⟩ [0]
 rintro s ob ⟨j120, h, rfl, rfl⟩
 unfold L.zgcl.J3 at h
 refine AW.cutX (fun s ob => ∃ (j179 : Unit), L.zgcl.J4 n_0 j179 = some r ∧ s = [] ∧ ob = [.arr b2 27 6 1 [Network.row n_0]]) [(1, _)] ⟨I, J⟩ ?_ ?_
 refine AW.zr [.o 1 0, .l 2 (n_0.Stations.length : Int)] I ⟨len_m, I, J⟩ (AW.block (AW.listMax 88 I (fun hm530 => ?_)))
 replace hm530 : n_0.Stations.length ≤ 9223372036854775806 := by rw [List.length_map] at hm530; omega
 obtain ⟨o583, hL584, hR585⟩ := ob_some h
 clear h
 refine AW.forX hL584 [(1, _), (89, _)] ⟨I, I, J⟩ (fun (k528 : Nat) (st558 : Unit) s ob => s = [(90, .V (k528 : Int))] ∧ ob = [.arr b2 27 6 1 [Network.row n_0]]) ⟨I, I⟩ ⟨I, J⟩ ⟨[0], I, by decide⟩ ?_ ?_
 rintro k528 x531 st558 r587 s ob hx532 hk529 ⟨rfl, rfl⟩ h hb586
 unfold L.zgcl.B17 at h
 have hk529t : decide ((k528 : Int) < (n_0.Stations.length : Int)) = true := decide_eq_true (by omega)
 refine AW.z I (AW.seqG (fun y589 hy589 => (AW.condK (v := true) I hk529t (AW.skip ?_))))
 subst hy589
 refine AW.cutX (fun s ob => ∃ (j611 : Unit), L.zgcl.J18 j611 = some r587 ∧ s = [] ∧ ob = [.arr b2 27 6 1 [Network.row n_0]]) [(1, _), (89, _), (90, _)] ⟨I, I, I, J⟩ ?_ ?_
 refine AW.block (AW.z I (AW.z I (AW.block ?_)))
 obtain ⟨o633, hL634, hR635⟩ := ob_some h
 clear h
 refine AW.loopX hL634 [(1, _), (12, _), (89, _), (90, _)] ⟨I, I, I, I, J⟩ (fun (st627 : Int) s ob => s = [(13, .V st627)] ∧ ob = [.arr b2 27 6 1 [Network.row n_0]]) ⟨I, I⟩ ⟨I, J⟩ ⟨[0], I, by decide⟩ ?_
 rintro st627 r637 s ob ⟨rfl, rfl⟩ h hb636
 unfold L.zgcl.B19 at h
 refine AW.seqG (fun y638 hy638 => (AW.z I (AW.ch h I ?_ ?_)))
 intro hc639 h
 refine AW.skip ?_
 subst hy638
 refine AW.seq (AW.block (AW.seq ?_))
 obtain ⟨p640, hp641, h⟩ := ob_some h
 obtain ⟨hp641i, hp641x⟩ := ix_some hp641
 refine AW.dt (pd 13 0 []) [0] [_] [.o 1 0, .x 3 k528 (Station.row x531), .o 7 0, .x 9 p640.1 (Station.row p640.2)] I I ⟨⟨hp641i, map_get hp641x⟩, I, ⟨I, map_get hx532⟩, I, J⟩ (AW.ch h I ?_ ?_)
 intro hc642 h
 refine AW.z I ?_
 obtain rfl := hb636 _ (oi h).symm
 replace h := hR635
 replace h := se_l h
 obtain rfl := hb586 _ (oi h).symm
 replace h := hR585
 replace h := se_r h
 refine AW.ghost g0 ?_
 obtain rfl := oi h
 exact AW.ret pr
 intro hc642 h
 refine AW.skip (AW.region (AO.q 3 I ?_))
 obtain rfl := oi h
 refine AO.nil ?_
 exact ⟨_, _, _, I, ⟨I, I⟩, ⟨I, I, I, I, I, J⟩, [0], I, by decide⟩
 intro hc639 h
 obtain rfl := hb636 _ (oi h).symm
 replace h := hR635
 replace h := se_r h
 refine AW.exit ?_
 exact lg ⟨(), h, I, I⟩ [0]
 rintro s ob ⟨j611, h, rfl, rfl⟩
 unfold L.zgcl.J18 at h
 refine AW.region (AO.r 2 [.k 0 (k528 + 1 : Nat)] I ⟨cast_wr hk529 hm530, J⟩ ?_)
 obtain rfl := oi h
 refine AO.nil ?_
 exact ⟨_, _, _, I, ⟨I, I⟩, ⟨I, I, I, J⟩, [0], I, by decide⟩
 rintro st558 s ob ⟨rfl, rfl⟩ he
 subst he
 have h := se_l hR585
 have hk529f : decide (((n_0.Stations.length : Nat) : Int) < (n_0.Stations.length : Int)) = false := by simp
 refine AW.z I (AW.seqG (fun y646 hy646 => (AW.condK (v := false) I hk529f (AW.exit ?_))))
 exact lg ⟨(), h, I, I⟩ [0]
 rintro s ob ⟨j179, h, rfl, rfl⟩
 unfold L.zgcl.J4 at h
 refine AW.zr [.o 1 0, .l 2 (n_0.Nodes.length : Int)] I ⟨len_m, I, J⟩ (AW.cutX (fun s ob => ∃ (j207 : Unit), L.zgcl.J5 n_0 j207 = some r ∧ s = [] ∧ ob = [.arr b2 27 6 1 [Network.row n_0]]) [(1, _), (14, _)] ⟨I, I, J⟩ ?_ ?_)
 refine AW.zr [.o 1 0, .l 2 (n_0.Segments.length : Int)] I ⟨len_m, I, J⟩ (AW.block (AW.listMax 117 I (fun hm490 => ?_)))
 replace hm490 : n_0.Segments.length ≤ 9223372036854775806 := by rw [List.length_map] at hm490; omega
 obtain ⟨o511, hL512, hR513⟩ := ob_some h
 clear h
 refine AW.forX hL512 [(1, _), (14, _), (117, _), (118, _)] ⟨I, I, I, I, J⟩ (fun (k488 : Nat) (st502 : Unit) s ob => s = [(119, .V (k488 : Int))] ∧ ob = [.arr b2 27 6 1 [Network.row n_0]]) ⟨I, I⟩ ⟨I, J⟩ ⟨[0], I, by decide⟩ ?_ ?_
 rintro k488 x491 st502 r515 s ob hx492 hk489 ⟨rfl, rfl⟩ h hb514
 unfold L.zgcl.B16 at h
 have hk489t : decide ((k488 : Int) < (n_0.Segments.length : Int)) = true := decide_eq_true (by omega)
 refine AW.z I (AW.seqG (fun y517 hy517 => (AW.condK (v := true) I hk489t (AW.skip ?_))))
 subst hy517
 refine AW.seq (AW.block (AW.seqG (fun y518 hy518 => (AW.region (AO.r 2 [.x 0 k488 (Segment.row x491)] I ⟨⟨I, map_get hx492⟩, J⟩ (AO.act [] I (AX.alloc (cs := [.v (.string ⟨#[]⟩), .V 0, .V 0, .V 0, .V 0, .V 0, .v (.slice none 0 0)]) (m := 7) I I I I I dS (fun b519 => (AO.act [1] I (AX.store 1 0 0 (es' := [Segment.row x491]) I I I I I I I I (le_ble I) I I (AO.nil ?_)))))))))))
 subst hy518
 refine AW.cutX (fun s ob => s = [(134, .v (.bool ((!(L.zmae x491.From 0 (wr ((n_0.Nodes.length : Int) - 1)))) || (!(L.zmae x491.To 0 (wr ((n_0.Nodes.length : Int) - 1)))))))] ∧ ob = [.arr b2 27 6 1 [Network.row n_0]]) [(1, _), (14, _), (117, _), (118, _), (119, _)] ⟨I, I, I, I, I, J⟩ ?_ ?_
 refine AW.region (AO.r 3 [.o 1 1] I ⟨I, J⟩ (AO.c (L.zmae_ok x491.From 0 (wr ((n_0.Nodes.length : Int) - 1)) _ I) (AO.q 2 I ?_)))
 rcases bt ((!(L.zmae x491.From 0 (wr ((n_0.Nodes.length : Int) - 1))))) with hg522 | hg522
 refine AO.known 128 I hg522 (AO.q 6 I (AO.nil ?_))
 exact lf ⟨I, I⟩ ⟨(get_b (by simp only [hg522, bz])), I, I, I, I, I, J⟩ [0] I
 refine AO.known 128 I hg522 (AO.r 3 [.o 1 1] I ⟨I, J⟩ (AO.gt I I I (AO.c (L.zmae_ok x491.To 0 (wr ((n_0.Nodes.length : Int) - 1)) _ I) (AO.q 2 I (AO.nil ?_)))))
 exact lf ⟨I, I⟩ ⟨(get_b (by simp only [hg522, bz])), I, I, I, I, I, J⟩ [0] I
 rintro s ob ⟨rfl, rfl⟩
 refine AW.ch h I ?_ ?_
 intro hc523 h
 refine AW.z I ?_
 obtain rfl := hb514 _ (oi h).symm
 replace h := hR513
 replace h := se_r h
 refine AW.ghost g0 ?_
 obtain rfl := oi h
 exact AW.ret pr
 intro hc523 h
 refine AW.skip (AW.region (AO.r 2 [.k 0 (k488 + 1 : Nat)] I ⟨cast_wr hk489 hm490, J⟩ ?_))
 obtain rfl := oi h
 refine AO.nil ?_
 exact ⟨_, _, _, I, ⟨I, I⟩, ⟨I, I, I, I, I, J⟩, [0], I, by decide⟩
 rintro st502 s ob ⟨rfl, rfl⟩ he
 subst he
 have h := se_l hR513
 have hk489f : decide (((n_0.Segments.length : Nat) : Int) < (n_0.Segments.length : Int)) = false := by simp
 refine AW.z I (AW.seqG (fun y525 hy525 => (AW.condK (v := false) I hk489f (AW.exit ?_))))
 exact lg ⟨(), h, I, I⟩ [0]
 rintro s ob ⟨j207, h, rfl, rfl⟩
 unfold L.zgcl.J5 at h
 refine AW.cutX (fun s ob => ∃ (j226 : Unit), L.zgcl.J6 n_0 j226 = some r ∧ s = [] ∧ ob = [.arr b2 27 6 1 [Network.row n_0]]) [(1, _), (14, _)] ⟨I, I, J⟩ ?_ ?_
 refine AW.zr [.o 1 0, .l 2 (n_0.Ports.length : Int)] I ⟨len_m, I, J⟩ (AW.block (AW.listMax 137 I (fun hm462 => ?_)))
 replace hm462 : n_0.Ports.length ≤ 9223372036854775806 := by rw [List.length_map] at hm462; omega
 obtain ⟨o475, hL476, hR477⟩ := ob_some h
 clear h
 refine AW.forX hL476 [(1, _), (14, _), (137, _), (138, _)] ⟨I, I, I, I, J⟩ (fun (k460 : Nat) (st470 : Unit) s ob => s = [(139, .V (k460 : Int))] ∧ ob = [.arr b2 27 6 1 [Network.row n_0]]) ⟨I, I⟩ ⟨I, J⟩ ⟨[0], I, by decide⟩ ?_ ?_
 rintro k460 x463 st470 r479 s ob hx464 hk461 ⟨rfl, rfl⟩ h hb478
 unfold L.zgcl.B15 at h
 have hk461t : decide ((k460 : Int) < (n_0.Ports.length : Int)) = true := decide_eq_true (by omega)
 refine AW.z I (AW.seqG (fun y481 hy481 => (AW.condK (v := true) I hk461t (AW.skip ?_))))
 subst hy481
 refine AW.seq (AW.block (AW.seq (AW.region (AO.r 2 [.x 0 k460 (Port.row x463)] I ⟨⟨I, map_get hx464⟩, J⟩ (AO.act [] I (AX.alloc (cs := [.v (.string ⟨#[]⟩), .V 0, .V 0]) (m := 3) I I I I I dS (fun b482 => (AO.act [1] I (AX.store 1 0 0 (es' := [Port.row x463]) I I I I I I I I (le_ble I) I I (AO.nil (AW.seq (AW.region (AO.r 3 [.o 1 1] I ⟨I, J⟩ (AO.c (L.zmae_ok x463.Node 0 (wr ((n_0.Nodes.length : Int) - 1)) _ I) (AO.q 1 I ?_)))))))))))))))
 refine AO.nil (AW.ch h I ?_ ?_)
 intro hc483 h
 refine AW.z I ?_
 obtain rfl := hb478 _ (oi h).symm
 replace h := hR477
 replace h := se_r h
 refine AW.ghost g0 ?_
 obtain rfl := oi h
 exact AW.ret pr
 intro hc483 h
 refine AW.skip (AW.region (AO.r 2 [.k 0 (k460 + 1 : Nat)] I ⟨cast_wr hk461 hm462, J⟩ ?_))
 obtain rfl := oi h
 refine AO.nil ?_
 exact ⟨_, _, _, I, ⟨I, I⟩, ⟨I, I, I, I, I, J⟩, [0], I, by decide⟩
 rintro st470 s ob ⟨rfl, rfl⟩ he
 subst he
 have h := se_l hR477
 have hk461f : decide (((n_0.Ports.length : Nat) : Int) < (n_0.Ports.length : Int)) = false := by simp
 refine AW.z I (AW.seqG (fun y485 hy485 => (AW.condK (v := false) I hk461f (AW.exit ?_))))
 exact lg ⟨(), h, I, I⟩ [0]
 rintro s ob ⟨j226, h, rfl, rfl⟩
 unfold L.zgcl.J6 at h
 refine AW.cutX (fun s ob => ∃ (j245 : Unit), L.zgcl.J7 n_0 j245 = some r ∧ s = [] ∧ ob = [.arr b2 27 6 1 [Network.row n_0]]) [(1, _)] ⟨I, J⟩ ?_ ?_
 refine AW.zr [.o 1 0, .l 2 (n_0.Stations.length : Int)] I ⟨len_m, I, J⟩ (AW.block (AW.listMax 150 I (fun hm434 => ?_)))
 replace hm434 : n_0.Stations.length ≤ 9223372036854775806 := by rw [List.length_map] at hm434; omega
 obtain ⟨o447, hL448, hR449⟩ := ob_some h
 clear h
 refine AW.forX hL448 [(1, _), (14, _), (150, _), (151, _)] ⟨I, I, I, I, J⟩ (fun (k432 : Nat) (st442 : Unit) s ob => s = [(152, .V (k432 : Int))] ∧ ob = [.arr b2 27 6 1 [Network.row n_0]]) ⟨I, I⟩ ⟨I, J⟩ ⟨[0], I, by decide⟩ ?_ ?_
 rintro k432 x435 st442 r451 s ob hx436 hk433 ⟨rfl, rfl⟩ h hb450
 unfold L.zgcl.B14 at h
 have hk433t : decide ((k432 : Int) < (n_0.Stations.length : Int)) = true := decide_eq_true (by omega)
 refine AW.z I (AW.seqG (fun y453 hy453 => (AW.condK (v := true) I hk433t (AW.skip ?_))))
 subst hy453
 refine AW.seq (AW.block (AW.seq (AW.region (AO.r 2 [.x 0 k432 (Station.row x435)] I ⟨⟨I, map_get hx436⟩, J⟩ (AO.act [] I (AX.alloc (cs := [.v (.string ⟨#[]⟩), .V 0, .V 0, .V 0, .V 0]) (m := 5) I I I I I dS (fun b454 => (AO.act [1] I (AX.store 1 0 0 (es' := [Station.row x435]) I I I I I I I I (le_ble I) I I (AO.nil (AW.seq (AW.region (AO.r 3 [.o 1 1] I ⟨I, J⟩ (AO.c (L.zmae_ok x435.Node 0 (wr ((n_0.Nodes.length : Int) - 1)) _ I) (AO.q 1 I ?_)))))))))))))))
 refine AO.nil (AW.ch h I ?_ ?_)
 intro hc455 h
 refine AW.z I ?_
 obtain rfl := hb450 _ (oi h).symm
 replace h := hR449
 replace h := se_r h
 refine AW.ghost g0 ?_
 obtain rfl := oi h
 exact AW.ret pr
 intro hc455 h
 refine AW.skip (AW.region (AO.r 2 [.k 0 (k432 + 1 : Nat)] I ⟨cast_wr hk433 hm434, J⟩ ?_))
 obtain rfl := oi h
 refine AO.nil ?_
 exact ⟨_, _, _, I, ⟨I, I⟩, ⟨I, I, I, I, I, J⟩, [0], I, by decide⟩
 rintro st442 s ob ⟨rfl, rfl⟩ he
 subst he
 have h := se_l hR449
 have hk433f : decide (((n_0.Stations.length : Nat) : Int) < (n_0.Stations.length : Int)) = false := by simp
 refine AW.z I (AW.seqG (fun y457 hy457 => (AW.condK (v := false) I hk433f (AW.exit ?_))))
 exact lg ⟨(), h, I, I⟩ [0]
 rintro s ob ⟨j245, h, rfl, rfl⟩
 unfold L.zgcl.J7 at h
 refine AW.cutX (fun s ob => ∃ (j268 : Unit), L.zgcl.J8 n_0 j268 = some r ∧ s = [] ∧ ob = [.arr b2 27 6 1 [Network.row n_0]]) [(1, _)] ⟨I, J⟩ ?_ ?_
 refine AW.zr [.o 1 0, .l 2 (n_0.Segments.length : Int)] I ⟨len_m, I, J⟩ (AW.block (AW.listMax 163 I (fun hm400 => ?_)))
 replace hm400 : n_0.Segments.length ≤ 9223372036854775806 := by rw [List.length_map] at hm400; omega
 obtain ⟨o417, hL418, hR419⟩ := ob_some h
 clear h
 refine AW.forX hL418 [(1, _), (163, _), (164, _)] ⟨I, I, I, J⟩ (fun (k398 : Nat) (st410 : Unit) s ob => s = [(165, .V (k398 : Int))] ∧ ob = [.arr b2 27 6 1 [Network.row n_0]]) ⟨I, I⟩ ⟨I, J⟩ ⟨[0], I, by decide⟩ ?_ ?_
 rintro k398 x401 st410 r421 s ob hx402 hk399 ⟨rfl, rfl⟩ h hb420
 unfold L.zgcl.B13 at h
 have hk399t : decide ((k398 : Int) < (n_0.Segments.length : Int)) = true := decide_eq_true (by omega)
 refine AW.z I (AW.seqG (fun y423 hy423 => (AW.condK (v := true) I hk399t (AW.skip ?_))))
 subst hy423
 refine AW.seq (AW.block (AW.seq (AW.region (AO.r 2 [.x 0 k398 (Segment.row x401)] I ⟨⟨I, map_get hx402⟩, J⟩ (AO.act [] I (AX.alloc (cs := [.v (.string ⟨#[]⟩), .V 0, .V 0, .V 0, .V 0, .V 0, .v (.slice none 0 0)]) (m := 7) I I I I I dS (fun b424 => (AO.act [1] I (AX.store 1 0 0 (es' := [Segment.row x401]) I I I I I I I I (le_ble I) I I (AO.nil (AW.seq ?_)))))))))))
 obtain ⟨r425, hx426, h⟩ := ob_some h
 refine AW.region (AO.r 1 [.o 0 1] I ⟨I, J⟩ (AO.c (L.zimi_ok _ _ hx426) (AO.q 1 I (AO.nil (AW.ch h I ?_ ?_)))))
 intro hc427 h
 refine AW.z I ?_
 obtain rfl := hb420 _ (oi h).symm
 replace h := hR419
 replace h := se_r h
 refine AW.ghost g0 ?_
 obtain rfl := oi h
 exact AW.ret pr
 intro hc427 h
 refine AW.skip (AW.region (AO.r 2 [.k 0 (k398 + 1 : Nat)] I ⟨cast_wr hk399 hm400, J⟩ ?_))
 obtain rfl := oi h
 refine AO.nil ?_
 exact ⟨_, _, _, I, ⟨I, I⟩, ⟨I, I, I, I, J⟩, [0], I, by decide⟩
 rintro st410 s ob ⟨rfl, rfl⟩ he
 subst he
 have h := se_l hR419
 have hk399f : decide (((n_0.Segments.length : Nat) : Int) < (n_0.Segments.length : Int)) = false := by simp
 refine AW.z I (AW.seqG (fun y429 hy429 => (AW.condK (v := false) I hk399f (AW.exit ?_))))
 exact lg ⟨(), h, I, I⟩ [0]
 rintro s ob ⟨j268, h, rfl, rfl⟩
 unfold L.zgcl.J8 at h
 refine AW.cutX (fun s ob => ∃ (j287 : Unit), L.zgcl.J9 n_0 j287 = some r ∧ s = [] ∧ ob = [.arr b2 27 6 1 [Network.row n_0]]) [(1, _)] ⟨I, J⟩ ?_ ?_
 refine AW.zr [.o 1 0, .l 2 (n_0.Ports.length : Int)] I ⟨len_m, I, J⟩ (AW.block (AW.listMax 174 I (fun hm372 => ?_)))
 replace hm372 : n_0.Ports.length ≤ 9223372036854775806 := by rw [List.length_map] at hm372; omega
 obtain ⟨o385, hL386, hR387⟩ := ob_some h
 clear h
 refine AW.forX hL386 [(1, _), (174, _), (175, _)] ⟨I, I, I, J⟩ (fun (k370 : Nat) (st380 : Unit) s ob => s = [(176, .V (k370 : Int))] ∧ ob = [.arr b2 27 6 1 [Network.row n_0]]) ⟨I, I⟩ ⟨I, J⟩ ⟨[0], I, by decide⟩ ?_ ?_
 rintro k370 x373 st380 r389 s ob hx374 hk371 ⟨rfl, rfl⟩ h hb388
 unfold L.zgcl.B12 at h
 have hk371t : decide ((k370 : Int) < (n_0.Ports.length : Int)) = true := decide_eq_true (by omega)
 refine AW.z I (AW.seqG (fun y391 hy391 => (AW.condK (v := true) I hk371t (AW.skip ?_))))
 subst hy391
 refine AW.seq (AW.block (AW.seq (AW.region (AO.r 2 [.x 0 k370 (Port.row x373)] I ⟨⟨I, map_get hx374⟩, J⟩ (AO.act [] I (AX.alloc (cs := [.v (.string ⟨#[]⟩), .V 0, .V 0]) (m := 3) I I I I I dS (fun b392 => (AO.act [1] I (AX.store 1 0 0 (es' := [Port.row x373]) I I I I I I I I (le_ble I) I I (AO.nil (AW.seq (AW.region (AO.r 2 [.o 1 1] I ⟨I, J⟩ (AO.c (L.zmae_ok x373.Pressure 0 100000000 _ I) (AO.q 1 I ?_)))))))))))))))
 refine AO.nil (AW.ch h I ?_ ?_)
 intro hc393 h
 refine AW.z I ?_
 obtain rfl := hb388 _ (oi h).symm
 replace h := hR387
 replace h := se_r h
 refine AW.ghost g0 ?_
 obtain rfl := oi h
 exact AW.ret pr
 intro hc393 h
 refine AW.skip (AW.region (AO.r 2 [.k 0 (k370 + 1 : Nat)] I ⟨cast_wr hk371 hm372, J⟩ ?_))
 obtain rfl := oi h
 refine AO.nil ?_
 exact ⟨_, _, _, I, ⟨I, I⟩, ⟨I, I, I, I, J⟩, [0], I, by decide⟩
 rintro st380 s ob ⟨rfl, rfl⟩ he
 subst he
 have h := se_l hR387
 have hk371f : decide (((n_0.Ports.length : Nat) : Int) < (n_0.Ports.length : Int)) = false := by simp
 refine AW.z I (AW.seqG (fun y395 hy395 => (AW.condK (v := false) I hk371f (AW.exit ?_))))
 exact lg ⟨(), h, I, I⟩ [0]
 rintro s ob ⟨j287, h, rfl, rfl⟩
 unfold L.zgcl.J9 at h
 refine AW.cutX (fun s ob => ∃ (j318 : Unit), L.zgcl.J10 n_0 j318 = some r ∧ s = [] ∧ ob = [.arr b2 27 6 1 [Network.row n_0]]) [(1, _)] ⟨I, J⟩ ?_ ?_
 refine AW.zr [.o 1 0, .l 2 (n_0.Stations.length : Int)] I ⟨len_m, I, J⟩ (AW.block (AW.listMax 186 I (fun hm326 => ?_)))
 replace hm326 : n_0.Stations.length ≤ 9223372036854775806 := by rw [List.length_map] at hm326; omega
 obtain ⟨o351, hL352, hR353⟩ := ob_some h
 clear h
 refine AW.forX hL352 [(1, _), (186, _), (187, _)] ⟨I, I, I, J⟩ (fun (k324 : Nat) (st340 : Unit) s ob => s = [(188, .V (k324 : Int))] ∧ ob = [.arr b2 27 6 1 [Network.row n_0]]) ⟨I, I⟩ ⟨I, J⟩ ⟨[0], I, by decide⟩ ?_ ?_
 rintro k324 x327 st340 r355 s ob hx328 hk325 ⟨rfl, rfl⟩ h hb354
 unfold L.zgcl.B11 at h
 have hk325t : decide ((k324 : Int) < (n_0.Stations.length : Int)) = true := decide_eq_true (by omega)
 refine AW.z I (AW.seqG (fun y357 hy357 => (AW.condK (v := true) I hk325t (AW.skip ?_))))
 subst hy357
 refine AW.seq (AW.block (AW.seqG (fun y358 hy358 => (AW.region (AO.r 2 [.x 0 k324 (Station.row x327)] I ⟨⟨I, map_get hx328⟩, J⟩ (AO.act [] I (AX.alloc (cs := [.v (.string ⟨#[]⟩), .V 0, .V 0, .V 0, .V 0]) (m := 5) I I I I I dS (fun b359 => (AO.act [1] I (AX.store 1 0 0 (es' := [Station.row x327]) I I I I I I I I (le_ble I) I I (AO.nil ?_)))))))))))
 subst hy358
 refine AW.cutX (fun s ob => s = [(207, .v (.bool ((!(L.zmae x327.Head 0 100000000)) || ((!(L.zmae x327.Fall 0 100000)) || (!(L.zmae x327.Suction 0 100000000))))))] ∧ ob = [.arr b2 27 6 1 [Network.row n_0]]) [(1, _), (186, _), (187, _), (188, _)] ⟨I, I, I, I, J⟩ ?_ ?_
 refine AW.region (AO.r 2 [.o 1 1] I ⟨I, J⟩ (AO.c (L.zmae_ok x327.Head 0 100000000 _ I) (AO.q 2 I ?_)))
 rcases bt ((!(L.zmae x327.Head 0 100000000))) with hg363 | hg363
 refine AO.known 196 I hg363 (AO.q 11 I (AO.nil ?_))
 exact lf ⟨I, I⟩ ⟨(get_b (by simp only [hg363, bz])), I, I, I, I, J⟩ [0] I
 refine AO.known 196 I hg363 (AO.r 2 [.o 1 1] I ⟨I, J⟩ (AO.gt I I I (AO.c (L.zmae_ok x327.Fall 0 100000 _ I) (AO.q 3 I ?_))))
 rcases bt ((!(L.zmae x327.Fall 0 100000))) with hg364 | hg364
 refine AO.known 202 I hg364 (AO.q 5 I (AO.nil ?_))
 exact lf ⟨I, I⟩ ⟨(get_b (by simp only [hg363, hg364, bz])), I, I, I, I, J⟩ [0] I
 refine AO.known 202 I hg364 (AO.r 2 [.o 1 1] I ⟨I, J⟩ (AO.gt I I I (AO.c (L.zmae_ok x327.Suction 0 100000000 _ I) (AO.q 2 I (AO.nil ?_)))))
 exact lf ⟨I, I⟩ ⟨(get_b (by simp only [hg363, hg364, bz])), I, I, I, I, J⟩ [0] I
 rintro s ob ⟨rfl, rfl⟩
 refine AW.ch h I ?_ ?_
 intro hc365 h
 refine AW.z I ?_
 obtain rfl := hb354 _ (oi h).symm
 replace h := hR353
 replace h := se_r h
 refine AW.ghost g0 ?_
 obtain rfl := oi h
 exact AW.ret pr
 intro hc365 h
 refine AW.skip (AW.region (AO.r 2 [.k 0 (k324 + 1 : Nat)] I ⟨cast_wr hk325 hm326, J⟩ ?_))
 obtain rfl := oi h
 refine AO.nil ?_
 exact ⟨_, _, _, I, ⟨I, I⟩, ⟨I, I, I, I, J⟩, [0], I, by decide⟩
 rintro st340 s ob ⟨rfl, rfl⟩ he
 subst he
 have h := se_l hR353
 have hk325f : decide (((n_0.Stations.length : Nat) : Int) < (n_0.Stations.length : Int)) = false := by simp
 refine AW.z I (AW.seqG (fun y367 hy367 => (AW.condK (v := false) I hk325f (AW.exit ?_))))
 exact lg ⟨(), h, I, I⟩ [0]
 rintro s ob ⟨j318, h, rfl, rfl⟩
 unfold L.zgcl.J10 at h
 refine AW.seq (AW.cutX (fun s ob => s = [(218, .v (.bool ((!(L.zmae n_0.Vapour (-100000) 100000000)) || (!(L.zmae n_0.Settle 0 100)))))] ∧ ob = []) [] J ?_ ?_)
 refine AW.region (AO.r 2 [.o 1 0] I ⟨I, J⟩ (AO.c (L.zmae_ok n_0.Vapour (-100000) 100000000 _ I) (AO.q 2 I ?_)))
 rcases bt ((!(L.zmae n_0.Vapour (-100000) 100000000))) with hg321 | hg321
 refine AO.known 213 I hg321 (AO.q 5 I (AO.nil ?_))
 exact lf ⟨I, I⟩ ⟨(get_b (by simp only [hg321, bz])), J⟩ [] I
 refine AO.known 213 I hg321 (AO.r 2 [.o 1 0] I ⟨I, J⟩ (AO.gt I I I (AO.c (L.zmae_ok n_0.Settle 0 100 _ I) (AO.q 2 I (AO.nil ?_)))))
 exact lf ⟨I, I⟩ ⟨(get_b (by simp only [hg321, bz])), J⟩ [] I
 rintro s ob ⟨rfl, rfl⟩
 refine AW.ch h I ?_ ?_
 intro hc322 h
 refine AW.z I ?_
 obtain rfl := oi h
 exact AW.ret pr
 intro hc322 h
 refine AW.skip (AW.z I ?_)
 obtain rfl := oi h
 exact AW.ret pr
end Go.Proofs.YtehbcbedipkifaaGreatDoor
