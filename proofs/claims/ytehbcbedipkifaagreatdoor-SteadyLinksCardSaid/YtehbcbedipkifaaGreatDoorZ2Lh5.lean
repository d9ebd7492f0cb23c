/- Walks that show what functions of the program compute; printed by a program of ours. No condition. -/
import Derived.Test.YtehbcbedipkifaaGreatDoorZvLh2
import Derived.Test.YtehbcbedipkifaaGreatDoorZvLh3
set_option maxRecDepth 100000
namespace Go.Proofs.YtehbcbedipkifaaGreatDoor
open Go.Aw
set_option linter.unusedVariables false
set_option linter.unusedSimpArgs false
set_option maxHeartbeats 4000000
theorem L.zco_ok (s_0 : Segment) (rate_1 : Int) (r : Int × Int) (h : L.zco s_0 rate_1 = r) : ACalls Tryz.env 24 [.agg (Segment.row s_0), .V rate_1] [] (fun x new => x = .tup [.V r.1, .V r.2] ∧ new = []) := by
 refine ACalls.of_body Tryz.func24 rfl rfl rfl (fun C hC => ?_)
 unfold L.zco at h
 refine AW.seqG (fun y1 hy1 => (AW.region (AO.act [] I (AX.box (cs := Segment.row s_0) (m := 7) I I I dS (fun b2 => (AO.q 2 I (AO.nil ?_)))))))
 subst hy1
 refine AW.seq (AW.z I (AW.ch h I ?_ ?_))
 intro hc3 h
 refine AW.dz (pd 6 0 []) [0] [_] [.o 1 0, .o 3 0] I I ⟨I, I, J⟩ (AW.ghost g0 ?_)
 obtain rfl := h
 exact AW.ret ⟨.inr I, [_, _], [], ⟨I, I, J⟩, sl_n, I, I⟩
 intro hc3 h
 refine AW.skip (AW.dz (pd 6 0 []) [0] [_] [.o 1 0, .o 3 0] I I ⟨I, I, J⟩ (AW.ghost g0 ?_))
 obtain rfl := h
 exact AW.ret ⟨.inr I, [_, _], [], ⟨I, I, J⟩, sl_n, I, I⟩
theorem L.zbd_ok (s_0 : ByteArray) (r : Bool) (h : L.zbd s_0 = some r) : ACalls Tryz.env 102 [.v (.string s_0)] [] (fun x new => x = .v (.bool r) ∧ new = []) := by
 refine ACalls.of_body Tryz.func102 rfl rfl rfl (fun C hC => ?_)
 unfold L.zbd at h
 refine AW.z I (AW.seqG (fun y2 hy2 => (AW.cutX (fun s ob => ∃ (j10 : Bool), L.zbd.J1 s_0 j10 = some r ∧ s = [(21, .v (.bool j10))] ∧ ob = []) [(0, _)] ⟨I, J⟩ ?_ ?_)))
 refine AW.region (AO.q 4 I ?_)
 rcases bt (decide ((s_0.size : Int) < 1)) with hg266 | hg266
 replace h := ife_t hg266 h
 refine AO.known 7 I hg266 (AO.q 14 I (AO.nil ?_))
 exact lg ⟨true, h, I, I⟩ []
 replace h := ife_f hg266 h
 refine AO.known 7 I hg266 ?_
 rcases bt (decide ((s_0.size : Int) > 12)) with hg267 | hg267
 replace h := ife_t hg267 h
 refine AO.q 5 I (AO.known 12 I hg267 (AO.q 9 I (AO.nil ?_)))
 exact lg ⟨true, h, I, I⟩ []
 replace h := ife_f hg267 h
 obtain ⟨p268, hp269, h⟩ := ob_some h
 obtain ⟨hp269i, hp269l, hp269x⟩ := ixs_some hp269
 refine AO.q 5 I (AO.known 12 I hg267 (AO.q 1 I (AO.gt I I I (AO.p (Yp.indexStrX (m := p268.1) I I I I hp269i hp269l hp269x) I (AO.gt I I I (AO.p (Yp.cmpI (c := decide (p268.2 < 97)) I I I) I (AO.q 2 I ?_)))))))
 rcases bt (decide (p268.2 < 97)) with hg270 | hg270
 replace h := ife_t hg270 h
 refine AO.known 17 I hg270 (AO.q 4 I (AO.nil ?_))
 exact lg ⟨true, h, I, I⟩ []
 replace h := ife_f hg270 h
 refine AO.known 17 I hg270 (AO.q 1 I (AO.gt I I I (AO.p (Yp.indexStrX (m := p268.1) I I I I hp269i hp269l hp269x) I (AO.gt I I I (AO.p (Yp.cmpI (c := decide (p268.2 > 122)) I I I) I (AO.q 1 I (AO.nil ?_)))))))
 exact lg ⟨decide (p268.2 > 122), h, I, I⟩ []
 rintro s ob ⟨j10, h, rfl, rfl⟩
 unfold L.zbd.J1 at h
 refine AW.ch h I ?_ ?_
 intro hc11 h
 refine AW.z I ?_
 obtain rfl := oi h
 exact AW.ret pr
 intro hc11 h
 refine AW.skip ?_
 subst hy2
 refine AW.cutX (fun s ob => ∃ (j107 : Unit), L.zbd.J2 j107 = some r ∧ s = [] ∧ ob = []) [] J ?_ ?_
 refine AW.z I (AW.block ?_)
 obtain ⟨o203, hL204, hR205⟩ := ob_some h
 clear h
 refine AW.loopX hL204 [(0, _)] ⟨I, J⟩ (fun (st172 : Int) s ob => s = [(3, .V st172)] ∧ ob = []) ⟨I, I⟩ ⟨I, J⟩ ⟨[], I, by decide⟩ ?_
 rintro st172 r207 s ob ⟨rfl, rfl⟩ h hb206
 unfold L.zbd.B3 at h
 refine AW.seqG (fun y208 hy208 => (AW.z I (AW.ch h I ?_ ?_)))
 intro hc209 h
 refine AW.skip ?_
 subst hy208
 refine AW.seq (AW.block (AW.cutX (fun s ob => ∃ (j236 : Bool), L.zbd.J4 st172 j236 = some r207 ∧ s = [(55, .v (.bool j236))] ∧ ob = []) [(0, _), (3, _)] ⟨I, I, J⟩ ?_ ?_))
 obtain ⟨p238, hp239, h⟩ := ob_some h
 obtain ⟨hp239i, hp239l, hp239x⟩ := ixs_some hp239
 refine AW.region (AO.q 2 I (AO.p (Yp.indexStrX (m := p238.1) I I I I hp239i hp239l hp239x) I (AO.p (Yp.cmpI (c := decide (p238.2 < 97)) I I I) I (AO.q 1 I ?_))))
 rcases bt (decide (p238.2 < 97)) with hg240 | hg240
 replace h := ife_t hg240 h
 refine AO.known 32 I hg240 (AO.q 8 I (AO.gt I I I (AO.p (Yp.indexStrX (m := p238.1) I I I I hp239i hp239l hp239x) I (AO.gt I I I (AO.p (Yp.cmpI (c := decide (p238.2 < 48)) I I I) I (AO.q 1 I ?_))))))
 rcases bt (decide (p238.2 < 48)) with hg243 | hg243
 replace h := ife_t hg243 h
 refine AO.known 43 I hg243 (AO.q 9 I (AO.gt I I I (AO.p (Yp.indexStrX (m := p238.1) I I I I hp239i hp239l hp239x) I (AO.gt I I I (AO.p (Yp.cmpI (c := (p238.2 != 45)) I I I) I (AO.q 1 I (AO.nil ?_)))))))
 exact lg ⟨(p238.2 != 45), h, I, I⟩ []
 replace h := ife_f hg243 h
 refine AO.known 43 I hg243 (AO.q 2 I (AO.gt I I I (AO.p (Yp.indexStrX (m := p238.1) I I I I hp239i hp239l hp239x) I (AO.gt I I I (AO.p (Yp.cmpI (c := decide (p238.2 > 57)) I I I) I (AO.q 3 I ?_))))))
 rcases bt (decide (p238.2 > 57)) with hg248 | hg248
 replace h := ife_t hg248 h
 refine AO.known 50 I hg248 (AO.q 2 I (AO.gt I I I (AO.p (Yp.indexStrX (m := p238.1) I I I I hp239i hp239l hp239x) I (AO.gt I I I (AO.p (Yp.cmpI (c := (p238.2 != 45)) I I I) I (AO.q 1 I (AO.nil ?_)))))))
 exact lg ⟨(p238.2 != 45), h, I, I⟩ []
 replace h := ife_f hg248 h
 refine AO.known 50 I hg248 (AO.q 5 I (AO.nil ?_))
 exact lg ⟨false, h, I, I⟩ []
 replace h := ife_f hg240 h
 refine AO.known 32 I hg240 (AO.q 2 I (AO.gt I I I (AO.p (Yp.indexStrX (m := p238.1) I I I I hp239i hp239l hp239x) I (AO.gt I I I (AO.p (Yp.cmpI (c := decide (p238.2 > 122)) I I I) I (AO.q 2 I ?_))))))
 rcases bt (decide (p238.2 > 122)) with hg253 | hg253
 replace h := ife_t hg253 h
 refine AO.known 38 I hg253 (AO.q 2 I (AO.gt I I I (AO.p (Yp.indexStrX (m := p238.1) I I I I hp239i hp239l hp239x) I (AO.gt I I I (AO.p (Yp.cmpI (c := decide (p238.2 < 48)) I I I) I (AO.q 1 I ?_))))))
 rcases bt (decide (p238.2 < 48)) with hg256 | hg256
 replace h := ife_t hg256 h
 refine AO.known 43 I hg256 (AO.q 9 I (AO.gt I I I (AO.p (Yp.indexStrX (m := p238.1) I I I I hp239i hp239l hp239x) I (AO.gt I I I (AO.p (Yp.cmpI (c := (p238.2 != 45)) I I I) I (AO.q 1 I (AO.nil ?_)))))))
 exact lg ⟨(p238.2 != 45), h, I, I⟩ []
 replace h := ife_f hg256 h
 refine AO.known 43 I hg256 (AO.q 2 I (AO.gt I I I (AO.p (Yp.indexStrX (m := p238.1) I I I I hp239i hp239l hp239x) I (AO.gt I I I (AO.p (Yp.cmpI (c := decide (p238.2 > 57)) I I I) I (AO.q 3 I ?_))))))
 rcases bt (decide (p238.2 > 57)) with hg261 | hg261
 replace h := ife_t hg261 h
 refine AO.known 50 I hg261 (AO.q 2 I (AO.gt I I I (AO.p (Yp.indexStrX (m := p238.1) I I I I hp239i hp239l hp239x) I (AO.gt I I I (AO.p (Yp.cmpI (c := (p238.2 != 45)) I I I) I (AO.q 1 I (AO.nil ?_)))))))
 exact lg ⟨(p238.2 != 45), h, I, I⟩ []
 replace h := ife_f hg261 h
 refine AO.known 50 I hg261 (AO.q 5 I (AO.nil ?_))
 exact lg ⟨false, h, I, I⟩ []
 replace h := ife_f hg253 h
 refine AO.known 38 I hg253 (AO.q 5 I (AO.skipU I I dS (AO.skipU I I dS (AO.skipU I I dS (AO.skipU I I dS (AO.q 8 I (AO.nil ?_)))))))
 exact lg ⟨false, h, I, I⟩ []
 rintro s ob ⟨j236, h, rfl, rfl⟩
 unfold L.zbd.J4 at h
 refine AW.ch h I ?_ ?_
 intro hc237 h
 refine AW.z I ?_
 obtain rfl := hb206 _ (oi h).symm
 replace h := hR205
 replace h := se_l h
 obtain rfl := oi h
 exact AW.ret pr
 intro hc237 h
 refine AW.skip (AW.region (AO.q 3 I ?_))
 obtain rfl := oi h
 refine AO.nil ?_
 exact ⟨_, _, _, I, ⟨I, I⟩, ⟨I, I, J⟩, [], I, by decide⟩
 intro hc209 h
 obtain rfl := hb206 _ (oi h).symm
 replace h := hR205
 replace h := se_r h
 refine AW.exit ?_
 exact lg ⟨(), h, I, I⟩ []
 rintro s ob ⟨j107, h, rfl, rfl⟩
 unfold L.zbd.J2 at h
 refine AW.z I ?_
 obtain rfl := oi h
 exact AW.ret pr
theorem L.zdc_ok (s_0 : Station) (r : Bool) (h : L.zdc s_0 = some r) : ACalls Tryz.env 62 [.agg (Station.row s_0)] [] (fun x new => x = .v (.bool r) ∧ new = []) := by
 refine ACalls.of_body Tryz.func62 rfl rfl rfl (fun C hC => ?_)
 unfold L.zdc at h
 refine AW.seqG (fun y1 hy1 => (AW.region (AO.act [] I (AX.box (cs := Station.row s_0) (m := 5) I I I dS (fun b2 => (AO.q 1 I (AO.nil ?_)))))))
 subst hy1
 refine AW.cutX (fun s ob => ∃ (j13 : Bool), L.zdc.J1 j13 = some r ∧ s = [(2, .v (.bool j13))] ∧ ob = []) [] J ?_ ?_
 obtain ⟨r14, hx15, h⟩ := ob_some h
 refine AW.region (AO.r 2 [.o 1 0] I ⟨I, J⟩ (AO.c (L.zbd_ok _ _ hx15) (AO.q 1 I ?_)))
 rcases bt (r14) with hg16 | hg16
 replace h := ife_t hg16 h
 refine AO.known 6 I hg16 (AO.r 5 [.o 1 0] I ⟨I, J⟩ ?_)
 rcases bt (decide (s_0.Node ≥ 0)) with hg17 | hg17
 replace h := ife_t hg17 h
 refine AO.known 11 I hg17 (AO.r 5 [.o 1 0] I ⟨I, J⟩ ?_)
 rcases bt (decide (s_0.Node < 24)) with hg18 | hg18
 replace h := ife_t hg18 h
 refine AO.known 16 I hg18 (AO.r 5 [.o 1 0] I ⟨I, J⟩ ?_)
 rcases bt (decide (s_0.Head ≥ 0)) with hg19 | hg19
 replace h := ife_t hg19 h
 refine AO.known 21 I hg19 (AO.r 5 [.o 1 0] I ⟨I, J⟩ ?_)
 rcases bt (decide (s_0.Head ≤ 100000000)) with hg20 | hg20
 replace h := ife_t hg20 h
 refine AO.known 26 I hg20 (AO.r 5 [.o 1 0] I ⟨I, J⟩ ?_)
 rcases bt (decide (s_0.Fall ≥ 0)) with hg21 | hg21
 replace h := ife_t hg21 h
 refine AO.known 31 I hg21 (AO.r 5 [.o 1 0] I ⟨I, J⟩ ?_)
 rcases bt (decide (s_0.Fall ≤ 100000)) with hg22 | hg22
 replace h := ife_t hg22 h
 refine AO.known 36 I hg22 (AO.r 5 [.o 1 0] I ⟨I, J⟩ ?_)
 rcases bt (decide (s_0.Suction ≥ 0)) with hg23 | hg23
 replace h := ife_t hg23 h
 refine AO.known 41 I hg23 (AO.r 5 [.o 1 0] I ⟨I, J⟩ (AO.nil ?_))
 exact lg ⟨decide (s_0.Suction ≤ 100000000), h, I, I⟩ []
 replace h := ife_f hg23 h
 refine AO.known 41 I hg23 (AO.q 5 I (AO.nil ?_))
 exact lg ⟨false, h, I, I⟩ []
 replace h := ife_f hg22 h
 refine AO.known 36 I hg22 (AO.q 10 I (AO.nil ?_))
 exact lg ⟨false, h, I, I⟩ []
 replace h := ife_f hg21 h
 refine AO.known 31 I hg21 (AO.q 15 I (AO.nil ?_))
 exact lg ⟨false, h, I, I⟩ []
 replace h := ife_f hg20 h
 refine AO.known 26 I hg20 (AO.q 20 I (AO.nil ?_))
 exact lg ⟨false, h, I, I⟩ []
 replace h := ife_f hg19 h
 refine AO.known 21 I hg19 (AO.q 25 I (AO.nil ?_))
 exact lg ⟨false, h, I, I⟩ []
 replace h := ife_f hg18 h
 refine AO.known 16 I hg18 (AO.q 30 I (AO.nil ?_))
 exact lg ⟨false, h, I, I⟩ []
 replace h := ife_f hg17 h
 refine AO.known 11 I hg17 (AO.q 35 I (AO.nil ?_))
 exact lg ⟨false, h, I, I⟩ []
 replace h := ife_f hg16 h
 refine AO.known 6 I hg16 (AO.q 40 I (AO.nil ?_))
 exact lg ⟨false, h, I, I⟩ []
 rintro s ob ⟨j13, h, rfl, rfl⟩
 unfold L.zdc.J1 at h
 obtain rfl := oi h
 exact AW.ret pr
theorem L.zfo_ok (s_0 : Station) (rate_1 : Int) (r : Int × Int) (h : L.zfo s_0 rate_1 = some r) : ACalls Tryz.env 25 [.agg (Station.row s_0), .V rate_1] [] (fun x new => x = .tup [.V r.1, .V r.2] ∧ new = []) := by
 refine ACalls.of_body Tryz.func25 rfl rfl rfl (fun C hC => ?_)
 unfold L.zfo at h
 refine AW.seqG (fun y1 hy1 => (AW.region (AO.act [] I (AX.box (cs := Station.row s_0) (m := 5) I I I dS (fun b2 => (AO.q 2 I (AO.nil ?_)))))))
 subst hy1
 refine AW.seqG (fun y3 hy3 => (AW.seq ?_))
 obtain ⟨r4, hx5, h⟩ := ob_some h
 refine AW.region (AO.r 1 [.o 0 0] I ⟨I, J⟩ (AO.c (L.zdc_ok _ _ hx5) (AO.q 1 I (AO.nil (AW.ch h I ?_ ?_)))))
 intro hc6 h
 refine AW.z I (AW.ghost g0 ?_)
 obtain rfl := oi h
 exact AW.ret ⟨.inr I, [_, _], [], ⟨I, I, J⟩, sl_n, I, I⟩
 intro hc6 h
 refine AW.skip ?_
 subst hy3
 refine AW.seqG (fun y7 hy7 => (AW.cutX (fun s ob => s = [(14, .v (.bool (decide (rate_1 < 0) || decide (rate_1 > 32000))))] ∧ ob = [.arr b2 83 5 1 [Station.row s_0]]) [(1, _), (2, _)] ⟨I, I, J⟩ ?_ ?_))
 refine AW.region (AO.q 3 I ?_)
 rcases bt (decide (rate_1 < 0)) with hg10 | hg10
 refine AO.known 11 I hg10 (AO.q 3 I (AO.nil ?_))
 exact lf ⟨I, I⟩ ⟨(get_b (by simp only [hg10, bz])), I, I, J⟩ [0] I
 refine AO.known 11 I hg10 (AO.q 3 I (AO.nil ?_))
 exact lf ⟨I, I⟩ ⟨(get_b (by simp only [hg10, bz])), I, I, J⟩ [0] I
 rintro s ob ⟨rfl, rfl⟩
 refine AW.ch h I ?_ ?_
 intro hc11 h
 refine AW.z I (AW.ghost g0 ?_)
 obtain rfl := oi h
 exact AW.ret ⟨.inr I, [_, _], [], ⟨I, I, J⟩, sl_n, I, I⟩
 intro hc11 h
 refine AW.skip ?_
 subst hy7
 refine AW.zr [.o 1 0, .o 3 0, .f 8 (.V (wr ((wr ((wr (s_0.Fall * rate_1)) * rate_1)).tdiv 1000)))] I ⟨Yp.yd (Yp.binI (c := wr ((wr ((wr (s_0.Fall * rate_1)) * rate_1)).tdiv 1000)) I I ⟨by decide, I⟩), I, I, J⟩ (AW.ghost g0 ?_)
 obtain rfl := oi h
 exact AW.ret ⟨.inr I, [_, _], [], ⟨I, I, J⟩, sl_n, I, I⟩
theorem L.zcn_ok (n_0 : Network) (p_1 : Plan) (node_2 : Int) (r : Int) (h : L.zcn n_0 p_1 node_2 = some r) : ACalls Tryz.env 26 [.agg (Network.row n_0), .agg (Plan.row p_1), .V node_2] [] (fun x new => x = .V r ∧ new = []) := by
 refine ACalls.of_body Tryz.func26 rfl rfl rfl (fun C hC => ?_)
 unfold L.zcn at h
 refine AW.seqG (fun y1 hy1 => (AW.region (AO.act [] I (AX.box (cs := Network.row n_0) (m := 6) I I I dS (fun b2 => (AO.act [] I (AX.box (cs := Plan.row p_1) (m := 3) I I I dS (fun b3 => (AO.q 1 I (AO.nil ?_))))))))))
 subst hy1
 refine AW.z I (AW.cutX (fun s ob => ∃ (j49 : Int), L.zcn.J1 j49 = some r ∧ s = [(7, .V j49)] ∧ ob = []) [] J ?_ ?_)
 refine AW.zr [.o 1 0, .l 2 (n_0.Segments.length : Int)] I ⟨len_m, I, J⟩ (AW.block (AW.listMax 13 I (fun hm53 => ?_)))
 replace hm53 : n_0.Segments.length ≤ 9223372036854775806 := by rw [List.length_map] at hm53; omega
 obtain ⟨o92, hL93, hR94⟩ := ob_some h
 clear h
 refine AW.forY hL93 [(2, _), (4, _), (13, _), (14, _)] ⟨I, I, I, I, J⟩ (fun (k51 : Nat) (st80 : Int) s ob => s = [(15, .V (k51 : Int)), (7, .V st80)] ∧ ob = [.arr b3 32 3 1 [Plan.row p_1]]) ⟨I, I⟩ ⟨I, I, J⟩ ⟨[1], I, by decide⟩ ?_ ?_
 rintro k51 x54 st80 r96 s ob hx55 hk52 ⟨rfl, rfl⟩ h
 unfold L.zcn.B2 at h
 have hk52t : decide ((k51 : Int) < (n_0.Segments.length : Int)) = true := decide_eq_true (by omega)
 refine AW.z I (AW.seqG (fun y98 hy98 => (AW.condK (v := true) I hk52t (AW.skip ?_))))
 subst hy98
 refine AW.cutX (fun s ob => ∃ (j107 : Int), L.zcn.J3 j107 = some r96 ∧ s = [(7, .V j107)] ∧ ob = [.arr b3 32 3 1 [Plan.row p_1]]) [(2, _), (4, _), (13, _), (14, _), (15, _)] ⟨I, I, I, I, I, J⟩ ?_ ?_
 refine AW.block (AW.seqG (fun y108 hy108 => (AW.region (AO.r 3 [.x 1 k51 (Segment.row x54)] I ⟨⟨I, map_get hx55⟩, J⟩ (AO.act [] I (AX.alloc (cs := [.v (.string ⟨#[]⟩), .V 0, .V 0, .V 0, .V 0, .V 0, .v (.slice none 0 0)]) (m := 7) I I I I I dS (fun b109 => (AO.q 1 I (AO.act [1] I (AX.store 1 0 0 (es' := [Segment.row x54]) I I I I I I I I (le_ble I) I I (AO.nil ?_)))))))))))
 subst hy108
 refine AW.seqG (fun y110 hy110 => (AW.seq ?_))
 obtain ⟨p111, hp112, h⟩ := ob_some h
 obtain ⟨hp112i, hp112x⟩ := ix_some hp112
 refine AW.tr [.o 1 0, .x 3 p111.1 (rI p111.2)] I ⟨⟨hp112i, map_get hp112x⟩, I, J⟩ (AW.ch h I ?_ ?_)
 intro hc113 h
 refine AW.exit ?_
 exact lg ⟨st80, h, I, I⟩ [0]
 intro hc113 h
 refine AW.skip ?_
 subst hy110
 refine AW.seqG (fun y114 hy114 => (AW.rd (pd 12 0 [6]) [1, 0] [_, _] I (AP.r 6 [.o 0 0, .o 2 1, .x 4 p111.1 (rI p111.2)] I ⟨⟨hp112i, map_get hp112x⟩, I, I, J⟩ (AP.c I (L.zco_ok x54 p111.2 _ I) (AP.q 5 I (AP.ofAO (AO.nil ?_)))))))
 subst hy114
 refine AW.z I (AW.ch h I ?_ ?_)
 intro hc115 h
 refine AW.region (AO.r 6 [.o 2 0, .x 4 p111.1 (rI p111.2)] I ⟨⟨hp112i, map_get hp112x⟩, I, J⟩ (AO.c (L.zds_ok p111.2 _ I) (AO.q 2 I (AO.nil ?_))))
 exact lg ⟨wr (st80 + (L.zds p111.2)), h, I, I⟩ [0]
 intro hc115 h
 refine AW.skip ?_
 exact lg ⟨st80, h, I, I⟩ [0]
 rintro s ob ⟨j107, h, rfl, rfl⟩
 unfold L.zcn.J3 at h
 refine AW.region (AO.r 2 [.k 0 (k51 + 1 : Nat)] I ⟨cast_wr hk52 hm53, J⟩ ?_)
 obtain rfl := oi h
 refine AO.nil ?_
 exact lg ⟨I, I⟩ [0]
 rintro st80 s ob ⟨rfl, rfl⟩ he
 subst he
 have h := hR94
 have hk52f : decide (((n_0.Segments.length : Nat) : Int) < (n_0.Segments.length : Int)) = false := by simp
 refine AW.z I (AW.seqG (fun y117 hy117 => (AW.condK (v := false) I hk52f (AW.exit ?_))))
 exact lg ⟨st80, h, I, I⟩ []
 rintro s ob ⟨j49, h, rfl, rfl⟩
 unfold L.zcn.J1 at h
 refine AW.z I ?_
 obtain rfl := oi h
 exact AW.ret pr
theorem L.zab_ok (l_0 : List Int) (r : Bool) (h : L.zab l_0 = some r) : ACalls Tryz.env 5 [.list 1 (l_0.map rI)] [] (fun x new => x = .v (.bool r) ∧ new = []) := by
 refine ACalls.of_body Tryz.func5 rfl rfl rfl (fun C hC => ?_)
 unfold L.zab at h
 refine AW.z I (AW.seqG (fun y2 hy2 => ?_))
 obtain ⟨r3, hx4, h⟩ := ob_some h
 obtain ⟨r6, hx7, h⟩ := ob_some h
 refine AW.region (AO.q 1 I (AO.act [] I (AX.call0 I I I (L.zfk_ok _ _ hx4) dS ?_)))
 rintro _ _ ⟨b5, rfl, rfl⟩
 refine AO.act [0] I (AX.c0 [0] (L.zeh_ok b5 _ _ hx7) ?_)
 refine AO.q 6 I (AO.act [] I (AX.alloc (cs := [.v (.slice none 0 0), .v (.slice none 0 0), .v (.slice none 0 0), .v (.slice none 0 0), .V 0, .V 0]) (m := 6) I I I I I dS (fun b8 => (AO.act [] I (AX.alloc (cs := [.v (.slice none 0 0), .v (.slice none 0 0), .v (.slice none 0 0)]) (m := 3) I I I I I dS (fun b9 => (AO.act [1] I (AX.store 1 0 0 (es' := [Network.row r6.1]) I I I I I I I I (le_ble I) I I (AO.q 3 I (AO.act [2] I (AX.store 2 0 0 (es' := [Plan.row r6.2.2.2.2.1]) I I I I I I I I (le_ble I) I I (AO.nil ?_))))))))))))
 subst hy2
 refine AW.seqG (fun y10 hy10 => ?_)
 obtain ⟨r11, hx12, h⟩ := ob_some h
 refine AW.region (AO.r 5 [.o 0 1, .o 4 2] I ⟨I, I, J⟩ (AO.act [] I (AX.call0 I I I (L.zai_ok _ _ _ _ _ _ hx12) dS ?_)))
 rintro _ _ ⟨rfl, rfl⟩
 refine AO.q 3 I (AO.act [] I (AX.alloc (cs := [.v (.slice none 0 0), .v (.slice none 0 0), .v (.slice none 0 0)]) (m := 3) I I I I I dS (fun b13 => (AO.act [3] I (AX.store 3 0 0 (es' := [Pressures.row r11.1]) I I I I I I I I (le_ble I) I I (AO.q 1 I (AO.nil ?_)))))))
 subst hy10
 refine AW.seqG (fun y14 hy14 => (AW.cutX (fun s ob => s = [(64, .v (.bool ((r11.2 != 0) || (((r11.1.Nodes.length : Int) != (r6.1.Nodes.length : Int)) || ((r11.1.Segments.length : Int) != (r6.1.Segments.length : Int))))))] ∧ ob = [.arr b8 27 6 1 [Network.row r6.1], .arr b9 32 3 1 [Plan.row r6.2.2.2.2.1], .arr b13 36 3 1 [Pressures.row r11.1]]) [(3, _), (7, _), (8, _)] ⟨I, I, I, J⟩ ?_ ?_))
 refine AW.region (AO.q 3 I ?_)
 rcases bt ((r11.2 != 0)) with hg18 | hg18
 refine AO.known 47 I hg18 (AO.q 17 I (AO.nil ?_))
 exact lf ⟨I, I⟩ ⟨(get_b (by simp only [hg18, bz])), I, I, I, J⟩ [1, 2, 3] I
 refine AO.known 47 I hg18 (AO.r 9 [.o 1 3, .l 2 (r11.1.Nodes.length : Int), .o 4 1, .l 5 (r6.1.Nodes.length : Int)] I ⟨len_m, I, len_m, I, J⟩ ?_)
 rcases bt (((r11.1.Nodes.length : Int) != (r6.1.Nodes.length : Int))) with hg19 | hg19
 refine AO.known 56 I hg19 (AO.q 8 I (AO.nil ?_))
 exact lf ⟨I, I⟩ ⟨(get_b (by simp only [hg18, hg19, bz])), I, I, I, J⟩ [1, 2, 3] I
 refine AO.known 56 I hg19 (AO.r 8 [.o 1 3, .l 2 (r11.1.Segments.length : Int), .o 4 1, .l 5 (r6.1.Segments.length : Int)] I ⟨len_m, I, len_m, I, J⟩ (AO.nil ?_))
 exact lf ⟨I, I⟩ ⟨(get_b (by simp only [hg18, hg19, bz])), I, I, I, J⟩ [1, 2, 3] I
 rintro s ob ⟨rfl, rfl⟩
 refine AW.ch h I ?_ ?_
 intro hc20 h
 refine AW.z I (AW.ghost g0 ?_)
 obtain rfl := oi h
 exact AW.ret pr
 intro hc20 h
 refine AW.skip ?_
 subst hy14
 refine AW.cutX (fun s ob => ∃ (j29 : (List Bool) × (List Bool)) (v30 : Value) (v31 : Value), L.zab.J1 r6 r11 j29 = some r ∧ s = [(10, .v v30), (11, .v v31)] ∧ ob = [.arr b8 27 6 1 [Network.row r6.1], .arr b9 32 3 1 [Plan.row r6.2.2.2.2.1], .arr b13 36 3 1 [Pressures.row r11.1], .us v30 4 1 (j29.1.map rB), .us v31 4 1 (j29.2.map rB)]) [(3, _), (7, _), (8, _)] ⟨I, I, I, J⟩ ?_ ?_
 obtain ⟨l1598, hx1599, h⟩ := ob_some h
 obtain ⟨m1600, hx1599i, hx1599m, hx1599r⟩ := mk_some hx1599
 obtain ⟨l1602, hx1603, h⟩ := ob_some h
 obtain ⟨m1604, hx1603i, hx1603m, hx1603r⟩ := mk_some hx1603
 refine AW.rd (.still 0 (.still 1 (.still 2 (.still 4 (.still 5 (.still 6 (.two 3 7 (.still 8 (.act 7 (.still 9 .nil))) (.act 3 (.still 8 (.still 9 .nil)))))))))) [0] [_] I (AP.r 6 [.o 1 0, .l 2 (r6.1.Nodes.length : Int), .o 4 0, .l 5 (r6.1.Nodes.length : Int)] I ⟨len_m, I, len_m, I, J⟩ (AP.two ?_ ?_))
 refine AP.act [] I I I (AX.makeU (sz := 1) I I I I I I I I I I hx1599i hx1599m (rep_map (f := rB) hx1599r I) dS (fun v1601 => (AP.q 1 I (AP.act [] I I I (AX.makeU (sz := 1) I I I I I I I I I I hx1603i hx1603m (rep_map (f := rB) hx1603r I) dS (fun v1605 => (AP.q 1 I (AP.ofAO (AO.nil ?_)))))))))
 exact lg ⟨(l1598, l1602), v1601, v1605, h, I, I⟩ [0, 1, 2, 3, 4]
 refine AP.act [] I I I (AX.makeU (sz := 1) I I I I I I I I I I hx1603i hx1603m (rep_map (f := rB) hx1603r I) dS (fun v1605 => (AP.act [] I I I (AX.makeU (sz := 1) I I I I I I I I I I hx1599i hx1599m (rep_map (f := rB) hx1599r I) dS (fun v1601 => (AP.q 2 I (AP.ofAO (AO.nil ?_))))))))
 exact lg ⟨(l1598, l1602), v1601, v1605, h, I, I⟩ [0, 1, 2, 4, 3]
 rintro s ob ⟨j29, v30, v31, h, rfl, rfl⟩
 unfold L.zab.J1 at h
 refine AW.cutX (fun s ob => ∃ (j175 : (List Bool) × (List Bool)), L.zab.J2 r6 r11 j175 = some r ∧ s = [] ∧ ob = [.arr b8 27 6 1 [Network.row r6.1], .arr b9 32 3 1 [Plan.row r6.2.2.2.2.1], .arr b13 36 3 1 [Pressures.row r11.1], .us v30 4 1 (j175.1.map rB), .us v31 4 1 (j175.2.map rB)]) [(3, _), (7, _), (8, _), (10, _), (11, _)] ⟨I, I, I, I, I, J⟩ ?_ ?_
 refine AW.zr [.o 1 0, .l 2 (r6.1.Ports.length : Int)] I ⟨len_m, I, J⟩ (AW.block (AW.listMax 74 I (fun hm1364 => ?_)))
 replace hm1364 : r6.1.Ports.length ≤ 9223372036854775806 := by rw [List.length_map] at hm1364; omega
 obtain ⟨o1502, hL1503, hR1504⟩ := ob_some h
 clear h
 refine AW.forX hL1503 [(3, _), (7, _), (8, _), (10, _), (11, _), (74, _), (75, _)] ⟨I, I, I, I, I, I, I, J⟩ (fun (k1362 : Nat) (st1457 : (List Bool) × (List Bool)) s ob => s = [(76, .V (k1362 : Int))] ∧ ob = [.arr b8 27 6 1 [Network.row r6.1], .arr b9 32 3 1 [Plan.row r6.2.2.2.2.1], .arr b13 36 3 1 [Pressures.row r11.1], .us v30 4 1 (st1457.1.map rB), .us v31 4 1 (st1457.2.map rB)]) ⟨I, I⟩ ⟨I, J⟩ ⟨[0, 1, 2, 3, 4], I, by decide⟩ ?_ ?_
 rintro k1362 x1365 st1457 r1506 s ob hx1366 hk1363 ⟨rfl, rfl⟩ h hb1505
 unfold L.zab.B16 at h
 have hk1363t : decide ((k1362 : Int) < (r6.1.Ports.length : Int)) = true := decide_eq_true (by omega)
 refine AW.z I (AW.seqG (fun y1508 hy1508 => (AW.condK (v := true) I hk1363t (AW.skip ?_))))
 subst hy1508
 refine AW.cutX (fun s ob => ∃ (j1550 : (List Bool) × (List Bool)), L.zab.J17 j1550 = some r1506 ∧ s = [] ∧ ob = [.arr b8 27 6 1 [Network.row r6.1], .arr b9 32 3 1 [Plan.row r6.2.2.2.2.1], .arr b13 36 3 1 [Pressures.row r11.1], .us v30 4 1 (j1550.1.map rB), .us v31 4 1 (j1550.2.map rB)]) [(3, _), (7, _), (8, _), (10, _), (11, _), (74, _), (75, _), (76, _)] ⟨I, I, I, I, I, I, I, I, J⟩ ?_ ?_
 refine AW.block (AW.seqG (fun y1551 hy1551 => (AW.region (AO.r 3 [.x 1 k1362 (Port.row x1365)] I ⟨⟨I, map_get hx1366⟩, J⟩ (AO.act [] I (AX.alloc (cs := [.v (.string ⟨#[]⟩), .V 0, .V 0]) (m := 3) I I I I I dS (fun b1552 => (AO.q 1 I (AO.act [5] I (AX.store 5 0 0 (es' := [Port.row x1365]) I I I I I I I I (le_ble I) I I (AO.nil ?_)))))))))))
 subst hy1551
 refine AW.seqG (fun y1553 hy1553 => ?_)
 obtain ⟨p1554, hp1555, h⟩ := ob_some h
 obtain ⟨hp1555i, hp1555x⟩ := ix_some hp1555
 refine AW.tr [.o 1 1, .x 3 p1554.1 (rI p1554.2)] I ⟨⟨hp1555i, map_get hp1555x⟩, I, J⟩ ?_
 subst hy1553
 refine AW.ch h I ?_ ?_
 intro hc1556 h
 refine AW.seqG (fun y1557 hy1557 => (AW.cutX (fun s ob => ∃ (j1561 : Bool), L.zab.J18 r11 x1365 st1457 j1561 = some r1506 ∧ s = [(108, .v (.bool j1561))] ∧ ob = [.arr b8 27 6 1 [Network.row r6.1], .arr b9 32 3 1 [Plan.row r6.2.2.2.2.1], .arr b13 36 3 1 [Pressures.row r11.1], .us v30 4 1 (st1457.1.map rB), .us v31 4 1 (st1457.2.map rB), .arr b1552 74 3 1 [Port.row x1365]]) [(3, _), (7, _), (8, _), (10, _), (11, _), (13, _), (74, _), (75, _), (76, _)] ⟨I, I, I, I, I, I, I, I, I, J⟩ ?_ ?_))
 obtain ⟨p1592, hp1593, h⟩ := ob_some h
 obtain ⟨hp1593i, hp1593x⟩ := ix_some hp1593
 refine AW.rd (pd 22 0 []) [2, 5] [_, _] I (AP.r 11 [.o 1 0, .o 3 1, .x 4 p1592.1 (Bounds.row p1592.2), .o 8 1] I ⟨I, ⟨hp1593i, map_get hp1593x⟩, I, I, J⟩ ?_)
 rcases bt (decide (p1592.2.High > x1365.Pressure)) with hg1594 | hg1594
 replace h := ife_t hg1594 h
 refine AP.known 97 I hg1594 (AP.q 11 I (AP.ofAO (AO.nil ?_)))
 exact lg ⟨true, h, I, I⟩ [0, 1, 2, 3, 4, 5]
 replace h := ife_f hg1594 h
 refine AP.known 97 I hg1594 (AP.r 11 [.o 1 0, .o 3 1, .x 4 p1592.1 (Bounds.row p1592.2), .o 8 1] I ⟨I, ⟨hp1593i, map_get hp1593x⟩, I, I, J⟩ (AP.ofAO (AO.nil ?_)))
 exact lg ⟨decide (p1592.2.Low > x1365.Pressure), h, I, I⟩ [0, 1, 2, 3, 4, 5]
 rintro s ob ⟨j1561, h, rfl, rfl⟩
 unfold L.zab.J18 at h
 refine AW.ch h I ?_ ?_
 intro hc1562 h
 refine AW.z I ?_
 obtain rfl := hb1505 _ (oi h).symm
 replace h := hR1504
 replace h := se_r h
 refine AW.ghost g0 ?_
 obtain rfl := oi h
 exact AW.ret pr
 intro hc1562 h
 refine AW.skip ?_
 subst hy1557
 obtain ⟨p1563, hp1564, h⟩ := ob_some h
 obtain ⟨hp1564i, hp1564x⟩ := ix_some hp1564
 rcases bt (p1563.2) with hg1565 | hg1565
 replace h := ife_t hg1565 h
 obtain ⟨p1566, hp1567, h⟩ := ob_some h
 obtain ⟨hp1567i, hp1567x⟩ := ix_some hp1567
 rcases bt (p1566.2) with hg1568 | hg1568
 replace h := ife_t hg1568 h
 refine AW.form 3 p1563.1 I hp1564x (fun hf1569 => (AW.form 4 p1566.1 I hp1567x (fun hf1570 => (AW.form 3 p1563.1 I hp1564x (fun hf1571 => (AW.form 4 p1566.1 I hp1567x (fun hf1572 => (AW.rd (.still 0 (.still 1 (.still 2 (.still 3 (.still 4 (.still 5 (.still 6 (.still 7 (.still 8 (.still 9 (.still 23 (.still 24 (.still 25 (.still 26 (.two 10 27 (.still 11 (.still 12 (.still 13 (.still 14 (.still 15 (.still 16 (.still 17 (.still 18 (.still 19 (.still 20 (.still 21 (.still 22 (.act 27 (.still 28 (.still 29 (.still 30 (.still 31 (.still 32 (.still 33 (.still 34 (.still 35 (.still 36 (.still 37 (.still 38 (.still 39 (.still 40 (.act 41 (.still 42 (.act 43 .nil))))))))))))))))))))))))))))) (.act 10 (.still 11 (.still 12 (.still 13 (.still 14 (.still 15 (.still 16 (.still 17 (.still 18 (.still 19 (.still 20 (.still 21 (.still 22 (.still 28 (.still 29 (.still 30 (.still 31 (.still 32 (.still 33 (.still 34 (.still 35 (.still 36 (.still 37 (.still 38 (.still 39 (.still 40 (.act 41 (.still 42 (.act 43 .nil)))))))))))))))))))))))))))))))))))))))))))) [5] [_] I (AP.r 9 [.o 2 0, .o 5 0, .o 8 0] I ⟨I, I, I, J⟩ (AP.op I (Yp.indexUf (m := p1563.1) I I I I I hf1569 I hp1564i hp1564x) I (AP.r 3 [.o 2 0] I ⟨I, J⟩ (AP.op I (Yp.indexUf (m := p1566.1) I I I I I hf1570 I hp1567i hp1567x) I (AP.two ?_ ?_)))))))))))))
 refine AP.act [] I I I (AX.of_yd (Yd.loadU 3 p1563.1 0 I I I (map_get hp1564x) I (y := .v (.bool p1563.2)) I) dS (AP.q 1 I (AP.known 120 I hg1565 (AP.q 11 I (AP.act [] I I I (AX.of_yd (Yd.loadU 4 p1566.1 0 I I I (map_get hp1567x) I (y := .v (.bool p1566.2)) I) dS (AP.q 1 I (AP.known 137 I hg1568 (AP.q 11 I (AP.op I (Yp.indexUf (m := p1563.1) I I I I I hf1571 I hp1564i hp1564x) I (AP.act [3] I I I (AX.storeU 3 p1563.1 0 I I I (map_get hp1564x) I I I I (le_ble I) I (us_set (x := true) I) (AP.op I (Yp.indexUf (m := p1566.1) I I I I I hf1572 I hp1567i hp1567x) I (AP.act [4] I I I (AX.storeU 4 p1566.1 0 I I I (map_get hp1567x) I I I I (le_ble I) I (us_set (x := true) I) (AP.ofAO ?_))))))))))))))))
 refine AO.nil ?_
 exact lg ⟨((st1457.1.set p1563.1 true), (st1457.2.set p1566.1 true)), h, I, I⟩ [0, 1, 2, 3, 4]
 refine AP.act [] I I I (AX.of_yd (Yd.loadU 4 p1566.1 0 I I I (map_get hp1567x) I (y := .v (.bool p1566.2)) I) dS (AP.act [] I I I (AX.of_yd (Yd.loadU 3 p1563.1 0 I I I (map_get hp1564x) I (y := .v (.bool p1563.2)) I) dS (AP.q 1 I (AP.known 120 I hg1565 (AP.q 12 I (AP.known 137 I hg1568 (AP.q 11 I (AP.op I (Yp.indexUf (m := p1563.1) I I I I I hf1571 I hp1564i hp1564x) I (AP.act [3] I I I (AX.storeU 3 p1563.1 0 I I I (map_get hp1564x) I I I I (le_ble I) I (us_set (x := true) I) (AP.op I (Yp.indexUf (m := p1566.1) I I I I I hf1572 I hp1567i hp1567x) I (AP.act [4] I I I (AX.storeU 4 p1566.1 0 I I I (map_get hp1567x) I I I I (le_ble I) I (us_set (x := true) I) (AP.ofAO (AO.nil ?_))))))))))))))))
 exact lg ⟨((st1457.1.set p1563.1 true), (st1457.2.set p1566.1 true)), h, I, I⟩ [0, 1, 2, 3, 4]
 replace h := ife_f hg1568 h
 obtain ⟨p1573, hp1574, h⟩ := ob_some h
 obtain ⟨hp1574i, hp1574x⟩ := ix_some hp1574
 refine AW.form 3 p1563.1 I hp1564x (fun hf1575 => (AW.form 4 p1566.1 I hp1567x (fun hf1576 => (AW.form 3 p1563.1 I hp1564x (fun hf1577 => (AW.form 4 p1566.1 I hp1567x (fun hf1578 => (AW.rd (.still 0 (.still 1 (.still 2 (.still 3 (.still 4 (.still 5 (.still 6 (.still 7 (.still 8 (.still 9 (.still 23 (.still 24 (.still 25 (.still 26 (.two 10 27 (.still 11 (.still 12 (.still 13 (.still 14 (.still 15 (.still 16 (.still 17 (.still 18 (.still 19 (.still 20 (.still 21 (.still 22 (.act 27 (.still 28 (.still 29 (.still 30 (.still 31 (.still 32 (.still 33 (.still 34 (.still 35 (.still 36 (.still 37 (.still 38 (.still 39 (.still 40 (.act 41 (.still 42 (.act 43 .nil))))))))))))))))))))))))))))) (.act 10 (.still 11 (.still 12 (.still 13 (.still 14 (.still 15 (.still 16 (.still 17 (.still 18 (.still 19 (.still 20 (.still 21 (.still 22 (.still 28 (.still 29 (.still 30 (.still 31 (.still 32 (.still 33 (.still 34 (.still 35 (.still 36 (.still 37 (.still 38 (.still 39 (.still 40 (.act 41 (.still 42 (.act 43 .nil)))))))))))))))))))))))))))))))))))))))))))) [5, 2] [_, _] I (AP.r 9 [.o 2 0, .o 5 0, .o 8 0] I ⟨I, I, I, J⟩ (AP.op I (Yp.indexUf (m := p1563.1) I I I I I hf1575 I hp1564i hp1564x) I (AP.r 3 [.o 2 0] I ⟨I, J⟩ (AP.op I (Yp.indexUf (m := p1566.1) I I I I I hf1576 I hp1567i hp1567x) I (AP.two ?_ ?_)))))))))))))
 refine AP.act [] I I I (AX.of_yd (Yd.loadU 3 p1563.1 0 I I I (map_get hp1564x) I (y := .v (.bool p1563.2)) I) dS (AP.q 1 I (AP.known 120 I hg1565 (AP.q 11 I (AP.act [] I I I (AX.of_yd (Yd.loadU 4 p1566.1 0 I I I (map_get hp1567x) I (y := .v (.bool p1566.2)) I) dS (AP.q 1 I (AP.known 137 I hg1568 (AP.r 11 [.o 1 1, .o 3 0, .x 4 p1573.1 (Bounds.row p1573.2), .o 8 0] I ⟨I, ⟨hp1574i, map_get hp1574x⟩, I, I, J⟩ (AP.op I (Yp.indexUf (m := p1563.1) I I I I I hf1577 I hp1564i hp1564x) I (AP.act [3] I I I (AX.storeU 3 p1563.1 0 I I I (map_get hp1564x) I I I I (le_ble I) I (us_set (x := true) I) (AP.op I (Yp.indexUf (m := p1566.1) I I I I I hf1578 I hp1567i hp1567x) I (AP.act [4] I I I (AX.storeU 4 p1566.1 0 I I I (map_get hp1567x) I I I I (le_ble I) I (us_set (x := (p1573.2.High == x1365.Pressure)) I) (AP.ofAO ?_))))))))))))))))
 refine AO.nil ?_
 exact lg ⟨((st1457.1.set p1563.1 true), (st1457.2.set p1566.1 (p1573.2.High == x1365.Pressure))), h, I, I⟩ [0, 1, 2, 3, 4]
 refine AP.act [] I I I (AX.of_yd (Yd.loadU 4 p1566.1 0 I I I (map_get hp1567x) I (y := .v (.bool p1566.2)) I) dS (AP.act [] I I I (AX.of_yd (Yd.loadU 3 p1563.1 0 I I I (map_get hp1564x) I (y := .v (.bool p1563.2)) I) dS (AP.q 1 I (AP.known 120 I hg1565 (AP.q 12 I (AP.known 137 I hg1568 (AP.r 11 [.o 1 1, .o 3 0, .x 4 p1573.1 (Bounds.row p1573.2), .o 8 0] I ⟨I, ⟨hp1574i, map_get hp1574x⟩, I, I, J⟩ (AP.op I (Yp.indexUf (m := p1563.1) I I I I I hf1577 I hp1564i hp1564x) I (AP.act [3] I I I (AX.storeU 3 p1563.1 0 I I I (map_get hp1564x) I I I I (le_ble I) I (us_set (x := true) I) (AP.op I (Yp.indexUf (m := p1566.1) I I I I I hf1578 I hp1567i hp1567x) I (AP.act [4] I I I (AX.storeU 4 p1566.1 0 I I I (map_get hp1567x) I I I I (le_ble I) I (us_set (x := (p1573.2.High == x1365.Pressure)) I) (AP.ofAO (AO.nil ?_))))))))))))))))
 exact lg ⟨((st1457.1.set p1563.1 true), (st1457.2.set p1566.1 (p1573.2.High == x1365.Pressure))), h, I, I⟩ [0, 1, 2, 3, 4]
 replace h := ife_f hg1565 h
 obtain ⟨p1579, hp1580, h⟩ := ob_some h
 obtain ⟨hp1580i, hp1580x⟩ := ix_some hp1580
 obtain ⟨p1581, hp1582, h⟩ := ob_some h
 obtain ⟨hp1582i, hp1582x⟩ := ix_some hp1582
 rcases bt (p1581.2) with hg1583 | hg1583
 replace h := ife_t hg1583 h
 refine AW.form 3 p1563.1 I hp1564x (fun hf1584 => (AW.form 4 p1581.1 I hp1582x (fun hf1585 => (AW.form 3 p1563.1 I hp1564x (fun hf1586 => (AW.form 4 p1581.1 I hp1582x (fun hf1587 => (AW.rd (.still 0 (.still 1 (.still 2 (.still 3 (.still 4 (.still 5 (.still 6 (.still 7 (.still 8 (.still 9 (.still 23 (.still 24 (.still 25 (.still 26 (.two 10 27 (.still 11 (.still 12 (.still 13 (.still 14 (.still 15 (.still 16 (.still 17 (.still 18 (.still 19 (.still 20 (.still 21 (.still 22 (.act 27 (.still 28 (.still 29 (.still 30 (.still 31 (.still 32 (.still 33 (.still 34 (.still 35 (.still 36 (.still 37 (.still 38 (.still 39 (.still 40 (.act 41 (.still 42 (.act 43 .nil))))))))))))))))))))))))))))) (.act 10 (.still 11 (.still 12 (.still 13 (.still 14 (.still 15 (.still 16 (.still 17 (.still 18 (.still 19 (.still 20 (.still 21 (.still 22 (.still 28 (.still 29 (.still 30 (.still 31 (.still 32 (.still 33 (.still 34 (.still 35 (.still 36 (.still 37 (.still 38 (.still 39 (.still 40 (.act 41 (.still 42 (.act 43 .nil)))))))))))))))))))))))))))))))))))))))))))) [5, 2] [_, _] I (AP.r 9 [.o 2 0, .o 5 0, .o 8 0] I ⟨I, I, I, J⟩ (AP.op I (Yp.indexUf (m := p1563.1) I I I I I hf1584 I hp1564i hp1564x) I (AP.r 3 [.o 2 0] I ⟨I, J⟩ (AP.op I (Yp.indexUf (m := p1581.1) I I I I I hf1585 I hp1582i hp1582x) I (AP.two ?_ ?_)))))))))))))
 refine AP.act [] I I I (AX.of_yd (Yd.loadU 3 p1563.1 0 I I I (map_get hp1564x) I (y := .v (.bool p1563.2)) I) dS (AP.q 1 I (AP.known 120 I hg1565 (AP.r 11 [.o 1 1, .o 3 0, .x 4 p1579.1 (Bounds.row p1579.2), .o 8 0] I ⟨I, ⟨hp1580i, map_get hp1580x⟩, I, I, J⟩ (AP.act [] I I I (AX.of_yd (Yd.loadU 4 p1581.1 0 I I I (map_get hp1582x) I (y := .v (.bool p1581.2)) I) dS (AP.q 1 I (AP.known 137 I hg1583 (AP.q 11 I (AP.op I (Yp.indexUf (m := p1563.1) I I I I I hf1586 I hp1564i hp1564x) I (AP.act [3] I I I (AX.storeU 3 p1563.1 0 I I I (map_get hp1564x) I I I I (le_ble I) I (us_set (x := (p1579.2.Low == x1365.Pressure)) I) (AP.op I (Yp.indexUf (m := p1581.1) I I I I I hf1587 I hp1582i hp1582x) I (AP.act [4] I I I (AX.storeU 4 p1581.1 0 I I I (map_get hp1582x) I I I I (le_ble I) I (us_set (x := true) I) (AP.ofAO ?_))))))))))))))))
 refine AO.nil ?_
 exact lg ⟨((st1457.1.set p1563.1 (p1579.2.Low == x1365.Pressure)), (st1457.2.set p1581.1 true)), h, I, I⟩ [0, 1, 2, 3, 4]
 refine AP.act [] I I I (AX.of_yd (Yd.loadU 4 p1581.1 0 I I I (map_get hp1582x) I (y := .v (.bool p1581.2)) I) dS (AP.act [] I I I (AX.of_yd (Yd.loadU 3 p1563.1 0 I I I (map_get hp1564x) I (y := .v (.bool p1563.2)) I) dS (AP.q 1 I (AP.known 120 I hg1565 (AP.r 12 [.o 1 1, .o 3 0, .x 4 p1579.1 (Bounds.row p1579.2), .o 8 0] I ⟨I, ⟨hp1580i, map_get hp1580x⟩, I, I, J⟩ (AP.known 137 I hg1583 (AP.q 11 I (AP.op I (Yp.indexUf (m := p1563.1) I I I I I hf1586 I hp1564i hp1564x) I (AP.act [3] I I I (AX.storeU 3 p1563.1 0 I I I (map_get hp1564x) I I I I (le_ble I) I (us_set (x := (p1579.2.Low == x1365.Pressure)) I) (AP.op I (Yp.indexUf (m := p1581.1) I I I I I hf1587 I hp1582i hp1582x) I (AP.act [4] I I I (AX.storeU 4 p1581.1 0 I I I (map_get hp1582x) I I I I (le_ble I) I (us_set (x := true) I) (AP.ofAO (AO.nil ?_))))))))))))))))
 exact lg ⟨((st1457.1.set p1563.1 (p1579.2.Low == x1365.Pressure)), (st1457.2.set p1581.1 true)), h, I, I⟩ [0, 1, 2, 3, 4]
 replace h := ife_f hg1583 h
 refine AW.form 3 p1563.1 I hp1564x (fun hf1588 => (AW.form 4 p1581.1 I hp1582x (fun hf1589 => (AW.form 3 p1563.1 I hp1564x (fun hf1590 => (AW.form 4 p1581.1 I hp1582x (fun hf1591 => (AW.rd (.still 0 (.still 1 (.still 2 (.still 3 (.still 4 (.still 5 (.still 6 (.still 7 (.still 8 (.still 9 (.still 23 (.still 24 (.still 25 (.still 26 (.two 10 27 (.still 11 (.still 12 (.still 13 (.still 14 (.still 15 (.still 16 (.still 17 (.still 18 (.still 19 (.still 20 (.still 21 (.still 22 (.act 27 (.still 28 (.still 29 (.still 30 (.still 31 (.still 32 (.still 33 (.still 34 (.still 35 (.still 36 (.still 37 (.still 38 (.still 39 (.still 40 (.act 41 (.still 42 (.act 43 .nil))))))))))))))))))))))))))))) (.act 10 (.still 11 (.still 12 (.still 13 (.still 14 (.still 15 (.still 16 (.still 17 (.still 18 (.still 19 (.still 20 (.still 21 (.still 22 (.still 28 (.still 29 (.still 30 (.still 31 (.still 32 (.still 33 (.still 34 (.still 35 (.still 36 (.still 37 (.still 38 (.still 39 (.still 40 (.act 41 (.still 42 (.act 43 .nil)))))))))))))))))))))))))))))))))))))))))))) [5, 2] [_, _] I (AP.r 9 [.o 2 0, .o 5 0, .o 8 0] I ⟨I, I, I, J⟩ (AP.op I (Yp.indexUf (m := p1563.1) I I I I I hf1588 I hp1564i hp1564x) I (AP.r 3 [.o 2 0] I ⟨I, J⟩ (AP.op I (Yp.indexUf (m := p1581.1) I I I I I hf1589 I hp1582i hp1582x) I (AP.two ?_ ?_)))))))))))))
 refine AP.act [] I I I (AX.of_yd (Yd.loadU 3 p1563.1 0 I I I (map_get hp1564x) I (y := .v (.bool p1563.2)) I) dS (AP.q 1 I (AP.known 120 I hg1565 (AP.r 11 [.o 1 1, .o 3 0, .x 4 p1579.1 (Bounds.row p1579.2), .o 8 0] I ⟨I, ⟨hp1580i, map_get hp1580x⟩, I, I, J⟩ (AP.act [] I I I (AX.of_yd (Yd.loadU 4 p1581.1 0 I I I (map_get hp1582x) I (y := .v (.bool p1581.2)) I) dS (AP.q 1 I (AP.known 137 I hg1583 (AP.r 11 [.o 1 1, .o 3 0, .x 4 p1579.1 (Bounds.row p1579.2), .o 8 0] I ⟨I, ⟨hp1580i, map_get hp1580x⟩, I, I, J⟩ (AP.op I (Yp.indexUf (m := p1563.1) I I I I I hf1590 I hp1564i hp1564x) I (AP.act [3] I I I (AX.storeU 3 p1563.1 0 I I I (map_get hp1564x) I I I I (le_ble I) I (us_set (x := (p1579.2.Low == x1365.Pressure)) I) (AP.op I (Yp.indexUf (m := p1581.1) I I I I I hf1591 I hp1582i hp1582x) I (AP.act [4] I I I (AX.storeU 4 p1581.1 0 I I I (map_get hp1582x) I I I I (le_ble I) I (us_set (x := (p1579.2.High == x1365.Pressure)) I) (AP.ofAO ?_))))))))))))))))
 refine AO.nil ?_
 exact lg ⟨((st1457.1.set p1563.1 (p1579.2.Low == x1365.Pressure)), (st1457.2.set p1581.1 (p1579.2.High == x1365.Pressure))), h, I, I⟩ [0, 1, 2, 3, 4]
 refine AP.act [] I I I (AX.of_yd (Yd.loadU 4 p1581.1 0 I I I (map_get hp1582x) I (y := .v (.bool p1581.2)) I) dS (AP.act [] I I I (AX.of_yd (Yd.loadU 3 p1563.1 0 I I I (map_get hp1564x) I (y := .v (.bool p1563.2)) I) dS (AP.q 1 I (AP.known 120 I hg1565 (AP.r 12 [.o 1 1, .o 3 0, .x 4 p1579.1 (Bounds.row p1579.2), .o 8 0] I ⟨I, ⟨hp1580i, map_get hp1580x⟩, I, I, J⟩ (AP.known 137 I hg1583 (AP.r 11 [.o 1 1, .o 3 0, .x 4 p1579.1 (Bounds.row p1579.2), .o 8 0] I ⟨I, ⟨hp1580i, map_get hp1580x⟩, I, I, J⟩ (AP.op I (Yp.indexUf (m := p1563.1) I I I I I hf1590 I hp1564i hp1564x) I (AP.act [3] I I I (AX.storeU 3 p1563.1 0 I I I (map_get hp1564x) I I I I (le_ble I) I (us_set (x := (p1579.2.Low == x1365.Pressure)) I) (AP.op I (Yp.indexUf (m := p1581.1) I I I I I hf1591 I hp1582i hp1582x) I (AP.act [4] I I I (AX.storeU 4 p1581.1 0 I I I (map_get hp1582x) I I I I (le_ble I) I (us_set (x := (p1579.2.High == x1365.Pressure)) I) (AP.ofAO (AO.nil ?_))))))))))))))))
 exact lg ⟨((st1457.1.set p1563.1 (p1579.2.Low == x1365.Pressure)), (st1457.2.set p1581.1 (p1579.2.High == x1365.Pressure))), h, I, I⟩ [0, 1, 2, 3, 4]
 intro hc1556 h
 refine AW.skip ?_
 exact lg ⟨(st1457.1, st1457.2), h, I, I⟩ [0, 1, 2, 3, 4]
 rintro s ob ⟨j1550, h, rfl, rfl⟩
 unfold L.zab.J17 at h
 refine AW.region (AO.r 2 [.k 0 (k1362 + 1 : Nat)] I ⟨cast_wr hk1363 hm1364, J⟩ ?_)
 obtain rfl := oi h
 refine AO.nil ?_
 exact ⟨_, _, _, I, ⟨I, I⟩, ⟨I, I, I, I, I, I, I, I, J⟩, [0, 1, 2, 3, 4], I, by decide⟩
 rintro st1457 s ob ⟨rfl, rfl⟩ he
 subst he
 have h := se_l hR1504
 have hk1363f : decide (((r6.1.Ports.length : Nat) : Int) < (r6.1.Ports.length : Int)) = false := by simp
 refine AW.z I (AW.seqG (fun y1596 hy1596 => (AW.condK (v := false) I hk1363f (AW.exit ?_))))
 exact lg ⟨(st1457.1, st1457.2), h, I, I⟩ [0, 1, 2, 3, 4]
 rintro s ob ⟨j175, h, rfl, rfl⟩
 unfold L.zab.J2 at h
 refine AW.cutX (fun s ob => ∃ (j547 : (List Bool) × (List Bool)), L.zab.J3 r6 r11 j547 = some r ∧ s = [] ∧ ob = [.arr b8 27 6 1 [Network.row r6.1], .arr b13 36 3 1 [Pressures.row r11.1], .us v30 4 1 (j547.1.map rB), .us v31 4 1 (j547.2.map rB)]) [(3, _), (8, _), (10, _), (11, _)] ⟨I, I, I, I, J⟩ ?_ ?_
 refine AW.zr [.o 1 0, .l 2 (r6.1.Segments.length : Int)] I ⟨len_m, I, J⟩ (AW.block (AW.listMax 153 I (fun hm653 => ?_)))
 replace hm653 : r6.1.Segments.length ≤ 9223372036854775806 := by rw [List.length_map] at hm653; omega
 obtain ⟨o1019, hL1020, hR1021⟩ := ob_some h
 clear h
 refine AW.forX hL1020 [(3, _), (7, _), (8, _), (10, _), (11, _), (153, _), (154, _)] ⟨I, I, I, I, I, I, I, J⟩ (fun (k651 : Nat) (st898 : (List Bool) × (List Bool)) s ob => s = [(155, .V (k651 : Int))] ∧ ob = [.arr b8 27 6 1 [Network.row r6.1], .arr b9 32 3 1 [Plan.row r6.2.2.2.2.1], .arr b13 36 3 1 [Pressures.row r11.1], .us v30 4 1 (st898.1.map rB), .us v31 4 1 (st898.2.map rB)]) ⟨I, I⟩ ⟨I, J⟩ ⟨[0, 1, 2, 3, 4], I, by decide⟩ ?_ ?_
 rintro k651 x654 st898 r1023 s ob hx655 hk652 ⟨rfl, rfl⟩ h hb1022
 unfold L.zab.B7 at h
 have hk652t : decide ((k651 : Int) < (r6.1.Segments.length : Int)) = true := decide_eq_true (by omega)
 refine AW.z I (AW.seqG (fun y1025 hy1025 => (AW.condK (v := true) I hk652t (AW.skip ?_))))
 subst hy1025
 refine AW.cutX (fun s ob => ∃ (j1143 : (List Bool) × (List Bool)), L.zab.J8 j1143 = some r1023 ∧ s = [] ∧ ob = [.arr b8 27 6 1 [Network.row r6.1], .arr b9 32 3 1 [Plan.row r6.2.2.2.2.1], .arr b13 36 3 1 [Pressures.row r11.1], .us v30 4 1 (j1143.1.map rB), .us v31 4 1 (j1143.2.map rB)]) [(3, _), (7, _), (8, _), (10, _), (11, _), (153, _), (154, _), (155, _)] ⟨I, I, I, I, I, I, I, I, J⟩ ?_ ?_
 refine AW.block (AW.seqG (fun y1144 hy1144 => (AW.region (AO.r 3 [.x 1 k651 (Segment.row x654)] I ⟨⟨I, map_get hx655⟩, J⟩ (AO.act [] I (AX.alloc (cs := [.v (.string ⟨#[]⟩), .V 0, .V 0, .V 0, .V 0, .V 0, .v (.slice none 0 0)]) (m := 7) I I I I I dS (fun b1145 => (AO.q 1 I (AO.act [5] I (AX.store 5 0 0 (es' := [Segment.row x654]) I I I I I I I I (le_ble I) I I (AO.nil ?_)))))))))))
 subst hy1144
 refine AW.seqG (fun y1146 hy1146 => ?_)
 obtain ⟨p1147, hp1148, h⟩ := ob_some h
 obtain ⟨hp1148i, hp1148x⟩ := ix_some hp1148
 refine AW.tr [.o 1 2, .x 3 p1147.1 ((rL 3 Level.row) p1147.2), .l 5 (p1147.2.length : Int)] I ⟨len_m, ⟨hp1148i, map_get hp1148x⟩, I, J⟩ ?_
 subst hy1146
 refine AW.seqG (fun y1149 hy1149 => (AW.seq ?_))
 obtain ⟨p1150, hp1151, h⟩ := ob_some h
 obtain ⟨hp1151i, hp1151x⟩ := ix_some hp1151
 refine AW.tr [.o 1 1, .x 3 p1150.1 (rI p1150.2)] I ⟨⟨hp1151i, map_get hp1151x⟩, I, J⟩ (AW.ch h I ?_ ?_)
 intro hc1152 h
 refine AW.exit ?_
 exact lg ⟨(st898.1, st898.2), h, I, I⟩ [0, 1, 2, 3, 4]
 intro hc1152 h
 refine AW.skip ?_
 subst hy1149
 refine AW.seqG (fun y1153 hy1153 => (AW.z I (AW.ch h I ?_ ?_)))
 intro hc1154 h
 refine AW.z I ?_
 obtain rfl := hb1022 _ (oi h).symm
 replace h := hR1021
 replace h := se_r h
 refine AW.ghost g0 ?_
 obtain rfl := oi h
 exact AW.ret pr
 intro hc1154 h
 refine AW.skip ?_
 subst hy1153
 refine AW.seqG (fun y1155 hy1155 => (AW.rd (pd 12 0 [6]) [5, 1] [_, _] I (AP.r 6 [.o 0 0, .o 2 1, .x 4 p1150.1 (rI p1150.2)] I ⟨⟨hp1151i, map_get hp1151x⟩, I, I, J⟩ (AP.c I (L.zco_ok x654 p1150.2 _ I) (AP.q 5 I (AP.ofAO (AO.nil ?_)))))))
 subst hy1155
 refine AW.cutX (fun s ob => ∃ (j1162 : Int × Int × Int × Int) (b1163 : Nat) (b1164 : Nat), L.zab.J9 r6 r11 x654 st898 p1150 j1162 = some r1023 ∧ s = [(19, .v (.pointer (some ⟨b1163, 0, none⟩))), (20, .v (.pointer (some ⟨b1164, 0, none⟩)))] ∧ ob = [.arr b8 27 6 1 [Network.row r6.1], .arr b9 32 3 1 [Plan.row r6.2.2.2.2.1], .arr b13 36 3 1 [Pressures.row r11.1], .us v30 4 1 (st898.1.map rB), .us v31 4 1 (st898.2.map rB), .arr b1163 71 2 1 [[.V j1162.1, .V j1162.2.1]], .arr b1164 71 2 1 [[.V j1162.2.2.1, .V j1162.2.2.2]]]) [(3, _), (7, _), (8, _), (10, _), (11, _), (14, _), (17, _), (18, _), (153, _), (154, _), (155, _)] ⟨I, I, I, I, I, I, I, I, I, I, I, J⟩ ?_ ?_
 obtain ⟨p1352, hp1353, h⟩ := ob_some h
 obtain ⟨hp1353i, hp1353x⟩ := ix_some hp1353
 obtain ⟨p1354, hp1355, h⟩ := ob_some h
 obtain ⟨hp1355i, hp1355x⟩ := ix_some hp1355
 refine AW.rd (.still 0 (.still 1 (.still 2 (.still 3 (.still 4 (.still 5 (.still 6 (.still 7 (.still 8 (.still 9 (.still 10 (.still 11 (.still 12 (.still 13 (.still 14 (.still 15 (.still 16 (.still 17 (.two 18 19 (.act 19 (.act 20 (.act 21 .nil))) (.act 18 (.act 20 (.act 21 .nil)))))))))))))))))))))) [2] [_] I (AP.r 7 [.o 1 0, .x 3 p1147.1 ((rL 3 Level.row) p1147.2), .x 5 p1352.1 (Level.row p1352.2)] I ⟨⟨hp1353i, map_get hp1353x⟩, ⟨hp1148i, map_get hp1148x⟩, I, J⟩ (AP.o I (Yd.loadE I I (y := .agg (Bounds.row p1352.2.Bounds)) I) I (AP.r 9 [.o 1 0, .x 3 p1147.1 ((rL 3 Level.row) p1147.2), .x 7 p1354.1 (Level.row p1354.2)] I ⟨⟨hp1355i, map_get hp1355x⟩, ⟨hp1148i, map_get hp1148x⟩, I, J⟩ (AP.o I (Yd.loadE I I (y := .agg (Bounds.row p1354.2.Bounds)) I) I (AP.two ?_ ?_)))))
 refine AP.act [] I I I (AX.alloc (cs := [.V 0, .V 0]) (m := 2) I I I I I dS (fun b1356 => (AP.act [] I I I (AX.alloc (cs := [.V 0, .V 0]) (m := 2) I I I I I dS (fun b1357 => (AP.act [6] I I I (AX.store 6 0 0 (es' := [Bounds.row p1352.2.Bounds]) I I I I I I I I (le_ble I) I I (AP.act [7] I I I (AX.store 7 0 0 (es' := [Bounds.row p1354.2.Bounds]) I I I I I I I I (le_ble I) I I (AP.ofAO (AO.nil ?_)))))))))))
 exact lg ⟨(p1352.2.Bounds.Low, p1352.2.Bounds.High, p1354.2.Bounds.Low, p1354.2.Bounds.High), b1356, b1357, h, I, I⟩ [0, 1, 2, 3, 4, 6, 7]
 refine AP.act [] I I I (AX.alloc (cs := [.V 0, .V 0]) (m := 2) I I I I I dS (fun b1357 => (AP.act [] I I I (AX.alloc (cs := [.V 0, .V 0]) (m := 2) I I I I I dS (fun b1356 => (AP.act [7] I I I (AX.store 7 0 0 (es' := [Bounds.row p1352.2.Bounds]) I I I I I I I I (le_ble I) I I (AP.act [6] I I I (AX.store 6 0 0 (es' := [Bounds.row p1354.2.Bounds]) I I I I I I I I (le_ble I) I I (AP.ofAO (AO.nil ?_)))))))))))
 exact lg ⟨(p1352.2.Bounds.Low, p1352.2.Bounds.High, p1354.2.Bounds.Low, p1354.2.Bounds.High), b1356, b1357, h, I, I⟩ [0, 1, 2, 3, 4, 7, 6]
 rintro s ob ⟨j1162, b1163, b1164, h, rfl, rfl⟩
 unfold L.zab.J9 at h
 refine AW.cutX (fun s ob => ∃ (j1166 : Int × Int × Int × Int), L.zab.J10 r6 r11 x654 st898 p1150 j1166 = some r1023 ∧ s = [] ∧ ob = [.arr b8 27 6 1 [Network.row r6.1], .arr b9 32 3 1 [Plan.row r6.2.2.2.2.1], .arr b13 36 3 1 [Pressures.row r11.1], .us v30 4 1 (st898.1.map rB), .us v31 4 1 (st898.2.map rB), .arr b1163 71 2 1 [[.V j1166.1, .V j1166.2.1]], .arr b1164 71 2 1 [[.V j1166.2.2.1, .V j1166.2.2.2]]]) [(3, _), (7, _), (8, _), (10, _), (11, _), (17, _), (18, _), (19, _), (20, _), (153, _), (154, _), (155, _)] ⟨I, I, I, I, I, I, I, I, I, I, I, I, J⟩ ?_ ?_
 refine AW.zr [.o 1 1, .x 3 p1150.1 (rI p1150.2)] I ⟨⟨hp1151i, map_get hp1151x⟩, I, J⟩ (AW.ch h I ?_ ?_)
 intro hc1351 h
 refine AW.region (AO.r 2 [.o 0 6, .o 1 5] I ⟨I, I, J⟩ (AO.act [5] I (AX.store 5 0 0 (es' := [[.V j1162.2.2.1, .V j1162.2.2.2]]) I I I I I I I I (le_ble I) I I (AO.act [6] I (AX.store 6 0 0 (es' := [[.V j1162.1, .V j1162.2.1]]) I I I I I I I I (le_ble I) I I (AO.nil ?_))))))
 exact lg ⟨(j1162.2.2.1, j1162.2.2.2, j1162.1, j1162.2.1), h, I, I⟩ [0, 1, 2, 3, 4, 5, 6]
 intro hc1351 h
 refine AW.skip ?_
 exact lg ⟨(j1162.1, j1162.2.1, j1162.2.2.1, j1162.2.2.2), h, I, I⟩ [0, 1, 2, 3, 4, 5, 6]
 rintro s ob ⟨j1166, h, rfl, rfl⟩
 unfold L.zab.J10 at h
 refine AW.seqG (fun y1167 hy1167 => ?_)
 obtain ⟨p1168, hp1169, h⟩ := ob_some h
 obtain ⟨hp1169i, hp1169x⟩ := ix_some hp1169
 refine AW.region (AO.r 5 [.o 1 2, .x 3 p1168.1 (Bounds.row p1168.2)] I ⟨⟨hp1169i, map_get hp1169x⟩, I, J⟩ (AO.act [] I (AX.alloc (cs := [.V 0, .V 0]) (m := 2) I I I I I dS (fun b1170 => (AO.act [7] I (AX.store 7 0 0 (es' := [Bounds.row p1168.2]) I I I I I I I I (le_ble I) I I (AO.nil ?_)))))))
 subst hy1167
 refine AW.cutX (fun s ob => ∃ (j1224 : Int × Int), L.zab.J11 r11 x654 st898 p1150 j1166 j1224 = some r1023 ∧ s = [] ∧ ob = [.arr b8 27 6 1 [Network.row r6.1], .arr b9 32 3 1 [Plan.row r6.2.2.2.2.1], .arr b13 36 3 1 [Pressures.row r11.1], .us v30 4 1 (st898.1.map rB), .us v31 4 1 (st898.2.map rB), .arr b1163 71 2 1 [[.V j1166.1, .V j1166.2.1]], .arr b1164 71 2 1 [[.V j1166.2.2.1, .V j1166.2.2.2]], .arr b1170 71 2 1 [[.V j1224.1, .V j1224.2]]]) [(3, _), (7, _), (8, _), (10, _), (11, _), (18, _), (19, _), (20, _), (21, _), (153, _), (154, _), (155, _)] ⟨I, I, I, I, I, I, I, I, I, I, I, I, J⟩ ?_ ?_
 refine AW.zr [.o 1 0, .l 2 (r6.1.Stations.length : Int)] I ⟨len_m, I, J⟩ (AW.block (AW.listMax 216 I (fun hm1268 => ?_)))
 replace hm1268 : r6.1.Stations.length ≤ 9223372036854775806 := by rw [List.length_map] at hm1268; omega
 obtain ⟨o1316, hL1317, hR1318⟩ := ob_some h
 clear h
 refine AW.forY hL1317 [(3, _), (7, _), (8, _), (10, _), (11, _), (17, _), (18, _), (19, _), (20, _), (21, _), (153, _), (154, _), (155, _), (216, _), (217, _)] ⟨I, I, I, I, I, I, I, I, I, I, I, I, I, I, I, J⟩ (fun (k1266 : Nat) (st1301 : Int × Int) s ob => s = [(218, .V (k1266 : Int))] ∧ ob = [.arr b8 27 6 1 [Network.row r6.1], .arr b9 32 3 1 [Plan.row r6.2.2.2.2.1], .arr b13 36 3 1 [Pressures.row r11.1], .us v30 4 1 (st898.1.map rB), .us v31 4 1 (st898.2.map rB), .arr b1163 71 2 1 [[.V j1166.1, .V j1166.2.1]], .arr b1164 71 2 1 [[.V j1166.2.2.1, .V j1166.2.2.2]], .arr b1170 71 2 1 [[.V st1301.1, .V st1301.2]]]) ⟨I, I⟩ ⟨I, J⟩ ⟨[0, 1, 2, 3, 4, 5, 6, 7], I, by decide⟩ ?_ ?_
 rintro k1266 x1269 st1301 r1320 s ob hx1270 hk1267 ⟨rfl, rfl⟩ h
 unfold L.zab.B13 at h
 have hk1267t : decide ((k1266 : Int) < (r6.1.Stations.length : Int)) = true := decide_eq_true (by omega)
 refine AW.z I (AW.seqG (fun y1322 hy1322 => (AW.condK (v := true) I hk1267t (AW.skip ?_))))
 subst hy1322
 refine AW.cutX (fun s ob => ∃ (j1334 : Int × Int), L.zab.J14 j1334 = some r1320 ∧ s = [] ∧ ob = [.arr b8 27 6 1 [Network.row r6.1], .arr b9 32 3 1 [Plan.row r6.2.2.2.2.1], .arr b13 36 3 1 [Pressures.row r11.1], .us v30 4 1 (st898.1.map rB), .us v31 4 1 (st898.2.map rB), .arr b1163 71 2 1 [[.V j1166.1, .V j1166.2.1]], .arr b1164 71 2 1 [[.V j1166.2.2.1, .V j1166.2.2.2]], .arr b1170 71 2 1 [[.V j1334.1, .V j1334.2]]]) [(3, _), (7, _), (8, _), (10, _), (11, _), (17, _), (18, _), (19, _), (20, _), (21, _), (153, _), (154, _), (155, _), (216, _), (217, _), (218, _)] ⟨I, I, I, I, I, I, I, I, I, I, I, I, I, I, I, I, J⟩ ?_ ?_
 refine AW.block (AW.seqG (fun y1335 hy1335 => (AW.region (AO.r 3 [.x 1 k1266 (Station.row x1269)] I ⟨⟨I, map_get hx1270⟩, J⟩ (AO.act [] I (AX.alloc (cs := [.v (.string ⟨#[]⟩), .V 0, .V 0, .V 0, .V 0]) (m := 5) I I I I I dS (fun b1336 => (AO.q 1 I (AO.act [8] I (AX.store 8 0 0 (es' := [Station.row x1269]) I I I I I I I I (le_ble I) I I (AO.nil ?_)))))))))))
 subst hy1335
 refine AW.cutX (fun s ob => ∃ (j1340 : Bool), L.zab.J15 r6 x654 p1150 x1269 st1301 j1340 = some r1320 ∧ s = [(233, .v (.bool j1340))] ∧ ob = [.arr b8 27 6 1 [Network.row r6.1], .arr b9 32 3 1 [Plan.row r6.2.2.2.2.1], .arr b13 36 3 1 [Pressures.row r11.1], .us v30 4 1 (st898.1.map rB), .us v31 4 1 (st898.2.map rB), .arr b1163 71 2 1 [[.V j1166.1, .V j1166.2.1]], .arr b1164 71 2 1 [[.V j1166.2.2.1, .V j1166.2.2.2]], .arr b1170 71 2 1 [[.V st1301.1, .V st1301.2]], .arr b1336 83 5 1 [Station.row x1269]]) [(3, _), (7, _), (8, _), (10, _), (11, _), (17, _), (18, _), (19, _), (20, _), (21, _), (23, _), (153, _), (154, _), (155, _), (216, _), (217, _), (218, _)] ⟨I, I, I, I, I, I, I, I, I, I, I, I, I, I, I, I, I, J⟩ ?_ ?_
 refine AW.region (AO.r 5 [.o 1 8] I ⟨I, J⟩ ?_)
 rcases bt ((x1269.Node == ((L.zco x654 p1150.2).1))) with hg1346 | hg1346
 replace h := ife_t hg1346 h
 obtain ⟨p1347, hp1348, h⟩ := ob_some h
 obtain ⟨hp1348i, hp1348x⟩ := ix_some hp1348
 refine AO.known 227 I hg1346 (AO.r 6 [.o 1 1, .x 3 p1347.1 (rB p1347.2)] I ⟨⟨hp1348i, map_get hp1348x⟩, I, J⟩ (AO.nil ?_))
 exact lg ⟨p1347.2, h, I, I⟩ [0, 1, 2, 3, 4, 5, 6, 7, 8]
 replace h := ife_f hg1346 h
 refine AO.known 227 I hg1346 (AO.q 6 I (AO.nil ?_))
 exact lg ⟨false, h, I, I⟩ [0, 1, 2, 3, 4, 5, 6, 7, 8]
 rintro s ob ⟨j1340, h, rfl, rfl⟩
 unfold L.zab.J15 at h
 refine AW.ch h I ?_ ?_
 intro hc1341 h
 refine AW.seq ?_
 obtain ⟨r1342, hx1343, h⟩ := ob_some h
 obtain ⟨r1344, hx1345, h⟩ := ob_some h
 refine AW.rd (pd 11 0 [4, 5]) [8, 0, 1] [_, _, _] I (AP.r 4 [.o 0 0, .o 1 1, .o 2 2] I ⟨I, I, I, J⟩ (AP.c I (L.zcn_ok _ _ _ _ hx1343) (AP.c I (L.zfo_ok _ _ _ hx1345) (AP.q 5 I (AP.ofAO (AO.nil (AW.region (AO.r 8 [.o 1 7, .o 5 7] I ⟨I, I, J⟩ (AO.p (Yp.buildP (l := [.V (wr (st1301.1 + r1344.1)), .V (wr (st1301.2 + r1344.1))]) Tryz.bld71 I) I (AO.act [7] I (AX.store 7 0 0 (es' := [[.V (wr (st1301.1 + r1344.1)), .V (wr (st1301.2 + r1344.1))]]) I I I I I I I I (le_ble I) I I (AO.nil ?_))))))))))))
 exact lg ⟨(wr (st1301.1 + r1344.1), wr (st1301.2 + r1344.1)), h, I, I⟩ [0, 1, 2, 3, 4, 5, 6, 7]
 intro hc1341 h
 refine AW.skip ?_
 exact lg ⟨(st1301.1, st1301.2), h, I, I⟩ [0, 1, 2, 3, 4, 5, 6, 7]
 rintro s ob ⟨j1334, h, rfl, rfl⟩
 unfold L.zab.J14 at h
 refine AW.region (AO.r 2 [.k 0 (k1266 + 1 : Nat)] I ⟨cast_wr hk1267 hm1268, J⟩ ?_)
 obtain rfl := oi h
 refine AO.nil ?_
 exact lg ⟨I, I⟩ [0, 1, 2, 3, 4, 5, 6, 7]
 rintro st1301 s ob ⟨rfl, rfl⟩ he
 subst he
 have h := hR1318
 have hk1267f : decide (((r6.1.Stations.length : Nat) : Int) < (r6.1.Stations.length : Int)) = false := by simp
 refine AW.z I (AW.seqG (fun y1350 hy1350 => (AW.condK (v := false) I hk1267f (AW.exit ?_))))
 exact lg ⟨(st1301.1, st1301.2), h, I, I⟩ [0, 1, 2, 3, 4, 5, 6, 7]
 rintro s ob ⟨j1224, h, rfl, rfl⟩
 unfold L.zab.J11 at h
 refine AW.seqG (fun y1225 hy1225 => (AW.cutX (fun s ob => ∃ (j1230 : Bool), L.zab.J12 r11 x654 st898 p1150 j1166 j1230 = some r1023 ∧ s = [(277, .v (.bool j1230))] ∧ ob = [.arr b8 27 6 1 [Network.row r6.1], .arr b9 32 3 1 [Plan.row r6.2.2.2.2.1], .arr b13 36 3 1 [Pressures.row r11.1], .us v30 4 1 (st898.1.map rB), .us v31 4 1 (st898.2.map rB), .arr b1164 71 2 1 [[.V j1166.2.2.1, .V j1166.2.2.2]]]) [(3, _), (7, _), (8, _), (10, _), (11, _), (18, _), (20, _), (153, _), (154, _), (155, _)] ⟨I, I, I, I, I, I, I, I, I, I, J⟩ ?_ ?_))
 rcases bt ((!((j1166.1 == j1224.1) && ((j1166.2.1 == j1224.2) && true)))) with hg1261 | hg1261
 replace h := ife_t hg1261 h
 refine AW.rd (pd 25 0 []) [5, 7] [_, _] I (AP.r 2 [.o 0 0, .o 1 1] I ⟨I, I, J⟩ (AP.op I (Yp.eqStruct (r := ((j1166.1 == j1224.1) && ((j1166.2.1 == j1224.2) && true))) I I Tryz.eq71 I I I I) I (AP.q 1 I (AP.known 256 I hg1261 (AP.q 21 I (AP.ofAO (AO.nil ?_)))))))
 exact lg ⟨true, h, I, I⟩ [0, 1, 2, 3, 4, 6]
 replace h := ife_f hg1261 h
 obtain ⟨p1262, hp1263, h⟩ := ob_some h
 obtain ⟨hp1263i, hp1263x⟩ := ix_some hp1263
 refine AW.rd (pd 25 0 []) [5, 7, 2, 6] [_, _, _, _] I (AP.r 2 [.o 0 0, .o 1 1] I ⟨I, I, J⟩ (AP.op I (Yp.eqStruct (r := ((j1166.1 == j1224.1) && ((j1166.2.1 == j1224.2) && true))) I I Tryz.eq71 I I I I) I (AP.q 1 I (AP.known 256 I hg1261 (AP.r 11 [.o 1 2, .x 3 p1262.1 (Bounds.row p1262.2), .o 7 3] I ⟨I, ⟨hp1263i, map_get hp1263x⟩, I, J⟩ ?_)))))
 rcases bt (decide (p1262.2.Low > j1166.2.2.1)) with hg1264 | hg1264
 replace h := ife_t hg1264 h
 refine AP.known 267 I hg1264 (AP.q 10 I (AP.ofAO (AO.nil ?_)))
 exact lg ⟨true, h, I, I⟩ [0, 1, 2, 3, 4, 6]
 replace h := ife_f hg1264 h
 refine AP.known 267 I hg1264 (AP.r 10 [.o 1 2, .x 3 p1262.1 (Bounds.row p1262.2), .o 7 3] I ⟨I, ⟨hp1263i, map_get hp1263x⟩, I, J⟩ (AP.ofAO (AO.nil ?_)))
 exact lg ⟨decide (p1262.2.High > j1166.2.2.2), h, I, I⟩ [0, 1, 2, 3, 4, 6]
 rintro s ob ⟨j1230, h, rfl, rfl⟩
 unfold L.zab.J12 at h
 refine AW.ch h I ?_ ?_
 intro hc1231 h
 refine AW.z I ?_
 obtain rfl := hb1022 _ (oi h).symm
 replace h := hR1021
 replace h := se_r h
 refine AW.ghost g0 ?_
 obtain rfl := oi h
 exact AW.ret pr
 intro hc1231 h
 refine AW.skip ?_
 subst hy1225
 obtain ⟨p1232, hp1233, h⟩ := ob_some h
 obtain ⟨hp1233i, hp1233x⟩ := ix_some hp1233
 rcases bt (p1232.2) with hg1234 | hg1234
 replace h := ife_t hg1234 h
 obtain ⟨p1235, hp1236, h⟩ := ob_some h
 obtain ⟨hp1236i, hp1236x⟩ := ix_some hp1236
 rcases bt (p1235.2) with hg1237 | hg1237
 replace h := ife_t hg1237 h
 refine AW.form 3 p1232.1 I hp1233x (fun hf1238 => (AW.form 4 p1235.1 I hp1236x (fun hf1239 => (AW.form 3 p1232.1 I hp1233x (fun hf1240 => (AW.form 4 p1235.1 I hp1236x (fun hf1241 => (AW.rd (.still 0 (.still 1 (.still 2 (.still 3 (.still 4 (.still 5 (.still 6 (.still 19 (.still 20 (.still 21 (.two 7 22 (.still 8 (.still 9 (.still 10 (.still 11 (.still 12 (.still 13 (.still 14 (.still 15 (.still 16 (.still 17 (.still 18 (.act 22 (.still 23 (.still 24 (.still 25 (.still 26 (.still 27 (.still 28 (.still 29 (.still 30 (.still 31 (.still 32 (.still 33 (.still 34 (.act 35 (.still 36 (.act 37 .nil))))))))))))))))))))))))))) (.act 7 (.still 8 (.still 9 (.still 10 (.still 11 (.still 12 (.still 13 (.still 14 (.still 15 (.still 16 (.still 17 (.still 18 (.still 23 (.still 24 (.still 25 (.still 26 (.still 27 (.still 28 (.still 29 (.still 30 (.still 31 (.still 32 (.still 33 (.still 34 (.act 35 (.still 36 (.act 37 .nil)))))))))))))))))))))))))))))))))))))) [] [] I (AP.q 6 I (AP.op I (Yp.indexUf (m := p1232.1) I I I I I hf1238 I hp1233i hp1233x) I (AP.q 2 I (AP.op I (Yp.indexUf (m := p1235.1) I I I I I hf1239 I hp1236i hp1236x) I (AP.two ?_ ?_)))))))))))))
 refine AP.act [] I I I (AX.of_yd (Yd.loadU 3 p1232.1 0 I I I (map_get hp1233x) I (y := .v (.bool p1232.2)) I) dS (AP.q 1 I (AP.known 286 I hg1234 (AP.q 10 I (AP.act [] I I I (AX.of_yd (Yd.loadU 4 p1235.1 0 I I I (map_get hp1236x) I (y := .v (.bool p1235.2)) I) dS (AP.q 1 I (AP.known 301 I hg1237 (AP.q 10 I (AP.op I (Yp.indexUf (m := p1232.1) I I I I I hf1240 I hp1233i hp1233x) I (AP.act [3] I I I (AX.storeU 3 p1232.1 0 I I I (map_get hp1233x) I I I I (le_ble I) I (us_set (x := true) I) (AP.op I (Yp.indexUf (m := p1235.1) I I I I I hf1241 I hp1236i hp1236x) I (AP.act [4] I I I (AX.storeU 4 p1235.1 0 I I I (map_get hp1236x) I I I I (le_ble I) I (us_set (x := true) I) (AP.ofAO ?_))))))))))))))))
 refine AO.nil ?_
 exact lg ⟨((st898.1.set p1232.1 true), (st898.2.set p1235.1 true)), h, I, I⟩ [0, 1, 2, 3, 4]
 refine AP.act [] I I I (AX.of_yd (Yd.loadU 4 p1235.1 0 I I I (map_get hp1236x) I (y := .v (.bool p1235.2)) I) dS (AP.act [] I I I (AX.of_yd (Yd.loadU 3 p1232.1 0 I I I (map_get hp1233x) I (y := .v (.bool p1232.2)) I) dS (AP.q 1 I (AP.known 286 I hg1234 (AP.q 11 I (AP.known 301 I hg1237 (AP.q 10 I (AP.op I (Yp.indexUf (m := p1232.1) I I I I I hf1240 I hp1233i hp1233x) I (AP.act [3] I I I (AX.storeU 3 p1232.1 0 I I I (map_get hp1233x) I I I I (le_ble I) I (us_set (x := true) I) (AP.op I (Yp.indexUf (m := p1235.1) I I I I I hf1241 I hp1236i hp1236x) I (AP.act [4] I I I (AX.storeU 4 p1235.1 0 I I I (map_get hp1236x) I I I I (le_ble I) I (us_set (x := true) I) (AP.ofAO (AO.nil ?_))))))))))))))))
 exact lg ⟨((st898.1.set p1232.1 true), (st898.2.set p1235.1 true)), h, I, I⟩ [0, 1, 2, 3, 4]
 replace h := ife_f hg1237 h
 obtain ⟨p1242, hp1243, h⟩ := ob_some h
 obtain ⟨hp1243i, hp1243x⟩ := ix_some hp1243
 refine AW.form 3 p1232.1 I hp1233x (fun hf1244 => (AW.form 4 p1235.1 I hp1236x (fun hf1245 => (AW.form 3 p1232.1 I hp1233x (fun hf1246 => (AW.form 4 p1235.1 I hp1236x (fun hf1247 => (AW.rd (.still 0 (.still 1 (.still 2 (.still 3 (.still 4 (.still 5 (.still 6 (.still 19 (.still 20 (.still 21 (.two 7 22 (.still 8 (.still 9 (.still 10 (.still 11 (.still 12 (.still 13 (.still 14 (.still 15 (.still 16 (.still 17 (.still 18 (.act 22 (.still 23 (.still 24 (.still 25 (.still 26 (.still 27 (.still 28 (.still 29 (.still 30 (.still 31 (.still 32 (.still 33 (.still 34 (.act 35 (.still 36 (.act 37 .nil))))))))))))))))))))))))))) (.act 7 (.still 8 (.still 9 (.still 10 (.still 11 (.still 12 (.still 13 (.still 14 (.still 15 (.still 16 (.still 17 (.still 18 (.still 23 (.still 24 (.still 25 (.still 26 (.still 27 (.still 28 (.still 29 (.still 30 (.still 31 (.still 32 (.still 33 (.still 34 (.act 35 (.still 36 (.act 37 .nil)))))))))))))))))))))))))))))))))))))) [2, 5] [_, _] I (AP.q 6 I (AP.op I (Yp.indexUf (m := p1232.1) I I I I I hf1244 I hp1233i hp1233x) I (AP.q 2 I (AP.op I (Yp.indexUf (m := p1235.1) I I I I I hf1245 I hp1236i hp1236x) I (AP.two ?_ ?_)))))))))))))
 refine AP.act [] I I I (AX.of_yd (Yd.loadU 3 p1232.1 0 I I I (map_get hp1233x) I (y := .v (.bool p1232.2)) I) dS (AP.q 1 I (AP.known 286 I hg1234 (AP.q 10 I (AP.act [] I I I (AX.of_yd (Yd.loadU 4 p1235.1 0 I I I (map_get hp1236x) I (y := .v (.bool p1235.2)) I) dS (AP.q 1 I (AP.known 301 I hg1237 (AP.r 10 [.o 1 0, .x 3 p1242.1 (Bounds.row p1242.2), .o 7 1] I ⟨I, ⟨hp1243i, map_get hp1243x⟩, I, J⟩ (AP.op I (Yp.indexUf (m := p1232.1) I I I I I hf1246 I hp1233i hp1233x) I (AP.act [3] I I I (AX.storeU 3 p1232.1 0 I I I (map_get hp1233x) I I I I (le_ble I) I (us_set (x := true) I) (AP.op I (Yp.indexUf (m := p1235.1) I I I I I hf1247 I hp1236i hp1236x) I (AP.act [4] I I I (AX.storeU 4 p1235.1 0 I I I (map_get hp1236x) I I I I (le_ble I) I (us_set (x := (p1242.2.High == j1166.2.2.2)) I) (AP.ofAO ?_))))))))))))))))
 refine AO.nil ?_
 exact lg ⟨((st898.1.set p1232.1 true), (st898.2.set p1235.1 (p1242.2.High == j1166.2.2.2))), h, I, I⟩ [0, 1, 2, 3, 4]
 refine AP.act [] I I I (AX.of_yd (Yd.loadU 4 p1235.1 0 I I I (map_get hp1236x) I (y := .v (.bool p1235.2)) I) dS (AP.act [] I I I (AX.of_yd (Yd.loadU 3 p1232.1 0 I I I (map_get hp1233x) I (y := .v (.bool p1232.2)) I) dS (AP.q 1 I (AP.known 286 I hg1234 (AP.q 11 I (AP.known 301 I hg1237 (AP.r 10 [.o 1 0, .x 3 p1242.1 (Bounds.row p1242.2), .o 7 1] I ⟨I, ⟨hp1243i, map_get hp1243x⟩, I, J⟩ (AP.op I (Yp.indexUf (m := p1232.1) I I I I I hf1246 I hp1233i hp1233x) I (AP.act [3] I I I (AX.storeU 3 p1232.1 0 I I I (map_get hp1233x) I I I I (le_ble I) I (us_set (x := true) I) (AP.op I (Yp.indexUf (m := p1235.1) I I I I I hf1247 I hp1236i hp1236x) I (AP.act [4] I I I (AX.storeU 4 p1235.1 0 I I I (map_get hp1236x) I I I I (le_ble I) I (us_set (x := (p1242.2.High == j1166.2.2.2)) I) (AP.ofAO (AO.nil ?_))))))))))))))))
 exact lg ⟨((st898.1.set p1232.1 true), (st898.2.set p1235.1 (p1242.2.High == j1166.2.2.2))), h, I, I⟩ [0, 1, 2, 3, 4]
 replace h := ife_f hg1234 h
 obtain ⟨p1248, hp1249, h⟩ := ob_some h
 obtain ⟨hp1249i, hp1249x⟩ := ix_some hp1249
 obtain ⟨p1250, hp1251, h⟩ := ob_some h
 obtain ⟨hp1251i, hp1251x⟩ := ix_some hp1251
 rcases bt (p1250.2) with hg1252 | hg1252
 replace h := ife_t hg1252 h
 refine AW.form 3 p1232.1 I hp1233x (fun hf1253 => (AW.form 4 p1250.1 I hp1251x (fun hf1254 => (AW.form 3 p1232.1 I hp1233x (fun hf1255 => (AW.form 4 p1250.1 I hp1251x (fun hf1256 => (AW.rd (.still 0 (.still 1 (.still 2 (.still 3 (.still 4 (.still 5 (.still 6 (.still 19 (.still 20 (.still 21 (.two 7 22 (.still 8 (.still 9 (.still 10 (.still 11 (.still 12 (.still 13 (.still 14 (.still 15 (.still 16 (.still 17 (.still 18 (.act 22 (.still 23 (.still 24 (.still 25 (.still 26 (.still 27 (.still 28 (.still 29 (.still 30 (.still 31 (.still 32 (.still 33 (.still 34 (.act 35 (.still 36 (.act 37 .nil))))))))))))))))))))))))))) (.act 7 (.still 8 (.still 9 (.still 10 (.still 11 (.still 12 (.still 13 (.still 14 (.still 15 (.still 16 (.still 17 (.still 18 (.still 23 (.still 24 (.still 25 (.still 26 (.still 27 (.still 28 (.still 29 (.still 30 (.still 31 (.still 32 (.still 33 (.still 34 (.act 35 (.still 36 (.act 37 .nil)))))))))))))))))))))))))))))))))))))) [2, 5] [_, _] I (AP.q 6 I (AP.op I (Yp.indexUf (m := p1232.1) I I I I I hf1253 I hp1233i hp1233x) I (AP.q 2 I (AP.op I (Yp.indexUf (m := p1250.1) I I I I I hf1254 I hp1251i hp1251x) I (AP.two ?_ ?_)))))))))))))
 refine AP.act [] I I I (AX.of_yd (Yd.loadU 3 p1232.1 0 I I I (map_get hp1233x) I (y := .v (.bool p1232.2)) I) dS (AP.q 1 I (AP.known 286 I hg1234 (AP.r 10 [.o 1 0, .x 3 p1248.1 (Bounds.row p1248.2), .o 7 1] I ⟨I, ⟨hp1249i, map_get hp1249x⟩, I, J⟩ (AP.act [] I I I (AX.of_yd (Yd.loadU 4 p1250.1 0 I I I (map_get hp1251x) I (y := .v (.bool p1250.2)) I) dS (AP.q 1 I (AP.known 301 I hg1252 (AP.q 10 I (AP.op I (Yp.indexUf (m := p1232.1) I I I I I hf1255 I hp1233i hp1233x) I (AP.act [3] I I I (AX.storeU 3 p1232.1 0 I I I (map_get hp1233x) I I I I (le_ble I) I (us_set (x := (p1248.2.Low == j1166.2.2.1)) I) (AP.op I (Yp.indexUf (m := p1250.1) I I I I I hf1256 I hp1251i hp1251x) I (AP.act [4] I I I (AX.storeU 4 p1250.1 0 I I I (map_get hp1251x) I I I I (le_ble I) I (us_set (x := true) I) (AP.ofAO ?_))))))))))))))))
 refine AO.nil ?_
 exact lg ⟨((st898.1.set p1232.1 (p1248.2.Low == j1166.2.2.1)), (st898.2.set p1250.1 true)), h, I, I⟩ [0, 1, 2, 3, 4]
 refine AP.act [] I I I (AX.of_yd (Yd.loadU 4 p1250.1 0 I I I (map_get hp1251x) I (y := .v (.bool p1250.2)) I) dS (AP.act [] I I I (AX.of_yd (Yd.loadU 3 p1232.1 0 I I I (map_get hp1233x) I (y := .v (.bool p1232.2)) I) dS (AP.q 1 I (AP.known 286 I hg1234 (AP.r 11 [.o 1 0, .x 3 p1248.1 (Bounds.row p1248.2), .o 7 1] I ⟨I, ⟨hp1249i, map_get hp1249x⟩, I, J⟩ (AP.known 301 I hg1252 (AP.q 10 I (AP.op I (Yp.indexUf (m := p1232.1) I I I I I hf1255 I hp1233i hp1233x) I (AP.act [3] I I I (AX.storeU 3 p1232.1 0 I I I (map_get hp1233x) I I I I (le_ble I) I (us_set (x := (p1248.2.Low == j1166.2.2.1)) I) (AP.op I (Yp.indexUf (m := p1250.1) I I I I I hf1256 I hp1251i hp1251x) I (AP.act [4] I I I (AX.storeU 4 p1250.1 0 I I I (map_get hp1251x) I I I I (le_ble I) I (us_set (x := true) I) (AP.ofAO (AO.nil ?_))))))))))))))))
 exact lg ⟨((st898.1.set p1232.1 (p1248.2.Low == j1166.2.2.1)), (st898.2.set p1250.1 true)), h, I, I⟩ [0, 1, 2, 3, 4]
 replace h := ife_f hg1252 h
 refine AW.form 3 p1232.1 I hp1233x (fun hf1257 => (AW.form 4 p1250.1 I hp1251x (fun hf1258 => (AW.form 3 p1232.1 I hp1233x (fun hf1259 => (AW.form 4 p1250.1 I hp1251x (fun hf1260 => (AW.rd (.still 0 (.still 1 (.still 2 (.still 3 (.still 4 (.still 5 (.still 6 (.still 19 (.still 20 (.still 21 (.two 7 22 (.still 8 (.still 9 (.still 10 (.still 11 (.still 12 (.still 13 (.still 14 (.still 15 (.still 16 (.still 17 (.still 18 (.act 22 (.still 23 (.still 24 (.still 25 (.still 26 (.still 27 (.still 28 (.still 29 (.still 30 (.still 31 (.still 32 (.still 33 (.still 34 (.act 35 (.still 36 (.act 37 .nil))))))))))))))))))))))))))) (.act 7 (.still 8 (.still 9 (.still 10 (.still 11 (.still 12 (.still 13 (.still 14 (.still 15 (.still 16 (.still 17 (.still 18 (.still 23 (.still 24 (.still 25 (.still 26 (.still 27 (.still 28 (.still 29 (.still 30 (.still 31 (.still 32 (.still 33 (.still 34 (.act 35 (.still 36 (.act 37 .nil)))))))))))))))))))))))))))))))))))))) [2, 5] [_, _] I (AP.q 6 I (AP.op I (Yp.indexUf (m := p1232.1) I I I I I hf1257 I hp1233i hp1233x) I (AP.q 2 I (AP.op I (Yp.indexUf (m := p1250.1) I I I I I hf1258 I hp1251i hp1251x) I (AP.two ?_ ?_)))))))))))))
 refine AP.act [] I I I (AX.of_yd (Yd.loadU 3 p1232.1 0 I I I (map_get hp1233x) I (y := .v (.bool p1232.2)) I) dS (AP.q 1 I (AP.known 286 I hg1234 (AP.r 10 [.o 1 0, .x 3 p1248.1 (Bounds.row p1248.2), .o 7 1] I ⟨I, ⟨hp1249i, map_get hp1249x⟩, I, J⟩ (AP.act [] I I I (AX.of_yd (Yd.loadU 4 p1250.1 0 I I I (map_get hp1251x) I (y := .v (.bool p1250.2)) I) dS (AP.q 1 I (AP.known 301 I hg1252 (AP.r 10 [.o 1 0, .x 3 p1248.1 (Bounds.row p1248.2), .o 7 1] I ⟨I, ⟨hp1249i, map_get hp1249x⟩, I, J⟩ (AP.op I (Yp.indexUf (m := p1232.1) I I I I I hf1259 I hp1233i hp1233x) I (AP.act [3] I I I (AX.storeU 3 p1232.1 0 I I I (map_get hp1233x) I I I I (le_ble I) I (us_set (x := (p1248.2.Low == j1166.2.2.1)) I) (AP.op I (Yp.indexUf (m := p1250.1) I I I I I hf1260 I hp1251i hp1251x) I (AP.act [4] I I I (AX.storeU 4 p1250.1 0 I I I (map_get hp1251x) I I I I (le_ble I) I (us_set (x := (p1248.2.High == j1166.2.2.2)) I) (AP.ofAO ?_))))))))))))))))
 refine AO.nil ?_
 exact lg ⟨((st898.1.set p1232.1 (p1248.2.Low == j1166.2.2.1)), (st898.2.set p1250.1 (p1248.2.High == j1166.2.2.2))), h, I, I⟩ [0, 1, 2, 3, 4]
 refine AP.act [] I I I (AX.of_yd (Yd.loadU 4 p1250.1 0 I I I (map_get hp1251x) I (y := .v (.bool p1250.2)) I) dS (AP.act [] I I I (AX.of_yd (Yd.loadU 3 p1232.1 0 I I I (map_get hp1233x) I (y := .v (.bool p1232.2)) I) dS (AP.q 1 I (AP.known 286 I hg1234 (AP.r 11 [.o 1 0, .x 3 p1248.1 (Bounds.row p1248.2), .o 7 1] I ⟨I, ⟨hp1249i, map_get hp1249x⟩, I, J⟩ (AP.known 301 I hg1252 (AP.r 10 [.o 1 0, .x 3 p1248.1 (Bounds.row p1248.2), .o 7 1] I ⟨I, ⟨hp1249i, map_get hp1249x⟩, I, J⟩ (AP.op I (Yp.indexUf (m := p1232.1) I I I I I hf1259 I hp1233i hp1233x) I (AP.act [3] I I I (AX.storeU 3 p1232.1 0 I I I (map_get hp1233x) I I I I (le_ble I) I (us_set (x := (p1248.2.Low == j1166.2.2.1)) I) (AP.op I (Yp.indexUf (m := p1250.1) I I I I I hf1260 I hp1251i hp1251x) I (AP.act [4] I I I (AX.storeU 4 p1250.1 0 I I I (map_get hp1251x) I I I I (le_ble I) I (us_set (x := (p1248.2.High == j1166.2.2.2)) I) (AP.ofAO (AO.nil ?_))))))))))))))))
 exact lg ⟨((st898.1.set p1232.1 (p1248.2.Low == j1166.2.2.1)), (st898.2.set p1250.1 (p1248.2.High == j1166.2.2.2))), h, I, I⟩ [0, 1, 2, 3, 4]
 rintro s ob ⟨j1143, h, rfl, rfl⟩
 unfold L.zab.J8 at h
 refine AW.region (AO.r 2 [.k 0 (k651 + 1 : Nat)] I ⟨cast_wr hk652 hm653, J⟩ ?_)
 obtain rfl := oi h
 refine AO.nil ?_
 exact ⟨_, _, _, I, ⟨I, I⟩, ⟨I, I, I, I, I, I, I, I, J⟩, [0, 1, 2, 3, 4], I, by decide⟩
 rintro st898 s ob ⟨rfl, rfl⟩ he
 subst he
 have h := se_l hR1021
 have hk652f : decide (((r6.1.Segments.length : Nat) : Int) < (r6.1.Segments.length : Int)) = false := by simp
 refine AW.z I (AW.seqG (fun y1359 hy1359 => (AW.condK (v := false) I hk652f (AW.exit ?_))))
 exact lg ⟨(st898.1, st898.2), h, I, I⟩ [0, 2, 3, 4]
 rintro s ob ⟨j547, h, rfl, rfl⟩
 unfold L.zab.J3 at h
 refine AW.cutX (fun s ob => ∃ (j584 : Unit), L.zab.J4 j584 = some r ∧ s = [] ∧ ob = []) [] J ?_ ?_
 refine AW.zr [.o 1 0, .l 2 (r6.1.Nodes.length : Int)] I ⟨len_m, I, J⟩ (AW.block (AW.listMax 316 I (fun hm590 => ?_)))
 replace hm590 : r6.1.Nodes.length ≤ 9223372036854775806 := by rw [List.length_map] at hm590; omega
 obtain ⟨o621, hL622, hR623⟩ := ob_some h
 clear h
 refine AW.forX hL622 [(8, _), (10, _), (11, _), (317, _)] ⟨I, I, I, I, J⟩ (fun (k588 : Nat) (st607 : Unit) s ob => s = [(318, .V (k588 : Int))] ∧ ob = [.arr b13 36 3 1 [Pressures.row r11.1], .us v30 4 1 (j547.1.map rB), .us v31 4 1 (j547.2.map rB)]) ⟨I, I⟩ ⟨I, J⟩ ⟨[1, 2, 3], I, by decide⟩ ?_ ?_
 rintro k588 x591 st607 r625 s ob hx592 hk589 ⟨rfl, rfl⟩ h hb624
 unfold L.zab.B5 at h
 have hk589t : decide ((k588 : Int) < (r6.1.Nodes.length : Int)) = true := decide_eq_true (by omega)
 refine AW.z I (AW.seqG (fun y627 hy627 => (AW.condK (v := true) I hk589t (AW.skip ?_))))
 subst hy627
 refine AW.seq (AW.block (AW.z I (AW.cutX (fun s ob => ∃ (j637 : Bool), L.zab.J6 j637 = some r625 ∧ s = [(339, .v (.bool j637))] ∧ ob = [.arr b13 36 3 1 [Pressures.row r11.1], .us v30 4 1 (j547.1.map rB), .us v31 4 1 (j547.2.map rB)]) [(8, _), (10, _), (11, _), (317, _), (318, _)] ⟨I, I, I, I, I, J⟩ ?_ ?_)))
 obtain ⟨p639, hp640, h⟩ := ob_some h
 obtain ⟨hp640i, hp640x⟩ := ix_some hp640
 refine AW.region (AO.r 6 [.o 1 0, .x 3 p639.1 (rB p639.2)] I ⟨⟨hp640i, map_get hp640x⟩, I, J⟩ ?_)
 rcases bt (p639.2) with hg641 | hg641
 replace h := ife_t hg641 h
 obtain ⟨p642, hp643, h⟩ := ob_some h
 obtain ⟨hp643i, hp643x⟩ := ix_some hp643
 refine AO.known 326 I hg641 ?_
 rcases bt ((!p642.2)) with hg644 | hg644
 replace h := ife_t hg644 h
 refine AO.q 2 I (AO.gt I I I (AO.d (Yd.indexU 1 (m := p642.1) I I I I I I I hp643i (map_get hp643x)) I (AO.gt I I I (AO.d (Yd.loadU 1 p642.1 0 I I I (map_get hp643x) I (y := .v (.bool p642.2)) I) I (AO.q 2 I (AO.known 332 I hg644 (AO.q 7 I (AO.nil ?_))))))))
 exact lg ⟨true, h, I, I⟩ [0, 1, 2]
 replace h := ife_f hg644 h
 obtain ⟨p645, hp646, h⟩ := ob_some h
 obtain ⟨hp646i, hp646x⟩ := ix_some hp646
 refine AO.q 2 I (AO.gt I I I (AO.d (Yd.indexU 1 (m := p642.1) I I I I I I I hp643i (map_get hp643x)) I (AO.gt I I I (AO.d (Yd.loadU 1 p642.1 0 I I I (map_get hp643x) I (y := .v (.bool p642.2)) I) I (AO.q 2 I (AO.known 332 I hg644 (AO.q 2 I (AO.gt I I I (AO.d (Yd.indexU 2 (m := p645.1) I I I I I I I hp646i (map_get hp646x)) I (AO.gt I I I (AO.d (Yd.loadU 2 p645.1 0 I I I (map_get hp646x) I (y := .v (.bool p645.2)) I) I (AO.q 3 I ?_))))))))))))
 refine AO.nil ?_
 exact lg ⟨(!p645.2), h, I, I⟩ [0, 1, 2]
 replace h := ife_f hg641 h
 refine AO.known 326 I hg641 (AO.q 6 I (AO.skipU I I dS (AO.skipU I I dS (AO.skipU I I dS (AO.skipU I I dS (AO.skipU I I dS (AO.q 2 I (AO.nil ?_))))))))
 exact lg ⟨false, h, I, I⟩ [0, 1, 2]
 rintro s ob ⟨j637, h, rfl, rfl⟩
 unfold L.zab.J6 at h
 refine AW.ch h I ?_ ?_
 intro hc638 h
 refine AW.z I ?_
 obtain rfl := hb624 _ (oi h).symm
 replace h := hR623
 replace h := se_r h
 refine AW.ghost g0 ?_
 obtain rfl := oi h
 exact AW.ret pr
 intro hc638 h
 refine AW.skip (AW.region (AO.r 2 [.k 0 (k588 + 1 : Nat)] I ⟨cast_wr hk589 hm590, J⟩ ?_))
 obtain rfl := oi h
 refine AO.nil ?_
 exact ⟨_, _, _, I, ⟨I, I⟩, ⟨I, I, I, I, I, J⟩, [0, 1, 2], I, by decide⟩
 rintro st607 s ob ⟨rfl, rfl⟩ he
 subst he
 have h := se_l hR623
 have hk589f : decide (((r6.1.Nodes.length : Nat) : Int) < (r6.1.Nodes.length : Int)) = false := by simp
 refine AW.z I (AW.seqG (fun y648 hy648 => (AW.condK (v := false) I hk589f (AW.exit ?_))))
 exact lg ⟨(), h, I, I⟩ []
 rintro s ob ⟨j584, h, rfl, rfl⟩
 unfold L.zab.J4 at h
 refine AW.seq ?_
 obtain ⟨r585, hx586, h⟩ := ob_some h
 refine AW.region (AO.c (L.zbt_ok  _ hx586) (AO.q 1 I (AO.nil ?_)))
 obtain rfl := oi h
 exact AW.ret pr
end Go.Proofs.YtehbcbedipkifaaGreatDoor
