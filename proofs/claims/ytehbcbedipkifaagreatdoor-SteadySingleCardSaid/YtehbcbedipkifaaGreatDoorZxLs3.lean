/- Walks that show what functions of the program compute; printed by a program of ours. No condition. -/
import Derived.Test.YtehbcbedipkifaaGreatDoorZxLs1
set_option maxRecDepth 100000
namespace Go.Proofs.YtehbcbedipkifaaGreatDoor
open Go.Aw
set_option linter.unusedVariables false
set_option linter.unusedSimpArgs false
set_option maxHeartbeats 4000000
theorem L.znai_ok (k_0 : Int) (r : Bool) (h : L.znai k_0 = r) : ACalls Tryz.env 95 [.V k_0] [] (fun x new => x = .v (.bool r) ∧ new = []) := by
 refine ACalls.of_body Tryz.func95 rfl rfl rfl (fun C hC => ?_)
 unfold L.znai at h
 refine AW.z I (AW.cutX (fun s ob => s = [(2, .v (.bool (decide (k_0 < 0) || decide (k_0 > 1125899906842624))))] ∧ ob = []) [] J ?_ ?_)
 refine AW.region (AO.q 3 I ?_)
 rcases bt (decide (k_0 < 0)) with hg3 | hg3
 refine AO.known 5 I hg3 (AO.q 4 I (AO.nil ?_))
 exact lf ⟨I, I⟩ ⟨(get_b (by simp only [hg3, bz])), J⟩ [] I
 refine AO.known 5 I hg3 (AO.q 4 I (AO.nil ?_))
 exact lf ⟨I, I⟩ ⟨(get_b (by simp only [hg3, bz])), J⟩ [] I
 rintro s ob ⟨rfl, rfl⟩
 obtain rfl := h
 exact AW.ret pr
theorem L.zyow_ok (s_0 : List Bounds) (F1 : T) {f1 : FuncId} {p1 s1 : List T} (h1 : fnT F1 = some (f1, p1, s1)) (g1 : Bounds → Option Bool) (hg1 : ∀ (y0 : Bounds) r, g1 y0 = some r → ACalls Tryz.env f1 (p1 ++ [.agg (Bounds.row y0)] ++ s1) [] (fun x new => x = .v (.bool r) ∧ new = [])) (r : Int) (h : L.zyow s_0 g1 = some r) : ACalls Tryz.env 142 [.list 2 (s_0.map Bounds.row), F1] [] (fun x new => x = .V r ∧ new = []) := by
 refine ACalls.of_body Tryz.func142 rfl rfl rfl (fun C hC => ?_)
 unfold L.zyow at h
 refine AW.z I (AW.cutX (fun s ob => ∃ (j24 : Unit), L.zyow.J1 j24 = some r ∧ s = [] ∧ ob = []) [] J ?_ ?_)
 refine AW.zr [.l 1 (s_0.length : Int)] I ⟨len_m, J⟩ (AW.block (AW.listMax 6 I (fun hm28 => ?_)))
 replace hm28 : s_0.length ≤ 9223372036854775806 := by rw [List.length_map] at hm28; omega
 obtain ⟨o45, hL46, hR47⟩ := ob_some h
 clear h
 refine AW.forX hL46 [(0, _), (1, _), (7, _)] ⟨I, I, I, J⟩ (fun (k26 : Nat) (st38 : Unit) s ob => s = [(8, .V (k26 : Int))] ∧ ob = []) ⟨I, I⟩ ⟨I, J⟩ ⟨[], I, by decide⟩ ?_ ?_
 rintro k26 x29 st38 r49 s ob hx30 hk27 ⟨rfl, rfl⟩ h hb48
 unfold L.zyow.B2 at h
 have hk27t : decide ((k26 : Int) < (s_0.length : Int)) = true := decide_eq_true (by omega)
 refine AW.z I (AW.seqG (fun y51 hy51 => (AW.condK (v := true) I hk27t (AW.skip ?_))))
 subst hy51
 refine AW.seq (AW.block (AW.z I (AW.seq ?_)))
 obtain ⟨r53, hx54, h⟩ := ob_some h
 refine AW.region (AO.r 5 [.x 3 k26 (Bounds.row x29)] I ⟨⟨I, map_get hx30⟩, J⟩ (AO.act [] I (AX.callL I (.refl _) h1 I (.rest _) I (hg1 _ _ hx54) dS (by rintro _ _ ⟨rfl, _⟩; rfl) ?_)))
 rintro _ ⟨_, rfl, -⟩
 refine AO.nil (AW.ch h I ?_ ?_)
 intro hc55 h
 refine AW.z I ?_
 obtain rfl := hb48 _ (oi h).symm
 replace h := hR47
 replace h := se_r h
 obtain rfl := oi h
 exact AW.ret pr
 intro hc55 h
 refine AW.skip (AW.region (AO.r 2 [.k 0 (k26 + 1 : Nat)] I ⟨cast_wr hk27 hm28, J⟩ ?_))
 obtain rfl := oi h
 refine AO.nil ?_
 exact ⟨_, _, _, I, ⟨I, I⟩, ⟨I, I, I, I, J⟩, [], I, by decide⟩
 rintro st38 s ob ⟨rfl, rfl⟩ he
 subst he
 have h := se_l hR47
 have hk27f : decide (((s_0.length : Nat) : Int) < (s_0.length : Int)) = false := by simp
 refine AW.z I (AW.seqG (fun y57 hy57 => (AW.condK (v := false) I hk27f (AW.exit ?_))))
 exact lg ⟨(), h, I, I⟩ []
 rintro s ob ⟨j24, h, rfl, rfl⟩
 unfold L.zyow.J1 at h
 refine AW.z I ?_
 obtain rfl := oi h
 exact AW.ret pr
theorem L.ztko_ok (s_0 : List Bounds) (F1 : T) {f1 : FuncId} {p1 s1 : List T} (h1 : fnT F1 = some (f1, p1, s1)) (g1 : Bounds → Option Bool) (hg1 : ∀ (y0 : Bounds) r, g1 y0 = some r → ACalls Tryz.env f1 (p1 ++ [.agg (Bounds.row y0)] ++ s1) [] (fun x new => x = .v (.bool r) ∧ new = [])) (r : Bool) (h : L.ztko s_0 g1 = some r) : ACalls Tryz.env 96 [.list 2 (s_0.map Bounds.row), F1] [] (fun x new => x = .v (.bool r) ∧ new = []) := by
 refine ACalls.of_body Tryz.func96 rfl rfl rfl (fun C hC => ?_)
 unfold L.ztko at h
 refine AW.z I (AW.seq ?_)
 obtain ⟨r1, hx2, h⟩ := ob_some h
 refine AW.region (AO.q 2 I (AO.c (L.zyow_ok _ F1 h1 g1 hg1 _ hx2) (AO.q 2 I (AO.nil ?_))))
 obtain rfl := oi h
 exact AW.ret pr
theorem L.zvdi_ok (b_0 : Bounds) (r : Bool) (h : L.zvdi b_0 = r) : ACalls Tryz.env 98 [.agg (Bounds.row b_0)] [] (fun x new => x = .v (.bool r) ∧ new = []) := by
 refine ACalls.of_body Tryz.func98 rfl rfl rfl (fun C hC => ?_)
 unfold L.zvdi at h
 refine AW.seqG (fun y1 hy1 => (AW.region (AO.act [] I (AX.box (cs := Bounds.row b_0) (m := 2) I I I dS (fun b2 => (AO.q 1 I (AO.nil ?_)))))))
 subst hy1
 refine AW.cutX (fun s ob => s = [(2, .v (.bool (decide ((min b_0.Low b_0.High) ≥ (-1152921504606846976)) && decide ((max b_0.Low b_0.High) ≤ 1152921504606846976))))] ∧ ob = []) [] J ?_ ?_
 refine AW.region (AO.r 7 [.o 1 0, .o 3 0] I ⟨I, I, J⟩ ?_)
 rcases bt (decide ((min b_0.Low b_0.High) ≥ (-1152921504606846976))) with hg5 | hg5
 refine AO.known 9 I hg5 (AO.r 8 [.o 1 0, .o 3 0] I ⟨I, I, J⟩ (AO.nil ?_))
 exact lf ⟨I, I⟩ ⟨(get_b (by simp only [hg5, bz])), J⟩ [] I
 refine AO.known 9 I hg5 (AO.q 8 I (AO.nil ?_))
 exact lf ⟨I, I⟩ ⟨(get_b (by simp only [hg5, bz])), J⟩ [] I
 rintro s ob ⟨rfl, rfl⟩
 obtain rfl := h
 exact AW.ret pr
theorem L.zxfm_ok (b_0 : Bounds) (r : Bool) (h : L.zxfm b_0 = r) : ACalls Tryz.env 97 [.agg (Bounds.row b_0)] [] (fun x new => x = .v (.bool r) ∧ new = []) := by
 refine ACalls.of_body Tryz.func97 rfl rfl rfl (fun C hC => ?_)
 unfold L.zxfm at h
 refine AW.seq (AW.region (AO.act [] I (AX.box (cs := Bounds.row b_0) (m := 2) I I I dS (fun b1 => (AO.q 1 I (AO.nil (AW.seq (AW.region (AO.r 1 [.o 0 0] I ⟨I, J⟩ (AO.c (L.zvdi_ok b_0 _ I) (AO.q 2 I (AO.nil (AW.ghost g0 ?_)))))))))))))
 obtain rfl := h
 exact AW.ret pr
theorem L.zdjd_ok (s_0 : List Level) (F1 : T) {f1 : FuncId} {p1 s1 : List T} (h1 : fnT F1 = some (f1, p1, s1)) (g1 : Level → Option Bool) (hg1 : ∀ (y0 : Level) r, g1 y0 = some r → ACalls Tryz.env f1 (p1 ++ [.agg (Level.row y0)] ++ s1) [] (fun x new => x = .v (.bool r) ∧ new = [])) (r : Int) (h : L.zdjd s_0 g1 = some r) : ACalls Tryz.env 143 [.list 3 (s_0.map Level.row), F1] [] (fun x new => x = .V r ∧ new = []) := by
 refine ACalls.of_body Tryz.func143 rfl rfl rfl (fun C hC => ?_)
 unfold L.zdjd at h
 refine AW.z I (AW.cutX (fun s ob => ∃ (j24 : Unit), L.zdjd.J1 j24 = some r ∧ s = [] ∧ ob = []) [] J ?_ ?_)
 refine AW.zr [.l 1 (s_0.length : Int)] I ⟨len_m, J⟩ (AW.block (AW.listMax 6 I (fun hm28 => ?_)))
 replace hm28 : s_0.length ≤ 9223372036854775806 := by rw [List.length_map] at hm28; omega
 obtain ⟨o45, hL46, hR47⟩ := ob_some h
 clear h
 refine AW.forX hL46 [(0, _), (1, _), (7, _)] ⟨I, I, I, J⟩ (fun (k26 : Nat) (st38 : Unit) s ob => s = [(8, .V (k26 : Int))] ∧ ob = []) ⟨I, I⟩ ⟨I, J⟩ ⟨[], I, by decide⟩ ?_ ?_
 rintro k26 x29 st38 r49 s ob hx30 hk27 ⟨rfl, rfl⟩ h hb48
 unfold L.zdjd.B2 at h
 have hk27t : decide ((k26 : Int) < (s_0.length : Int)) = true := decide_eq_true (by omega)
 refine AW.z I (AW.seqG (fun y51 hy51 => (AW.condK (v := true) I hk27t (AW.skip ?_))))
 subst hy51
 refine AW.seq (AW.block (AW.z I (AW.seq ?_)))
 obtain ⟨r53, hx54, h⟩ := ob_some h
 refine AW.region (AO.r 5 [.x 3 k26 (Level.row x29)] I ⟨⟨I, map_get hx30⟩, J⟩ (AO.act [] I (AX.callL I (.refl _) h1 I (.rest _) I (hg1 _ _ hx54) dS (by rintro _ _ ⟨rfl, _⟩; rfl) ?_)))
 rintro _ ⟨_, rfl, -⟩
 refine AO.nil (AW.ch h I ?_ ?_)
 intro hc55 h
 refine AW.z I ?_
 obtain rfl := hb48 _ (oi h).symm
 replace h := hR47
 replace h := se_r h
 obtain rfl := oi h
 exact AW.ret pr
 intro hc55 h
 refine AW.skip (AW.region (AO.r 2 [.k 0 (k26 + 1 : Nat)] I ⟨cast_wr hk27 hm28, J⟩ ?_))
 obtain rfl := oi h
 refine AO.nil ?_
 exact ⟨_, _, _, I, ⟨I, I⟩, ⟨I, I, I, I, J⟩, [], I, by decide⟩
 rintro st38 s ob ⟨rfl, rfl⟩ he
 subst he
 have h := se_l hR47
 have hk27f : decide (((s_0.length : Nat) : Int) < (s_0.length : Int)) = false := by simp
 refine AW.z I (AW.seqG (fun y57 hy57 => (AW.condK (v := false) I hk27f (AW.exit ?_))))
 exact lg ⟨(), h, I, I⟩ []
 rintro s ob ⟨j24, h, rfl, rfl⟩
 unfold L.zdjd.J1 at h
 refine AW.z I ?_
 obtain rfl := oi h
 exact AW.ret pr
theorem L.zijd_ok (s_0 : List Level) (F1 : T) {f1 : FuncId} {p1 s1 : List T} (h1 : fnT F1 = some (f1, p1, s1)) (g1 : Level → Option Bool) (hg1 : ∀ (y0 : Level) r, g1 y0 = some r → ACalls Tryz.env f1 (p1 ++ [.agg (Level.row y0)] ++ s1) [] (fun x new => x = .v (.bool r) ∧ new = [])) (r : Bool) (h : L.zijd s_0 g1 = some r) : ACalls Tryz.env 99 [.list 3 (s_0.map Level.row), F1] [] (fun x new => x = .v (.bool r) ∧ new = []) := by
 refine ACalls.of_body Tryz.func99 rfl rfl rfl (fun C hC => ?_)
 unfold L.zijd at h
 refine AW.z I (AW.seq ?_)
 obtain ⟨r1, hx2, h⟩ := ob_some h
 refine AW.region (AO.q 2 I (AO.c (L.zdjd_ok _ F1 h1 g1 hg1 _ hx2) (AO.q 2 I (AO.nil ?_))))
 obtain rfl := oi h
 exact AW.ret pr
theorem L.zwej_ok (l_0 : Level) (a_1 : Network) (a_2 : Int) (r : Bool) (h : L.zwej l_0 a_1 a_2 = some r) : ACalls Tryz.env 100 [.agg (Level.row l_0), .eptr (Network.row a_1), .eptr (rI a_2)] [] (fun x new => x = .v (.bool r) ∧ new = []) := by
 refine ACalls.of_body Tryz.func100 rfl rfl rfl (fun C hC => ?_)
 unfold L.zwej at h
 refine AW.seqG (fun y1 hy1 => (AW.region (AO.act [] I (AX.box (cs := Level.row l_0) (m := 3) I I I dS (fun b2 => (AO.q 1 I (AO.nil ?_)))))))
 subst hy1
 refine AW.cutX (fun s ob => ∃ (j7 : Bool), L.zwej.J1 j7 = some r ∧ s = [(4, .v (.bool j7))] ∧ ob = []) [] J ?_ ?_
 refine AW.rd (pd 21 0 [2]) [0] [_] I (AP.q 1 I (AP.o I (Yd.loadO 0 0 1 I I I I I (y := .agg (Bounds.row l_0.Bounds)) I) I (AP.c I (L.zvdi_ok l_0.Bounds _ I) (AP.q 2 I ?_))))
 rcases bt ((!(L.zvdi l_0.Bounds))) with hg8 | hg8
 replace h := ife_t hg8 h
 refine AP.known 9 I hg8 (AP.q 15 I (AP.eraS 4 (AP.q 1 I (AP.ofAO (AO.nil ?_)))))
 exact lg ⟨true, h, I, I⟩ []
 replace h := ife_f hg8 h
 refine AP.known 9 I hg8 (AP.r 5 [.o 1 0] I ⟨I, J⟩ ?_)
 rcases bt (decide (l_0.At < 0)) with hg9 | hg9
 replace h := ife_t hg9 h
 refine AP.known 14 I hg9 (AP.q 10 I (AP.eraS 4 (AP.q 1 I (AP.ofAO (AO.nil ?_)))))
 exact lg ⟨true, h, I, I⟩ []
 replace h := ife_f hg9 h
 obtain ⟨p10, hp11, h⟩ := ob_some h
 obtain ⟨hp11i, hp11x⟩ := ix_some hp11
 refine AP.known 14 I hg9 (AP.r 10 [.o 1 0, .x 5 p10.1 (Segment.row p10.2)] I ⟨⟨hp11i, map_get hp11x⟩, I, J⟩ (AP.eraS 4 (AP.q 1 I (AP.ofAO (AO.nil ?_)))))
 exact lg ⟨decide (l_0.At > p10.2.Capacity), h, I, I⟩ []
 rintro s ob ⟨j7, h, rfl, rfl⟩
 unfold L.zwej.J1 at h
 obtain rfl := oi h
 exact AW.ret pr
theorem L.zlzo_ok (n_0 : Network) (x_1 : Pressures) (p_2 : Plan) (extra_3 : List Int) (r : Bool) (h : L.zlzo n_0 x_1 p_2 extra_3 = some r) : ACalls Tryz.env 56 [.agg (Network.row n_0), .agg (Pressures.row x_1), .agg (Plan.row p_2), .list 1 (extra_3.map rI)] [] (fun x new => x = .v (.bool r) ∧ new = []) := by
 refine ACalls.of_body Tryz.func56 rfl rfl rfl (fun C hC => ?_)
 unfold L.zlzo at h
 refine AW.seqG (fun y1 hy1 => (AW.region (AO.act [] I (AX.box (cs := Network.row n_0) (m := 6) I I I dS (fun b2 => (AO.act [] I (AX.box (cs := Pressures.row x_1) (m := 3) I I I dS (fun b3 => (AO.act [] I (AX.box (cs := Plan.row p_2) (m := 3) I I I dS (fun b4 => (AO.q 1 I (AO.nil ?_)))))))))))))
 subst hy1
 refine AW.seqG (fun y5 hy5 => (AW.cutX (fun s ob => ∃ (j13 : Bool), L.zlzo.J1 n_0 x_1 extra_3 j13 = some r ∧ s = [(57, .v (.bool j13))] ∧ ob = [.arr b2 27 6 1 [Network.row n_0], .arr b3 36 3 1 [Pressures.row x_1]]) [(3, _), (4, _), (5, _)] ⟨I, I, I, J⟩ ?_ ?_))
 obtain ⟨r85, hx86, h⟩ := ob_some h
 refine AW.region (AO.r 1 [.o 0 0] I ⟨I, J⟩ (AO.c (L.zfta_ok _ _ hx86) (AO.q 2 I ?_)))
 rcases bt ((r85 != 0)) with hg87 | hg87
 replace h := ife_t hg87 h
 refine AO.known 14 I hg87 (AO.q 43 I (AO.nil ?_))
 exact lg ⟨true, h, I, I⟩ [0, 1]
 replace h := ife_f hg87 h
 refine AO.known 14 I hg87 (AO.r 9 [.o 1 2, .l 2 (p_2.Pumps.length : Int), .o 4 0, .l 5 (n_0.Stations.length : Int)] I ⟨len_m, I, len_m, I, J⟩ ?_)
 rcases bt (((p_2.Pumps.length : Int) != (n_0.Stations.length : Int))) with hg88 | hg88
 replace h := ife_t hg88 h
 refine AO.known 23 I hg88 (AO.q 34 I (AO.nil ?_))
 exact lg ⟨true, h, I, I⟩ [0, 1]
 replace h := ife_f hg88 h
 refine AO.known 23 I hg88 (AO.r 9 [.o 1 1, .l 2 (x_1.Known.length : Int), .o 4 0, .l 5 (n_0.Nodes.length : Int)] I ⟨len_m, I, len_m, I, J⟩ ?_)
 rcases bt (((x_1.Known.length : Int) != (n_0.Nodes.length : Int))) with hg89 | hg89
 replace h := ife_t hg89 h
 refine AO.known 32 I hg89 (AO.q 25 I (AO.nil ?_))
 exact lg ⟨true, h, I, I⟩ [0, 1]
 replace h := ife_f hg89 h
 refine AO.known 32 I hg89 (AO.r 9 [.o 1 1, .l 2 (x_1.Nodes.length : Int), .o 4 0, .l 5 (n_0.Nodes.length : Int)] I ⟨len_m, I, len_m, I, J⟩ ?_)
 rcases bt (((x_1.Nodes.length : Int) != (n_0.Nodes.length : Int))) with hg90 | hg90
 replace h := ife_t hg90 h
 refine AO.known 41 I hg90 (AO.q 16 I (AO.nil ?_))
 exact lg ⟨true, h, I, I⟩ [0, 1]
 replace h := ife_f hg90 h
 refine AO.known 41 I hg90 (AO.r 9 [.o 1 1, .l 2 (x_1.Segments.length : Int), .o 4 0, .l 5 (n_0.Segments.length : Int)] I ⟨len_m, I, len_m, I, J⟩ ?_)
 rcases bt (((x_1.Segments.length : Int) != (n_0.Segments.length : Int))) with hg91 | hg91
 replace h := ife_t hg91 h
 refine AO.known 50 I hg91 (AO.q 7 I (AO.nil ?_))
 exact lg ⟨true, h, I, I⟩ [0, 1]
 replace h := ife_f hg91 h
 refine AO.known 50 I hg91 (AO.r 7 [.l 1 (extra_3.length : Int), .o 3 0, .l 4 (n_0.Segments.length : Int)] I ⟨len_m, I, len_m, J⟩ (AO.nil ?_))
 exact lg ⟨((extra_3.length : Int) != (n_0.Segments.length : Int)), h, I, I⟩ [0, 1]
 rintro s ob ⟨j13, h, rfl, rfl⟩
 unfold L.zlzo.J1 at h
 refine AW.ch h I ?_ ?_
 intro hc14 h
 refine AW.z I (AW.ghost g0 ?_)
 obtain rfl := oi h
 exact AW.ret pr
 intro hc14 h
 refine AW.skip ?_
 subst hy5
 refine AW.seqG (fun y15 hy15 => (AW.cutX (fun s ob => ∃ (j21 : Bool), L.zlzo.J2 n_0 x_1 j21 = some r ∧ s = [(64, .v (.bool j21))] ∧ ob = [.arr b2 27 6 1 [Network.row n_0], .arr b3 36 3 1 [Pressures.row x_1]]) [(4, _), (5, _)] ⟨I, I, J⟩ ?_ ?_))
 obtain ⟨r80, hx81, h⟩ := ob_some h
 refine AW.region (AO.q 1 I ?_)
 rcases bt (r80) with hg82 | hg82
 replace h := ife_t hg82 h
 refine AO.c (L.zvoj_ok _ (.v (.func (.func 95) #[] #[])) I (fun x => some (L.znai x)) (fun x r h => by obtain I := oi h; exact L.znai_ok x _ I) _ hx81) (AO.q 1 I (AO.known 60 I hg82 (AO.q 4 I (AO.nil ?_))))
 exact lg ⟨true, h, I, I⟩ [0, 1]
 replace h := ife_f hg82 h
 obtain ⟨r83, hx84, h⟩ := ob_some h
 refine AO.c (L.zvoj_ok _ (.v (.func (.func 95) #[] #[])) I (fun x => some (L.znai x)) (fun x r h => by obtain I := oi h; exact L.znai_ok x _ I) _ hx81) (AO.q 1 I (AO.known 60 I hg82 (AO.r 2 [.o 1 1] I ⟨I, J⟩ (AO.gt I I I (AO.c (L.ztko_ok _ (.v (.func (.func 97) #[] #[])) I (fun x => some (L.zxfm x)) (fun x r h => by obtain I := oi h; exact L.zxfm_ok x _ I) _ hx84) (AO.q 1 I (AO.nil ?_)))))))
 exact lg ⟨r83, h, I, I⟩ [0, 1]
 rintro s ob ⟨j21, h, rfl, rfl⟩
 unfold L.zlzo.J2 at h
 refine AW.ch h I ?_ ?_
 intro hc22 h
 refine AW.z I (AW.ghost g0 ?_)
 obtain rfl := oi h
 exact AW.ret pr
 intro hc22 h
 refine AW.skip ?_
 subst hy15
 refine AW.cutX (fun s ob => ∃ (j45 : Unit), L.zlzo.J3 j45 = some r ∧ s = [] ∧ ob = []) [] J ?_ ?_
 refine AW.zr [.o 1 1, .l 2 (x_1.Segments.length : Int)] I ⟨len_m, I, J⟩ (AW.block (AW.listMax 66 I (fun hm49 => ?_)))
 replace hm49 : x_1.Segments.length ≤ 9223372036854775806 := by rw [List.length_map] at hm49; omega
 obtain ⟨o66, hL67, hR68⟩ := ob_some h
 clear h
 refine AW.forX hL67 [(4, _), (66, _), (67, _)] ⟨I, I, I, J⟩ (fun (k47 : Nat) (st59 : Unit) s ob => s = [(68, .V (k47 : Int))] ∧ ob = [.arr b2 27 6 1 [Network.row n_0]]) ⟨I, I⟩ ⟨I, J⟩ ⟨[0], I, by decide⟩ ?_ ?_
 rintro k47 x50 st59 r70 s ob hx51 hk48 ⟨rfl, rfl⟩ h hb69
 unfold L.zlzo.B4 at h
 have hk48t : decide ((k47 : Int) < (x_1.Segments.length : Int)) = true := decide_eq_true (by omega)
 refine AW.z I (AW.seqG (fun y72 hy72 => (AW.condK (v := true) I hk48t (AW.skip ?_))))
 subst hy72
 refine AW.seq (AW.block (AW.seq (AW.region (AO.r 3 [.x 1 k47 ((rL 3 Level.row) x50)] I ⟨⟨I, map_get hx51⟩, J⟩ (AO.act [] I (AX.alloc (cs := [.V 0]) (m := 1) I I I I I dS (fun b73 => (AO.act [1] I (AX.store 1 0 0 (es' := [[.V (k47 : Int)]]) I I I I I I I I (le_ble I) I I (AO.q 1 I (AO.nil (AW.seq ?_))))))))))))
 obtain ⟨r74, hx75, h⟩ := ob_some h
 refine AW.region (AO.q 1 I (AO.p (Yp.makeFunc I I) I (AO.act [] I (AX.callL I (.refl _) I I (.cons (.refl _) (.cons (.fn (.rest _) (.cons (.box 0 I (.rest _)) (.cons (.box 1 I (.rest _)) (.rest _)))) (.rest _))) I (L.zijd_ok _ (.fn 100 [] [.eptr (Network.row n_0), .eptr (rI (k47 : Int))]) I (fun x => L.zwej x n_0 (k47 : Int)) (fun x r h => L.zwej_ok x n_0 (k47 : Int) r h) _ hx75) dS (by rintro _ _ ⟨rfl, _⟩; rfl) ?_))))
 rintro _ ⟨_, rfl, -⟩
 refine AO.nil (AW.ch h I ?_ ?_)
 intro hc76 h
 refine AW.z I ?_
 obtain rfl := hb69 _ (oi h).symm
 replace h := hR68
 replace h := se_r h
 refine AW.ghost g0 ?_
 obtain rfl := oi h
 exact AW.ret pr
 intro hc76 h
 refine AW.skip (AW.region (AO.r 2 [.k 0 (k47 + 1 : Nat)] I ⟨cast_wr hk48 hm49, J⟩ ?_))
 obtain rfl := oi h
 refine AO.nil ?_
 exact ⟨_, _, _, I, ⟨I, I⟩, ⟨I, I, I, I, J⟩, [0], I, by decide⟩
 rintro st59 s ob ⟨rfl, rfl⟩ he
 subst he
 have h := se_l hR68
 have hk48f : decide (((x_1.Segments.length : Nat) : Int) < (x_1.Segments.length : Int)) = false := by simp
 refine AW.z I (AW.seqG (fun y78 hy78 => (AW.condK (v := false) I hk48f (AW.exit ?_))))
 exact lg ⟨(), h, I, I⟩ []
 rintro s ob ⟨j45, h, rfl, rfl⟩
 unfold L.zlzo.J3 at h
 refine AW.z I ?_
 obtain rfl := oi h
 exact AW.ret pr
end Go.Proofs.YtehbcbedipkifaaGreatDoor
