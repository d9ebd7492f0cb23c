/- Walks that show what functions of the program compute; printed by a program of ours. No condition. -/
import Derived.Test.YtehbcbedipkifaaGreatDoorZxD
import Derived.Test.YtehbcbedipkifaaGreatDoorZxB2
set_option maxRecDepth 100000
namespace Go.Proofs.YtehbcbedipkifaaGreatDoor
open Go.Aw
set_option linter.unusedVariables false
set_option linter.unusedSimpArgs false
set_option maxHeartbeats 4000000
theorem L.ztzg_ok (s_0 : Segment) (rate_1 : Int) (r : Int × Int) (h : L.ztzg s_0 rate_1 = r) : ACalls Tryz.env 86 [.agg (Segment.row s_0), .V rate_1] [] (fun x new => x = .tup [.V r.1, .V r.2] ∧ new = []) := by
 refine ACalls.of_body Tryz.func86 rfl rfl rfl (fun C hC => ?_)
 unfold L.ztzg at h
 refine AW.seqG (fun y1 hy1 => (AW.region (AO.act [] I (AX.box (cs := Segment.row s_0) (m := 7) I I I dS (fun b2 => (AO.q 2 I (AO.nil ?_)))))))
 subst hy1
 refine AW.seq (AW.z I (AW.ch h I ?_ ?_))
 intro hc3 h
 refine AW.dz (pd 6 0 []) [0] [_] [.o 1 0, .o 3 0] I I ⟨I, I, J⟩ (AW.ghost g0 ?_)
 obtain rfl := h
 exact AW.ret ⟨.inr I, [_, _], [], ⟨I, I, J⟩, sl_n, I, I⟩
 intro hc3 h
 refine AW.skip (AW.dz (pd 6 0 []) [0] [_] [.o 1 0, .o 3 0] I I ⟨I, I, J⟩ (AW.ghost g0 ?_))
 obtain rfl := h
 exact AW.ret ⟨.inr I, [_, _], [], ⟨I, I, J⟩, sl_n, I, I⟩
theorem L.zqkj_ok (rate_0 : Int) (most_1 : Int) (r : Bool) (h : L.zqkj rate_0 most_1 = r) : ACalls Tryz.env 107 [.V rate_0, .V most_1] [] (fun x new => x = .v (.bool r) ∧ new = []) := by
 refine ACalls.of_body Tryz.func107 rfl rfl rfl (fun C hC => ?_)
 unfold L.zqkj at h
 refine AW.z I (AW.cutX (fun s ob => s = [(4, .v (.bool (decide (rate_0 ≥ (wr (0 - most_1))) && decide (rate_0 ≤ most_1))))] ∧ ob = []) [] J ?_ ?_)
 refine AW.region (AO.q 5 I ?_)
 rcases bt (decide (rate_0 ≥ (wr (0 - most_1)))) with hg4 | hg4
 refine AO.known 9 I hg4 (AO.q 5 I (AO.nil ?_))
 exact lf ⟨I, I⟩ ⟨(get_b (by simp only [hg4, bz])), J⟩ [] I
 refine AO.known 9 I hg4 (AO.q 5 I (AO.nil ?_))
 exact lf ⟨I, I⟩ ⟨(get_b (by simp only [hg4, bz])), J⟩ [] I
 rintro s ob ⟨rfl, rfl⟩
 obtain rfl := h
 exact AW.ret pr
theorem L.zbjp_ok (x_0 : Int) (n_1 : Int) (r : Int) (h : L.zbjp x_0 n_1 = some r) : ACalls Tryz.env 42 [.V x_0, .V n_1] [] (fun x new => x = .V r ∧ new = []) := by
 refine ACalls.of_body Tryz.func42 rfl rfl rfl (fun C hC => ?_)
 unfold L.zbjp at h
 refine AW.z I (AW.seqG (fun y2 hy2 => (AW.z I (AW.ch h I ?_ ?_))))
 intro hc3 h
 refine AW.z I ?_
 obtain rfl := oi h
 exact AW.ret pr
 intro hc3 h
 refine AW.skip ?_
 subst hy2
 refine AW.seqG (fun y4 hy4 => ?_)
 obtain ⟨x5, hx6, h⟩ := ob_some h
 refine AW.tr [.f 2 (.V x5)] I ⟨Yp.yd (Yp.binI (c := x5) I I (rem_some hx6)), J⟩ ?_
 subst hy4
 refine AW.cutX (fun s ob => ∃ (j8 : Int), L.zbjp.J1 j8 = some r ∧ s = [(0, .V j8)] ∧ ob = []) [] J ?_ ?_
 refine AW.z I (AW.ch h I ?_ ?_)
 intro hc9 h
 refine AW.t I ?_
 exact lg ⟨wr (x5 + n_1), h, I, I⟩ []
 intro hc9 h
 refine AW.skip ?_
 exact lg ⟨x5, h, I, I⟩ []
 rintro s ob ⟨j8, h, rfl, rfl⟩
 unfold L.zbjp.J1 at h
 refine AW.z I ?_
 obtain rfl := oi h
 exact AW.ret pr
theorem L.zvhs_ok (n_0 : Int) (least_1 : Int) (most_2 : Int) (r : Bool) (h : L.zvhs n_0 least_1 most_2 = r) : ACalls Tryz.env 157 [.V n_0, .V least_1, .V most_2] [] (fun x new => x = .v (.bool r) ∧ new = []) := by
 refine ACalls.of_body Tryz.func157 rfl rfl rfl (fun C hC => ?_)
 unfold L.zvhs at h
 refine AW.z I (AW.cutX (fun s ob => s = [(6, .v (.bool (decide (n_0 ≥ least_1) && decide (n_0 ≤ most_2))))] ∧ ob = []) [] J ?_ ?_)
 refine AW.region (AO.q 4 I ?_)
 rcases bt (decide (n_0 ≥ least_1)) with hg3 | hg3
 refine AO.known 10 I hg3 (AO.q 5 I (AO.nil ?_))
 exact lf ⟨I, I⟩ ⟨(get_b (by simp only [hg3, bz])), J⟩ [] I
 refine AO.known 10 I hg3 (AO.q 5 I (AO.nil ?_))
 exact lf ⟨I, I⟩ ⟨(get_b (by simp only [hg3, bz])), J⟩ [] I
 rintro s ob ⟨rfl, rfl⟩
 obtain rfl := h
 exact AW.ret pr
theorem L.zsbv_ok (s_0 : List ByteArray) (v_1 : ByteArray) (r : Int) (h : L.zsbv s_0 v_1 = some r) : ACalls Tryz.env 149 [.list 1 (s_0.map rS), .v (.string v_1)] [] (fun x new => x = .V r ∧ new = []) := by
 refine ACalls.of_body Tryz.func149 rfl rfl rfl (fun C hC => ?_)
 unfold L.zsbv at h
 refine AW.z I (AW.cutX (fun s ob => ∃ (j20 : Unit), L.zsbv.J1 j20 = some r ∧ s = [] ∧ ob = []) [] J ?_ ?_)
 refine AW.zr [.l 1 (s_0.length : Int)] I ⟨len_m, J⟩ (AW.block (AW.listMax 6 I (fun hm24 => ?_)))
 replace hm24 : s_0.length ≤ 9223372036854775806 := by rw [List.length_map] at hm24; omega
 obtain ⟨o37, hL38, hR39⟩ := ob_some h
 clear h
 refine AW.forX hL38 [(0, _), (1, _), (7, _)] ⟨I, I, I, J⟩ (fun (k22 : Nat) (st32 : Unit) s ob => s = [(8, .V (k22 : Int))] ∧ ob = []) ⟨I, I⟩ ⟨I, J⟩ ⟨[], I, by decide⟩ ?_ ?_
 rintro k22 x25 st32 r41 s ob hx26 hk23 ⟨rfl, rfl⟩ h hb40
 unfold L.zsbv.B2 at h
 have hk23t : decide ((k22 : Int) < (s_0.length : Int)) = true := decide_eq_true (by omega)
 refine AW.z I (AW.seqG (fun y43 hy43 => (AW.condK (v := true) I hk23t (AW.skip ?_))))
 subst hy43
 refine AW.seq (AW.block (AW.z I (AW.seq (AW.region (AO.r 5 [.x 3 k22 (rS x25)] I ⟨⟨I, map_get hx26⟩, J⟩ (AO.p (Yp.cmpS (c := sEq v_1 x25) I I I) I (AO.nil (AW.ch h I ?_ ?_))))))))
 intro hc45 h
 refine AW.z I ?_
 obtain rfl := hb40 _ (oi h).symm
 replace h := hR39
 replace h := se_r h
 obtain rfl := oi h
 exact AW.ret pr
 intro hc45 h
 refine AW.skip (AW.region (AO.r 2 [.k 0 (k22 + 1 : Nat)] I ⟨cast_wr hk23 hm24, J⟩ ?_))
 obtain rfl := oi h
 refine AO.nil ?_
 exact ⟨_, _, _, I, ⟨I, I⟩, ⟨I, I, I, I, J⟩, [], I, by decide⟩
 rintro st32 s ob ⟨rfl, rfl⟩ he
 subst he
 have h := se_l hR39
 have hk23f : decide (((s_0.length : Nat) : Int) < (s_0.length : Int)) = false := by simp
 refine AW.z I (AW.seqG (fun y47 hy47 => (AW.condK (v := false) I hk23f (AW.exit ?_))))
 exact lg ⟨(), h, I, I⟩ []
 rintro s ob ⟨j20, h, rfl, rfl⟩
 unfold L.zsbv.J1 at h
 refine AW.z I ?_
 obtain rfl := oi h
 exact AW.ret pr
theorem L.zapw_ok (s_0 : List Int) (F1 : T) {f1 : FuncId} {p1 s1 : List T} (h1 : fnT F1 = some (f1, p1, s1)) (g1 : Int → Option Bool) (hg1 : ∀ (y0 : Int) r, g1 y0 = some r → ACalls Tryz.env f1 (p1 ++ [.V y0] ++ s1) [] (fun x new => x = .v (.bool r) ∧ new = [])) (r : Int) (h : L.zapw s_0 g1 = some r) : ACalls Tryz.env 141 [.list 1 (s_0.map rI), F1] [] (fun x new => x = .V r ∧ new = []) := by
 refine ACalls.of_body Tryz.func141 rfl rfl rfl (fun C hC => ?_)
 unfold L.zapw at h
 refine AW.z I (AW.cutX (fun s ob => ∃ (j24 : Unit), L.zapw.J1 j24 = some r ∧ s = [] ∧ ob = []) [] J ?_ ?_)
 refine AW.zr [.l 1 (s_0.length : Int)] I ⟨len_m, J⟩ (AW.block (AW.listMax 6 I (fun hm28 => ?_)))
 replace hm28 : s_0.length ≤ 9223372036854775806 := by rw [List.length_map] at hm28; omega
 obtain ⟨o45, hL46, hR47⟩ := ob_some h
 clear h
 refine AW.forX hL46 [(0, _), (1, _), (7, _)] ⟨I, I, I, J⟩ (fun (k26 : Nat) (st38 : Unit) s ob => s = [(8, .V (k26 : Int))] ∧ ob = []) ⟨I, I⟩ ⟨I, J⟩ ⟨[], I, by decide⟩ ?_ ?_
 rintro k26 x29 st38 r49 s ob hx30 hk27 ⟨rfl, rfl⟩ h hb48
 unfold L.zapw.B2 at h
 have hk27t : decide ((k26 : Int) < (s_0.length : Int)) = true := decide_eq_true (by omega)
 refine AW.z I (AW.seqG (fun y51 hy51 => (AW.condK (v := true) I hk27t (AW.skip ?_))))
 subst hy51
 refine AW.seq (AW.block (AW.z I (AW.seq ?_)))
 obtain ⟨r53, hx54, h⟩ := ob_some h
 refine AW.region (AO.r 5 [.x 3 k26 (rI x29)] I ⟨⟨I, map_get hx30⟩, J⟩ (AO.act [] I (AX.callL I (.refl _) h1 I (.rest _) I (hg1 _ _ hx54) dS (by rintro _ _ ⟨rfl, _⟩; rfl) ?_)))
 rintro _ ⟨_, rfl, -⟩
 refine AO.nil (AW.ch h I ?_ ?_)
 intro hc55 h
 refine AW.z I ?_
 obtain rfl := hb48 _ (oi h).symm
 replace h := hR47
 replace h := se_r h
 obtain rfl := oi h
 exact AW.ret pr
 intro hc55 h
 refine AW.skip (AW.region (AO.r 2 [.k 0 (k26 + 1 : Nat)] I ⟨cast_wr hk27 hm28, J⟩ ?_))
 obtain rfl := oi h
 refine AO.nil ?_
 exact ⟨_, _, _, I, ⟨I, I⟩, ⟨I, I, I, I, J⟩, [], I, by decide⟩
 rintro st38 s ob ⟨rfl, rfl⟩ he
 subst he
 have h := se_l hR47
 have hk27f : decide (((s_0.length : Nat) : Int) < (s_0.length : Int)) = false := by simp
 refine AW.z I (AW.seqG (fun y57 hy57 => (AW.condK (v := false) I hk27f (AW.exit ?_))))
 exact lg ⟨(), h, I, I⟩ []
 rintro s ob ⟨j24, h, rfl, rfl⟩
 unfold L.zapw.J1 at h
 refine AW.z I ?_
 obtain rfl := oi h
 exact AW.ret pr
theorem L.zvoj_ok (s_0 : List Int) (F1 : T) {f1 : FuncId} {p1 s1 : List T} (h1 : fnT F1 = some (f1, p1, s1)) (g1 : Int → Option Bool) (hg1 : ∀ (y0 : Int) r, g1 y0 = some r → ACalls Tryz.env f1 (p1 ++ [.V y0] ++ s1) [] (fun x new => x = .v (.bool r) ∧ new = [])) (r : Bool) (h : L.zvoj s_0 g1 = some r) : ACalls Tryz.env 94 [.list 1 (s_0.map rI), F1] [] (fun x new => x = .v (.bool r) ∧ new = []) := by
 refine ACalls.of_body Tryz.func94 rfl rfl rfl (fun C hC => ?_)
 unfold L.zvoj at h
 refine AW.z I (AW.seq ?_)
 obtain ⟨r1, hx2, h⟩ := ob_some h
 refine AW.region (AO.q 2 I (AO.c (L.zapw_ok _ F1 h1 g1 hg1 _ hx2) (AO.q 2 I (AO.nil ?_))))
 obtain rfl := oi h
 exact AW.ret pr
theorem L.zqyu_ok (s_0 : List ByteArray) (F1 : T) {f1 : FuncId} {p1 s1 : List T} (h1 : fnT F1 = some (f1, p1, s1)) (g1 : ByteArray → Option Bool) (hg1 : ∀ (y0 : ByteArray) r, g1 y0 = some r → ACalls Tryz.env f1 (p1 ++ [.v (.string y0)] ++ s1) [] (fun x new => x = .v (.bool r) ∧ new = [])) (r : Int) (h : L.zqyu s_0 g1 = some r) : ACalls Tryz.env 147 [.list 1 (s_0.map rS), F1] [] (fun x new => x = .V r ∧ new = []) := by
 refine ACalls.of_body Tryz.func147 rfl rfl rfl (fun C hC => ?_)
 unfold L.zqyu at h
 refine AW.z I (AW.cutX (fun s ob => ∃ (j24 : Unit), L.zqyu.J1 j24 = some r ∧ s = [] ∧ ob = []) [] J ?_ ?_)
 refine AW.zr [.l 1 (s_0.length : Int)] I ⟨len_m, J⟩ (AW.block (AW.listMax 6 I (fun hm28 => ?_)))
 replace hm28 : s_0.length ≤ 9223372036854775806 := by rw [List.length_map] at hm28; omega
 obtain ⟨o45, hL46, hR47⟩ := ob_some h
 clear h
 refine AW.forX hL46 [(0, _), (1, _), (7, _)] ⟨I, I, I, J⟩ (fun (k26 : Nat) (st38 : Unit) s ob => s = [(8, .V (k26 : Int))] ∧ ob = []) ⟨I, I⟩ ⟨I, J⟩ ⟨[], I, by decide⟩ ?_ ?_
 rintro k26 x29 st38 r49 s ob hx30 hk27 ⟨rfl, rfl⟩ h hb48
 unfold L.zqyu.B2 at h
 have hk27t : decide ((k26 : Int) < (s_0.length : Int)) = true := decide_eq_true (by omega)
 refine AW.z I (AW.seqG (fun y51 hy51 => (AW.condK (v := true) I hk27t (AW.skip ?_))))
 subst hy51
 refine AW.seq (AW.block (AW.z I (AW.seq ?_)))
 obtain ⟨r53, hx54, h⟩ := ob_some h
 refine AW.region (AO.r 5 [.x 3 k26 (rS x29)] I ⟨⟨I, map_get hx30⟩, J⟩ (AO.act [] I (AX.callL I (.refl _) h1 I (.rest _) I (hg1 _ _ hx54) dS (by rintro _ _ ⟨rfl, _⟩; rfl) ?_)))
 rintro _ ⟨_, rfl, -⟩
 refine AO.nil (AW.ch h I ?_ ?_)
 intro hc55 h
 refine AW.z I ?_
 obtain rfl := hb48 _ (oi h).symm
 replace h := hR47
 replace h := se_r h
 obtain rfl := oi h
 exact AW.ret pr
 intro hc55 h
 refine AW.skip (AW.region (AO.r 2 [.k 0 (k26 + 1 : Nat)] I ⟨cast_wr hk27 hm28, J⟩ ?_))
 obtain rfl := oi h
 refine AO.nil ?_
 exact ⟨_, _, _, I, ⟨I, I⟩, ⟨I, I, I, I, J⟩, [], I, by decide⟩
 rintro st38 s ob ⟨rfl, rfl⟩ he
 subst he
 have h := se_l hR47
 have hk27f : decide (((s_0.length : Nat) : Int) < (s_0.length : Int)) = false := by simp
 refine AW.z I (AW.seqG (fun y57 hy57 => (AW.condK (v := false) I hk27f (AW.exit ?_))))
 exact lg ⟨(), h, I, I⟩ []
 rintro s ob ⟨j24, h, rfl, rfl⟩
 unfold L.zqyu.J1 at h
 refine AW.z I ?_
 obtain rfl := oi h
 exact AW.ret pr
theorem L.zmkj_ok (s_0 : List ByteArray) (F1 : T) {f1 : FuncId} {p1 s1 : List T} (h1 : fnT F1 = some (f1, p1, s1)) (g1 : ByteArray → Option Bool) (hg1 : ∀ (y0 : ByteArray) r, g1 y0 = some r → ACalls Tryz.env f1 (p1 ++ [.v (.string y0)] ++ s1) [] (fun x new => x = .v (.bool r) ∧ new = [])) (r : Bool) (h : L.zmkj s_0 g1 = some r) : ACalls Tryz.env 112 [.list 1 (s_0.map rS), F1] [] (fun x new => x = .v (.bool r) ∧ new = []) := by
 refine ACalls.of_body Tryz.func112 rfl rfl rfl (fun C hC => ?_)
 unfold L.zmkj at h
 refine AW.z I (AW.seq ?_)
 obtain ⟨r1, hx2, h⟩ := ob_some h
 refine AW.region (AO.q 2 I (AO.c (L.zqyu_ok _ F1 h1 g1 hg1 _ hx2) (AO.q 2 I (AO.nil ?_))))
 obtain rfl := oi h
 exact AW.ret pr
theorem L.zbuy_ok (s_0 : List Segment) (F1 : T) {f1 : FuncId} {p1 s1 : List T} (h1 : fnT F1 = some (f1, p1, s1)) (g1 : Segment → Option Bool) (hg1 : ∀ (y0 : Segment) r, g1 y0 = some r → ACalls Tryz.env f1 (p1 ++ [.agg (Segment.row y0)] ++ s1) [] (fun x new => x = .v (.bool r) ∧ new = [])) (r : Int) (h : L.zbuy s_0 g1 = some r) : ACalls Tryz.env 167 [.list 7 (s_0.map Segment.row), F1] [] (fun x new => x = .V r ∧ new = []) := by
 refine ACalls.of_body Tryz.func167 rfl rfl rfl (fun C hC => ?_)
 unfold L.zbuy at h
 refine AW.z I (AW.cutX (fun s ob => ∃ (j24 : Unit), L.zbuy.J1 j24 = some r ∧ s = [] ∧ ob = []) [] J ?_ ?_)
 refine AW.zr [.l 1 (s_0.length : Int)] I ⟨len_m, J⟩ (AW.block (AW.listMax 6 I (fun hm28 => ?_)))
 replace hm28 : s_0.length ≤ 9223372036854775806 := by rw [List.length_map] at hm28; omega
 obtain ⟨o45, hL46, hR47⟩ := ob_some h
 clear h
 refine AW.forX hL46 [(0, _), (1, _), (7, _)] ⟨I, I, I, J⟩ (fun (k26 : Nat) (st38 : Unit) s ob => s = [(8, .V (k26 : Int))] ∧ ob = []) ⟨I, I⟩ ⟨I, J⟩ ⟨[], I, by decide⟩ ?_ ?_
 rintro k26 x29 st38 r49 s ob hx30 hk27 ⟨rfl, rfl⟩ h hb48
 unfold L.zbuy.B2 at h
 have hk27t : decide ((k26 : Int) < (s_0.length : Int)) = true := decide_eq_true (by omega)
 refine AW.z I (AW.seqG (fun y51 hy51 => (AW.condK (v := true) I hk27t (AW.skip ?_))))
 subst hy51
 refine AW.seq (AW.block (AW.z I (AW.seq ?_)))
 obtain ⟨r53, hx54, h⟩ := ob_some h
 refine AW.region (AO.r 5 [.x 3 k26 (Segment.row x29)] I ⟨⟨I, map_get hx30⟩, J⟩ (AO.act [] I (AX.callL I (.refl _) h1 I (.rest _) I (hg1 _ _ hx54) dS (by rintro _ _ ⟨rfl, _⟩; rfl) ?_)))
 rintro _ ⟨_, rfl, -⟩
 refine AO.nil (AW.ch h I ?_ ?_)
 intro hc55 h
 refine AW.z I ?_
 obtain rfl := hb48 _ (oi h).symm
 replace h := hR47
 replace h := se_r h
 obtain rfl := oi h
 exact AW.ret pr
 intro hc55 h
 refine AW.skip (AW.region (AO.r 2 [.k 0 (k26 + 1 : Nat)] I ⟨cast_wr hk27 hm28, J⟩ ?_))
 obtain rfl := oi h
 refine AO.nil ?_
 exact ⟨_, _, _, I, ⟨I, I⟩, ⟨I, I, I, I, J⟩, [], I, by decide⟩
 rintro st38 s ob ⟨rfl, rfl⟩ he
 subst he
 have h := se_l hR47
 have hk27f : decide (((s_0.length : Nat) : Int) < (s_0.length : Int)) = false := by simp
 refine AW.z I (AW.seqG (fun y57 hy57 => (AW.condK (v := false) I hk27f (AW.exit ?_))))
 exact lg ⟨(), h, I, I⟩ []
 rintro s ob ⟨j24, h, rfl, rfl⟩
 unfold L.zbuy.J1 at h
 refine AW.z I ?_
 obtain rfl := oi h
 exact AW.ret pr
theorem L.zwuu_ok (s_0 : List Segment) (F1 : T) {f1 : FuncId} {p1 s1 : List T} (h1 : fnT F1 = some (f1, p1, s1)) (g1 : Segment → Option Bool) (hg1 : ∀ (y0 : Segment) r, g1 y0 = some r → ACalls Tryz.env f1 (p1 ++ [.agg (Segment.row y0)] ++ s1) [] (fun x new => x = .v (.bool r) ∧ new = [])) (r : Bool) (h : L.zwuu s_0 g1 = some r) : ACalls Tryz.env 145 [.list 7 (s_0.map Segment.row), F1] [] (fun x new => x = .v (.bool r) ∧ new = []) := by
 refine ACalls.of_body Tryz.func145 rfl rfl rfl (fun C hC => ?_)
 unfold L.zwuu at h
 refine AW.z I (AW.seq ?_)
 obtain ⟨r1, hx2, h⟩ := ob_some h
 refine AW.region (AO.q 2 I (AO.c (L.zbuy_ok _ F1 h1 g1 hg1 _ hx2) (AO.q 2 I (AO.nil ?_))))
 obtain rfl := oi h
 exact AW.ret pr
theorem L.zobp_ok (s_0 : List Port) (F1 : T) {f1 : FuncId} {p1 s1 : List T} (h1 : fnT F1 = some (f1, p1, s1)) (g1 : Port → Option Bool) (hg1 : ∀ (y0 : Port) r, g1 y0 = some r → ACalls Tryz.env f1 (p1 ++ [.agg (Port.row y0)] ++ s1) [] (fun x new => x = .v (.bool r) ∧ new = [])) (r : Int) (h : L.zobp s_0 g1 = some r) : ACalls Tryz.env 168 [.list 3 (s_0.map Port.row), F1] [] (fun x new => x = .V r ∧ new = []) := by
 refine ACalls.of_body Tryz.func168 rfl rfl rfl (fun C hC => ?_)
 unfold L.zobp at h
 refine AW.z I (AW.cutX (fun s ob => ∃ (j24 : Unit), L.zobp.J1 j24 = some r ∧ s = [] ∧ ob = []) [] J ?_ ?_)
 refine AW.zr [.l 1 (s_0.length : Int)] I ⟨len_m, J⟩ (AW.block (AW.listMax 6 I (fun hm28 => ?_)))
 replace hm28 : s_0.length ≤ 9223372036854775806 := by rw [List.length_map] at hm28; omega
 obtain ⟨o45, hL46, hR47⟩ := ob_some h
 clear h
 refine AW.forX hL46 [(0, _), (1, _), (7, _)] ⟨I, I, I, J⟩ (fun (k26 : Nat) (st38 : Unit) s ob => s = [(8, .V (k26 : Int))] ∧ ob = []) ⟨I, I⟩ ⟨I, J⟩ ⟨[], I, by decide⟩ ?_ ?_
 rintro k26 x29 st38 r49 s ob hx30 hk27 ⟨rfl, rfl⟩ h hb48
 unfold L.zobp.B2 at h
 have hk27t : decide ((k26 : Int) < (s_0.length : Int)) = true := decide_eq_true (by omega)
 refine AW.z I (AW.seqG (fun y51 hy51 => (AW.condK (v := true) I hk27t (AW.skip ?_))))
 subst hy51
 refine AW.seq (AW.block (AW.z I (AW.seq ?_)))
 obtain ⟨r53, hx54, h⟩ := ob_some h
 refine AW.region (AO.r 5 [.x 3 k26 (Port.row x29)] I ⟨⟨I, map_get hx30⟩, J⟩ (AO.act [] I (AX.callL I (.refl _) h1 I (.rest _) I (hg1 _ _ hx54) dS (by rintro _ _ ⟨rfl, _⟩; rfl) ?_)))
 rintro _ ⟨_, rfl, -⟩
 refine AO.nil (AW.ch h I ?_ ?_)
 intro hc55 h
 refine AW.z I ?_
 obtain rfl := hb48 _ (oi h).symm
 replace h := hR47
 replace h := se_r h
 obtain rfl := oi h
 exact AW.ret pr
 intro hc55 h
 refine AW.skip (AW.region (AO.r 2 [.k 0 (k26 + 1 : Nat)] I ⟨cast_wr hk27 hm28, J⟩ ?_))
 obtain rfl := oi h
 refine AO.nil ?_
 exact ⟨_, _, _, I, ⟨I, I⟩, ⟨I, I, I, I, J⟩, [], I, by decide⟩
 rintro st38 s ob ⟨rfl, rfl⟩ he
 subst he
 have h := se_l hR47
 have hk27f : decide (((s_0.length : Nat) : Int) < (s_0.length : Int)) = false := by simp
 refine AW.z I (AW.seqG (fun y57 hy57 => (AW.condK (v := false) I hk27f (AW.exit ?_))))
 exact lg ⟨(), h, I, I⟩ []
 rintro s ob ⟨j24, h, rfl, rfl⟩
 unfold L.zobp.J1 at h
 refine AW.z I ?_
 obtain rfl := oi h
 exact AW.ret pr
theorem L.zdru_ok (s_0 : List Port) (F1 : T) {f1 : FuncId} {p1 s1 : List T} (h1 : fnT F1 = some (f1, p1, s1)) (g1 : Port → Option Bool) (hg1 : ∀ (y0 : Port) r, g1 y0 = some r → ACalls Tryz.env f1 (p1 ++ [.agg (Port.row y0)] ++ s1) [] (fun x new => x = .v (.bool r) ∧ new = [])) (r : Bool) (h : L.zdru s_0 g1 = some r) : ACalls Tryz.env 155 [.list 3 (s_0.map Port.row), F1] [] (fun x new => x = .v (.bool r) ∧ new = []) := by
 refine ACalls.of_body Tryz.func155 rfl rfl rfl (fun C hC => ?_)
 unfold L.zdru at h
 refine AW.z I (AW.seq ?_)
 obtain ⟨r1, hx2, h⟩ := ob_some h
 refine AW.region (AO.q 2 I (AO.c (L.zobp_ok _ F1 h1 g1 hg1 _ hx2) (AO.q 2 I (AO.nil ?_))))
 obtain rfl := oi h
 exact AW.ret pr
theorem L.zywf_ok (s_0 : List Station) (F1 : T) {f1 : FuncId} {p1 s1 : List T} (h1 : fnT F1 = some (f1, p1, s1)) (g1 : Station → Option Bool) (hg1 : ∀ (y0 : Station) r, g1 y0 = some r → ACalls Tryz.env f1 (p1 ++ [.agg (Station.row y0)] ++ s1) [] (fun x new => x = .v (.bool r) ∧ new = [])) (r : Int) (h : L.zywf s_0 g1 = some r) : ACalls Tryz.env 150 [.list 5 (s_0.map Station.row), F1] [] (fun x new => x = .V r ∧ new = []) := by
 refine ACalls.of_body Tryz.func150 rfl rfl rfl (fun C hC => ?_)
 unfold L.zywf at h
 refine AW.z I (AW.cutX (fun s ob => ∃ (j24 : Unit), L.zywf.J1 j24 = some r ∧ s = [] ∧ ob = []) [] J ?_ ?_)
 refine AW.zr [.l 1 (s_0.length : Int)] I ⟨len_m, J⟩ (AW.block (AW.listMax 6 I (fun hm28 => ?_)))
 replace hm28 : s_0.length ≤ 9223372036854775806 := by rw [List.length_map] at hm28; omega
 obtain ⟨o45, hL46, hR47⟩ := ob_some h
 clear h
 refine AW.forX hL46 [(0, _), (1, _), (7, _)] ⟨I, I, I, J⟩ (fun (k26 : Nat) (st38 : Unit) s ob => s = [(8, .V (k26 : Int))] ∧ ob = []) ⟨I, I⟩ ⟨I, J⟩ ⟨[], I, by decide⟩ ?_ ?_
 rintro k26 x29 st38 r49 s ob hx30 hk27 ⟨rfl, rfl⟩ h hb48
 unfold L.zywf.B2 at h
 have hk27t : decide ((k26 : Int) < (s_0.length : Int)) = true := decide_eq_true (by omega)
 refine AW.z I (AW.seqG (fun y51 hy51 => (AW.condK (v := true) I hk27t (AW.skip ?_))))
 subst hy51
 refine AW.seq (AW.block (AW.z I (AW.seq ?_)))
 obtain ⟨r53, hx54, h⟩ := ob_some h
 refine AW.region (AO.r 5 [.x 3 k26 (Station.row x29)] I ⟨⟨I, map_get hx30⟩, J⟩ (AO.act [] I (AX.callL I (.refl _) h1 I (.rest _) I (hg1 _ _ hx54) dS (by rintro _ _ ⟨rfl, _⟩; rfl) ?_)))
 rintro _ ⟨_, rfl, -⟩
 refine AO.nil (AW.ch h I ?_ ?_)
 intro hc55 h
 refine AW.z I ?_
 obtain rfl := hb48 _ (oi h).symm
 replace h := hR47
 replace h := se_r h
 obtain rfl := oi h
 exact AW.ret pr
 intro hc55 h
 refine AW.skip (AW.region (AO.r 2 [.k 0 (k26 + 1 : Nat)] I ⟨cast_wr hk27 hm28, J⟩ ?_))
 obtain rfl := oi h
 refine AO.nil ?_
 exact ⟨_, _, _, I, ⟨I, I⟩, ⟨I, I, I, I, J⟩, [], I, by decide⟩
 rintro st38 s ob ⟨rfl, rfl⟩ he
 subst he
 have h := se_l hR47
 have hk27f : decide (((s_0.length : Nat) : Int) < (s_0.length : Int)) = false := by simp
 refine AW.z I (AW.seqG (fun y57 hy57 => (AW.condK (v := false) I hk27f (AW.exit ?_))))
 exact lg ⟨(), h, I, I⟩ []
 rintro s ob ⟨j24, h, rfl, rfl⟩
 unfold L.zywf.J1 at h
 refine AW.z I ?_
 obtain rfl := oi h
 exact AW.ret pr
theorem L.ztlc_ok (s_0 : List Station) (F1 : T) {f1 : FuncId} {p1 s1 : List T} (h1 : fnT F1 = some (f1, p1, s1)) (g1 : Station → Option Bool) (hg1 : ∀ (y0 : Station) r, g1 y0 = some r → ACalls Tryz.env f1 (p1 ++ [.agg (Station.row y0)] ++ s1) [] (fun x new => x = .v (.bool r) ∧ new = [])) (r : Bool) (h : L.ztlc s_0 g1 = some r) : ACalls Tryz.env 158 [.list 5 (s_0.map Station.row), F1] [] (fun x new => x = .v (.bool r) ∧ new = []) := by
 refine ACalls.of_body Tryz.func158 rfl rfl rfl (fun C hC => ?_)
 unfold L.ztlc at h
 refine AW.z I (AW.seq ?_)
 obtain ⟨r1, hx2, h⟩ := ob_some h
 refine AW.region (AO.q 2 I (AO.c (L.zywf_ok _ F1 h1 g1 hg1 _ hx2) (AO.q 2 I (AO.nil ?_))))
 obtain rfl := oi h
 exact AW.ret pr
theorem L.zzec_ok (s_0 : Segment) (r : Bool) (h : L.zzec s_0 = r) : ACalls Tryz.env 146 [.agg (Segment.row s_0)] [] (fun x new => x = .v (.bool r) ∧ new = []) := by
 refine ACalls.of_body Tryz.func146 rfl rfl rfl (fun C hC => ?_)
 unfold L.zzec at h
 refine AW.seqG (fun y1 hy1 => (AW.region (AO.act [] I (AX.box (cs := Segment.row s_0) (m := 7) I I I dS (fun b2 => (AO.q 1 I (AO.nil ?_)))))))
 subst hy1
 refine AW.cutX (fun s ob => s = [(2, .v (.bool (decide ((s_0.Points.length : Int) < 2) || decide ((s_0.Points.length : Int) > 8))))] ∧ ob = []) [] J ?_ ?_
 refine AW.region (AO.r 5 [.o 1 0, .l 2 (s_0.Points.length : Int)] I ⟨len_m, I, J⟩ ?_)
 rcases bt (decide ((s_0.Points.length : Int) < 2)) with hg5 | hg5
 refine AO.known 7 I hg5 (AO.q 6 I (AO.nil ?_))
 exact lf ⟨I, I⟩ ⟨(get_b (by simp only [hg5, bz])), J⟩ [] I
 refine AO.known 7 I hg5 (AO.r 6 [.o 1 0, .l 2 (s_0.Points.length : Int)] I ⟨len_m, I, J⟩ (AO.nil ?_))
 exact lf ⟨I, I⟩ ⟨(get_b (by simp only [hg5, bz])), J⟩ [] I
 rintro s ob ⟨rfl, rfl⟩
 obtain rfl := h
 exact AW.ret pr
theorem L.znhd_ok (n_0 : Network) (r : Bool) (h : L.znhd n_0 = some r) : ACalls Tryz.env 110 [.agg (Network.row n_0)] [] (fun x new => x = .v (.bool r) ∧ new = []) := by
 refine ACalls.of_body Tryz.func110 rfl rfl rfl (fun C hC => ?_)
 unfold L.znhd at h
 refine AW.seqG (fun y1 hy1 => (AW.region (AO.act [] I (AX.box (cs := Network.row n_0) (m := 6) I I I dS (fun b2 => (AO.q 1 I (AO.nil ?_)))))))
 subst hy1
 refine AW.seq (AW.cutX (fun s ob => s = [(30, .v (.bool (decide ((n_0.Nodes.length : Int) < 1) || (decide ((n_0.Nodes.length : Int) > 24) || (decide ((n_0.Segments.length : Int) > 32) || (decide ((n_0.Ports.length : Int) > 24) || decide ((n_0.Stations.length : Int) > 12)))))))] ∧ ob = [.arr b2 27 6 1 [Network.row n_0]]) [(1, _)] ⟨I, J⟩ ?_ ?_)
 refine AW.region (AO.r 5 [.o 1 0, .l 2 (n_0.Nodes.length : Int)] I ⟨len_m, I, J⟩ ?_)
 rcases bt (decide ((n_0.Nodes.length : Int) < 1)) with hg8 | hg8
 refine AO.known 7 I hg8 (AO.q 23 I (AO.nil ?_))
 exact lf ⟨I, I⟩ ⟨(get_b (by simp only [hg8, bz])), I, J⟩ [0] I
 refine AO.known 7 I hg8 (AO.r 6 [.o 1 0, .l 2 (n_0.Nodes.length : Int)] I ⟨len_m, I, J⟩ ?_)
 rcases bt (decide ((n_0.Nodes.length : Int) > 24)) with hg9 | hg9
 refine AO.known 13 I hg9 (AO.q 17 I (AO.nil ?_))
 exact lf ⟨I, I⟩ ⟨(get_b (by simp only [hg8, hg9, bz])), I, J⟩ [0] I
 refine AO.known 13 I hg9 (AO.r 6 [.o 1 0, .l 2 (n_0.Segments.length : Int)] I ⟨len_m, I, J⟩ ?_)
 rcases bt (decide ((n_0.Segments.length : Int) > 32)) with hg10 | hg10
 refine AO.known 19 I hg10 (AO.q 11 I (AO.nil ?_))
 exact lf ⟨I, I⟩ ⟨(get_b (by simp only [hg8, hg9, hg10, bz])), I, J⟩ [0] I
 refine AO.known 19 I hg10 (AO.r 6 [.o 1 0, .l 2 (n_0.Ports.length : Int)] I ⟨len_m, I, J⟩ ?_)
 rcases bt (decide ((n_0.Ports.length : Int) > 24)) with hg11 | hg11
 refine AO.known 25 I hg11 (AO.q 5 I (AO.nil ?_))
 exact lf ⟨I, I⟩ ⟨(get_b (by simp only [hg8, hg9, hg10, hg11, bz])), I, J⟩ [0] I
 refine AO.known 25 I hg11 (AO.r 5 [.o 1 0, .l 2 (n_0.Stations.length : Int)] I ⟨len_m, I, J⟩ (AO.nil ?_))
 exact lf ⟨I, I⟩ ⟨(get_b (by simp only [hg8, hg9, hg10, hg11, bz])), I, J⟩ [0] I
 rintro s ob ⟨rfl, rfl⟩
 refine AW.ch h I ?_ ?_
 intro hc12 h
 refine AW.z I (AW.ghost g0 ?_)
 obtain rfl := oi h
 exact AW.ret pr
 intro hc12 h
 refine AW.skip (AW.seq ?_)
 obtain ⟨r13, hx14, h⟩ := ob_some h
 refine AW.region (AO.r 2 [.o 1 0] I ⟨I, J⟩ (AO.c (L.zwuu_ok _ (.v (.func (.func 146) #[] #[])) I (fun x => some (L.zzec x)) (fun x r h => by obtain I := oi h; exact L.zzec_ok x _ I) _ hx14) (AO.q 2 I (AO.nil (AW.ghost g0 ?_)))))
 obtain rfl := oi h
 exact AW.ret pr
theorem L.zsgw_ok (n_0 : Network) (p_1 : Plan) (r : List Int) (h : L.zsgw n_0 p_1 = some r) : ACalls Tryz.env 75 [.agg (Network.row n_0), .agg (Plan.row p_1)] [] (fun x new => ∃ (u0 : Value), x = .v u0 ∧ new = [.us u0 3 1 (r.map rI)]) := by
 refine ACalls.of_body Tryz.func75 rfl rfl rfl (fun C hC => ?_)
 unfold L.zsgw at h
 refine AW.seqG (fun y1 hy1 => (AW.region (AO.act [] I (AX.box (cs := Network.row n_0) (m := 6) I I I dS (fun b2 => (AO.act [] I (AX.box (cs := Plan.row p_1) (m := 3) I I I dS (fun b3 => (AO.q 1 I (AO.nil ?_))))))))))
 subst hy1
 refine AW.scope (AW.z I (AW.seqG (fun y5 hy5 => ?_)))
 obtain ⟨l6, hx7, h⟩ := ob_some h
 obtain ⟨m8, hx7i, hx7m, hx7r⟩ := mk_some hx7
 refine AW.region (AO.r 3 [.o 1 0, .l 2 (n_0.Nodes.length : Int)] I ⟨len_m, I, J⟩ (AO.act [] I (AX.makeU (sz := 1) I I I I I I I I I I hx7i hx7m (rep_map (f := rB) hx7r I) dS (fun v9 => (AO.q 1 I (AO.nil ?_))))))
 subst hy5
 refine AW.seqG (fun y10 hy10 => (AW.label ?_))
 subst hy10
 refine AW.cutX (fun s ob => ∃ (j165 : List Int) (v166 : Value), L.zsgw.J1 j165 = some r ∧ s = [(5, .v v166)] ∧ ob = [.us v166 3 1 (j165.map rI)]) [] J ?_ ?_
 refine AW.z I (AW.block (AW.ghost (Ghost.nilU 3 1) ?_))
 obtain ⟨o321, hL322, hR323⟩ := ob_some h
 clear h
 refine AW.loopX hL322 [(2, _), (3, _), (6, _)] ⟨I, I, I, J⟩ (fun (st270 : (List Int) × (List Bool) × Int) s ob => ∃ (v271 : Value), s = [(5, .v v271), (7, .V st270.2.2)] ∧ ob = [.arr b2 27 6 1 [Network.row n_0], .arr b3 32 3 1 [Plan.row p_1], .us v9 4 1 (st270.2.1.map rB), .us v271 3 1 (st270.1.map rI)]) ⟨(.slice none 0 0), I, I⟩ ⟨I, I, J⟩ ⟨[0, 1, 2, 3], I, by decide⟩ ?_
 rintro st270 r325 s ob ⟨v271, rfl, rfl⟩ h hb324
 unfold L.zsgw.B2 at h
 refine AW.seqG (fun y326 hy326 => (AW.zr [.o 2 0, .l 3 (n_0.Nodes.length : Int)] I ⟨len_m, I, J⟩ (AW.ch h I ?_ ?_)))
 intro hc327 h
 refine AW.skip ?_
 subst hy326
 refine AW.cutX (fun s ob => ∃ (j373 : (List Int) × (List Bool) × Int) (v374 : Value), L.zsgw.J3 j373 = some r325 ∧ s = [(5, .v v374), (7, .V j373.2.2)] ∧ ob = [.arr b2 27 6 1 [Network.row n_0], .arr b3 32 3 1 [Plan.row p_1], .us v9 4 1 (j373.2.1.map rB), .us v374 3 1 (j373.1.map rI)]) [(2, _), (3, _), (6, _)] ⟨I, I, I, J⟩ ?_ ?_
 refine AW.block (AW.seqG (fun y375 hy375 => (AW.seq ?_)))
 obtain ⟨p376, hp377, h⟩ := ob_some h
 obtain ⟨hp377i, hp377x⟩ := ix_some hp377
 refine AW.region (AO.q 2 I (AO.d (Yd.indexU 2 (m := p376.1) I I I I I I I hp377i (map_get hp377x)) I (AO.d (Yd.loadU 2 p376.1 0 I I I (map_get hp377x) I (y := .v (.bool p376.2)) I) I (AO.nil (AW.ch h I ?_ ?_)))))
 intro hc378 h
 refine AW.exit ?_
 exact lg ⟨(st270.1, st270.2.1, st270.2.2), v271, h, I, I⟩ [0, 1, 2, 3]
 intro hc378 h
 refine AW.skip ?_
 subst hy375
 refine AW.cutX (fun s ob => ∃ (j415 : Unit), L.zsgw.J4 st270 p376 j415 = some r325 ∧ s = [] ∧ ob = [.arr b2 27 6 1 [Network.row n_0], .arr b3 32 3 1 [Plan.row p_1], .us v9 4 1 (st270.2.1.map rB), .us v271 3 1 (st270.1.map rI)]) [(2, _), (3, _), (5, _), (6, _), (7, _)] ⟨I, I, I, I, I, J⟩ ?_ ?_
 refine AW.zr [.o 1 0, .l 2 (n_0.Segments.length : Int)] I ⟨len_m, I, J⟩ (AW.block (AW.listMax 28 I (fun hm423 => ?_)))
 replace hm423 : n_0.Segments.length ≤ 9223372036854775806 := by rw [List.length_map] at hm423; omega
 obtain ⟨o454, hL455, hR456⟩ := ob_some h
 clear h
 refine AW.forX hL455 [(2, _), (3, _), (5, _), (6, _), (7, _), (28, _), (29, _)] ⟨I, I, I, I, I, I, I, J⟩ (fun (k421 : Nat) (st440 : Unit) s ob => s = [(30, .V (k421 : Int))] ∧ ob = [.arr b2 27 6 1 [Network.row n_0], .arr b3 32 3 1 [Plan.row p_1], .us v9 4 1 (st270.2.1.map rB), .us v271 3 1 (st270.1.map rI)]) ⟨I, I⟩ ⟨I, J⟩ ⟨[0, 1, 2, 3], I, by decide⟩ ?_ ?_
 rintro k421 x424 st440 r458 s ob hx425 hk422 ⟨rfl, rfl⟩ h hb457
 unfold L.zsgw.B5 at h
 have hk422t : decide ((k421 : Int) < (n_0.Segments.length : Int)) = true := decide_eq_true (by omega)
 refine AW.z I (AW.seqG (fun y460 hy460 => (AW.condK (v := true) I hk422t (AW.skip ?_))))
 subst hy460
 refine AW.seq (AW.block (AW.seqG (fun y461 hy461 => (AW.region (AO.r 3 [.x 1 k421 (Segment.row x424)] I ⟨⟨I, map_get hx425⟩, J⟩ (AO.act [] I (AX.alloc (cs := [.v (.string ⟨#[]⟩), .V 0, .V 0, .V 0, .V 0, .V 0, .v (.slice none 0 0)]) (m := 7) I I I I I dS (fun b462 => (AO.q 1 I (AO.act [4] I (AX.store 4 0 0 (es' := [Segment.row x424]) I I I I I I I I (le_ble I) I I (AO.nil ?_))))))))))))
 subst hy461
 refine AW.seqG (fun y463 hy463 => ?_)
 obtain ⟨p464, hp465, h⟩ := ob_some h
 obtain ⟨hp465i, hp465x⟩ := ix_some hp465
 refine AW.rd (pd 12 0 [6]) [4, 1] [_, _] I (AP.r 6 [.o 0 0, .o 2 1, .x 4 p464.1 (rI p464.2)] I ⟨⟨hp465i, map_get hp465x⟩, I, I, J⟩ (AP.c I (L.ztzg_ok x424 p464.2 _ I) (AP.q 5 I (AP.ofAO (AO.nil ?_)))))
 subst hy463
 refine AW.cutX (fun s ob => ∃ (j470 : Bool), L.zsgw.J6 st270 j470 = some r458 ∧ s = [(62, .v (.bool j470))] ∧ ob = [.arr b2 27 6 1 [Network.row n_0], .arr b3 32 3 1 [Plan.row p_1], .us v9 4 1 (st270.2.1.map rB), .us v271 3 1 (st270.1.map rI)]) [(2, _), (3, _), (5, _), (6, _), (7, _), (28, _), (29, _), (30, _)] ⟨I, I, I, I, I, I, I, I, J⟩ ?_ ?_
 refine AW.region (AO.r 7 [.o 1 1, .x 3 p464.1 (rI p464.2)] I ⟨⟨hp465i, map_get hp465x⟩, I, J⟩ ?_)
 rcases bt ((p464.2 != 0)) with hg472 | hg472
 replace h := ife_t hg472 h
 refine AO.known 51 I hg472 ?_
 rcases bt ((((L.ztzg x424 p464.2).2) == st270.2.2)) with hg473 | hg473
 replace h := ife_t hg473 h
 obtain ⟨p474, hp475, h⟩ := ob_some h
 obtain ⟨hp475i, hp475x⟩ := ix_some hp475
 refine AO.q 5 I (AO.known 56 I hg473 (AO.q 2 I (AO.gt I I I (AO.d (Yd.indexU 2 (m := p474.1) I I I I I I I hp475i (map_get hp475x)) I (AO.gt I I I (AO.d (Yd.loadU 2 p474.1 0 I I I (map_get hp475x) I (y := .v (.bool p474.2)) I) I (AO.q 2 I (AO.nil ?_))))))))
 exact lg ⟨(!p474.2), h, I, I⟩ [0, 1, 2, 3]
 replace h := ife_f hg473 h
 refine AO.q 5 I (AO.known 56 I hg473 (AO.q 6 I (AO.nil ?_)))
 exact lg ⟨false, h, I, I⟩ [0, 1, 2, 3]
 replace h := ife_f hg472 h
 refine AO.known 51 I hg472 (AO.q 11 I (AO.nil ?_))
 exact lg ⟨false, h, I, I⟩ [0, 1, 2, 3]
 rintro s ob ⟨j470, h, rfl, rfl⟩
 unfold L.zsgw.J6 at h
 refine AW.ch h I ?_ ?_
 intro hc471 h
 obtain rfl := hb457 _ (oi h).symm
 replace h := hR456
 replace h := se_r h
 refine AW.exit ?_
 exact lg ⟨(st270.1, st270.2.1, st270.2.2), v271, h, I, I⟩ [0, 1, 2, 3]
 intro hc471 h
 refine AW.skip (AW.region (AO.r 2 [.k 0 (k421 + 1 : Nat)] I ⟨cast_wr hk422 hm423, J⟩ ?_))
 obtain rfl := oi h
 refine AO.nil ?_
 exact ⟨_, _, _, I, ⟨I, I⟩, ⟨I, I, I, I, I, I, I, I, J⟩, [0, 1, 2, 3], I, by decide⟩
 rintro st440 s ob ⟨rfl, rfl⟩ he
 subst he
 have h := se_l hR456
 have hk422f : decide (((n_0.Segments.length : Nat) : Int) < (n_0.Segments.length : Int)) = false := by simp
 refine AW.z I (AW.seqG (fun y477 hy477 => (AW.condK (v := false) I hk422f (AW.exit ?_))))
 exact lg ⟨(), h, I, I⟩ [0, 1, 2, 3]
 rintro s ob ⟨j415, h, rfl, rfl⟩
 unfold L.zsgw.J4 at h
 refine AW.seq (AW.region (AO.q 2 I (AO.d (Yd.indexU 2 (m := p376.1) I I I I I I I hp377i (map_get hp377x)) I (AO.act [2] I (AX.storeU 2 p376.1 0 I I I (map_get hp377x) I I I I (le_ble I) I (us_set (x := true) I) (AO.nil (AW.seq ?_)))))))
 obtain ⟨l417, hx418, h⟩ := ob_some h
 refine AW.region (AO.q 2 I (AO.act [] I (AX.lt 1 (([st270.2.2] : List Int).map rI) (AO.act [3] I (AX.ap 3 I hx418 (fun v419 => (AO.q 1 I (AO.nil (AW.t I ?_)))))))))
 exact lg ⟨(l417, (st270.2.1.set p376.1 true), (-1)), v419, h, I, I⟩ [0, 1, 2, 3]
 rintro s ob ⟨j373, v374, h, rfl, rfl⟩
 unfold L.zsgw.J3 at h
 refine AW.region (AO.q 3 I ?_)
 obtain rfl := oi h
 refine AO.nil ?_
 exact ⟨_, _, _, I, ⟨v374, I, I⟩, ⟨I, I, I, I, I, J⟩, [0, 1, 2, 3], I, by decide⟩
 intro hc327 h
 obtain rfl := hb324 _ (oi h).symm
 replace h := hR323
 refine AW.exit ?_
 exact lg ⟨st270.1, v271, h, I, I⟩ [3]
 rintro s ob ⟨j165, v166, h, rfl, rfl⟩
 unfold L.zsgw.J1 at h
 refine AW.z I ?_
 obtain rfl := oi h
 exact AW.ret ⟨.inr I, [_], [.us v166 3 1 (j165.map rI)], ⟨I, J⟩, sl_c I (sl_n), ⟨v166, I, I⟩⟩
end Go.Proofs.YtehbcbedipkifaaGreatDoor
