/- Walks that show what functions of the program compute; printed by a program of ours. No condition. -/
import Derived.Test.YtncfbhnecmnfpaaGreatDoorTab
import Derived.Test.YtncfbhnecmnfpaaGreatDoorD
import Derived.Test.YtncfbhnecmnfpaaGreatDoorBwRun
namespace Go.Proofs.YtncfbhnecmnfpaaGreatDoor
open Go.Aw
set_option linter.unusedVariables false
set_option linter.unusedSimpArgs false
set_option maxRecDepth 100000
set_option maxHeartbeats 4000000

theorem L.network_in_ok (n_0 : Int) (least_1 : Int) (most_2 : Int) (r : Bool) (h : L.network_in n_0 least_1 most_2 = r) : ACalls Tryz.env 130 [.v (.int .i64 n_0), .v (.int .i64 least_1), .v (.int .i64 most_2)] [] (fun x new => x = .v (.bool r) ∧ new = []) := by
 refine ACalls.of_body Tryz.func130 rfl rfl rfl (fun C hC => ?_)
 unfold L.network_in at h
 refine AW.z I (AW.cutX (fun s ob => s = [(6, .v (.bool (decide (n_0 ≥ least_1) && decide (n_0 ≤ most_2))))] ∧ ob = []) [] trivial ?_ ?_)
 rcases Bool.eq_false_or_eq_true (decide (n_0 ≥ least_1)) with hg3 | hg3
 refine AW.region (AO.q 4 I (AO.known 10 I hg3 (AO.q 5 I (AO.nil ?_))))
 exact lf ⟨I, I⟩ ⟨(get_b (by simp only [hg3, bz])), trivial⟩ [] I
 refine AW.region (AO.q 4 I (AO.known 10 I hg3 (AO.q 5 I (AO.nil ?_))))
 exact lf ⟨I, I⟩ ⟨(get_b (by simp only [hg3, bz])), trivial⟩ [] I
 rintro s ob ⟨rfl, rfl⟩
 obtain rfl := h
 exact AW.ret ⟨.inr I, [_], [], ⟨I, trivial⟩, sl_n, I, I⟩

theorem L.slices_Index_string_string_ok (s_0 : List ByteArray) (v_1 : ByteArray) (r : Int) (h : L.slices_Index_string_string s_0 v_1 = some r) : ACalls Tryz.env 121 [.list 1 (s_0.map rS), .v (.string v_1)] [] (fun x new => x = .v (.int .i64 r) ∧ new = []) := by
 refine ACalls.of_body Tryz.func121 rfl rfl rfl (fun C hC => ?_)
 unfold L.slices_Index_string_string at h
 refine AW.z I (AW.cutX (fun s ob => ∃ (j20 : Unit), L.slices_Index_string_string.J1 j20 = some r ∧ s = [] ∧ ob = []) [] trivial ?_ ?_)
 refine AW.zr [.l 1 (s_0.length : Int)] I ⟨len_m, trivial⟩ (AW.block (AW.listMax 6 I (fun hm24 => ?_)))
 replace hm24 : s_0.length ≤ 9223372036854775806 := by rw [List.length_map] at hm24; omega
 obtain ⟨o37, hL38, hR39⟩ := ob_some h
 clear h
 refine AW.forX hL38 [(0, _), (1, _), (7, _)] ⟨I, I, I, trivial⟩ (fun (k22 : Nat) (st32 : Unit) s ob => s = [(8, .v (.int .i64 (k22 : Int)))] ∧ ob = []) ⟨I, I⟩ ⟨I, trivial⟩ ⟨[], I, by decide⟩ ?_ ?_
 rintro k22 x25 st32 r41 s ob hx26 hk23 ⟨rfl, rfl⟩ h hb40
 unfold L.slices_Index_string_string.B2 at h
 have hk23t : decide ((k22 : Int) < (s_0.length : Int)) = true := decide_eq_true (by omega)
 refine AW.z I (AW.seqG (fun y43 hy43 => (AW.condK (v := true) I hk23t (AW.skip ?_))))
 subst hy43
 refine AW.seq (AW.block (AW.z I (AW.seq (AW.region (AO.r 5 [.x 3 k22 (rS x25)] I ⟨⟨I, map_get hx26⟩, trivial⟩ (AO.p (Yp.cmpS (c := sEq v_1 x25) I I I) I (AO.nil (AW.ch h I ?_ ?_))))))))
 intro hc45 h
 refine AW.z I ?_
 obtain rfl := hb40 _ (Option.some.inj h).symm
 replace h := hR39
 replace h := se_r h
 obtain rfl := Option.some.inj h
 exact AW.ret ⟨.inr I, [_], [], ⟨I, trivial⟩, sl_n, I, I⟩
 intro hc45 h
 refine AW.skip (AW.region (AO.r 2 [.k 0 (k22 + 1 : Nat)] I ⟨cast_wr hk23 hm24, trivial⟩ ?_))
 obtain rfl := Option.some.inj h
 refine AO.nil ?_
 exact ⟨_, _, _, I, ⟨I, I⟩, ⟨I, I, I, I, trivial⟩, [], I, by decide⟩
 rintro st32 s ob ⟨rfl, rfl⟩ he
 subst he
 have h := se_l hR39
 have hk23f : decide (((s_0.length : Nat) : Int) < (s_0.length : Int)) = false := by simp
 refine AW.z I (AW.seqG (fun y47 hy47 => (AW.condK (v := false) I hk23f (AW.exit ?_))))
 exact lg ⟨(), h, I, I⟩ []
 rintro s ob ⟨j20, h, rfl, rfl⟩
 unfold L.slices_Index_string_string.J1 at h
 refine AW.z I ?_
 obtain rfl := Option.some.inj h
 exact AW.ret ⟨.inr I, [_], [], ⟨I, trivial⟩, sl_n, I, I⟩

theorem L.slices_IndexFunc_int_int_ok (s_0 : List Int) (F1 : T) {f1 : FuncId} {p1 s1 : List T} (h1 : fnT F1 = some (f1, p1, s1)) (g1 : Int → Option Bool) (hg1 : ∀ (y0 : Int) r, g1 y0 = some r → ACalls Tryz.env f1 (p1 ++ [.v (.int .i64 y0)] ++ s1) [] (fun x new => x = .v (.bool r) ∧ new = [])) (r : Int) (h : L.slices_IndexFunc_int_int s_0 g1 = some r) : ACalls Tryz.env 140 [.list 1 (s_0.map rI), F1] [] (fun x new => x = .v (.int .i64 r) ∧ new = []) := by
 refine ACalls.of_body Tryz.func140 rfl rfl rfl (fun C hC => ?_)
 unfold L.slices_IndexFunc_int_int at h
 refine AW.z I (AW.cutX (fun s ob => ∃ (j24 : Unit), L.slices_IndexFunc_int_int.J1 j24 = some r ∧ s = [] ∧ ob = []) [] trivial ?_ ?_)
 refine AW.zr [.l 1 (s_0.length : Int)] I ⟨len_m, trivial⟩ (AW.block (AW.listMax 6 I (fun hm28 => ?_)))
 replace hm28 : s_0.length ≤ 9223372036854775806 := by rw [List.length_map] at hm28; omega
 obtain ⟨o45, hL46, hR47⟩ := ob_some h
 clear h
 refine AW.forX hL46 [(0, _), (1, _), (7, _)] ⟨I, I, I, trivial⟩ (fun (k26 : Nat) (st38 : Unit) s ob => s = [(8, .v (.int .i64 (k26 : Int)))] ∧ ob = []) ⟨I, I⟩ ⟨I, trivial⟩ ⟨[], I, by decide⟩ ?_ ?_
 rintro k26 x29 st38 r49 s ob hx30 hk27 ⟨rfl, rfl⟩ h hb48
 unfold L.slices_IndexFunc_int_int.B2 at h
 have hk27t : decide ((k26 : Int) < (s_0.length : Int)) = true := decide_eq_true (by omega)
 refine AW.z I (AW.seqG (fun y51 hy51 => (AW.condK (v := true) I hk27t (AW.skip ?_))))
 subst hy51
 refine AW.seq (AW.block (AW.z I (AW.seq ?_)))
 obtain ⟨r53, hx54, h⟩ := ob_some h
 refine AW.region (AO.r 5 [.x 3 k26 (rI x29)] I ⟨⟨I, map_get hx30⟩, trivial⟩ (AO.act [] I (AX.callL I (.refl _) h1 I (.rest _) I (hg1 _ _ hx54) (dst_some I) (by rintro _ _ ⟨rfl, _⟩; rfl) ?_)))
 rintro _ ⟨_, rfl, -⟩
 refine AO.nil (AW.ch h I ?_ ?_)
 intro hc55 h
 refine AW.z I ?_
 obtain rfl := hb48 _ (Option.some.inj h).symm
 replace h := hR47
 replace h := se_r h
 obtain rfl := Option.some.inj h
 exact AW.ret ⟨.inr I, [_], [], ⟨I, trivial⟩, sl_n, I, I⟩
 intro hc55 h
 refine AW.skip (AW.region (AO.r 2 [.k 0 (k26 + 1 : Nat)] I ⟨cast_wr hk27 hm28, trivial⟩ ?_))
 obtain rfl := Option.some.inj h
 refine AO.nil ?_
 exact ⟨_, _, _, I, ⟨I, I⟩, ⟨I, I, I, I, trivial⟩, [], I, by decide⟩
 rintro st38 s ob ⟨rfl, rfl⟩ he
 subst he
 have h := se_l hR47
 have hk27f : decide (((s_0.length : Nat) : Int) < (s_0.length : Int)) = false := by simp
 refine AW.z I (AW.seqG (fun y57 hy57 => (AW.condK (v := false) I hk27f (AW.exit ?_))))
 exact lg ⟨(), h, I, I⟩ []
 rintro s ob ⟨j24, h, rfl, rfl⟩
 unfold L.slices_IndexFunc_int_int.J1 at h
 refine AW.z I ?_
 obtain rfl := Option.some.inj h
 exact AW.ret ⟨.inr I, [_], [], ⟨I, trivial⟩, sl_n, I, I⟩

theorem L.slices_ContainsFunc_int_int_ok (s_0 : List Int) (F1 : T) {f1 : FuncId} {p1 s1 : List T} (h1 : fnT F1 = some (f1, p1, s1)) (g1 : Int → Option Bool) (hg1 : ∀ (y0 : Int) r, g1 y0 = some r → ACalls Tryz.env f1 (p1 ++ [.v (.int .i64 y0)] ++ s1) [] (fun x new => x = .v (.bool r) ∧ new = [])) (r : Bool) (h : L.slices_ContainsFunc_int_int s_0 g1 = some r) : ACalls Tryz.env 124 [.list 1 (s_0.map rI), F1] [] (fun x new => x = .v (.bool r) ∧ new = []) := by
 refine ACalls.of_body Tryz.func124 rfl rfl rfl (fun C hC => ?_)
 unfold L.slices_ContainsFunc_int_int at h
 refine AW.z I (AW.seq ?_)
 obtain ⟨r1, hx2, h⟩ := ob_some h
 refine AW.region (AO.q 2 I (AO.c (L.slices_IndexFunc_int_int_ok s_0 F1 h1 g1 hg1 _ hx2) (AO.q 2 I (AO.nil ?_))))
 obtain rfl := Option.some.inj h
 exact AW.ret ⟨.inr I, [_], [], ⟨I, trivial⟩, sl_n, I, I⟩

theorem L.slices_IndexFunc_string_string_ok (s_0 : List ByteArray) (F1 : T) {f1 : FuncId} {p1 s1 : List T} (h1 : fnT F1 = some (f1, p1, s1)) (g1 : ByteArray → Option Bool) (hg1 : ∀ (y0 : ByteArray) r, g1 y0 = some r → ACalls Tryz.env f1 (p1 ++ [.v (.string y0)] ++ s1) [] (fun x new => x = .v (.bool r) ∧ new = [])) (r : Int) (h : L.slices_IndexFunc_string_string s_0 g1 = some r) : ACalls Tryz.env 120 [.list 1 (s_0.map rS), F1] [] (fun x new => x = .v (.int .i64 r) ∧ new = []) := by
 refine ACalls.of_body Tryz.func120 rfl rfl rfl (fun C hC => ?_)
 unfold L.slices_IndexFunc_string_string at h
 refine AW.z I (AW.cutX (fun s ob => ∃ (j24 : Unit), L.slices_IndexFunc_string_string.J1 j24 = some r ∧ s = [] ∧ ob = []) [] trivial ?_ ?_)
 refine AW.zr [.l 1 (s_0.length : Int)] I ⟨len_m, trivial⟩ (AW.block (AW.listMax 6 I (fun hm28 => ?_)))
 replace hm28 : s_0.length ≤ 9223372036854775806 := by rw [List.length_map] at hm28; omega
 obtain ⟨o45, hL46, hR47⟩ := ob_some h
 clear h
 refine AW.forX hL46 [(0, _), (1, _), (7, _)] ⟨I, I, I, trivial⟩ (fun (k26 : Nat) (st38 : Unit) s ob => s = [(8, .v (.int .i64 (k26 : Int)))] ∧ ob = []) ⟨I, I⟩ ⟨I, trivial⟩ ⟨[], I, by decide⟩ ?_ ?_
 rintro k26 x29 st38 r49 s ob hx30 hk27 ⟨rfl, rfl⟩ h hb48
 unfold L.slices_IndexFunc_string_string.B2 at h
 have hk27t : decide ((k26 : Int) < (s_0.length : Int)) = true := decide_eq_true (by omega)
 refine AW.z I (AW.seqG (fun y51 hy51 => (AW.condK (v := true) I hk27t (AW.skip ?_))))
 subst hy51
 refine AW.seq (AW.block (AW.z I (AW.seq ?_)))
 obtain ⟨r53, hx54, h⟩ := ob_some h
 refine AW.region (AO.r 5 [.x 3 k26 (rS x29)] I ⟨⟨I, map_get hx30⟩, trivial⟩ (AO.act [] I (AX.callL I (.refl _) h1 I (.rest _) I (hg1 _ _ hx54) (dst_some I) (by rintro _ _ ⟨rfl, _⟩; rfl) ?_)))
 rintro _ ⟨_, rfl, -⟩
 refine AO.nil (AW.ch h I ?_ ?_)
 intro hc55 h
 refine AW.z I ?_
 obtain rfl := hb48 _ (Option.some.inj h).symm
 replace h := hR47
 replace h := se_r h
 obtain rfl := Option.some.inj h
 exact AW.ret ⟨.inr I, [_], [], ⟨I, trivial⟩, sl_n, I, I⟩
 intro hc55 h
 refine AW.skip (AW.region (AO.r 2 [.k 0 (k26 + 1 : Nat)] I ⟨cast_wr hk27 hm28, trivial⟩ ?_))
 obtain rfl := Option.some.inj h
 refine AO.nil ?_
 exact ⟨_, _, _, I, ⟨I, I⟩, ⟨I, I, I, I, trivial⟩, [], I, by decide⟩
 rintro st38 s ob ⟨rfl, rfl⟩ he
 subst he
 have h := se_l hR47
 have hk27f : decide (((s_0.length : Nat) : Int) < (s_0.length : Int)) = false := by simp
 refine AW.z I (AW.seqG (fun y57 hy57 => (AW.condK (v := false) I hk27f (AW.exit ?_))))
 exact lg ⟨(), h, I, I⟩ []
 rintro s ob ⟨j24, h, rfl, rfl⟩
 unfold L.slices_IndexFunc_string_string.J1 at h
 refine AW.z I ?_
 obtain rfl := Option.some.inj h
 exact AW.ret ⟨.inr I, [_], [], ⟨I, trivial⟩, sl_n, I, I⟩

theorem L.slices_ContainsFunc_string_string_ok (s_0 : List ByteArray) (F1 : T) {f1 : FuncId} {p1 s1 : List T} (h1 : fnT F1 = some (f1, p1, s1)) (g1 : ByteArray → Option Bool) (hg1 : ∀ (y0 : ByteArray) r, g1 y0 = some r → ACalls Tryz.env f1 (p1 ++ [.v (.string y0)] ++ s1) [] (fun x new => x = .v (.bool r) ∧ new = [])) (r : Bool) (h : L.slices_ContainsFunc_string_string s_0 g1 = some r) : ACalls Tryz.env 97 [.list 1 (s_0.map rS), F1] [] (fun x new => x = .v (.bool r) ∧ new = []) := by
 refine ACalls.of_body Tryz.func97 rfl rfl rfl (fun C hC => ?_)
 unfold L.slices_ContainsFunc_string_string at h
 refine AW.z I (AW.seq ?_)
 obtain ⟨r1, hx2, h⟩ := ob_some h
 refine AW.region (AO.q 2 I (AO.c (L.slices_IndexFunc_string_string_ok s_0 F1 h1 g1 hg1 _ hx2) (AO.q 2 I (AO.nil ?_))))
 obtain rfl := Option.some.inj h
 exact AW.ret ⟨.inr I, [_], [], ⟨I, trivial⟩, sl_n, I, I⟩

theorem L.slices_IndexFunc_api_Segment_api_Segment_ok (s_0 : List Segment) (F1 : T) {f1 : FuncId} {p1 s1 : List T} (h1 : fnT F1 = some (f1, p1, s1)) (g1 : Segment → Option Bool) (hg1 : ∀ (y0 : Segment) r, g1 y0 = some r → ACalls Tryz.env f1 (p1 ++ [.agg (Segment.row y0)] ++ s1) [] (fun x new => x = .v (.bool r) ∧ new = [])) (r : Int) (h : L.slices_IndexFunc_api_Segment_api_Segment s_0 g1 = some r) : ACalls Tryz.env 139 [.list 7 (s_0.map Segment.row), F1] [] (fun x new => x = .v (.int .i64 r) ∧ new = []) := by
 refine ACalls.of_body Tryz.func139 rfl rfl rfl (fun C hC => ?_)
 unfold L.slices_IndexFunc_api_Segment_api_Segment at h
 refine AW.z I (AW.cutX (fun s ob => ∃ (j24 : Unit), L.slices_IndexFunc_api_Segment_api_Segment.J1 j24 = some r ∧ s = [] ∧ ob = []) [] trivial ?_ ?_)
 refine AW.zr [.l 1 (s_0.length : Int)] I ⟨len_m, trivial⟩ (AW.block (AW.listMax 6 I (fun hm28 => ?_)))
 replace hm28 : s_0.length ≤ 9223372036854775806 := by rw [List.length_map] at hm28; omega
 obtain ⟨o45, hL46, hR47⟩ := ob_some h
 clear h
 refine AW.forX hL46 [(0, _), (1, _), (7, _)] ⟨I, I, I, trivial⟩ (fun (k26 : Nat) (st38 : Unit) s ob => s = [(8, .v (.int .i64 (k26 : Int)))] ∧ ob = []) ⟨I, I⟩ ⟨I, trivial⟩ ⟨[], I, by decide⟩ ?_ ?_
 rintro k26 x29 st38 r49 s ob hx30 hk27 ⟨rfl, rfl⟩ h hb48
 unfold L.slices_IndexFunc_api_Segment_api_Segment.B2 at h
 have hk27t : decide ((k26 : Int) < (s_0.length : Int)) = true := decide_eq_true (by omega)
 refine AW.z I (AW.seqG (fun y51 hy51 => (AW.condK (v := true) I hk27t (AW.skip ?_))))
 subst hy51
 refine AW.seq (AW.block (AW.z I (AW.seq ?_)))
 obtain ⟨r53, hx54, h⟩ := ob_some h
 refine AW.region (AO.r 5 [.x 3 k26 (Segment.row x29)] I ⟨⟨I, map_get hx30⟩, trivial⟩ (AO.act [] I (AX.callL I (.refl _) h1 I (.rest _) I (hg1 _ _ hx54) (dst_some I) (by rintro _ _ ⟨rfl, _⟩; rfl) ?_)))
 rintro _ ⟨_, rfl, -⟩
 refine AO.nil (AW.ch h I ?_ ?_)
 intro hc55 h
 refine AW.z I ?_
 obtain rfl := hb48 _ (Option.some.inj h).symm
 replace h := hR47
 replace h := se_r h
 obtain rfl := Option.some.inj h
 exact AW.ret ⟨.inr I, [_], [], ⟨I, trivial⟩, sl_n, I, I⟩
 intro hc55 h
 refine AW.skip (AW.region (AO.r 2 [.k 0 (k26 + 1 : Nat)] I ⟨cast_wr hk27 hm28, trivial⟩ ?_))
 obtain rfl := Option.some.inj h
 refine AO.nil ?_
 exact ⟨_, _, _, I, ⟨I, I⟩, ⟨I, I, I, I, trivial⟩, [], I, by decide⟩
 rintro st38 s ob ⟨rfl, rfl⟩ he
 subst he
 have h := se_l hR47
 have hk27f : decide (((s_0.length : Nat) : Int) < (s_0.length : Int)) = false := by simp
 refine AW.z I (AW.seqG (fun y57 hy57 => (AW.condK (v := false) I hk27f (AW.exit ?_))))
 exact lg ⟨(), h, I, I⟩ []
 rintro s ob ⟨j24, h, rfl, rfl⟩
 unfold L.slices_IndexFunc_api_Segment_api_Segment.J1 at h
 refine AW.z I ?_
 obtain rfl := Option.some.inj h
 exact AW.ret ⟨.inr I, [_], [], ⟨I, trivial⟩, sl_n, I, I⟩

theorem L.slices_ContainsFunc_api_Segment_api_Segment_ok (s_0 : List Segment) (F1 : T) {f1 : FuncId} {p1 s1 : List T} (h1 : fnT F1 = some (f1, p1, s1)) (g1 : Segment → Option Bool) (hg1 : ∀ (y0 : Segment) r, g1 y0 = some r → ACalls Tryz.env f1 (p1 ++ [.agg (Segment.row y0)] ++ s1) [] (fun x new => x = .v (.bool r) ∧ new = [])) (r : Bool) (h : L.slices_ContainsFunc_api_Segment_api_Segment s_0 g1 = some r) : ACalls Tryz.env 118 [.list 7 (s_0.map Segment.row), F1] [] (fun x new => x = .v (.bool r) ∧ new = []) := by
 refine ACalls.of_body Tryz.func118 rfl rfl rfl (fun C hC => ?_)
 unfold L.slices_ContainsFunc_api_Segment_api_Segment at h
 refine AW.z I (AW.seq ?_)
 obtain ⟨r1, hx2, h⟩ := ob_some h
 refine AW.region (AO.q 2 I (AO.c (L.slices_IndexFunc_api_Segment_api_Segment_ok s_0 F1 h1 g1 hg1 _ hx2) (AO.q 2 I (AO.nil ?_))))
 obtain rfl := Option.some.inj h
 exact AW.ret ⟨.inr I, [_], [], ⟨I, trivial⟩, sl_n, I, I⟩

theorem L.slices_IndexFunc_api_Port_api_Port_ok (s_0 : List Port) (F1 : T) {f1 : FuncId} {p1 s1 : List T} (h1 : fnT F1 = some (f1, p1, s1)) (g1 : Port → Option Bool) (hg1 : ∀ (y0 : Port) r, g1 y0 = some r → ACalls Tryz.env f1 (p1 ++ [.agg (Port.row y0)] ++ s1) [] (fun x new => x = .v (.bool r) ∧ new = [])) (r : Int) (h : L.slices_IndexFunc_api_Port_api_Port s_0 g1 = some r) : ACalls Tryz.env 141 [.list 3 (s_0.map Port.row), F1] [] (fun x new => x = .v (.int .i64 r) ∧ new = []) := by
 refine ACalls.of_body Tryz.func141 rfl rfl rfl (fun C hC => ?_)
 unfold L.slices_IndexFunc_api_Port_api_Port at h
 refine AW.z I (AW.cutX (fun s ob => ∃ (j24 : Unit), L.slices_IndexFunc_api_Port_api_Port.J1 j24 = some r ∧ s = [] ∧ ob = []) [] trivial ?_ ?_)
 refine AW.zr [.l 1 (s_0.length : Int)] I ⟨len_m, trivial⟩ (AW.block (AW.listMax 6 I (fun hm28 => ?_)))
 replace hm28 : s_0.length ≤ 9223372036854775806 := by rw [List.length_map] at hm28; omega
 obtain ⟨o45, hL46, hR47⟩ := ob_some h
 clear h
 refine AW.forX hL46 [(0, _), (1, _), (7, _)] ⟨I, I, I, trivial⟩ (fun (k26 : Nat) (st38 : Unit) s ob => s = [(8, .v (.int .i64 (k26 : Int)))] ∧ ob = []) ⟨I, I⟩ ⟨I, trivial⟩ ⟨[], I, by decide⟩ ?_ ?_
 rintro k26 x29 st38 r49 s ob hx30 hk27 ⟨rfl, rfl⟩ h hb48
 unfold L.slices_IndexFunc_api_Port_api_Port.B2 at h
 have hk27t : decide ((k26 : Int) < (s_0.length : Int)) = true := decide_eq_true (by omega)
 refine AW.z I (AW.seqG (fun y51 hy51 => (AW.condK (v := true) I hk27t (AW.skip ?_))))
 subst hy51
 refine AW.seq (AW.block (AW.z I (AW.seq ?_)))
 obtain ⟨r53, hx54, h⟩ := ob_some h
 refine AW.region (AO.r 5 [.x 3 k26 (Port.row x29)] I ⟨⟨I, map_get hx30⟩, trivial⟩ (AO.act [] I (AX.callL I (.refl _) h1 I (.rest _) I (hg1 _ _ hx54) (dst_some I) (by rintro _ _ ⟨rfl, _⟩; rfl) ?_)))
 rintro _ ⟨_, rfl, -⟩
 refine AO.nil (AW.ch h I ?_ ?_)
 intro hc55 h
 refine AW.z I ?_
 obtain rfl := hb48 _ (Option.some.inj h).symm
 replace h := hR47
 replace h := se_r h
 obtain rfl := Option.some.inj h
 exact AW.ret ⟨.inr I, [_], [], ⟨I, trivial⟩, sl_n, I, I⟩
 intro hc55 h
 refine AW.skip (AW.region (AO.r 2 [.k 0 (k26 + 1 : Nat)] I ⟨cast_wr hk27 hm28, trivial⟩ ?_))
 obtain rfl := Option.some.inj h
 refine AO.nil ?_
 exact ⟨_, _, _, I, ⟨I, I⟩, ⟨I, I, I, I, trivial⟩, [], I, by decide⟩
 rintro st38 s ob ⟨rfl, rfl⟩ he
 subst he
 have h := se_l hR47
 have hk27f : decide (((s_0.length : Nat) : Int) < (s_0.length : Int)) = false := by simp
 refine AW.z I (AW.seqG (fun y57 hy57 => (AW.condK (v := false) I hk27f (AW.exit ?_))))
 exact lg ⟨(), h, I, I⟩ []
 rintro s ob ⟨j24, h, rfl, rfl⟩
 unfold L.slices_IndexFunc_api_Port_api_Port.J1 at h
 refine AW.z I ?_
 obtain rfl := Option.some.inj h
 exact AW.ret ⟨.inr I, [_], [], ⟨I, trivial⟩, sl_n, I, I⟩

theorem L.slices_ContainsFunc_api_Port_api_Port_ok (s_0 : List Port) (F1 : T) {f1 : FuncId} {p1 s1 : List T} (h1 : fnT F1 = some (f1, p1, s1)) (g1 : Port → Option Bool) (hg1 : ∀ (y0 : Port) r, g1 y0 = some r → ACalls Tryz.env f1 (p1 ++ [.agg (Port.row y0)] ++ s1) [] (fun x new => x = .v (.bool r) ∧ new = [])) (r : Bool) (h : L.slices_ContainsFunc_api_Port_api_Port s_0 g1 = some r) : ACalls Tryz.env 128 [.list 3 (s_0.map Port.row), F1] [] (fun x new => x = .v (.bool r) ∧ new = []) := by
 refine ACalls.of_body Tryz.func128 rfl rfl rfl (fun C hC => ?_)
 unfold L.slices_ContainsFunc_api_Port_api_Port at h
 refine AW.z I (AW.seq ?_)
 obtain ⟨r1, hx2, h⟩ := ob_some h
 refine AW.region (AO.q 2 I (AO.c (L.slices_IndexFunc_api_Port_api_Port_ok s_0 F1 h1 g1 hg1 _ hx2) (AO.q 2 I (AO.nil ?_))))
 obtain rfl := Option.some.inj h
 exact AW.ret ⟨.inr I, [_], [], ⟨I, trivial⟩, sl_n, I, I⟩

theorem L.slices_IndexFunc_api_Station_api_Station_ok (s_0 : List Station) (F1 : T) {f1 : FuncId} {p1 s1 : List T} (h1 : fnT F1 = some (f1, p1, s1)) (g1 : Station → Option Bool) (hg1 : ∀ (y0 : Station) r, g1 y0 = some r → ACalls Tryz.env f1 (p1 ++ [.agg (Station.row y0)] ++ s1) [] (fun x new => x = .v (.bool r) ∧ new = [])) (r : Int) (h : L.slices_IndexFunc_api_Station_api_Station s_0 g1 = some r) : ACalls Tryz.env 122 [.list 5 (s_0.map Station.row), F1] [] (fun x new => x = .v (.int .i64 r) ∧ new = []) := by
 refine ACalls.of_body Tryz.func122 rfl rfl rfl (fun C hC => ?_)
 unfold L.slices_IndexFunc_api_Station_api_Station at h
 refine AW.z I (AW.cutX (fun s ob => ∃ (j24 : Unit), L.slices_IndexFunc_api_Station_api_Station.J1 j24 = some r ∧ s = [] ∧ ob = []) [] trivial ?_ ?_)
 refine AW.zr [.l 1 (s_0.length : Int)] I ⟨len_m, trivial⟩ (AW.block (AW.listMax 6 I (fun hm28 => ?_)))
 replace hm28 : s_0.length ≤ 9223372036854775806 := by rw [List.length_map] at hm28; omega
 obtain ⟨o45, hL46, hR47⟩ := ob_some h
 clear h
 refine AW.forX hL46 [(0, _), (1, _), (7, _)] ⟨I, I, I, trivial⟩ (fun (k26 : Nat) (st38 : Unit) s ob => s = [(8, .v (.int .i64 (k26 : Int)))] ∧ ob = []) ⟨I, I⟩ ⟨I, trivial⟩ ⟨[], I, by decide⟩ ?_ ?_
 rintro k26 x29 st38 r49 s ob hx30 hk27 ⟨rfl, rfl⟩ h hb48
 unfold L.slices_IndexFunc_api_Station_api_Station.B2 at h
 have hk27t : decide ((k26 : Int) < (s_0.length : Int)) = true := decide_eq_true (by omega)
 refine AW.z I (AW.seqG (fun y51 hy51 => (AW.condK (v := true) I hk27t (AW.skip ?_))))
 subst hy51
 refine AW.seq (AW.block (AW.z I (AW.seq ?_)))
 obtain ⟨r53, hx54, h⟩ := ob_some h
 refine AW.region (AO.r 5 [.x 3 k26 (Station.row x29)] I ⟨⟨I, map_get hx30⟩, trivial⟩ (AO.act [] I (AX.callL I (.refl _) h1 I (.rest _) I (hg1 _ _ hx54) (dst_some I) (by rintro _ _ ⟨rfl, _⟩; rfl) ?_)))
 rintro _ ⟨_, rfl, -⟩
 refine AO.nil (AW.ch h I ?_ ?_)
 intro hc55 h
 refine AW.z I ?_
 obtain rfl := hb48 _ (Option.some.inj h).symm
 replace h := hR47
 replace h := se_r h
 obtain rfl := Option.some.inj h
 exact AW.ret ⟨.inr I, [_], [], ⟨I, trivial⟩, sl_n, I, I⟩
 intro hc55 h
 refine AW.skip (AW.region (AO.r 2 [.k 0 (k26 + 1 : Nat)] I ⟨cast_wr hk27 hm28, trivial⟩ ?_))
 obtain rfl := Option.some.inj h
 refine AO.nil ?_
 exact ⟨_, _, _, I, ⟨I, I⟩, ⟨I, I, I, I, trivial⟩, [], I, by decide⟩
 rintro st38 s ob ⟨rfl, rfl⟩ he
 subst he
 have h := se_l hR47
 have hk27f : decide (((s_0.length : Nat) : Int) < (s_0.length : Int)) = false := by simp
 refine AW.z I (AW.seqG (fun y57 hy57 => (AW.condK (v := false) I hk27f (AW.exit ?_))))
 exact lg ⟨(), h, I, I⟩ []
 rintro s ob ⟨j24, h, rfl, rfl⟩
 unfold L.slices_IndexFunc_api_Station_api_Station.J1 at h
 refine AW.z I ?_
 obtain rfl := Option.some.inj h
 exact AW.ret ⟨.inr I, [_], [], ⟨I, trivial⟩, sl_n, I, I⟩

theorem L.slices_ContainsFunc_api_Station_api_Station_ok (s_0 : List Station) (F1 : T) {f1 : FuncId} {p1 s1 : List T} (h1 : fnT F1 = some (f1, p1, s1)) (g1 : Station → Option Bool) (hg1 : ∀ (y0 : Station) r, g1 y0 = some r → ACalls Tryz.env f1 (p1 ++ [.agg (Station.row y0)] ++ s1) [] (fun x new => x = .v (.bool r) ∧ new = [])) (r : Bool) (h : L.slices_ContainsFunc_api_Station_api_Station s_0 g1 = some r) : ACalls Tryz.env 131 [.list 5 (s_0.map Station.row), F1] [] (fun x new => x = .v (.bool r) ∧ new = []) := by
 refine ACalls.of_body Tryz.func131 rfl rfl rfl (fun C hC => ?_)
 unfold L.slices_ContainsFunc_api_Station_api_Station at h
 refine AW.z I (AW.seq ?_)
 obtain ⟨r1, hx2, h⟩ := ob_some h
 refine AW.region (AO.q 2 I (AO.c (L.slices_IndexFunc_api_Station_api_Station_ok s_0 F1 h1 g1 hg1 _ hx2) (AO.q 2 I (AO.nil ?_))))
 obtain rfl := Option.some.inj h
 exact AW.ret ⟨.inr I, [_], [], ⟨I, trivial⟩, sl_n, I, I⟩

theorem L.network_limits_1_ok (s_0 : Segment) (r : Bool) (h : L.network_limits_1 s_0 = r) : ACalls Tryz.env 119 [.agg (Segment.row s_0)] [] (fun x new => x = .v (.bool r) ∧ new = []) := by
 refine ACalls.of_body Tryz.func119 rfl rfl rfl (fun C hC => ?_)
 unfold L.network_limits_1 at h
 refine AW.seqG (fun y1 hy1 => (AW.region (AO.act [] I (AX.box (cs := Segment.row s_0) (m := 7) I I I (dst_some I) (fun b2 => (AO.q 1 I (AO.nil ?_)))))))
 subst hy1
 refine AW.cutX (fun s ob => s = [(2, .v (.bool (decide ((s_0.Points.length : Int) < 2) || decide ((s_0.Points.length : Int) > 8))))] ∧ ob = []) [] trivial ?_ ?_
 rcases Bool.eq_false_or_eq_true (decide ((s_0.Points.length : Int) < 2)) with hg5 | hg5
 refine AW.region (AO.r 5 [.o 1 0, .l 2 (s_0.Points.length : Int)] I ⟨len_m, I, trivial⟩ (AO.known 7 I hg5 (AO.q 6 I (AO.nil ?_))))
 exact lf ⟨I, I⟩ ⟨(get_b (by simp only [hg5, bz])), trivial⟩ [] I
 refine AW.region (AO.r 5 [.o 1 0, .l 2 (s_0.Points.length : Int)] I ⟨len_m, I, trivial⟩ (AO.known 7 I hg5 (AO.r 6 [.o 1 0, .l 2 (s_0.Points.length : Int)] I ⟨len_m, I, trivial⟩ (AO.nil ?_))))
 exact lf ⟨I, I⟩ ⟨(get_b (by simp only [hg5, bz])), trivial⟩ [] I
 rintro s ob ⟨rfl, rfl⟩
 obtain rfl := h
 exact AW.ret ⟨.inr I, [_], [], ⟨I, trivial⟩, sl_n, I, I⟩

theorem L.network_limits_ok (n_0 : Network) (r : Bool) (h : L.network_limits n_0 = some r) : ACalls Tryz.env 95 [.agg (Network.row n_0)] [] (fun x new => x = .v (.bool r) ∧ new = []) := by
 refine ACalls.of_body Tryz.func95 rfl rfl rfl (fun C hC => ?_)
 unfold L.network_limits at h
 refine AW.seqG (fun y1 hy1 => (AW.region (AO.act [] I (AX.box (cs := Network.row n_0) (m := 6) I I I (dst_some I) (fun b2 => (AO.q 1 I (AO.nil ?_)))))))
 subst hy1
 refine AW.seq (AW.cutX (fun s ob => s = [(30, .v (.bool (decide ((n_0.Nodes.length : Int) < 1) || (decide ((n_0.Nodes.length : Int) > 24) || (decide ((n_0.Segments.length : Int) > 32) || (decide ((n_0.Ports.length : Int) > 24) || decide ((n_0.Stations.length : Int) > 12)))))))] ∧ ob = [.arr b2 126 6 1 [Network.row n_0]]) [(1, _)] ⟨I, trivial⟩ ?_ ?_)
 rcases Bool.eq_false_or_eq_true (decide ((n_0.Nodes.length : Int) < 1)) with hg8 | hg8
 refine AW.region (AO.r 5 [.o 1 0, .l 2 (n_0.Nodes.length : Int)] I ⟨len_m, I, trivial⟩ (AO.known 7 I hg8 (AO.q 23 I (AO.nil ?_))))
 exact lf ⟨I, I⟩ ⟨(get_b (by simp only [hg8, bz])), I, trivial⟩ [0] I
 rcases Bool.eq_false_or_eq_true (decide ((n_0.Nodes.length : Int) > 24)) with hg9 | hg9
 refine AW.region (AO.r 5 [.o 1 0, .l 2 (n_0.Nodes.length : Int)] I ⟨len_m, I, trivial⟩ (AO.known 7 I hg8 (AO.r 6 [.o 1 0, .l 2 (n_0.Nodes.length : Int)] I ⟨len_m, I, trivial⟩ (AO.known 13 I hg9 (AO.q 17 I (AO.nil ?_))))))
 exact lf ⟨I, I⟩ ⟨(get_b (by simp only [hg8, hg9, bz])), I, trivial⟩ [0] I
 rcases Bool.eq_false_or_eq_true (decide ((n_0.Segments.length : Int) > 32)) with hg10 | hg10
 refine AW.region (AO.r 5 [.o 1 0, .l 2 (n_0.Nodes.length : Int)] I ⟨len_m, I, trivial⟩ (AO.known 7 I hg8 (AO.r 6 [.o 1 0, .l 2 (n_0.Nodes.length : Int)] I ⟨len_m, I, trivial⟩ (AO.known 13 I hg9 (AO.r 6 [.o 1 0, .l 2 (n_0.Segments.length : Int)] I ⟨len_m, I, trivial⟩ (AO.known 19 I hg10 (AO.q 11 I (AO.nil ?_))))))))
 exact lf ⟨I, I⟩ ⟨(get_b (by simp only [hg8, hg9, hg10, bz])), I, trivial⟩ [0] I
 rcases Bool.eq_false_or_eq_true (decide ((n_0.Ports.length : Int) > 24)) with hg11 | hg11
 refine AW.region (AO.r 5 [.o 1 0, .l 2 (n_0.Nodes.length : Int)] I ⟨len_m, I, trivial⟩ (AO.known 7 I hg8 (AO.r 6 [.o 1 0, .l 2 (n_0.Nodes.length : Int)] I ⟨len_m, I, trivial⟩ (AO.known 13 I hg9 (AO.r 6 [.o 1 0, .l 2 (n_0.Segments.length : Int)] I ⟨len_m, I, trivial⟩ (AO.known 19 I hg10 (AO.r 6 [.o 1 0, .l 2 (n_0.Ports.length : Int)] I ⟨len_m, I, trivial⟩ (AO.known 25 I hg11 (AO.q 5 I (AO.nil ?_))))))))))
 exact lf ⟨I, I⟩ ⟨(get_b (by simp only [hg8, hg9, hg10, hg11, bz])), I, trivial⟩ [0] I
 refine AW.region (AO.r 5 [.o 1 0, .l 2 (n_0.Nodes.length : Int)] I ⟨len_m, I, trivial⟩ (AO.known 7 I hg8 (AO.r 6 [.o 1 0, .l 2 (n_0.Nodes.length : Int)] I ⟨len_m, I, trivial⟩ (AO.known 13 I hg9 (AO.r 6 [.o 1 0, .l 2 (n_0.Segments.length : Int)] I ⟨len_m, I, trivial⟩ (AO.known 19 I hg10 (AO.r 6 [.o 1 0, .l 2 (n_0.Ports.length : Int)] I ⟨len_m, I, trivial⟩ (AO.known 25 I hg11 (AO.r 5 [.o 1 0, .l 2 (n_0.Stations.length : Int)] I ⟨len_m, I, trivial⟩ (AO.nil ?_))))))))))
 exact lf ⟨I, I⟩ ⟨(get_b (by simp only [hg8, hg9, hg10, hg11, bz])), I, trivial⟩ [0] I
 rintro s ob ⟨rfl, rfl⟩
 refine AW.ch h I ?_ ?_
 intro hc12 h
 refine AW.z I (AW.ghost (Ghost.pick [] (K := []) I (by decide)) ?_)
 obtain rfl := Option.some.inj h
 exact AW.ret ⟨.inr I, [_], [], ⟨I, trivial⟩, sl_n, I, I⟩
 intro hc12 h
 refine AW.skip (AW.seq ?_)
 obtain ⟨r13, hx14, h⟩ := ob_some h
 refine AW.region (AO.r 2 [.o 1 0] I ⟨I, trivial⟩ (AO.c (L.slices_ContainsFunc_api_Segment_api_Segment_ok n_0.Segments (.v (.func (.func 119) #[] #[])) I (fun x => some (L.network_limits_1 x)) (fun x r h => by obtain I := Option.some.inj h; exact L.network_limits_1_ok x _ I) _ hx14) (AO.q 2 I (AO.nil (AW.ghost (Ghost.pick [] (K := []) I (by decide)) ?_)))))
 obtain rfl := Option.some.inj h
 exact AW.ret ⟨.inr I, [_], [], ⟨I, trivial⟩, sl_n, I, I⟩

end Go.Proofs.YtncfbhnecmnfpaaGreatDoor
