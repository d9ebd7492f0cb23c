/- Walks that show what functions of the program compute; printed by a program of ours. No condition. -/
import Derived.Test.YtndfiddakngjdaaL2
import Derived.Test.YtndfiddakngjdaaDl
import Derived.Test.YtndfiddakngjdaaBwIter
namespace Go.Proofs.Ytndfiddakngjdaa
open Go.Aw
set_option linter.unusedVariables false
set_option linter.unusedSimpArgs false
set_option maxRecDepth 100000
set_option maxHeartbeats 4000000

theorem L.slices_IndexFunc_api_Balance_api_Balance_ok (s_0 : List Balance) (F1 : T) {f1 : FuncId} {p1 s1 : List T} (h1 : fnT F1 = some (f1, p1, s1)) (g1 : Balance → Option Bool) (hg1 : ∀ (y0 : Balance) r, g1 y0 = some r → ACalls Try.env f1 (p1 ++ [.agg (Balance.row y0)] ++ s1) [] (fun x new => x = .v (.bool r) ∧ new = [])) (r : Int) (h : L.slices_IndexFunc_api_Balance_api_Balance s_0 g1 = some r) : ACalls Try.env 184 [.list 3 (s_0.map Balance.row), F1] [] (fun x new => x = .v (.int .i64 r) ∧ new = []) := by
 refine ACalls.of_body Try.func184 rfl rfl rfl (fun C hC => ?_)
 unfold L.slices_IndexFunc_api_Balance_api_Balance at h
 refine AW.z I (AW.cutX (fun s ob => ∃ (j24 : Unit), L.slices_IndexFunc_api_Balance_api_Balance.J1 j24 = some r ∧ s = [] ∧ ob = []) [] trivial ?_ ?_)
 refine AW.zr [.l 1 (s_0.length : Int)] I ⟨len_m, trivial⟩ (AW.block (AW.listMax 6 I (fun hm28 => ?_)))
 replace hm28 : s_0.length ≤ 9223372036854775806 := by rw [List.length_map] at hm28; omega
 obtain ⟨o45, hL46, hR47⟩ := ob_some h
 clear h
 refine AW.forX hL46 [(0, _), (1, _), (7, _)] ⟨I, I, I, trivial⟩ (fun (k26 : Nat) (st38 : Unit) s ob => s = [(8, .v (.int .i64 (k26 : Int)))] ∧ ob = []) ⟨I, I⟩ ⟨I, trivial⟩ ⟨[], I, by decide⟩ ?_ ?_
 rintro k26 x29 st38 r49 s ob hx30 hk27 ⟨rfl, rfl⟩ h hb48
 unfold L.slices_IndexFunc_api_Balance_api_Balance.B2 at h
 have hk27t : decide ((k26 : Int) < (s_0.length : Int)) = true := decide_eq_true (by omega)
 refine AW.z I (AW.seqG (fun y51 hy51 => (AW.condK (v := true) I hk27t (AW.skip ?_))))
 subst hy51
 refine AW.seq (AW.block (AW.z I (AW.seq ?_)))
 obtain ⟨r53, hx54, h⟩ := ob_some h
 refine AW.region (AO.r 5 [.x 3 k26 (Balance.row x29)] I ⟨⟨I, map_get hx30⟩, trivial⟩ (AO.act [] I (AX.callL I (.refl _) h1 I (.rest _) I (hg1 _ _ hx54) (dst_some I) (by rintro _ _ ⟨rfl, _⟩; rfl) ?_)))
 rintro _ ⟨_, rfl, -⟩
 refine AO.nil (AW.ch h I ?_ ?_)
 intro hc55 h
 refine AW.z I ?_
 obtain rfl := hb48 _ (Option.some.inj h).symm
 replace h := hR47
 replace h := se_r h
 obtain rfl := Option.some.inj h
 exact AW.ret ⟨.inr I, [_], [], ⟨I, trivial⟩, sl_n, I, I⟩
 intro hc55 h
 refine AW.skip (AW.region (AO.r 2 [.k 0 (k26 + 1 : Nat)] I ⟨cast_wr hk27 hm28, trivial⟩ ?_))
 obtain rfl := Option.some.inj h
 refine AO.nil ?_
 exact ⟨_, _, _, I, ⟨I, I⟩, ⟨I, I, I, I, trivial⟩, [], I, by decide⟩
 rintro st38 s ob ⟨rfl, rfl⟩ he
 subst he
 have h := se_l hR47
 have hk27f : decide (((s_0.length : Nat) : Int) < (s_0.length : Int)) = false := by simp
 refine AW.z I (AW.seqG (fun y57 hy57 => (AW.condK (v := false) I hk27f (AW.exit ?_))))
 exact lg ⟨(), h, I, I⟩ []
 rintro s ob ⟨j24, h, rfl, rfl⟩
 unfold L.slices_IndexFunc_api_Balance_api_Balance.J1 at h
 refine AW.z I ?_
 obtain rfl := Option.some.inj h
 exact AW.ret ⟨.inr I, [_], [], ⟨I, trivial⟩, sl_n, I, I⟩

theorem L.slices_ContainsFunc_api_Balance_api_Balance_ok (s_0 : List Balance) (F1 : T) {f1 : FuncId} {p1 s1 : List T} (h1 : fnT F1 = some (f1, p1, s1)) (g1 : Balance → Option Bool) (hg1 : ∀ (y0 : Balance) r, g1 y0 = some r → ACalls Try.env f1 (p1 ++ [.agg (Balance.row y0)] ++ s1) [] (fun x new => x = .v (.bool r) ∧ new = [])) (r : Bool) (h : L.slices_ContainsFunc_api_Balance_api_Balance s_0 g1 = some r) : ACalls Try.env 166 [.list 3 (s_0.map Balance.row), F1] [] (fun x new => x = .v (.bool r) ∧ new = []) := by
 refine ACalls.of_body Try.func166 rfl rfl rfl (fun C hC => ?_)
 unfold L.slices_ContainsFunc_api_Balance_api_Balance at h
 refine AW.z I (AW.seq ?_)
 obtain ⟨r1, hx2, h⟩ := ob_some h
 refine AW.region (AO.q 2 I (AO.c (L.slices_IndexFunc_api_Balance_api_Balance_ok s_0 F1 h1 g1 hg1 _ hx2) (AO.q 2 I (AO.nil ?_))))
 obtain rfl := Option.some.inj h
 exact AW.ret ⟨.inr I, [_], [], ⟨I, trivial⟩, sl_n, I, I⟩

theorem L.balance_volume_ok (n_0 : Int) (r : Bool) (h : L.balance_volume n_0 = r) : ACalls Try.env 168 [.v (.int .i64 n_0)] [] (fun x new => x = .v (.bool r) ∧ new = []) := by
 refine ACalls.of_body Try.func168 rfl rfl rfl (fun C hC => ?_)
 unfold L.balance_volume at h
 refine AW.z I (AW.cutX (fun s ob => s = [(2, .v (.bool (decide (n_0 ≥ 0) && decide (n_0 ≤ 1099511627776))))] ∧ ob = []) [] trivial ?_ ?_)
 rcases Bool.eq_false_or_eq_true (decide (n_0 ≥ 0)) with hg3 | hg3
 refine AW.region (AO.q 3 I (AO.known 5 I hg3 (AO.q 4 I (AO.nil ?_))))
 exact lf ⟨I, I⟩ ⟨(get_b (by simp only [hg3, bz])), trivial⟩ [] I
 refine AW.region (AO.q 3 I (AO.known 5 I hg3 (AO.q 4 I (AO.nil ?_))))
 exact lf ⟨I, I⟩ ⟨(get_b (by simp only [hg3, bz])), trivial⟩ [] I
 rintro s ob ⟨rfl, rfl⟩
 obtain rfl := h
 exact AW.ret ⟨.inr I, [_], [], ⟨I, trivial⟩, sl_n, I, I⟩

theorem L.balance_Check_1_ok (b_0 : Balance) (r : Bool) (h : L.balance_Check_1 b_0 = r) : ACalls Try.env 167 [.agg (Balance.row b_0)] [] (fun x new => x = .v (.bool r) ∧ new = []) := by
 refine ACalls.of_body Try.func167 rfl rfl rfl (fun C hC => ?_)
 unfold L.balance_Check_1 at h
 refine AW.seqG (fun y1 hy1 => (AW.region (AO.act [] I (AX.box (cs := Balance.row b_0) (m := 3) I I I (dst_some I) (fun b2 => (AO.q 1 I (AO.nil ?_)))))))
 subst hy1
 refine AW.cutX (fun s ob => s = [(2, .v (.bool ((!(L.balance_volume b_0.In)) || ((!(L.balance_volume b_0.Out)) || (!(L.balance_volume b_0.Pack))))))] ∧ ob = []) [] trivial ?_ ?_
 rcases Bool.eq_false_or_eq_true ((!(L.balance_volume b_0.In))) with hg6 | hg6
 refine AW.region (AO.r 2 [.o 1 0] I ⟨I, trivial⟩ (AO.c (L.balance_volume_ok b_0.In _ I) (AO.q 2 I (AO.known 7 I hg6 (AO.q 12 I (AO.nil ?_))))))
 exact lf ⟨I, I⟩ ⟨(get_b (by simp only [hg6, bz])), trivial⟩ [] I
 rcases Bool.eq_false_or_eq_true ((!(L.balance_volume b_0.Out))) with hg7 | hg7
 refine AW.region (AO.r 2 [.o 1 0] I ⟨I, trivial⟩ (AO.c (L.balance_volume_ok b_0.In _ I) (AO.q 2 I (AO.known 7 I hg6 (AO.r 2 [.o 1 0] I ⟨I, trivial⟩ (AO.gt I I I (AO.c (L.balance_volume_ok b_0.Out _ I) (AO.q 3 I (AO.known 13 I hg7 (AO.q 6 I (AO.nil ?_)))))))))))
 exact lf ⟨I, I⟩ ⟨(get_b (by simp only [hg6, hg7, bz])), trivial⟩ [] I
 refine AW.region (AO.r 2 [.o 1 0] I ⟨I, trivial⟩ (AO.c (L.balance_volume_ok b_0.In _ I) (AO.q 2 I (AO.known 7 I hg6 (AO.r 2 [.o 1 0] I ⟨I, trivial⟩ (AO.gt I I I (AO.c (L.balance_volume_ok b_0.Out _ I) (AO.q 3 I (AO.known 13 I hg7 (AO.r 2 [.o 1 0] I ⟨I, trivial⟩ (AO.gt I I I (AO.c (L.balance_volume_ok b_0.Pack _ I) ?_))))))))))))
 refine AO.q 3 I (AO.nil ?_)
 exact lf ⟨I, I⟩ ⟨(get_b (by simp only [hg6, hg7, bz])), trivial⟩ [] I
 rintro s ob ⟨rfl, rfl⟩
 obtain rfl := h
 exact AW.ret ⟨.inr I, [_], [], ⟨I, trivial⟩, sl_n, I, I⟩

theorem L.balance_Check_ok (l_0 : List Balance) (r : Int) (h : L.balance_Check l_0 = some r) : ACalls Try.env 149 [.list 3 (l_0.map Balance.row)] [] (fun x new => x = .v (.int .i64 r) ∧ new = []) := by
 refine ACalls.of_body Try.func149 rfl rfl rfl (fun C hC => ?_)
 unfold L.balance_Check at h
 refine AW.z I (AW.seqG (fun y2 hy2 => (AW.zr [.l 1 (l_0.length : Int)] I ⟨len_m, trivial⟩ (AW.ch h I ?_ ?_))))
 intro hc3 h
 refine AW.z I ?_
 obtain rfl := Option.some.inj h
 exact AW.ret ⟨.inr I, [_], [], ⟨I, trivial⟩, sl_n, I, I⟩
 intro hc3 h
 refine AW.skip ?_
 subst hy2
 refine AW.seq (AW.seq ?_)
 obtain ⟨r4, hx5, h⟩ := ob_some h
 refine AW.region (AO.q 1 I (AO.c (L.slices_ContainsFunc_api_Balance_api_Balance_ok l_0 (.v (.func (.func 167) #[] #[])) I (fun x => some (L.balance_Check_1 x)) (fun x r h => by obtain I := Option.some.inj h; exact L.balance_Check_1_ok x _ I) _ hx5) (AO.nil (AW.ch h I ?_ ?_))))
 intro hc6 h
 refine AW.z I ?_
 obtain rfl := Option.some.inj h
 exact AW.ret ⟨.inr I, [_], [], ⟨I, trivial⟩, sl_n, I, I⟩
 intro hc6 h
 refine AW.skip (AW.z I ?_)
 obtain rfl := Option.some.inj h
 exact AW.ret ⟨.inr I, [_], [], ⟨I, trivial⟩, sl_n, I, I⟩

theorem L.balance_Accurate_ok (a_0 : Accuracy) (r : Bool) (h : L.balance_Accurate a_0 = r) : ACalls Try.env 150 [.agg (Accuracy.row a_0)] [] (fun x new => x = .v (.bool r) ∧ new = []) := by
 refine ACalls.of_body Try.func150 rfl rfl rfl (fun C hC => ?_)
 unfold L.balance_Accurate at h
 refine AW.seqG (fun y1 hy1 => (AW.region (AO.act [] I (AX.box (cs := Accuracy.row a_0) (m := 2) I I I (dst_some I) (fun b2 => (AO.q 1 I (AO.nil ?_)))))))
 subst hy1
 refine AW.cutX (fun s ob => s = [(2, .v (.bool (decide (a_0.Meter ≥ 0) && (decide (a_0.Meter ≤ 100000) && (L.balance_volume a_0.Pack)))))] ∧ ob = []) [] trivial ?_ ?_
 rcases Bool.eq_false_or_eq_true (decide (a_0.Meter ≥ 0)) with hg6 | hg6
 rcases Bool.eq_false_or_eq_true (decide (a_0.Meter ≤ 100000)) with hg7 | hg7
 refine AW.region (AO.r 4 [.o 1 0] I ⟨I, trivial⟩ (AO.known 6 I hg6 (AO.r 5 [.o 1 0] I ⟨I, trivial⟩ (AO.known 11 I hg7 (AO.r 2 [.o 1 0] I ⟨I, trivial⟩ (AO.gt I I I (AO.c (L.balance_volume_ok a_0.Pack _ I) (AO.q 2 I (AO.nil ?_)))))))))
 exact lf ⟨I, I⟩ ⟨(get_b (by simp only [hg6, hg7, bz])), trivial⟩ [] I
 refine AW.region (AO.r 4 [.o 1 0] I ⟨I, trivial⟩ (AO.known 6 I hg6 (AO.r 5 [.o 1 0] I ⟨I, trivial⟩ (AO.known 11 I hg7 (AO.q 5 I (AO.nil ?_))))))
 exact lf ⟨I, I⟩ ⟨(get_b (by simp only [hg6, hg7, bz])), trivial⟩ [] I
 refine AW.region (AO.r 4 [.o 1 0] I ⟨I, trivial⟩ (AO.known 6 I hg6 (AO.q 10 I (AO.nil ?_))))
 exact lf ⟨I, I⟩ ⟨(get_b (by simp only [hg6, bz])), trivial⟩ [] I
 rintro s ob ⟨rfl, rfl⟩
 obtain rfl := h
 exact AW.ret ⟨.inr I, [_], [], ⟨I, trivial⟩, sl_n, I, I⟩

theorem L.leak_check_ok (l_0 : List Balance) (a_1 : Accuracy) (width_2 : Int) (threshold_3 : Int) (r : Int) (h : L.leak_check l_0 a_1 width_2 threshold_3 = some r) : ACalls Try.env 117 [.list 3 (l_0.map Balance.row), .agg (Accuracy.row a_1), .v (.int .i64 width_2), .v (.int .i64 threshold_3)] [] (fun x new => x = .v (.int .i64 r) ∧ new = []) := by
 refine ACalls.of_body Try.func117 rfl rfl rfl (fun C hC => ?_)
 unfold L.leak_check at h
 refine AW.seqG (fun y1 hy1 => (AW.region (AO.act [] I (AX.box (cs := Accuracy.row a_1) (m := 2) I I I (dst_some I) (fun b2 => (AO.q 1 I (AO.nil ?_)))))))
 subst hy1
 refine AW.seqG (fun y3 hy3 => (AW.seq ?_))
 obtain ⟨r4, hx5, h⟩ := ob_some h
 refine AW.region (AO.q 1 I (AO.c (L.balance_Check_ok l_0 _ hx5) (AO.q 1 I (AO.nil (AW.z I (AW.ch h I ?_ ?_))))))
 intro hc6 h
 refine AW.z I (AW.ghost (Ghost.pick [] (K := []) I (by decide)) ?_)
 obtain rfl := Option.some.inj h
 exact AW.ret ⟨.inr I, [_], [], ⟨I, trivial⟩, sl_n, I, I⟩
 intro hc6 h
 refine AW.skip ?_
 subst hy3
 refine AW.seq (AW.block (AW.cutX (fun s ob => s = [(15, .v (.bool ((!(L.balance_Accurate a_1)) || (decide (threshold_3 < 0) || decide (threshold_3 > 1099511627776)))))] ∧ ob = []) [(2, _)] ⟨I, trivial⟩ ?_ ?_))
 rcases Bool.eq_false_or_eq_true ((!(L.balance_Accurate a_1))) with hg10 | hg10
 refine AW.region (AO.r 1 [.o 0 0] I ⟨I, trivial⟩ (AO.c (L.balance_Accurate_ok a_1 _ I) (AO.q 2 I (AO.known 19 I hg10 (AO.q 8 I (AO.nil ?_))))))
 exact lf ⟨I, I⟩ ⟨(get_b (by simp only [hg10, bz])), I, trivial⟩ [] I
 rcases Bool.eq_false_or_eq_true (decide (threshold_3 < 0)) with hg11 | hg11
 refine AW.region (AO.r 1 [.o 0 0] I ⟨I, trivial⟩ (AO.c (L.balance_Accurate_ok a_1 _ I) (AO.q 2 I (AO.known 19 I hg10 (AO.q 4 I (AO.known 23 I hg11 (AO.q 4 I (AO.nil ?_))))))))
 exact lf ⟨I, I⟩ ⟨(get_b (by simp only [hg10, hg11, bz])), I, trivial⟩ [] I
 refine AW.region (AO.r 1 [.o 0 0] I ⟨I, trivial⟩ (AO.c (L.balance_Accurate_ok a_1 _ I) (AO.q 2 I (AO.known 19 I hg10 (AO.q 4 I (AO.known 23 I hg11 (AO.q 4 I (AO.nil ?_))))))))
 exact lf ⟨I, I⟩ ⟨(get_b (by simp only [hg10, hg11, bz])), I, trivial⟩ [] I
 rintro s ob ⟨rfl, rfl⟩
 refine AW.ch h I ?_ ?_
 intro hc12 h
 refine AW.z I ?_
 obtain rfl := Option.some.inj h
 exact AW.ret ⟨.inr I, [_], [], ⟨I, trivial⟩, sl_n, I, I⟩
 intro hc12 h
 refine AW.cutX (fun s ob => s = [(27, .v (.bool (decide (width_2 < 1) || decide (width_2 > 400))))] ∧ ob = []) [] trivial ?_ ?_
 rcases Bool.eq_false_or_eq_true (decide (width_2 < 1)) with hg15 | hg15
 refine AW.region (AO.q 3 I (AO.known 30 I hg15 (AO.q 4 I (AO.nil ?_))))
 exact lf ⟨I, I⟩ ⟨(get_b (by simp only [hg15, bz])), trivial⟩ [] I
 refine AW.region (AO.q 3 I (AO.known 30 I hg15 (AO.q 4 I (AO.nil ?_))))
 exact lf ⟨I, I⟩ ⟨(get_b (by simp only [hg15, bz])), trivial⟩ [] I
 rintro s ob ⟨rfl, rfl⟩
 refine AW.ch h I ?_ ?_
 intro hc16 h
 refine AW.z I ?_
 obtain rfl := Option.some.inj h
 exact AW.ret ⟨.inr I, [_], [], ⟨I, trivial⟩, sl_n, I, I⟩
 intro hc16 h
 refine AW.skip (AW.z I ?_)
 obtain rfl := Option.some.inj h
 exact AW.ret ⟨.inr I, [_], [], ⟨I, trivial⟩, sl_n, I, I⟩

theorem L.balance_window_ok (l_0 : List Balance) (from_1 : Int) (to_2 : Int) (r : Bool) (h : L.balance_window l_0 from_1 to_2 = r) : ACalls Try.env 169 [.list 3 (l_0.map Balance.row), .v (.int .i64 from_1), .v (.int .i64 to_2)] [] (fun x new => x = .v (.bool r) ∧ new = []) := by
 refine ACalls.of_body Try.func169 rfl rfl rfl (fun C hC => ?_)
 unfold L.balance_window at h
 refine AW.z I (AW.cutX (fun s ob => s = [(6, .v (.bool (decide (from_1 ≥ 0) && (decide (from_1 < to_2) && decide (to_2 < (l_0.length : Int))))))] ∧ ob = []) [] trivial ?_ ?_)
 rcases Bool.eq_false_or_eq_true (decide (from_1 ≥ 0)) with hg5 | hg5
 rcases Bool.eq_false_or_eq_true (decide (from_1 < to_2)) with hg6 | hg6
 refine AW.region (AO.q 3 I (AO.known 9 I hg5 (AO.q 5 I (AO.known 14 I hg6 (AO.r 6 [.l 2 (l_0.length : Int)] I ⟨len_m, trivial⟩ (AO.nil ?_))))))
 exact lf ⟨I, I⟩ ⟨(get_b (by simp only [hg5, hg6, bz])), trivial⟩ [] I
 refine AW.region (AO.q 3 I (AO.known 9 I hg5 (AO.q 5 I (AO.known 14 I hg6 (AO.q 6 I (AO.nil ?_))))))
 exact lf ⟨I, I⟩ ⟨(get_b (by simp only [hg5, hg6, bz])), trivial⟩ [] I
 refine AW.region (AO.q 3 I (AO.known 9 I hg5 (AO.q 11 I (AO.nil ?_))))
 exact lf ⟨I, I⟩ ⟨(get_b (by simp only [hg5, bz])), trivial⟩ [] I
 rintro s ob ⟨rfl, rfl⟩
 obtain rfl := h
 exact AW.ret ⟨.inr I, [_], [], ⟨I, trivial⟩, sl_n, I, I⟩

theorem L.balance_check_ok (l_0 : List Balance) (a_1 : Accuracy) (from_2 : Int) (to_3 : Int) (r : Int) (h : L.balance_check l_0 a_1 from_2 to_3 = some r) : ACalls Try.env 151 [.list 3 (l_0.map Balance.row), .agg (Accuracy.row a_1), .v (.int .i64 from_2), .v (.int .i64 to_3)] [] (fun x new => x = .v (.int .i64 r) ∧ new = []) := by
 refine ACalls.of_body Try.func151 rfl rfl rfl (fun C hC => ?_)
 unfold L.balance_check at h
 refine AW.seqG (fun y1 hy1 => (AW.region (AO.act [] I (AX.box (cs := Accuracy.row a_1) (m := 2) I I I (dst_some I) (fun b2 => (AO.q 1 I (AO.nil ?_)))))))
 subst hy1
 refine AW.seqG (fun y3 hy3 => (AW.seq ?_))
 obtain ⟨r4, hx5, h⟩ := ob_some h
 refine AW.region (AO.q 1 I (AO.c (L.balance_Check_ok l_0 _ hx5) (AO.q 1 I (AO.nil (AW.z I (AW.ch h I ?_ ?_))))))
 intro hc6 h
 refine AW.z I (AW.ghost (Ghost.pick [] (K := []) I (by decide)) ?_)
 obtain rfl := Option.some.inj h
 exact AW.ret ⟨.inr I, [_], [], ⟨I, trivial⟩, sl_n, I, I⟩
 intro hc6 h
 refine AW.skip ?_
 subst hy3
 refine AW.seq (AW.block (AW.seqG (fun y7 hy7 => (AW.region (AO.r 1 [.o 0 0] I ⟨I, trivial⟩ (AO.c (L.balance_Accurate_ok a_1 _ I) (AO.q 2 I (AO.nil ?_))))))))
 subst hy7
 refine AW.ch h I ?_ ?_
 intro hc8 h
 refine AW.z I (AW.ghost (Ghost.pick [] (K := []) I (by decide)) ?_)
 obtain rfl := Option.some.inj h
 exact AW.ret ⟨.inr I, [_], [], ⟨I, trivial⟩, sl_n, I, I⟩
 intro hc8 h
 refine AW.seq (AW.region (AO.q 3 I (AO.c (L.balance_window_ok l_0 from_2 to_3 _ I) (AO.q 2 I (AO.nil (AW.ch h I ?_ ?_))))))
 intro hc9 h
 refine AW.z I (AW.ghost (Ghost.pick [] (K := []) I (by decide)) ?_)
 obtain rfl := Option.some.inj h
 exact AW.ret ⟨.inr I, [_], [], ⟨I, trivial⟩, sl_n, I, I⟩
 intro hc9 h
 refine AW.skip (AW.z I (AW.ghost (Ghost.pick [] (K := []) I (by decide)) ?_))
 obtain rfl := Option.some.inj h
 exact AW.ret ⟨.inr I, [_], [], ⟨I, trivial⟩, sl_n, I, I⟩

theorem L.balance_counted_ok (l_0 : List Balance) (from_1 : Int) (to_2 : Int) (r : Int × Int) (h : L.balance_counted l_0 from_1 to_2 = some r) : ACalls Try.env 170 [.list 3 (l_0.map Balance.row), .v (.int .i64 from_1), .v (.int .i64 to_2)] [] (fun x new => x = .tup [.v (.int .i64 r.1), .v (.int .i64 r.2)] ∧ new = []) := by
 refine ACalls.of_body Try.func170 rfl rfl rfl (fun C hC => ?_)
 unfold L.balance_counted at h
 refine AW.z I (AW.cutX (fun s ob => ∃ (j24 : Int × Int), L.balance_counted.J1 j24 = some r ∧ s = [(6, .v (.int .i64 j24.1)), (7, .v (.int .i64 j24.2))] ∧ ob = []) [] trivial ?_ ?_)
 refine AW.seqG (fun y25 hy25 => ?_)
 obtain ⟨l26, hx27, h⟩ := ob_some h
 obtain ⟨hx27a, hx27b, hx27c, hx271, hx272, hx273, hx274, hx275, hx276, hx277⟩ := sub3_some hx27
 refine AW.region (AO.q 7 I (AO.p (Yp.subL3 hx27a hx27b hx27c I I I I I ⟨_, _, I, hx271⟩ ⟨_, _, I, hx272⟩ ⟨_, _, I, hx273⟩ (fun h => by cases h) hx274 hx275 hx276 hx277) I (AO.r 2 [.l 0 (l26.length : Int)] I ⟨len_m, trivial⟩ (AO.nil ?_))))
 subst hy25
 refine AW.block (AW.listMax 17 I (fun hm30 => ?_))
 replace hm30 : l26.length ≤ 9223372036854775806 := by rw [List.length_map] at hm30; omega
 obtain ⟨o45, hL46, hR47⟩ := ob_some h
 clear h
 refine AW.forY hL46 [(17, _), (18, _)] ⟨I, I, trivial⟩ (fun (k28 : Nat) (st41 : Int × Int) s ob => s = [(19, .v (.int .i64 (k28 : Int))), (6, .v (.int .i64 st41.1)), (7, .v (.int .i64 st41.2))] ∧ ob = []) ⟨I, I⟩ ⟨I, I, I, trivial⟩ ⟨[], I, by decide⟩ ?_ ?_
 rintro k28 x31 st41 r49 s ob hx32 hk29 ⟨rfl, rfl⟩ h
 unfold L.balance_counted.B2 at h
 have hk29t : decide ((k28 : Int) < (l26.length : Int)) = true := decide_eq_true (by omega)
 refine AW.z I (AW.seqG (fun y51 hy51 => (AW.condK (v := true) I hk29t (AW.skip ?_))))
 subst hy51
 refine AW.seq (AW.block (AW.seq (AW.region (AO.r 2 [.x 0 k28 (Balance.row x31)] I ⟨⟨I, map_get hx32⟩, trivial⟩ (AO.act [] I (AX.alloc (cs := [.v (.int .i64 0), .v (.int .i64 0), .v (.int .i64 0)]) (m := 3) I I I I I (dst_some I) (fun b52 => (AO.act [0] I (AX.store 0 0 0 (es' := [Balance.row x31]) I I I I I I I I (le_ble I) I I (AO.nil (AW.dt (pd 10 0 []) [0] [_] [.o 2 0, .o 6 0] I I ⟨I, I, trivial⟩ (AW.region (AO.r 2 [.k 0 (k28 + 1 : Nat)] I ⟨cast_wr hk29 hm30, trivial⟩ ?_)))))))))))))
 obtain rfl := Option.some.inj h
 refine AO.nil ?_
 exact lg ⟨I, I⟩ []
 rintro st41 s ob ⟨rfl, rfl⟩ he
 subst he
 have h := hR47
 have hk29f : decide (((l26.length : Nat) : Int) < (l26.length : Int)) = false := by simp
 refine AW.z I (AW.seqG (fun y54 hy54 => (AW.condK (v := false) I hk29f (AW.exit ?_))))
 exact lg ⟨(st41.1, st41.2), h, I, I⟩ []
 rintro s ob ⟨j24, h, rfl, rfl⟩
 unfold L.balance_counted.J1 at h
 refine AW.z I ?_
 obtain rfl := Option.some.inj h
 exact AW.ret ⟨.inr I, [_, _], [], ⟨I, I, trivial⟩, sl_n, I, I⟩

theorem L.balance_missing_ok (l_0 : List Balance) (from_1 : Int) (to_2 : Int) (r : Int) (h : L.balance_missing l_0 from_1 to_2 = some r) : ACalls Try.env 152 [.list 3 (l_0.map Balance.row), .v (.int .i64 from_1), .v (.int .i64 to_2)] [] (fun x new => x = .v (.int .i64 r) ∧ new = []) := by
 refine ACalls.of_body Try.func152 rfl rfl rfl (fun C hC => ?_)
 unfold L.balance_missing at h
 refine AW.z I (AW.seqG (fun y2 hy2 => ?_))
 obtain ⟨r3, hx4, h⟩ := ob_some h
 refine AW.region (AO.q 3 I (AO.c (L.balance_counted_ok l_0 from_1 to_2 _ hx4) (AO.q 5 I (AO.nil ?_))))
 subst hy2
 refine AW.seq ?_
 obtain ⟨p5, hp6, h⟩ := ob_some h
 obtain ⟨hp6i, hp6x⟩ := ix_some hp6
 obtain ⟨p7, hp8, h⟩ := ob_some h
 obtain ⟨hp8i, hp8x⟩ := ix_some hp8
 refine AW.dt (pd 16 0 []) [] [] [.x 5 p5.1 (Balance.row p5.2), .x 11 p7.1 (Balance.row p7.2)] I I ⟨⟨hp8i, map_get hp8x⟩, ⟨hp6i, map_get hp6x⟩, trivial⟩ ?_
 obtain rfl := Option.some.inj h
 exact AW.ret ⟨.inr I, [_], [], ⟨I, trivial⟩, sl_n, I, I⟩

theorem L.round_divide_ok (a_0 : Int) (b_1 : Int) (r : Int × Int × Bool) (h : L.round_divide a_0 b_1 = some r) : ACalls Try.env 191 [.v (.int .i64 a_0), .v (.int .i64 b_1)] [] (fun x new => x = .tup [.v (.int .i64 r.1), .v (.int .i64 r.2.1), .v (.bool r.2.2)] ∧ new = []) := by
 refine ACalls.of_body Try.func191 rfl rfl rfl (fun C hC => ?_)
 unfold L.round_divide at h
 refine AW.z I (AW.seqG (fun y2 hy2 => (AW.cutX (fun s ob => s = [(22, .v (.bool (decide (b_1 < 1) || (decide (b_1 > 1099511627776) || (decide (a_0 < (-2305843009213693952)) || decide (a_0 > 2305843009213693952))))))] ∧ ob = []) [(0, _), (1, _)] ⟨I, I, trivial⟩ ?_ ?_)))
 rcases Bool.eq_false_or_eq_true (decide (b_1 < 1)) with hg7 | hg7
 refine AW.region (AO.q 3 I (AO.known 11 I hg7 (AO.q 11 I (AO.nil ?_))))
 exact lf ⟨I, I⟩ ⟨(get_b (by simp only [hg7, bz])), I, I, trivial⟩ [] I
 rcases Bool.eq_false_or_eq_true (decide (b_1 > 1099511627776)) with hg8 | hg8
 refine AW.region (AO.q 3 I (AO.known 11 I hg7 (AO.q 4 I (AO.known 15 I hg8 (AO.q 7 I (AO.nil ?_))))))
 exact lf ⟨I, I⟩ ⟨(get_b (by simp only [hg7, hg8, bz])), I, I, trivial⟩ [] I
 rcases Bool.eq_false_or_eq_true (decide (a_0 < (-2305843009213693952))) with hg9 | hg9
 refine AW.region (AO.q 3 I (AO.known 11 I hg7 (AO.q 4 I (AO.known 15 I hg8 (AO.q 4 I (AO.known 19 I hg9 (AO.q 3 I (AO.nil ?_))))))))
 exact lf ⟨I, I⟩ ⟨(get_b (by simp only [hg7, hg8, hg9, bz])), I, I, trivial⟩ [] I
 refine AW.region (AO.q 3 I (AO.known 11 I hg7 (AO.q 4 I (AO.known 15 I hg8 (AO.q 4 I (AO.known 19 I hg9 (AO.q 3 I (AO.nil ?_))))))))
 exact lf ⟨I, I⟩ ⟨(get_b (by simp only [hg7, hg8, hg9, bz])), I, I, trivial⟩ [] I
 rintro s ob ⟨rfl, rfl⟩
 refine AW.ch h I ?_ ?_
 intro hc10 h
 refine AW.z I ?_
 obtain rfl := Option.some.inj h
 exact AW.ret ⟨.inr I, [_, _, _], [], ⟨I, I, I, trivial⟩, sl_n, I, I⟩
 intro hc10 h
 refine AW.skip ?_
 subst hy2
 refine AW.seqG (fun y11 hy11 => ?_)
 obtain ⟨x12, hx13, h⟩ := ob_some h
 obtain ⟨x14, hx15, h⟩ := ob_some h
 refine AW.dt (pd 8 0 []) [] [] [.f 2 (.v (.int .i64 x12)), .f 5 (.v (.int .i64 x14))] I I ⟨Yp.yd (Yp.binI (c := x14) I I (rem_some hx15)), Yp.yd (Yp.binI (c := x12) I I (quo_some hx13)), trivial⟩ ?_
 subst hy11
 refine AW.cutX (fun s ob => ∃ (j17 : Int × Int), L.round_divide.J1 j17 = some r ∧ s = [(7, .v (.int .i64 j17.1)), (8, .v (.int .i64 j17.2))] ∧ ob = []) [] trivial ?_ ?_
 refine AW.z I (AW.ch h I ?_ ?_)
 intro hc18 h
 refine AW.t I ?_
 exact lg ⟨(wr (x12 - 1), wr (x14 + b_1)), h, I, I⟩ []
 intro hc18 h
 refine AW.skip ?_
 exact lg ⟨(x12, x14), h, I, I⟩ []
 rintro s ob ⟨j17, h, rfl, rfl⟩
 unfold L.round_divide.J1 at h
 refine AW.z I ?_
 obtain rfl := Option.some.inj h
 exact AW.ret ⟨.inr I, [_, _, _], [], ⟨I, I, I, trivial⟩, sl_n, I, I⟩

theorem L.round_Up_ok (a_0 : Int) (b_1 : Int) (r : Int) (h : L.round_Up a_0 b_1 = some r) : ACalls Try.env 185 [.v (.int .i64 a_0), .v (.int .i64 b_1)] [] (fun x new => x = .v (.int .i64 r) ∧ new = []) := by
 refine ACalls.of_body Try.func185 rfl rfl rfl (fun C hC => ?_)
 unfold L.round_Up at h
 refine AW.z I (AW.seqG (fun y2 hy2 => ?_))
 obtain ⟨r3, hx4, h⟩ := ob_some h
 refine AW.region (AO.q 2 I (AO.c (L.round_divide_ok a_0 b_1 _ hx4) (AO.q 7 I (AO.nil ?_))))
 subst hy2
 refine AW.cutX (fun s ob => ∃ (j9 : Int), L.round_Up.J1 j9 = some r ∧ s = [(5, .v (.int .i64 j9))] ∧ ob = []) [] trivial ?_ ?_
 refine AW.cutX (fun s ob => s = [(19, .v (.bool (r3.2.2 && decide (r3.2.1 > 0))))] ∧ ob = []) [(5, _)] ⟨I, trivial⟩ ?_ ?_
 rcases Bool.eq_false_or_eq_true (r3.2.2) with hg12 | hg12
 refine AW.region (AO.q 2 I (AO.known 16 I hg12 (AO.q 3 I (AO.nil ?_))))
 exact lf ⟨I, I⟩ ⟨(get_b (by simp only [hg12, bz])), I, trivial⟩ [] I
 refine AW.region (AO.q 2 I (AO.known 16 I hg12 (AO.q 3 I (AO.nil ?_))))
 exact lf ⟨I, I⟩ ⟨(get_b (by simp only [hg12, bz])), I, trivial⟩ [] I
 rintro s ob ⟨rfl, rfl⟩
 refine AW.ch h I ?_ ?_
 intro hc13 h
 refine AW.t I ?_
 exact lg ⟨wr (r3.1 + 1), h, I, I⟩ []
 intro hc13 h
 refine AW.skip ?_
 exact lg ⟨r3.1, h, I, I⟩ []
 rintro s ob ⟨j9, h, rfl, rfl⟩
 unfold L.round_Up.J1 at h
 refine AW.z I ?_
 obtain rfl := Option.some.inj h
 exact AW.ret ⟨.inr I, [_], [], ⟨I, trivial⟩, sl_n, I, I⟩

theorem L.balance_part_ok (volume_0 : Int) (millionths_1 : Int) (r : Int) (h : L.balance_part volume_0 millionths_1 = some r) : ACalls Try.env 171 [.v (.int .i64 volume_0), .v (.int .i64 millionths_1)] [] (fun x new => x = .v (.int .i64 r) ∧ new = []) := by
 refine ACalls.of_body Try.func171 rfl rfl rfl (fun C hC => ?_)
 unfold L.balance_part at h
 refine AW.z I (AW.seq ?_)
 obtain ⟨r2, hx3, h⟩ := ob_some h
 refine AW.region (AO.r 8 [.f 1 (.v (.int .i64 (wr (volume_0.tdiv 1000000)))), .f 5 (.v (.int .i64 (volume_0.tmod 1000000)))] I ⟨Yp.yd (Yp.binI (c := (volume_0.tmod 1000000)) I I ⟨by decide, I⟩), Yp.yd (Yp.binI (c := wr (volume_0.tdiv 1000000)) I I ⟨by decide, I⟩), trivial⟩ (AO.c (L.round_Up_ok (wr ((volume_0.tmod 1000000) * millionths_1)) 1000000 _ hx3) (AO.q 2 I (AO.nil ?_))))
 obtain rfl := Option.some.inj h
 exact AW.ret ⟨.inr I, [_], [], ⟨I, trivial⟩, sl_n, I, I⟩

theorem L.balance_wrong_ok (l_0 : List Balance) (a_1 : Accuracy) (from_2 : Int) (to_3 : Int) (r : Int) (h : L.balance_wrong l_0 a_1 from_2 to_3 = some r) : ACalls Try.env 153 [.list 3 (l_0.map Balance.row), .agg (Accuracy.row a_1), .v (.int .i64 from_2), .v (.int .i64 to_3)] [] (fun x new => x = .v (.int .i64 r) ∧ new = []) := by
 refine ACalls.of_body Try.func153 rfl rfl rfl (fun C hC => ?_)
 unfold L.balance_wrong at h
 refine AW.seqG (fun y1 hy1 => (AW.region (AO.act [] I (AX.box (cs := Accuracy.row a_1) (m := 2) I I I (dst_some I) (fun b2 => (AO.q 1 I (AO.nil ?_)))))))
 subst hy1
 refine AW.seqG (fun y3 hy3 => ?_)
 obtain ⟨r4, hx5, h⟩ := ob_some h
 refine AW.region (AO.q 3 I (AO.c (L.balance_counted_ok l_0 from_2 to_3 _ hx5) (AO.q 5 I (AO.nil ?_))))
 subst hy3
 refine AW.seq ?_
 obtain ⟨r6, hx7, h⟩ := ob_some h
 obtain ⟨r8, hx9, h⟩ := ob_some h
 refine AW.rd (.still 0 (.still 1 (.still 2 (.still 4 (.still 5 (.still 6 (.still 9 (.still 10 (.still 11 (.act 3 (.act 7 (.still 8 (.still 12 (.still 13 .nil)))))))))))))) [0] [_] I (AP.r 9 [.o 2 0, .o 5 0, .o 7 0] I ⟨I, I, I, trivial⟩ (AP.c I (L.balance_part_ok r4.1 a_1.Meter _ hx7) (AP.c I (L.balance_part_ok r4.2 a_1.Meter _ hx9) (AP.q 2 I (AP.eraS 8 (AP.q 1 I (AP.ofAO (AO.nil (AW.ghost (Ghost.pick [] (K := []) I (by decide)) ?_)))))))))
 obtain rfl := Option.some.inj h
 exact AW.ret ⟨.inr I, [_], [], ⟨I, trivial⟩, sl_n, I, I⟩

theorem L.balance_Bounds_ok (l_0 : List Balance) (a_1 : Accuracy) (from_2 : Int) (to_3 : Int) (r : Int × Int × Int) (h : L.balance_Bounds l_0 a_1 from_2 to_3 = some r) : ACalls Try.env 118 [.list 3 (l_0.map Balance.row), .agg (Accuracy.row a_1), .v (.int .i64 from_2), .v (.int .i64 to_3)] [] (fun x new => x = .tup [.v (.int .i64 r.1), .v (.int .i64 r.2.1), .v (.int .i64 r.2.2)] ∧ new = []) := by
 refine ACalls.of_body Try.func118 rfl rfl rfl (fun C hC => ?_)
 unfold L.balance_Bounds at h
 refine AW.seqG (fun y1 hy1 => (AW.region (AO.act [] I (AX.box (cs := Accuracy.row a_1) (m := 2) I I I (dst_some I) (fun b2 => (AO.q 3 I (AO.nil ?_)))))))
 subst hy1
 refine AW.seqG (fun y3 hy3 => (AW.seq ?_))
 obtain ⟨r4, hx5, h⟩ := ob_some h
 refine AW.region (AO.r 4 [.o 1 0] I ⟨I, trivial⟩ (AO.c (L.balance_check_ok l_0 a_1 from_2 to_3 _ hx5) (AO.q 1 I (AO.nil (AW.z I (AW.ch h I ?_ ?_))))))
 intro hc6 h
 refine AW.z I (AW.ghost (Ghost.pick [] (K := []) I (by decide)) ?_)
 obtain rfl := Option.some.inj h
 exact AW.ret ⟨.inr I, [_, _, _], [], ⟨I, I, I, trivial⟩, sl_n, I, I⟩
 intro hc6 h
 refine AW.skip ?_
 subst hy3
 refine AW.seq ?_
 obtain ⟨r7, hx8, h⟩ := ob_some h
 obtain ⟨r9, hx10, h⟩ := ob_some h
 refine AW.rd (.still 0 (.still 1 (.still 2 (.still 4 (.still 5 (.still 6 (.still 7 (.act 3 (.act 8 (.still 9 (.still 10 .nil))))))))))) [0] [_] I (AP.r 7 [.o 4 0] I ⟨I, trivial⟩ (AP.c I (L.balance_missing_ok l_0 from_2 to_3 _ hx8) (AP.c I (L.balance_wrong_ok l_0 a_1 from_2 to_3 _ hx10) (AP.q 2 I (AP.ofAO (AO.nil (AW.z I (AW.ghost (Ghost.pick [] (K := []) I (by decide)) ?_))))))))
 obtain rfl := Option.some.inj h
 exact AW.ret ⟨.inr I, [_, _, _], [], ⟨I, I, I, trivial⟩, sl_n, I, I⟩

theorem L.leak_Alarms_ok (l_0 : List Balance) (a_1 : Accuracy) (width_2 : Int) (threshold_3 : Int) (r : (List Int) × Int) (h : L.leak_Alarms l_0 a_1 width_2 threshold_3 = some r) : ACalls Try.env 72 [.list 3 (l_0.map Balance.row), .agg (Accuracy.row a_1), .v (.int .i64 width_2), .v (.int .i64 threshold_3)] [] (fun x new => ∃ (u0 : Value), x = .tup [.v u0, .v (.int .i64 r.2)] ∧ new = [.us u0 3 1 (r.1.map rI)]) := by
 refine ACalls.of_body Try.func72 rfl rfl rfl (fun C hC => ?_)
 unfold L.leak_Alarms at h
 refine AW.seqG (fun y1 hy1 => (AW.region (AO.act [] I (AX.box (cs := Accuracy.row a_1) (m := 2) I I I (dst_some I) (fun b2 => (AO.q 2 I (AO.nil ?_)))))))
 subst hy1
 refine AW.seqG (fun y3 hy3 => (AW.seq ?_))
 obtain ⟨r4, hx5, h⟩ := ob_some h
 refine AW.region (AO.r 4 [.o 1 0] I ⟨I, trivial⟩ (AO.c (L.leak_check_ok l_0 a_1 width_2 threshold_3 _ hx5) (AO.q 1 I (AO.nil (AW.z I (AW.ch h I ?_ ?_))))))
 intro hc6 h
 refine AW.z I (AW.ghost (Ghost.nilU 3 1) (AW.ghost (Ghost.pick [1] (K := [.us (.slice none 0 0) 3 1 ([].map rI)]) I (by decide)) ?_))
 obtain rfl := Option.some.inj h
 exact AW.ret ⟨.inr I, [_, _], [.us (.slice none 0 0) 3 1 ([].map rI)], ⟨I, I, trivial⟩, sl_c I (sl_n), ⟨(.slice none 0 0), I, I⟩⟩
 intro hc6 h
 refine AW.skip ?_
 subst hy3
 refine AW.z I (AW.cutX (fun s ob => ∃ (j54 : List Int) (v55 : Value), L.leak_Alarms.J1 j54 = some r ∧ s = [(11, .v v55)] ∧ ob = [.us v55 3 1 (j54.map rI)]) [] trivial ?_ ?_)
 refine AW.z I (AW.block (AW.ghost (Ghost.nilU 3 1) ?_))
 obtain ⟨o102, hL103, hR104⟩ := ob_some h
 clear h
 refine AW.loopX hL103 [(0, _), (2, _), (3, _), (5, _)] ⟨I, I, I, I, trivial⟩ (fun (st87 : (List Int) × Int) s ob => ∃ (v88 : Value), s = [(11, .v v88), (12, .v (.int .i64 st87.2))] ∧ ob = [.arr b2 122 2 1 [Accuracy.row a_1], .us v88 3 1 (st87.1.map rI)]) ⟨(.slice none 0 0), I, I⟩ ⟨I, I, trivial⟩ ⟨[0, 1], I, by decide⟩ ?_
 rintro st87 r106 s ob ⟨v88, rfl, rfl⟩ h hb105
 unfold L.leak_Alarms.B2 at h
 refine AW.seqG (fun y107 hy107 => (AW.zr [.l 2 (l_0.length : Int)] I ⟨len_m, trivial⟩ (AW.ch h I ?_ ?_)))
 intro hc108 h
 refine AW.skip ?_
 subst hy107
 refine AW.cutX (fun s ob => ∃ (j118 : List Int) (v119 : Value), L.leak_Alarms.J3 st87 j118 = some r106 ∧ s = [(11, .v v119)] ∧ ob = [.arr b2 122 2 1 [Accuracy.row a_1], .us v119 3 1 (j118.map rI)]) [(0, _), (2, _), (3, _), (5, _), (12, _)] ⟨I, I, I, I, I, trivial⟩ ?_ ?_
 refine AW.block (AW.seqG (fun y120 hy120 => ?_))
 obtain ⟨r121, hx122, h⟩ := ob_some h
 refine AW.region (AO.r 6 [.o 1 0] I ⟨I, trivial⟩ (AO.c (L.balance_Bounds_ok l_0 a_1 (wr (st87.2 - width_2)) st87.2 _ hx122) (AO.q 7 I (AO.nil ?_))))
 subst hy120
 refine AW.seq (AW.z I (AW.ch h I ?_ ?_))
 intro hc123 h
 refine AW.z I ?_
 obtain rfl := hb105 _ (Option.some.inj h).symm
 replace h := hR104
 replace h := se_l h
 refine AW.ghost (Ghost.nilU 3 1) (AW.ghost (Ghost.pick [2] (K := [.us (.slice none 0 0) 3 1 ([].map rI)]) I (by decide)) ?_)
 obtain rfl := Option.some.inj h
 exact AW.ret ⟨.inr I, [_, _], [.us (.slice none 0 0) 3 1 ([].map rI)], ⟨I, I, trivial⟩, sl_c I (sl_n), ⟨(.slice none 0 0), I, I⟩⟩
 intro hc123 h
 refine AW.skip (AW.z I (AW.ch h I ?_ ?_))
 intro hc124 h
 obtain ⟨l126, hx127, h⟩ := ob_some h
 refine AW.region (AO.q 2 I (AO.act [] I (AX.lt 1 (([st87.2] : List Int).map rI) (AO.act [1] I (AX.ap 1 I hx127 (fun v128 => (AO.q 1 I (AO.nil ?_))))))))
 exact lg ⟨l126, v128, h, I, I⟩ [0, 1]
 intro hc124 h
 refine AW.skip ?_
 exact lg ⟨st87.1, v88, h, I, I⟩ [0, 1]
 rintro s ob ⟨j118, v119, h, rfl, rfl⟩
 unfold L.leak_Alarms.J3 at h
 refine AW.region (AO.q 3 I ?_)
 obtain rfl := Option.some.inj h
 refine AO.nil ?_
 exact ⟨_, _, _, I, ⟨v119, I, I⟩, ⟨I, I, I, I, I, I, trivial⟩, [0, 1], I, by decide⟩
 intro hc108 h
 obtain rfl := hb105 _ (Option.some.inj h).symm
 replace h := hR104
 replace h := se_r h
 refine AW.exit ?_
 exact lg ⟨st87.1, v88, h, I, I⟩ [1]
 rintro s ob ⟨j54, v55, h, rfl, rfl⟩
 unfold L.leak_Alarms.J1 at h
 refine AW.z I ?_
 obtain rfl := Option.some.inj h
 exact AW.ret ⟨.inr I, [_, _], [.us v55 3 1 (j54.map rI)], ⟨I, I, trivial⟩, sl_c I (sl_n), ⟨v55, I, I⟩⟩

theorem L.balance_Error_ok (l_0 : List Balance) (a_1 : Accuracy) (from_2 : Int) (to_3 : Int) (r : Int × Int) (h : L.balance_Error l_0 a_1 from_2 to_3 = some r) : ACalls Try.env 119 [.list 3 (l_0.map Balance.row), .agg (Accuracy.row a_1), .v (.int .i64 from_2), .v (.int .i64 to_3)] [] (fun x new => x = .tup [.v (.int .i64 r.1), .v (.int .i64 r.2)] ∧ new = []) := by
 refine ACalls.of_body Try.func119 rfl rfl rfl (fun C hC => ?_)
 unfold L.balance_Error at h
 refine AW.seqG (fun y1 hy1 => (AW.region (AO.act [] I (AX.box (cs := Accuracy.row a_1) (m := 2) I I I (dst_some I) (fun b2 => (AO.q 2 I (AO.nil ?_)))))))
 subst hy1
 refine AW.seq (AW.seq ?_)
 obtain ⟨r3, hx4, h⟩ := ob_some h
 refine AW.region (AO.r 4 [.o 1 0] I ⟨I, trivial⟩ (AO.c (L.balance_check_ok l_0 a_1 from_2 to_3 _ hx4) (AO.q 1 I (AO.nil (AW.z I (AW.ch h I ?_ ?_))))))
 intro hc5 h
 refine AW.z I (AW.ghost (Ghost.pick [] (K := []) I (by decide)) ?_)
 obtain rfl := Option.some.inj h
 exact AW.ret ⟨.inr I, [_, _], [], ⟨I, I, trivial⟩, sl_n, I, I⟩
 intro hc5 h
 refine AW.skip (AW.seq ?_)
 obtain ⟨r6, hx7, h⟩ := ob_some h
 refine AW.region (AO.r 4 [.o 1 0] I ⟨I, trivial⟩ (AO.c (L.balance_wrong_ok l_0 a_1 from_2 to_3 _ hx7) (AO.q 2 I (AO.nil (AW.ghost (Ghost.pick [] (K := []) I (by decide)) ?_)))))
 obtain rfl := Option.some.inj h
 exact AW.ret ⟨.inr I, [_, _], [], ⟨I, I, trivial⟩, sl_n, I, I⟩

theorem L.leak_Least_ok (l_0 : List Balance) (a_1 : Accuracy) (width_2 : Int) (threshold_3 : Int) (r : Int × Int) (h : L.leak_Least l_0 a_1 width_2 threshold_3 = some r) : ACalls Try.env 73 [.list 3 (l_0.map Balance.row), .agg (Accuracy.row a_1), .v (.int .i64 width_2), .v (.int .i64 threshold_3)] [] (fun x new => x = .tup [.v (.int .i64 r.1), .v (.int .i64 r.2)] ∧ new = []) := by
 refine ACalls.of_body Try.func73 rfl rfl rfl (fun C hC => ?_)
 unfold L.leak_Least at h
 refine AW.seqG (fun y1 hy1 => (AW.region (AO.act [] I (AX.box (cs := Accuracy.row a_1) (m := 2) I I I (dst_some I) (fun b2 => (AO.q 2 I (AO.nil ?_)))))))
 subst hy1
 refine AW.seqG (fun y3 hy3 => (AW.seq ?_))
 obtain ⟨r4, hx5, h⟩ := ob_some h
 refine AW.region (AO.r 4 [.o 1 0] I ⟨I, trivial⟩ (AO.c (L.leak_check_ok l_0 a_1 width_2 threshold_3 _ hx5) (AO.q 1 I (AO.nil (AW.z I (AW.ch h I ?_ ?_))))))
 intro hc6 h
 refine AW.z I (AW.ghost (Ghost.pick [] (K := []) I (by decide)) ?_)
 obtain rfl := Option.some.inj h
 exact AW.ret ⟨.inr I, [_, _], [], ⟨I, I, trivial⟩, sl_n, I, I⟩
 intro hc6 h
 refine AW.skip ?_
 subst hy3
 refine AW.z I (AW.cutX (fun s ob => ∃ (j37 : Int), L.leak_Least.J1 j37 = some r ∧ s = [(11, .v (.int .i64 j37))] ∧ ob = []) [] trivial ?_ ?_)
 refine AW.z I (AW.block ?_)
 obtain ⟨o67, hL68, hR69⟩ := ob_some h
 clear h
 refine AW.loopX hL68 [(0, _), (2, _), (3, _), (5, _)] ⟨I, I, I, I, trivial⟩ (fun (st58 : Int × Int) s ob => s = [(11, .v (.int .i64 st58.1)), (12, .v (.int .i64 st58.2))] ∧ ob = [.arr b2 122 2 1 [Accuracy.row a_1]]) ⟨I, I⟩ ⟨I, I, trivial⟩ ⟨[0], I, by decide⟩ ?_
 rintro st58 r71 s ob ⟨rfl, rfl⟩ h hb70
 unfold L.leak_Least.B2 at h
 refine AW.seqG (fun y72 hy72 => (AW.zr [.l 2 (l_0.length : Int)] I ⟨len_m, trivial⟩ (AW.ch h I ?_ ?_)))
 intro hc73 h
 refine AW.skip ?_
 subst hy72
 refine AW.seq (AW.block (AW.seqG (fun y74 hy74 => ?_)))
 obtain ⟨r75, hx76, h⟩ := ob_some h
 refine AW.region (AO.r 6 [.o 1 0] I ⟨I, trivial⟩ (AO.c (L.balance_Error_ok l_0 a_1 (wr (st58.2 - width_2)) st58.2 _ hx76) (AO.q 5 I (AO.nil ?_))))
 subst hy74
 refine AW.seq (AW.z I (AW.ch h I ?_ ?_))
 intro hc77 h
 refine AW.z I ?_
 obtain rfl := hb70 _ (Option.some.inj h).symm
 replace h := hR69
 replace h := se_l h
 refine AW.ghost (Ghost.pick [] (K := []) I (by decide)) ?_
 obtain rfl := Option.some.inj h
 exact AW.ret ⟨.inr I, [_, _], [], ⟨I, I, trivial⟩, sl_n, I, I⟩
 intro hc77 h
 refine AW.skip ?_
 obtain ⟨x78, hx79, h⟩ := ob_some h
 refine AW.tr [.f 6 (.v (.int .i64 x78))] I ⟨Yp.yd (Yp.binI (c := x78) I I (quo_some hx79)), trivial⟩ (AW.region (AO.q 3 I ?_))
 obtain rfl := Option.some.inj h
 refine AO.nil ?_
 exact ⟨_, _, _, I, ⟨I, I⟩, ⟨I, I, I, I, I, I, trivial⟩, [0], I, by decide⟩
 intro hc73 h
 obtain rfl := hb70 _ (Option.some.inj h).symm
 replace h := hR69
 replace h := se_r h
 refine AW.exit ?_
 exact lg ⟨st58.1, h, I, I⟩ []
 rintro s ob ⟨j37, h, rfl, rfl⟩
 unfold L.leak_Least.J1 at h
 refine AW.z I ?_
 obtain rfl := Option.some.inj h
 exact AW.ret ⟨.inr I, [_, _], [], ⟨I, I, trivial⟩, sl_n, I, I⟩

theorem L.law35_awake_ok  (r : Bool) (h : L.law35_awake = some r) : ACalls Try.env 28 [] [] (fun x new => x = .v (.bool r) ∧ new = []) := by
 refine ACalls.of_body Try.func28 rfl rfl rfl (fun C hC => ?_)
 unfold L.law35_awake at h
 refine AW.z I (AW.seqG (fun y2 hy2 => (AW.region (AO.p (Yp.buildP (l := [.v (.int .i64 0), .v (.int .i64 0), .v (.int .i64 9)]) Try.bld118 I) I (AO.p (Yp.buildP (l := [.v (.int .i64 8), .v (.int .i64 5), .v (.int .i64 9)]) Try.bld118 I) I (AO.p (Yp.buildP (l := [.v (.int .i64 8), .v (.int .i64 5), .v (.int .i64 9)]) Try.bld118 I) I (AO.act [] I (AX.buildSlice (sz := 3) (es := ([(⟨0, 0, 9⟩ : Balance), (⟨8, 5, 9⟩ : Balance), (⟨8, 5, 9⟩ : Balance)] : List Balance).map Balance.row) I I I I I I I I I I I (dst_some I) (fun v3 => (AO.q 1 I (AO.nil ?_)))))))))))
 subst hy2
 refine AW.seqG (fun y4 hy4 => ?_)
 obtain ⟨r5, hx6, h⟩ := ob_some h
 refine AW.region (AO.q 1 I (AO.p (Yp.buildP (l := [.v (.int .i64 0), .v (.int .i64 0)]) Try.bld122 I) I (AO.ghost (Ghost.freeze [0] (K := [.us v3 118 3 (([(⟨0, 0, 9⟩ : Balance), (⟨8, 5, 9⟩ : Balance), (⟨8, 5, 9⟩ : Balance)] : List Balance).map Balance.row)]) I [(11, .list 3 (([(⟨0, 0, 9⟩ : Balance), (⟨8, 5, 9⟩ : Balance), (⟨8, 5, 9⟩ : Balance)] : List Balance).map Balance.row)), (1, .list 3 (([(⟨0, 0, 9⟩ : Balance), (⟨8, 5, 9⟩ : Balance), (⟨8, 5, 9⟩ : Balance)] : List Balance).map Balance.row)), (13, .list 3 (([(⟨0, 0, 9⟩ : Balance), (⟨8, 5, 9⟩ : Balance), (⟨8, 5, 9⟩ : Balance)] : List Balance).map Balance.row))] ⟨⟨_, I, .us 0 I⟩, ⟨_, I, .us 0 I⟩, ⟨_, I, .us 0 I⟩, trivial⟩ (ob' := []) (.rest _)) (AO.act [] I (AX.call0 I I I (L.leak_Alarms_ok ([(⟨0, 0, 9⟩ : Balance), (⟨8, 5, 9⟩ : Balance), (⟨8, 5, 9⟩ : Balance)] : List Balance) (⟨0, 0⟩ : Accuracy) 2 5 _ hx6) (dst_some I) ?_)))))
 rintro _ _ ⟨v7, rfl, rfl⟩
 refine AO.q 5 I (AO.nil ?_)
 subst hy4
 refine AW.seqG (fun y8 hy8 => ?_)
 obtain ⟨r9, hx10, h⟩ := ob_some h
 refine AW.region (AO.q 1 I (AO.p (Yp.buildP (l := [.v (.int .i64 0), .v (.int .i64 0)]) Try.bld122 I) I (AO.c (L.leak_Least_ok ([(⟨0, 0, 9⟩ : Balance), (⟨8, 5, 9⟩ : Balance), (⟨8, 5, 9⟩ : Balance)] : List Balance) (⟨0, 0⟩ : Accuracy) 2 5 _ hx10) (AO.q 5 I (AO.nil ?_)))))
 subst hy8
 refine AW.seqG (fun y11 hy11 => ?_)
 obtain ⟨r12, hx13, h⟩ := ob_some h
 refine AW.region (AO.q 1 I (AO.p (Yp.buildP (l := [.v (.int .i64 0), .v (.int .i64 0)]) Try.bld122 I) I (AO.act [] I (AX.call0 I I I (L.leak_Alarms_ok ([(⟨0, 0, 9⟩ : Balance), (⟨8, 5, 9⟩ : Balance), (⟨8, 5, 9⟩ : Balance)] : List Balance) (⟨0, 0⟩ : Accuracy) 2 6 _ hx13) (dst_some I) ?_))))
 rintro _ _ ⟨v14, rfl, rfl⟩
 refine AO.q 5 I (AO.nil ?_)
 subst hy11
 refine AW.cutX (fun s ob => ∃ (j23 : Bool), L.law35_awake.J1 j23 = some r ∧ s = [(0, .v (.bool j23))] ∧ ob = []) [] trivial ?_ ?_
 rcases Bool.eq_false_or_eq_true ((r5.2 == 0)) with hg24 | hg24
 replace h := ife_t hg24 h
 rcases Bool.eq_false_or_eq_true ((r9.2 == 0)) with hg25 | hg25
 replace h := ife_t hg25 h
 rcases Bool.eq_false_or_eq_true ((r12.2 == 0)) with hg26 | hg26
 replace h := ife_t hg26 h
 rcases Bool.eq_false_or_eq_true (((r5.1.length : Int) == 1)) with hg27 | hg27
 replace h := ife_t hg27 h
 obtain ⟨p28, hp29, h⟩ := ob_some h
 obtain ⟨hp29i, hp29x⟩ := ix_some hp29
 rcases Bool.eq_false_or_eq_true ((p28.2 == 2)) with hg30 | hg30
 replace h := ife_t hg30 h
 rcases Bool.eq_false_or_eq_true ((r9.1 == 3)) with hg31 | hg31
 replace h := ife_t hg31 h
 refine AW.region (AO.q 3 I (AO.known 32 I hg24 (AO.q 4 I (AO.known 36 I hg25 (AO.q 4 I (AO.known 40 I hg26 (AO.q 1 I (AO.gt I I I (AO.d (Yd.lenUM 0 I I I I) I (AO.q 3 I (AO.known 45 I hg27 (AO.q 1 I ?_))))))))))))
 refine AO.gt I I I (AO.d (Yd.indexU 0 (m := p28.1) I I I I I I I hp29i (map_get hp29x)) I (AO.gt I I I (AO.d (Yd.loadU 0 p28.1 0 I I I (map_get hp29x) I (y := .v (.int .i64 p28.2)) I) I (AO.q 3 I (AO.known 51 I hg30 (AO.q 4 I (AO.known 55 I hg31 (AO.q 1 I (AO.gt I I I (AO.d (Yd.lenUM 1 I I I I) I (AO.q 3 I (AO.nil ?_))))))))))))
 exact lg ⟨((r12.1.length : Int) == 0), h, I, I⟩ []
 replace h := ife_f hg31 h
 refine AW.region (AO.q 3 I (AO.known 32 I hg24 (AO.q 4 I (AO.known 36 I hg25 (AO.q 4 I (AO.known 40 I hg26 (AO.q 1 I (AO.gt I I I (AO.d (Yd.lenUM 0 I I I I) I (AO.q 3 I (AO.known 45 I hg27 (AO.q 1 I ?_))))))))))))
 refine AO.gt I I I (AO.d (Yd.indexU 0 (m := p28.1) I I I I I I I hp29i (map_get hp29x)) I (AO.gt I I I (AO.d (Yd.loadU 0 p28.1 0 I I I (map_get hp29x) I (y := .v (.int .i64 p28.2)) I) I (AO.q 3 I (AO.known 51 I hg30 (AO.q 4 I (AO.known 55 I hg31 (AO.q 5 I (AO.nil ?_)))))))))
 exact lg ⟨false, h, I, I⟩ []
 replace h := ife_f hg30 h
 refine AW.region (AO.q 3 I (AO.known 32 I hg24 (AO.q 4 I (AO.known 36 I hg25 (AO.q 4 I (AO.known 40 I hg26 (AO.q 1 I (AO.gt I I I (AO.d (Yd.lenUM 0 I I I I) I (AO.q 3 I (AO.known 45 I hg27 (AO.q 1 I ?_))))))))))))
 refine AO.gt I I I (AO.d (Yd.indexU 0 (m := p28.1) I I I I I I I hp29i (map_get hp29x)) I (AO.gt I I I (AO.d (Yd.loadU 0 p28.1 0 I I I (map_get hp29x) I (y := .v (.int .i64 p28.2)) I) I (AO.q 3 I (AO.known 51 I hg30 (AO.q 9 I (AO.nil ?_)))))))
 exact lg ⟨false, h, I, I⟩ []
 replace h := ife_f hg27 h
 refine AW.region (AO.q 3 I (AO.known 32 I hg24 (AO.q 4 I (AO.known 36 I hg25 (AO.q 4 I (AO.known 40 I hg26 (AO.q 1 I (AO.gt I I I (AO.d (Yd.lenUM 0 I I I I) I (AO.q 3 I (AO.known 45 I hg27 (AO.q 15 I ?_))))))))))))
 refine AO.nil ?_
 exact lg ⟨false, h, I, I⟩ []
 replace h := ife_f hg26 h
 refine AW.region (AO.q 3 I (AO.known 32 I hg24 (AO.q 4 I (AO.known 36 I hg25 (AO.q 4 I (AO.known 40 I hg26 (AO.q 20 I (AO.nil ?_))))))))
 exact lg ⟨false, h, I, I⟩ []
 replace h := ife_f hg25 h
 refine AW.region (AO.q 3 I (AO.known 32 I hg24 (AO.q 4 I (AO.known 36 I hg25 (AO.q 24 I (AO.nil ?_))))))
 exact lg ⟨false, h, I, I⟩ []
 replace h := ife_f hg24 h
 refine AW.region (AO.q 3 I (AO.known 32 I hg24 (AO.q 28 I (AO.nil ?_))))
 exact lg ⟨false, h, I, I⟩ []
 rintro s ob ⟨j23, h, rfl, rfl⟩
 unfold L.law35_awake.J1 at h
 obtain rfl := Option.some.inj h
 exact AW.ret ⟨.inr I, [_], [], ⟨I, trivial⟩, sl_n, I, I⟩

end Go.Proofs.Ytndfiddakngjdaa
