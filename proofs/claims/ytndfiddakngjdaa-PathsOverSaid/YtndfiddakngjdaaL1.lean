/- Walks that show what functions of the program compute; printed by a program of ours. No condition. -/
import Derived.Test.YtndfiddakngjdaaTab
import Derived.Test.YtndfiddakngjdaaD
namespace Go.Proofs.Ytndfiddakngjdaa
open Go.Aw
set_option linter.unusedVariables false
set_option linter.unusedSimpArgs false

set_option maxRecDepth 100000 in
set_option maxHeartbeats 4000000 in
theorem L.flow_Ends_ok (s_0 : Segment) (rate_1 : Int) (r : Int × Int) (h : L.flow_Ends s_0 rate_1 = r) : ACalls Try.env 148 [.agg (Segment.row s_0), .v (.int .i64 rate_1)] [] (fun x new => x = .tup [.v (.int .i64 r.1), .v (.int .i64 r.2)] ∧ new = []) := by
 refine ACalls.of_body Try.func148 rfl rfl rfl (fun C hC => ?_)
 unfold L.flow_Ends at h
 refine AW.seqG (fun y1 hy1 => (AW.region (AO.act [] I (AX.box (cs := Segment.row s_0) (m := 7) I I I (dst_some I) (fun b2 => (AO.a I I (AO.a I I (AO.nil ?_))))))))
 subst hy1
 refine AW.seq (AW.seq (AW.region (AO.m I I (AO.p (Yp.cmpI (c := decide (rate_1 < 0)) I I I) I (AO.nil (AW.cond I I ?_ ?_))))))
 intro hc3
 replace h := ife_t hc3 h
 refine AW.seq (AW.regionD (.still 0 (.still 1 (.still 2 (.still 3 (.still 4 (.still 5 .nil)))))) [0] [_] (by kernel_rfl) I (AP.op I (Yp.fieldPtr I I I I I I) I (AP.o I (Yd.loadO 0 0 2 I I I I I (y := .v (.int .i64 s_0.To)) I) I (AP.op I (Yp.fieldPtr I I I I I I) I (AP.o I (Yd.loadO 0 0 1 I I I I I (y := .v (.int .i64 s_0.From)) I) I (AP.op I (Yp.assign I) I (AP.op I (Yp.assign I) I (AP.ofAO (AO.nil (AW.ghost (Ghost.pick [] (K := []) I (by decide)) ?_))))))))))
 obtain rfl := h
 refine AW.ret ?_
 exact ⟨.inr I, [_, _], [], ⟨I, I, trivial⟩, sl_n, ⟨I, I⟩⟩
 intro hc3
 replace h := ife_f hc3 h
 refine AW.skip (AW.seq (AW.regionD (.still 0 (.still 1 (.still 2 (.still 3 (.still 4 (.still 5 .nil)))))) [0] [_] (by kernel_rfl) I (AP.op I (Yp.fieldPtr I I I I I I) I (AP.o I (Yd.loadO 0 0 1 I I I I I (y := .v (.int .i64 s_0.From)) I) I (AP.op I (Yp.fieldPtr I I I I I I) I (AP.o I (Yd.loadO 0 0 2 I I I I I (y := .v (.int .i64 s_0.To)) I) I (AP.op I (Yp.assign I) I (AP.op I (Yp.assign I) I (AP.ofAO (AO.nil (AW.ghost (Ghost.pick [] (K := []) I (by decide)) ?_)))))))))))
 obtain rfl := h
 refine AW.ret ?_
 exact ⟨.inr I, [_, _], [], ⟨I, I, trivial⟩, sl_n, ⟨I, I⟩⟩

set_option maxRecDepth 100000 in
set_option maxHeartbeats 4000000 in
theorem L.flow_within_ok (rate_0 : Int) (most_1 : Int) (r : Bool) (h : L.flow_within rate_0 most_1 = r) : ACalls Try.env 109 [.v (.int .i64 rate_0), .v (.int .i64 most_1)] [] (fun x new => x = .v (.bool r) ∧ new = []) := by
 refine ACalls.of_body Try.func109 rfl rfl rfl (fun C hC => ?_)
 unfold L.flow_within at h
 refine AW.seqG (fun y1 hy1 => (AW.region (AO.a I I (AO.nil ?_))))
 subst hy1
 refine AW.cutX (fun s ob => s = [(4, .v (.bool (decide (rate_0 ≥ (wr (0 - most_1))) && decide (rate_0 ≤ most_1))))] ∧ ob = []) [] trivial ?_ ?_
 rcases Bool.eq_false_or_eq_true (decide (rate_0 ≥ (wr (0 - most_1)))) with hg4 | hg4
 refine AW.region (AO.m I I (AO.m I I (AO.p (Yp.neg (c := wr (0 - most_1)) I I) I (AO.p (Yp.cmpI (c := decide (rate_0 ≥ (wr (0 - most_1)))) I I I) I (AO.m I I (AO.known 9 I hg4 (AO.gt I I I (AO.m I I (AO.gt I I I (AO.m I I (AO.gt I I I (AO.p (Yp.cmpI (c := decide (rate_0 ≤ most_1)) I I I) I ?_))))))))))))
 refine AO.p (Yp.pickT I I) I (AO.a I I (AO.nil ?_))
 exact ⟨_, _, ⟨I, I⟩, ⟨(get_b (by simp only [hg4, Bool.true_and, Bool.false_and, Bool.true_or, Bool.false_or, Bool.not_true, Bool.not_false, cond_true, cond_false])), trivial⟩, [], I, by decide⟩
 refine AW.region (AO.m I I (AO.m I I (AO.p (Yp.neg (c := wr (0 - most_1)) I I) I (AO.p (Yp.cmpI (c := decide (rate_0 ≥ (wr (0 - most_1)))) I I I) I (AO.m I I (AO.known 9 I hg4 (AO.gf I I I (AO.gf I I I (AO.gf I I I (AO.p (Yp.pickF I I) I (AO.a I I (AO.nil ?_))))))))))))
 exact ⟨_, _, ⟨I, I⟩, ⟨(get_b (by simp only [hg4, Bool.true_and, Bool.false_and, Bool.true_or, Bool.false_or, Bool.not_true, Bool.not_false, cond_true, cond_false])), trivial⟩, [], I, by decide⟩
 rintro s ob ⟨rfl, rfl⟩
 obtain rfl := h
 refine AW.ret ?_
 exact ⟨.inr I, [_], [], ⟨I, trivial⟩, sl_n, ⟨I, I⟩⟩

set_option maxRecDepth 100000 in
set_option maxHeartbeats 4000000 in
theorem L.keep_Mod_ok (x_0 : Int) (n_1 : Int) (r : Int) (h : L.keep_Mod x_0 n_1 = some r) : ACalls Try.env 64 [.v (.int .i64 x_0), .v (.int .i64 n_1)] [] (fun x new => x = .v (.int .i64 r) ∧ new = []) := by
 refine ACalls.of_body Try.func64 rfl rfl rfl (fun C hC => ?_)
 unfold L.keep_Mod at h
 refine AW.seqG (fun y1 hy1 => (AW.region (AO.a I I (AO.nil ?_))))
 subst hy1
 refine AW.seqG (fun y2 hy2 => (AW.seq (AW.region (AO.m I I (AO.p (Yp.cmpI (c := decide (n_1 < 1)) I I I) I (AO.nil (AW.cond I I ?_ ?_)))))))
 intro hc3
 replace h := ife_t hc3 h
 refine AW.seq (AW.region (AO.a I I (AO.nil ?_)))
 obtain rfl := Option.some.inj h
 refine AW.ret ?_
 exact ⟨.inr I, [_], [], ⟨I, trivial⟩, sl_n, ⟨I, I⟩⟩
 intro hc3
 replace h := ife_f hc3 h
 refine AW.skip ?_
 subst hy2
 refine AW.seqG (fun y4 hy4 => ?_)
 obtain ⟨x5, hx6, h⟩ := ob_some h
 refine AW.region (AO.m I I (AO.m I I (AO.p (Yp.binI (c := x5) I I (rem_some hx6)) I (AO.a I I (AO.nil ?_)))))
 subst hy4
 refine AW.cutX (fun s ob => ∃ (j8 : Int), L.keep_Mod.J1 j8 = some r ∧ s = [(0, .v (.int .i64 j8))] ∧ ob = []) [] trivial ?_ ?_
 refine AW.seq (AW.region (AO.m I I (AO.p (Yp.cmpI (c := decide (x5 < 0)) I I I) I (AO.nil (AW.cond I I ?_ ?_)))))
 intro hc9
 replace h := ife_t hc9 h
 refine AW.region (AO.m I I (AO.m I I (AO.p (Yp.binI (c := wr (x5 + n_1)) I I I) I (AO.a I I (AO.nil ?_)))))
 exact ⟨_, _, ⟨wr (x5 + n_1), h, I, I⟩, ⟨I, trivial⟩, [], I, by decide⟩
 intro hc9
 replace h := ife_f hc9 h
 refine AW.skip ?_
 exact ⟨_, _, ⟨x5, h, I, I⟩, ⟨I, trivial⟩, [], I, by decide⟩
 rintro s ob ⟨j8, h, rfl, rfl⟩
 unfold L.keep_Mod.J1 at h
 refine AW.seq (AW.region (AO.m I I (AO.a I I (AO.nil ?_))))
 obtain rfl := Option.some.inj h
 refine AW.ret ?_
 exact ⟨.inr I, [_], [], ⟨I, trivial⟩, sl_n, ⟨I, I⟩⟩

set_option maxRecDepth 100000 in
set_option maxHeartbeats 4000000 in
theorem L.network_in_ok (n_0 : Int) (least_1 : Int) (most_2 : Int) (r : Bool) (h : L.network_in n_0 least_1 most_2 = r) : ACalls Try.env 143 [.v (.int .i64 n_0), .v (.int .i64 least_1), .v (.int .i64 most_2)] [] (fun x new => x = .v (.bool r) ∧ new = []) := by
 refine ACalls.of_body Try.func143 rfl rfl rfl (fun C hC => ?_)
 unfold L.network_in at h
 refine AW.seq (AW.region (AO.a I I (AO.nil (AW.cutX (fun s ob => s = [(6, .v (.bool (decide (n_0 ≥ least_1) && decide (n_0 ≤ most_2))))] ∧ ob = []) [] trivial ?_ ?_))))
 rcases Bool.eq_false_or_eq_true (decide (n_0 ≥ least_1)) with hg3 | hg3
 refine AW.region (AO.m I I (AO.m I I (AO.p (Yp.cmpI (c := decide (n_0 ≥ least_1)) I I I) I (AO.m I I (AO.known 10 I hg3 (AO.gt I I I (AO.m I I (AO.gt I I I (AO.m I I (AO.gt I I I (AO.p (Yp.cmpI (c := decide (n_0 ≤ most_2)) I I I) I (AO.p (Yp.pickT I I) I ?_))))))))))))
 refine AO.a I I (AO.nil ?_)
 exact ⟨_, _, ⟨I, I⟩, ⟨(get_b (by simp only [hg3, Bool.true_and, Bool.false_and, Bool.true_or, Bool.false_or, Bool.not_true, Bool.not_false, cond_true, cond_false])), trivial⟩, [], I, by decide⟩
 refine AW.region (AO.m I I (AO.m I I (AO.p (Yp.cmpI (c := decide (n_0 ≥ least_1)) I I I) I (AO.m I I (AO.known 10 I hg3 (AO.gf I I I (AO.gf I I I (AO.gf I I I (AO.p (Yp.pickF I I) I (AO.a I I (AO.nil ?_)))))))))))
 exact ⟨_, _, ⟨I, I⟩, ⟨(get_b (by simp only [hg3, Bool.true_and, Bool.false_and, Bool.true_or, Bool.false_or, Bool.not_true, Bool.not_false, cond_true, cond_false])), trivial⟩, [], I, by decide⟩
 rintro s ob ⟨rfl, rfl⟩
 obtain rfl := h
 refine AW.ret ?_
 exact ⟨.inr I, [_], [], ⟨I, trivial⟩, sl_n, ⟨I, I⟩⟩

set_option maxRecDepth 100000 in
set_option maxHeartbeats 4000000 in
theorem L.ref16_Abs_ok (n_0 : Int) (r : Int) (h : L.ref16_Abs n_0 = r) : ACalls Try.env 20 [.v (.int .i64 n_0)] [] (fun x new => x = .v (.int .i64 r) ∧ new = []) := by
 refine ACalls.of_body Try.func20 rfl rfl rfl (fun C hC => ?_)
 unfold L.ref16_Abs at h
 refine AW.seq (AW.region (AO.a I I (AO.nil (AW.seq (AW.region (AO.m I I (AO.m I I (AO.p (Yp.neg (c := wr (0 - n_0)) I I) I (AO.p (Yp.maxI I I) I (AO.a I I (AO.nil ?_)))))))))))
 obtain rfl := h
 refine AW.ret ?_
 exact ⟨.inr I, [_], [], ⟨I, trivial⟩, sl_n, ⟨I, I⟩⟩

set_option maxRecDepth 100000 in
set_option maxHeartbeats 4000000 in
theorem L.slices_Index_int_int_ok (s_0 : List Int) (v_1 : Int) (r : Int) (h : L.slices_Index_int_int s_0 v_1 = some r) : ACalls Try.env 99 [.list 1 (s_0.map rI), .v (.int .i64 v_1)] [] (fun x new => x = .v (.int .i64 r) ∧ new = []) := by
 refine ACalls.of_body Try.func99 rfl rfl rfl (fun C hC => ?_)
 unfold L.slices_Index_int_int at h
 refine AW.seqG (fun y1 hy1 => (AW.region (AO.a I I (AO.nil ?_))))
 subst hy1
 refine AW.cutX (fun s ob => ∃ (j20 : Unit), L.slices_Index_int_int.J1 j20 = some r ∧ s = [] ∧ ob = []) [] trivial ?_ ?_
 refine AW.seqG (fun y21 hy21 => (AW.region (AO.m I I (AO.p (Yp.lenM I I I) I (AO.m I I (AO.nil ?_))))))
 subst hy21
 refine AW.block (AW.listMax 6 I (fun hm24 => ?_))
 replace hm24 : s_0.length ≤ 9223372036854775806 := by rw [List.length_map] at hm24; omega
 obtain ⟨o37, hL38, hR39⟩ := ob_some h
 clear h
 refine AW.forX hL38 [(0, _), (1, _), (7, _)] ⟨I, I, I, trivial⟩ (fun (k22 : Nat) (st32 : Unit) s ob => s = [(8, .v (.int .i64 (k22 : Int)))] ∧ ob = []) ⟨I, I⟩ ⟨I, trivial⟩ ⟨[], I, by decide⟩ ?_ ?_
 rintro k22 x25 st32 r41 s ob hx26 hk23 ⟨rfl, rfl⟩ h hb40
 unfold L.slices_Index_int_int.B2 at h
 have hk23t : decide ((k22 : Int) < (s_0.length : Int)) = true := by simp; omega
 refine AW.seqG (fun y42 hy42 => (AW.region (AO.p (Yp.cmpI (c := decide ((k22 : Int) < (s_0.length : Int))) I I I) I (AO.nil ?_))))
 subst hy42
 refine AW.seqG (fun y43 hy43 => (AW.condK (v := true) I hk23t (AW.skip ?_)))
 subst hy43
 refine AW.seq (AW.block (AW.seqG (fun y44 hy44 => (AW.region (AO.m I I (AO.a I I (AO.nil ?_)))))))
 subst hy44
 refine AW.seq (AW.region (AO.m I I (AO.m I I (AO.m I I (AO.p (Yp.indexE (m := k22) I I I I I I I (map_get hx26)) I (AO.d (Yd.loadE I I (y := .v (.int .i64 x25)) I) I (AO.p (Yp.cmpI (c := (v_1 == x25)) I I I) I (AO.nil (AW.cond I I ?_ ?_)))))))))
 intro hc45
 replace h := ife_t hc45 h
 refine AW.seq (AW.region (AO.m I I (AO.a I I (AO.nil ?_))))
 obtain rfl := hb40 _ (Option.some.inj h).symm
 replace h := hR39
 replace h := se_r h
 obtain rfl := Option.some.inj h
 refine AW.ret ?_
 exact ⟨.inr I, [_], [], ⟨I, trivial⟩, sl_n, ⟨I, I⟩⟩
 intro hc45
 replace h := ife_f hc45 h
 refine AW.skip (AW.region (AO.p (Yp.binI (c := ((k22 + 1 : Nat) : Int)) I I (cast_wr hk23 hm24)) I (AO.m I I ?_)))
 obtain rfl := Option.some.inj h
 refine AO.nil ?_
 exact ⟨_, _, _, I, ⟨I, I⟩, ⟨I, I, I, I, trivial⟩, [], I, by decide⟩
 rintro st32 s ob ⟨rfl, rfl⟩ he
 subst he
 have h := se_l hR39
 have hk23f : decide (((s_0.length : Nat) : Int) < (s_0.length : Int)) = false := by simp
 refine AW.seqG (fun y46 hy46 => (AW.region (AO.p (Yp.cmpI (c := decide (((s_0.length : Nat) : Int) < (s_0.length : Int))) I I I) I (AO.nil ?_))))
 subst hy46
 refine AW.seqG (fun y47 hy47 => (AW.condK (v := false) I hk23f (AW.exit ?_)))
 exact ⟨_, _, ⟨(), h, I, I⟩, trivial, [], I, by decide⟩
 rintro s ob ⟨j20, h, rfl, rfl⟩
 unfold L.slices_Index_int_int.J1 at h
 refine AW.seq (AW.region (AO.a I I (AO.nil ?_)))
 obtain rfl := Option.some.inj h
 refine AW.ret ?_
 exact ⟨.inr I, [_], [], ⟨I, trivial⟩, sl_n, ⟨I, I⟩⟩

set_option maxRecDepth 100000 in
set_option maxHeartbeats 4000000 in
theorem L.slices_Index_string_string_ok (s_0 : List ByteArray) (v_1 : ByteArray) (r : Int) (h : L.slices_Index_string_string s_0 v_1 = some r) : ACalls Try.env 135 [.list 1 (s_0.map rS), .v (.string v_1)] [] (fun x new => x = .v (.int .i64 r) ∧ new = []) := by
 refine ACalls.of_body Try.func135 rfl rfl rfl (fun C hC => ?_)
 unfold L.slices_Index_string_string at h
 refine AW.seqG (fun y1 hy1 => (AW.region (AO.a I I (AO.nil ?_))))
 subst hy1
 refine AW.cutX (fun s ob => ∃ (j20 : Unit), L.slices_Index_string_string.J1 j20 = some r ∧ s = [] ∧ ob = []) [] trivial ?_ ?_
 refine AW.seqG (fun y21 hy21 => (AW.region (AO.m I I (AO.p (Yp.lenM I I I) I (AO.m I I (AO.nil ?_))))))
 subst hy21
 refine AW.block (AW.listMax 6 I (fun hm24 => ?_))
 replace hm24 : s_0.length ≤ 9223372036854775806 := by rw [List.length_map] at hm24; omega
 obtain ⟨o37, hL38, hR39⟩ := ob_some h
 clear h
 refine AW.forX hL38 [(0, _), (1, _), (7, _)] ⟨I, I, I, trivial⟩ (fun (k22 : Nat) (st32 : Unit) s ob => s = [(8, .v (.int .i64 (k22 : Int)))] ∧ ob = []) ⟨I, I⟩ ⟨I, trivial⟩ ⟨[], I, by decide⟩ ?_ ?_
 rintro k22 x25 st32 r41 s ob hx26 hk23 ⟨rfl, rfl⟩ h hb40
 unfold L.slices_Index_string_string.B2 at h
 have hk23t : decide ((k22 : Int) < (s_0.length : Int)) = true := by simp; omega
 refine AW.seqG (fun y42 hy42 => (AW.region (AO.p (Yp.cmpI (c := decide ((k22 : Int) < (s_0.length : Int))) I I I) I (AO.nil ?_))))
 subst hy42
 refine AW.seqG (fun y43 hy43 => (AW.condK (v := true) I hk23t (AW.skip ?_)))
 subst hy43
 refine AW.seq (AW.block (AW.seqG (fun y44 hy44 => (AW.region (AO.m I I (AO.a I I (AO.nil ?_)))))))
 subst hy44
 refine AW.seq (AW.region (AO.m I I (AO.m I I (AO.m I I (AO.p (Yp.indexE (m := k22) I I I I I I I (map_get hx26)) I (AO.d (Yd.loadE I I (y := .v (.string x25)) I) I (AO.p (Yp.cmpS (c := sEq v_1 x25) I I I) I (AO.nil (AW.cond I I ?_ ?_)))))))))
 intro hc45
 replace h := ife_t hc45 h
 refine AW.seq (AW.region (AO.m I I (AO.a I I (AO.nil ?_))))
 obtain rfl := hb40 _ (Option.some.inj h).symm
 replace h := hR39
 replace h := se_r h
 obtain rfl := Option.some.inj h
 refine AW.ret ?_
 exact ⟨.inr I, [_], [], ⟨I, trivial⟩, sl_n, ⟨I, I⟩⟩
 intro hc45
 replace h := ife_f hc45 h
 refine AW.skip (AW.region (AO.p (Yp.binI (c := ((k22 + 1 : Nat) : Int)) I I (cast_wr hk23 hm24)) I (AO.m I I ?_)))
 obtain rfl := Option.some.inj h
 refine AO.nil ?_
 exact ⟨_, _, _, I, ⟨I, I⟩, ⟨I, I, I, I, trivial⟩, [], I, by decide⟩
 rintro st32 s ob ⟨rfl, rfl⟩ he
 subst he
 have h := se_l hR39
 have hk23f : decide (((s_0.length : Nat) : Int) < (s_0.length : Int)) = false := by simp
 refine AW.seqG (fun y46 hy46 => (AW.region (AO.p (Yp.cmpI (c := decide (((s_0.length : Nat) : Int) < (s_0.length : Int))) I I I) I (AO.nil ?_))))
 subst hy46
 refine AW.seqG (fun y47 hy47 => (AW.condK (v := false) I hk23f (AW.exit ?_)))
 exact ⟨_, _, ⟨(), h, I, I⟩, trivial, [], I, by decide⟩
 rintro s ob ⟨j20, h, rfl, rfl⟩
 unfold L.slices_Index_string_string.J1 at h
 refine AW.seq (AW.region (AO.a I I (AO.nil ?_)))
 obtain rfl := Option.some.inj h
 refine AW.ret ?_
 exact ⟨.inr I, [_], [], ⟨I, trivial⟩, sl_n, ⟨I, I⟩⟩

set_option maxRecDepth 100000 in
set_option maxHeartbeats 4000000 in
theorem L.slices_IndexFunc_int_int_ok (s_0 : List Int) (F1 : T) {f1 : FuncId} {p1 s1 : List T} (h1 : fnT F1 = some (f1, p1, s1)) (g1 : Int → Option Bool) (hg1 : ∀ (y0 : Int) r, g1 y0 = some r → ACalls Try.env f1 (p1 ++ [.v (.int .i64 y0)] ++ s1) [] (fun x new => x = .v (.bool r) ∧ new = [])) (r : Int) (h : L.slices_IndexFunc_int_int s_0 g1 = some r) : ACalls Try.env 146 [.list 1 (s_0.map rI), F1] [] (fun x new => x = .v (.int .i64 r) ∧ new = []) := by
 refine ACalls.of_body Try.func146 rfl rfl rfl (fun C hC => ?_)
 unfold L.slices_IndexFunc_int_int at h
 refine AW.seqG (fun y1 hy1 => (AW.region (AO.a I I (AO.nil ?_))))
 subst hy1
 refine AW.cutX (fun s ob => ∃ (j24 : Unit), L.slices_IndexFunc_int_int.J1 j24 = some r ∧ s = [] ∧ ob = []) [] trivial ?_ ?_
 refine AW.seqG (fun y25 hy25 => (AW.region (AO.m I I (AO.p (Yp.lenM I I I) I (AO.m I I (AO.nil ?_))))))
 subst hy25
 refine AW.block (AW.listMax 6 I (fun hm28 => ?_))
 replace hm28 : s_0.length ≤ 9223372036854775806 := by rw [List.length_map] at hm28; omega
 obtain ⟨o45, hL46, hR47⟩ := ob_some h
 clear h
 refine AW.forX hL46 [(0, _), (1, _), (7, _)] ⟨I, I, I, trivial⟩ (fun (k26 : Nat) (st38 : Unit) s ob => s = [(8, .v (.int .i64 (k26 : Int)))] ∧ ob = []) ⟨I, I⟩ ⟨I, trivial⟩ ⟨[], I, by decide⟩ ?_ ?_
 rintro k26 x29 st38 r49 s ob hx30 hk27 ⟨rfl, rfl⟩ h hb48
 unfold L.slices_IndexFunc_int_int.B2 at h
 have hk27t : decide ((k26 : Int) < (s_0.length : Int)) = true := by simp; omega
 refine AW.seqG (fun y50 hy50 => (AW.region (AO.p (Yp.cmpI (c := decide ((k26 : Int) < (s_0.length : Int))) I I I) I (AO.nil ?_))))
 subst hy50
 refine AW.seqG (fun y51 hy51 => (AW.condK (v := true) I hk27t (AW.skip ?_)))
 subst hy51
 refine AW.seq (AW.block (AW.seqG (fun y52 hy52 => (AW.region (AO.m I I (AO.a I I (AO.nil ?_)))))))
 subst hy52
 refine AW.seq ?_
 obtain ⟨r53, hx54, h⟩ := ob_some h
 refine AW.region (AO.m I I (AO.m I I (AO.m I I (AO.p (Yp.indexE (m := k26) I I I I I I I (map_get hx30)) I (AO.d (Yd.loadE I I (y := .v (.int .i64 x29)) I) I (AO.act [] I (AX.callL I (.refl _) h1 I (.rest _) I (hg1 _ _ hx54) (dst_some I) (by rintro _ _ ⟨rfl, _⟩; rfl) ?_)))))))
 rintro _ ⟨_, rfl, -⟩
 refine AO.nil (AW.cond I I ?_ ?_)
 intro hc55
 replace h := ife_t hc55 h
 refine AW.seq (AW.region (AO.m I I (AO.a I I (AO.nil ?_))))
 obtain rfl := hb48 _ (Option.some.inj h).symm
 replace h := hR47
 replace h := se_r h
 obtain rfl := Option.some.inj h
 refine AW.ret ?_
 exact ⟨.inr I, [_], [], ⟨I, trivial⟩, sl_n, ⟨I, I⟩⟩
 intro hc55
 replace h := ife_f hc55 h
 refine AW.skip (AW.region (AO.p (Yp.binI (c := ((k26 + 1 : Nat) : Int)) I I (cast_wr hk27 hm28)) I (AO.m I I ?_)))
 obtain rfl := Option.some.inj h
 refine AO.nil ?_
 exact ⟨_, _, _, I, ⟨I, I⟩, ⟨I, I, I, I, trivial⟩, [], I, by decide⟩
 rintro st38 s ob ⟨rfl, rfl⟩ he
 subst he
 have h := se_l hR47
 have hk27f : decide (((s_0.length : Nat) : Int) < (s_0.length : Int)) = false := by simp
 refine AW.seqG (fun y56 hy56 => (AW.region (AO.p (Yp.cmpI (c := decide (((s_0.length : Nat) : Int) < (s_0.length : Int))) I I I) I (AO.nil ?_))))
 subst hy56
 refine AW.seqG (fun y57 hy57 => (AW.condK (v := false) I hk27f (AW.exit ?_)))
 exact ⟨_, _, ⟨(), h, I, I⟩, trivial, [], I, by decide⟩
 rintro s ob ⟨j24, h, rfl, rfl⟩
 unfold L.slices_IndexFunc_int_int.J1 at h
 refine AW.seq (AW.region (AO.a I I (AO.nil ?_)))
 obtain rfl := Option.some.inj h
 refine AW.ret ?_
 exact ⟨.inr I, [_], [], ⟨I, trivial⟩, sl_n, ⟨I, I⟩⟩

set_option maxRecDepth 100000 in
set_option maxHeartbeats 4000000 in
theorem L.slices_ContainsFunc_int_int_ok (s_0 : List Int) (F1 : T) {f1 : FuncId} {p1 s1 : List T} (h1 : fnT F1 = some (f1, p1, s1)) (g1 : Int → Option Bool) (hg1 : ∀ (y0 : Int) r, g1 y0 = some r → ACalls Try.env f1 (p1 ++ [.v (.int .i64 y0)] ++ s1) [] (fun x new => x = .v (.bool r) ∧ new = [])) (r : Bool) (h : L.slices_ContainsFunc_int_int s_0 g1 = some r) : ACalls Try.env 110 [.list 1 (s_0.map rI), F1] [] (fun x new => x = .v (.bool r) ∧ new = []) := by
 refine ACalls.of_body Try.func110 rfl rfl rfl (fun C hC => ?_)
 unfold L.slices_ContainsFunc_int_int at h
 refine AW.seq (AW.region (AO.a I I (AO.nil (AW.seq ?_))))
 obtain ⟨r1, hx2, h⟩ := ob_some h
 refine AW.region (AO.m I I (AO.m I I (AO.act [] I (AX.callL I (.refl _) I I (.rest _) I (L.slices_IndexFunc_int_int_ok s_0 F1 h1 g1 hg1 _ hx2) (dst_some I) (by rintro _ _ ⟨rfl, _⟩; rfl) ?_))))
 rintro _ ⟨_, rfl, -⟩
 refine AO.p (Yp.cmpI (c := decide (r1 ≥ 0)) I I I) I (AO.a I I (AO.nil ?_))
 obtain rfl := Option.some.inj h
 refine AW.ret ?_
 exact ⟨.inr I, [_], [], ⟨I, trivial⟩, sl_n, ⟨I, I⟩⟩

set_option maxRecDepth 100000 in
set_option maxHeartbeats 4000000 in
theorem L.slices_IndexFunc_string_string_ok (s_0 : List ByteArray) (F1 : T) {f1 : FuncId} {p1 s1 : List T} (h1 : fnT F1 = some (f1, p1, s1)) (g1 : ByteArray → Option Bool) (hg1 : ∀ (y0 : ByteArray) r, g1 y0 = some r → ACalls Try.env f1 (p1 ++ [.v (.string y0)] ++ s1) [] (fun x new => x = .v (.bool r) ∧ new = [])) (r : Int) (h : L.slices_IndexFunc_string_string s_0 g1 = some r) : ACalls Try.env 133 [.list 1 (s_0.map rS), F1] [] (fun x new => x = .v (.int .i64 r) ∧ new = []) := by
 refine ACalls.of_body Try.func133 rfl rfl rfl (fun C hC => ?_)
 unfold L.slices_IndexFunc_string_string at h
 refine AW.seqG (fun y1 hy1 => (AW.region (AO.a I I (AO.nil ?_))))
 subst hy1
 refine AW.cutX (fun s ob => ∃ (j24 : Unit), L.slices_IndexFunc_string_string.J1 j24 = some r ∧ s = [] ∧ ob = []) [] trivial ?_ ?_
 refine AW.seqG (fun y25 hy25 => (AW.region (AO.m I I (AO.p (Yp.lenM I I I) I (AO.m I I (AO.nil ?_))))))
 subst hy25
 refine AW.block (AW.listMax 6 I (fun hm28 => ?_))
 replace hm28 : s_0.length ≤ 9223372036854775806 := by rw [List.length_map] at hm28; omega
 obtain ⟨o45, hL46, hR47⟩ := ob_some h
 clear h
 refine AW.forX hL46 [(0, _), (1, _), (7, _)] ⟨I, I, I, trivial⟩ (fun (k26 : Nat) (st38 : Unit) s ob => s = [(8, .v (.int .i64 (k26 : Int)))] ∧ ob = []) ⟨I, I⟩ ⟨I, trivial⟩ ⟨[], I, by decide⟩ ?_ ?_
 rintro k26 x29 st38 r49 s ob hx30 hk27 ⟨rfl, rfl⟩ h hb48
 unfold L.slices_IndexFunc_string_string.B2 at h
 have hk27t : decide ((k26 : Int) < (s_0.length : Int)) = true := by simp; omega
 refine AW.seqG (fun y50 hy50 => (AW.region (AO.p (Yp.cmpI (c := decide ((k26 : Int) < (s_0.length : Int))) I I I) I (AO.nil ?_))))
 subst hy50
 refine AW.seqG (fun y51 hy51 => (AW.condK (v := true) I hk27t (AW.skip ?_)))
 subst hy51
 refine AW.seq (AW.block (AW.seqG (fun y52 hy52 => (AW.region (AO.m I I (AO.a I I (AO.nil ?_)))))))
 subst hy52
 refine AW.seq ?_
 obtain ⟨r53, hx54, h⟩ := ob_some h
 refine AW.region (AO.m I I (AO.m I I (AO.m I I (AO.p (Yp.indexE (m := k26) I I I I I I I (map_get hx30)) I (AO.d (Yd.loadE I I (y := .v (.string x29)) I) I (AO.act [] I (AX.callL I (.refl _) h1 I (.rest _) I (hg1 _ _ hx54) (dst_some I) (by rintro _ _ ⟨rfl, _⟩; rfl) ?_)))))))
 rintro _ ⟨_, rfl, -⟩
 refine AO.nil (AW.cond I I ?_ ?_)
 intro hc55
 replace h := ife_t hc55 h
 refine AW.seq (AW.region (AO.m I I (AO.a I I (AO.nil ?_))))
 obtain rfl := hb48 _ (Option.some.inj h).symm
 replace h := hR47
 replace h := se_r h
 obtain rfl := Option.some.inj h
 refine AW.ret ?_
 exact ⟨.inr I, [_], [], ⟨I, trivial⟩, sl_n, ⟨I, I⟩⟩
 intro hc55
 replace h := ife_f hc55 h
 refine AW.skip (AW.region (AO.p (Yp.binI (c := ((k26 + 1 : Nat) : Int)) I I (cast_wr hk27 hm28)) I (AO.m I I ?_)))
 obtain rfl := Option.some.inj h
 refine AO.nil ?_
 exact ⟨_, _, _, I, ⟨I, I⟩, ⟨I, I, I, I, trivial⟩, [], I, by decide⟩
 rintro st38 s ob ⟨rfl, rfl⟩ he
 subst he
 have h := se_l hR47
 have hk27f : decide (((s_0.length : Nat) : Int) < (s_0.length : Int)) = false := by simp
 refine AW.seqG (fun y56 hy56 => (AW.region (AO.p (Yp.cmpI (c := decide (((s_0.length : Nat) : Int) < (s_0.length : Int))) I I I) I (AO.nil ?_))))
 subst hy56
 refine AW.seqG (fun y57 hy57 => (AW.condK (v := false) I hk27f (AW.exit ?_)))
 exact ⟨_, _, ⟨(), h, I, I⟩, trivial, [], I, by decide⟩
 rintro s ob ⟨j24, h, rfl, rfl⟩
 unfold L.slices_IndexFunc_string_string.J1 at h
 refine AW.seq (AW.region (AO.a I I (AO.nil ?_)))
 obtain rfl := Option.some.inj h
 refine AW.ret ?_
 exact ⟨.inr I, [_], [], ⟨I, trivial⟩, sl_n, ⟨I, I⟩⟩

set_option maxRecDepth 100000 in
set_option maxHeartbeats 4000000 in
theorem L.slices_ContainsFunc_string_string_ok (s_0 : List ByteArray) (F1 : T) {f1 : FuncId} {p1 s1 : List T} (h1 : fnT F1 = some (f1, p1, s1)) (g1 : ByteArray → Option Bool) (hg1 : ∀ (y0 : ByteArray) r, g1 y0 = some r → ACalls Try.env f1 (p1 ++ [.v (.string y0)] ++ s1) [] (fun x new => x = .v (.bool r) ∧ new = [])) (r : Bool) (h : L.slices_ContainsFunc_string_string s_0 g1 = some r) : ACalls Try.env 103 [.list 1 (s_0.map rS), F1] [] (fun x new => x = .v (.bool r) ∧ new = []) := by
 refine ACalls.of_body Try.func103 rfl rfl rfl (fun C hC => ?_)
 unfold L.slices_ContainsFunc_string_string at h
 refine AW.seq (AW.region (AO.a I I (AO.nil (AW.seq ?_))))
 obtain ⟨r1, hx2, h⟩ := ob_some h
 refine AW.region (AO.m I I (AO.m I I (AO.act [] I (AX.callL I (.refl _) I I (.rest _) I (L.slices_IndexFunc_string_string_ok s_0 F1 h1 g1 hg1 _ hx2) (dst_some I) (by rintro _ _ ⟨rfl, _⟩; rfl) ?_))))
 rintro _ ⟨_, rfl, -⟩
 refine AO.p (Yp.cmpI (c := decide (r1 ≥ 0)) I I I) I (AO.a I I (AO.nil ?_))
 obtain rfl := Option.some.inj h
 refine AW.ret ?_
 exact ⟨.inr I, [_], [], ⟨I, trivial⟩, sl_n, ⟨I, I⟩⟩

set_option maxRecDepth 100000 in
set_option maxHeartbeats 4000000 in
theorem L.slices_IndexFunc_api_Segment_api_Segment_ok (s_0 : List Segment) (F1 : T) {f1 : FuncId} {p1 s1 : List T} (h1 : fnT F1 = some (f1, p1, s1)) (g1 : Segment → Option Bool) (hg1 : ∀ (y0 : Segment) r, g1 y0 = some r → ACalls Try.env f1 (p1 ++ [.agg (Segment.row y0)] ++ s1) [] (fun x new => x = .v (.bool r) ∧ new = [])) (r : Int) (h : L.slices_IndexFunc_api_Segment_api_Segment s_0 g1 = some r) : ACalls Try.env 164 [.list 7 (s_0.map Segment.row), F1] [] (fun x new => x = .v (.int .i64 r) ∧ new = []) := by
 refine ACalls.of_body Try.func164 rfl rfl rfl (fun C hC => ?_)
 unfold L.slices_IndexFunc_api_Segment_api_Segment at h
 refine AW.seqG (fun y1 hy1 => (AW.region (AO.a I I (AO.nil ?_))))
 subst hy1
 refine AW.cutX (fun s ob => ∃ (j24 : Unit), L.slices_IndexFunc_api_Segment_api_Segment.J1 j24 = some r ∧ s = [] ∧ ob = []) [] trivial ?_ ?_
 refine AW.seqG (fun y25 hy25 => (AW.region (AO.m I I (AO.p (Yp.lenM I I I) I (AO.m I I (AO.nil ?_))))))
 subst hy25
 refine AW.block (AW.listMax 6 I (fun hm28 => ?_))
 replace hm28 : s_0.length ≤ 9223372036854775806 := by rw [List.length_map] at hm28; omega
 obtain ⟨o45, hL46, hR47⟩ := ob_some h
 clear h
 refine AW.forX hL46 [(0, _), (1, _), (7, _)] ⟨I, I, I, trivial⟩ (fun (k26 : Nat) (st38 : Unit) s ob => s = [(8, .v (.int .i64 (k26 : Int)))] ∧ ob = []) ⟨I, I⟩ ⟨I, trivial⟩ ⟨[], I, by decide⟩ ?_ ?_
 rintro k26 x29 st38 r49 s ob hx30 hk27 ⟨rfl, rfl⟩ h hb48
 unfold L.slices_IndexFunc_api_Segment_api_Segment.B2 at h
 have hk27t : decide ((k26 : Int) < (s_0.length : Int)) = true := by simp; omega
 refine AW.seqG (fun y50 hy50 => (AW.region (AO.p (Yp.cmpI (c := decide ((k26 : Int) < (s_0.length : Int))) I I I) I (AO.nil ?_))))
 subst hy50
 refine AW.seqG (fun y51 hy51 => (AW.condK (v := true) I hk27t (AW.skip ?_)))
 subst hy51
 refine AW.seq (AW.block (AW.seqG (fun y52 hy52 => (AW.region (AO.m I I (AO.a I I (AO.nil ?_)))))))
 subst hy52
 refine AW.seq ?_
 obtain ⟨r53, hx54, h⟩ := ob_some h
 refine AW.region (AO.m I I (AO.m I I (AO.m I I (AO.p (Yp.indexE (m := k26) I I I I I I I (map_get hx30)) I (AO.d (Yd.loadE I I (y := .agg (Segment.row x29)) I) I (AO.act [] I (AX.callL I (.refl _) h1 I (.rest _) I (hg1 _ _ hx54) (dst_some I) (by rintro _ _ ⟨rfl, _⟩; rfl) ?_)))))))
 rintro _ ⟨_, rfl, -⟩
 refine AO.nil (AW.cond I I ?_ ?_)
 intro hc55
 replace h := ife_t hc55 h
 refine AW.seq (AW.region (AO.m I I (AO.a I I (AO.nil ?_))))
 obtain rfl := hb48 _ (Option.some.inj h).symm
 replace h := hR47
 replace h := se_r h
 obtain rfl := Option.some.inj h
 refine AW.ret ?_
 exact ⟨.inr I, [_], [], ⟨I, trivial⟩, sl_n, ⟨I, I⟩⟩
 intro hc55
 replace h := ife_f hc55 h
 refine AW.skip (AW.region (AO.p (Yp.binI (c := ((k26 + 1 : Nat) : Int)) I I (cast_wr hk27 hm28)) I (AO.m I I ?_)))
 obtain rfl := Option.some.inj h
 refine AO.nil ?_
 exact ⟨_, _, _, I, ⟨I, I⟩, ⟨I, I, I, I, trivial⟩, [], I, by decide⟩
 rintro st38 s ob ⟨rfl, rfl⟩ he
 subst he
 have h := se_l hR47
 have hk27f : decide (((s_0.length : Nat) : Int) < (s_0.length : Int)) = false := by simp
 refine AW.seqG (fun y56 hy56 => (AW.region (AO.p (Yp.cmpI (c := decide (((s_0.length : Nat) : Int) < (s_0.length : Int))) I I I) I (AO.nil ?_))))
 subst hy56
 refine AW.seqG (fun y57 hy57 => (AW.condK (v := false) I hk27f (AW.exit ?_)))
 exact ⟨_, _, ⟨(), h, I, I⟩, trivial, [], I, by decide⟩
 rintro s ob ⟨j24, h, rfl, rfl⟩
 unfold L.slices_IndexFunc_api_Segment_api_Segment.J1 at h
 refine AW.seq (AW.region (AO.a I I (AO.nil ?_)))
 obtain rfl := Option.some.inj h
 refine AW.ret ?_
 exact ⟨.inr I, [_], [], ⟨I, trivial⟩, sl_n, ⟨I, I⟩⟩

set_option maxRecDepth 100000 in
set_option maxHeartbeats 4000000 in
theorem L.slices_ContainsFunc_api_Segment_api_Segment_ok (s_0 : List Segment) (F1 : T) {f1 : FuncId} {p1 s1 : List T} (h1 : fnT F1 = some (f1, p1, s1)) (g1 : Segment → Option Bool) (hg1 : ∀ (y0 : Segment) r, g1 y0 = some r → ACalls Try.env f1 (p1 ++ [.agg (Segment.row y0)] ++ s1) [] (fun x new => x = .v (.bool r) ∧ new = [])) (r : Bool) (h : L.slices_ContainsFunc_api_Segment_api_Segment s_0 g1 = some r) : ACalls Try.env 131 [.list 7 (s_0.map Segment.row), F1] [] (fun x new => x = .v (.bool r) ∧ new = []) := by
 refine ACalls.of_body Try.func131 rfl rfl rfl (fun C hC => ?_)
 unfold L.slices_ContainsFunc_api_Segment_api_Segment at h
 refine AW.seq (AW.region (AO.a I I (AO.nil (AW.seq ?_))))
 obtain ⟨r1, hx2, h⟩ := ob_some h
 refine AW.region (AO.m I I (AO.m I I (AO.act [] I (AX.callL I (.refl _) I I (.rest _) I (L.slices_IndexFunc_api_Segment_api_Segment_ok s_0 F1 h1 g1 hg1 _ hx2) (dst_some I) (by rintro _ _ ⟨rfl, _⟩; rfl) ?_))))
 rintro _ ⟨_, rfl, -⟩
 refine AO.p (Yp.cmpI (c := decide (r1 ≥ 0)) I I I) I (AO.a I I (AO.nil ?_))
 obtain rfl := Option.some.inj h
 refine AW.ret ?_
 exact ⟨.inr I, [_], [], ⟨I, trivial⟩, sl_n, ⟨I, I⟩⟩

set_option maxRecDepth 100000 in
set_option maxHeartbeats 4000000 in
theorem L.slices_IndexFunc_api_Port_api_Port_ok (s_0 : List Port) (F1 : T) {f1 : FuncId} {p1 s1 : List T} (h1 : fnT F1 = some (f1, p1, s1)) (g1 : Port → Option Bool) (hg1 : ∀ (y0 : Port) r, g1 y0 = some r → ACalls Try.env f1 (p1 ++ [.agg (Port.row y0)] ++ s1) [] (fun x new => x = .v (.bool r) ∧ new = [])) (r : Int) (h : L.slices_IndexFunc_api_Port_api_Port s_0 g1 = some r) : ACalls Try.env 165 [.list 3 (s_0.map Port.row), F1] [] (fun x new => x = .v (.int .i64 r) ∧ new = []) := by
 refine ACalls.of_body Try.func165 rfl rfl rfl (fun C hC => ?_)
 unfold L.slices_IndexFunc_api_Port_api_Port at h
 refine AW.seqG (fun y1 hy1 => (AW.region (AO.a I I (AO.nil ?_))))
 subst hy1
 refine AW.cutX (fun s ob => ∃ (j24 : Unit), L.slices_IndexFunc_api_Port_api_Port.J1 j24 = some r ∧ s = [] ∧ ob = []) [] trivial ?_ ?_
 refine AW.seqG (fun y25 hy25 => (AW.region (AO.m I I (AO.p (Yp.lenM I I I) I (AO.m I I (AO.nil ?_))))))
 subst hy25
 refine AW.block (AW.listMax 6 I (fun hm28 => ?_))
 replace hm28 : s_0.length ≤ 9223372036854775806 := by rw [List.length_map] at hm28; omega
 obtain ⟨o45, hL46, hR47⟩ := ob_some h
 clear h
 refine AW.forX hL46 [(0, _), (1, _), (7, _)] ⟨I, I, I, trivial⟩ (fun (k26 : Nat) (st38 : Unit) s ob => s = [(8, .v (.int .i64 (k26 : Int)))] ∧ ob = []) ⟨I, I⟩ ⟨I, trivial⟩ ⟨[], I, by decide⟩ ?_ ?_
 rintro k26 x29 st38 r49 s ob hx30 hk27 ⟨rfl, rfl⟩ h hb48
 unfold L.slices_IndexFunc_api_Port_api_Port.B2 at h
 have hk27t : decide ((k26 : Int) < (s_0.length : Int)) = true := by simp; omega
 refine AW.seqG (fun y50 hy50 => (AW.region (AO.p (Yp.cmpI (c := decide ((k26 : Int) < (s_0.length : Int))) I I I) I (AO.nil ?_))))
 subst hy50
 refine AW.seqG (fun y51 hy51 => (AW.condK (v := true) I hk27t (AW.skip ?_)))
 subst hy51
 refine AW.seq (AW.block (AW.seqG (fun y52 hy52 => (AW.region (AO.m I I (AO.a I I (AO.nil ?_)))))))
 subst hy52
 refine AW.seq ?_
 obtain ⟨r53, hx54, h⟩ := ob_some h
 refine AW.region (AO.m I I (AO.m I I (AO.m I I (AO.p (Yp.indexE (m := k26) I I I I I I I (map_get hx30)) I (AO.d (Yd.loadE I I (y := .agg (Port.row x29)) I) I (AO.act [] I (AX.callL I (.refl _) h1 I (.rest _) I (hg1 _ _ hx54) (dst_some I) (by rintro _ _ ⟨rfl, _⟩; rfl) ?_)))))))
 rintro _ ⟨_, rfl, -⟩
 refine AO.nil (AW.cond I I ?_ ?_)
 intro hc55
 replace h := ife_t hc55 h
 refine AW.seq (AW.region (AO.m I I (AO.a I I (AO.nil ?_))))
 obtain rfl := hb48 _ (Option.some.inj h).symm
 replace h := hR47
 replace h := se_r h
 obtain rfl := Option.some.inj h
 refine AW.ret ?_
 exact ⟨.inr I, [_], [], ⟨I, trivial⟩, sl_n, ⟨I, I⟩⟩
 intro hc55
 replace h := ife_f hc55 h
 refine AW.skip (AW.region (AO.p (Yp.binI (c := ((k26 + 1 : Nat) : Int)) I I (cast_wr hk27 hm28)) I (AO.m I I ?_)))
 obtain rfl := Option.some.inj h
 refine AO.nil ?_
 exact ⟨_, _, _, I, ⟨I, I⟩, ⟨I, I, I, I, trivial⟩, [], I, by decide⟩
 rintro st38 s ob ⟨rfl, rfl⟩ he
 subst he
 have h := se_l hR47
 have hk27f : decide (((s_0.length : Nat) : Int) < (s_0.length : Int)) = false := by simp
 refine AW.seqG (fun y56 hy56 => (AW.region (AO.p (Yp.cmpI (c := decide (((s_0.length : Nat) : Int) < (s_0.length : Int))) I I I) I (AO.nil ?_))))
 subst hy56
 refine AW.seqG (fun y57 hy57 => (AW.condK (v := false) I hk27f (AW.exit ?_)))
 exact ⟨_, _, ⟨(), h, I, I⟩, trivial, [], I, by decide⟩
 rintro s ob ⟨j24, h, rfl, rfl⟩
 unfold L.slices_IndexFunc_api_Port_api_Port.J1 at h
 refine AW.seq (AW.region (AO.a I I (AO.nil ?_)))
 obtain rfl := Option.some.inj h
 refine AW.ret ?_
 exact ⟨.inr I, [_], [], ⟨I, trivial⟩, sl_n, ⟨I, I⟩⟩

set_option maxRecDepth 100000 in
set_option maxHeartbeats 4000000 in
theorem L.slices_ContainsFunc_api_Port_api_Port_ok (s_0 : List Port) (F1 : T) {f1 : FuncId} {p1 s1 : List T} (h1 : fnT F1 = some (f1, p1, s1)) (g1 : Port → Option Bool) (hg1 : ∀ (y0 : Port) r, g1 y0 = some r → ACalls Try.env f1 (p1 ++ [.agg (Port.row y0)] ++ s1) [] (fun x new => x = .v (.bool r) ∧ new = [])) (r : Bool) (h : L.slices_ContainsFunc_api_Port_api_Port s_0 g1 = some r) : ACalls Try.env 141 [.list 3 (s_0.map Port.row), F1] [] (fun x new => x = .v (.bool r) ∧ new = []) := by
 refine ACalls.of_body Try.func141 rfl rfl rfl (fun C hC => ?_)
 unfold L.slices_ContainsFunc_api_Port_api_Port at h
 refine AW.seq (AW.region (AO.a I I (AO.nil (AW.seq ?_))))
 obtain ⟨r1, hx2, h⟩ := ob_some h
 refine AW.region (AO.m I I (AO.m I I (AO.act [] I (AX.callL I (.refl _) I I (.rest _) I (L.slices_IndexFunc_api_Port_api_Port_ok s_0 F1 h1 g1 hg1 _ hx2) (dst_some I) (by rintro _ _ ⟨rfl, _⟩; rfl) ?_))))
 rintro _ ⟨_, rfl, -⟩
 refine AO.p (Yp.cmpI (c := decide (r1 ≥ 0)) I I I) I (AO.a I I (AO.nil ?_))
 obtain rfl := Option.some.inj h
 refine AW.ret ?_
 exact ⟨.inr I, [_], [], ⟨I, trivial⟩, sl_n, ⟨I, I⟩⟩

set_option maxRecDepth 100000 in
set_option maxHeartbeats 4000000 in
theorem L.slices_IndexFunc_api_Station_api_Station_ok (s_0 : List Station) (F1 : T) {f1 : FuncId} {p1 s1 : List T} (h1 : fnT F1 = some (f1, p1, s1)) (g1 : Station → Option Bool) (hg1 : ∀ (y0 : Station) r, g1 y0 = some r → ACalls Try.env f1 (p1 ++ [.agg (Station.row y0)] ++ s1) [] (fun x new => x = .v (.bool r) ∧ new = [])) (r : Int) (h : L.slices_IndexFunc_api_Station_api_Station s_0 g1 = some r) : ACalls Try.env 136 [.list 5 (s_0.map Station.row), F1] [] (fun x new => x = .v (.int .i64 r) ∧ new = []) := by
 refine ACalls.of_body Try.func136 rfl rfl rfl (fun C hC => ?_)
 unfold L.slices_IndexFunc_api_Station_api_Station at h
 refine AW.seqG (fun y1 hy1 => (AW.region (AO.a I I (AO.nil ?_))))
 subst hy1
 refine AW.cutX (fun s ob => ∃ (j24 : Unit), L.slices_IndexFunc_api_Station_api_Station.J1 j24 = some r ∧ s = [] ∧ ob = []) [] trivial ?_ ?_
 refine AW.seqG (fun y25 hy25 => (AW.region (AO.m I I (AO.p (Yp.lenM I I I) I (AO.m I I (AO.nil ?_))))))
 subst hy25
 refine AW.block (AW.listMax 6 I (fun hm28 => ?_))
 replace hm28 : s_0.length ≤ 9223372036854775806 := by rw [List.length_map] at hm28; omega
 obtain ⟨o45, hL46, hR47⟩ := ob_some h
 clear h
 refine AW.forX hL46 [(0, _), (1, _), (7, _)] ⟨I, I, I, trivial⟩ (fun (k26 : Nat) (st38 : Unit) s ob => s = [(8, .v (.int .i64 (k26 : Int)))] ∧ ob = []) ⟨I, I⟩ ⟨I, trivial⟩ ⟨[], I, by decide⟩ ?_ ?_
 rintro k26 x29 st38 r49 s ob hx30 hk27 ⟨rfl, rfl⟩ h hb48
 unfold L.slices_IndexFunc_api_Station_api_Station.B2 at h
 have hk27t : decide ((k26 : Int) < (s_0.length : Int)) = true := by simp; omega
 refine AW.seqG (fun y50 hy50 => (AW.region (AO.p (Yp.cmpI (c := decide ((k26 : Int) < (s_0.length : Int))) I I I) I (AO.nil ?_))))
 subst hy50
 refine AW.seqG (fun y51 hy51 => (AW.condK (v := true) I hk27t (AW.skip ?_)))
 subst hy51
 refine AW.seq (AW.block (AW.seqG (fun y52 hy52 => (AW.region (AO.m I I (AO.a I I (AO.nil ?_)))))))
 subst hy52
 refine AW.seq ?_
 obtain ⟨r53, hx54, h⟩ := ob_some h
 refine AW.region (AO.m I I (AO.m I I (AO.m I I (AO.p (Yp.indexE (m := k26) I I I I I I I (map_get hx30)) I (AO.d (Yd.loadE I I (y := .agg (Station.row x29)) I) I (AO.act [] I (AX.callL I (.refl _) h1 I (.rest _) I (hg1 _ _ hx54) (dst_some I) (by rintro _ _ ⟨rfl, _⟩; rfl) ?_)))))))
 rintro _ ⟨_, rfl, -⟩
 refine AO.nil (AW.cond I I ?_ ?_)
 intro hc55
 replace h := ife_t hc55 h
 refine AW.seq (AW.region (AO.m I I (AO.a I I (AO.nil ?_))))
 obtain rfl := hb48 _ (Option.some.inj h).symm
 replace h := hR47
 replace h := se_r h
 obtain rfl := Option.some.inj h
 refine AW.ret ?_
 exact ⟨.inr I, [_], [], ⟨I, trivial⟩, sl_n, ⟨I, I⟩⟩
 intro hc55
 replace h := ife_f hc55 h
 refine AW.skip (AW.region (AO.p (Yp.binI (c := ((k26 + 1 : Nat) : Int)) I I (cast_wr hk27 hm28)) I (AO.m I I ?_)))
 obtain rfl := Option.some.inj h
 refine AO.nil ?_
 exact ⟨_, _, _, I, ⟨I, I⟩, ⟨I, I, I, I, trivial⟩, [], I, by decide⟩
 rintro st38 s ob ⟨rfl, rfl⟩ he
 subst he
 have h := se_l hR47
 have hk27f : decide (((s_0.length : Nat) : Int) < (s_0.length : Int)) = false := by simp
 refine AW.seqG (fun y56 hy56 => (AW.region (AO.p (Yp.cmpI (c := decide (((s_0.length : Nat) : Int) < (s_0.length : Int))) I I I) I (AO.nil ?_))))
 subst hy56
 refine AW.seqG (fun y57 hy57 => (AW.condK (v := false) I hk27f (AW.exit ?_)))
 exact ⟨_, _, ⟨(), h, I, I⟩, trivial, [], I, by decide⟩
 rintro s ob ⟨j24, h, rfl, rfl⟩
 unfold L.slices_IndexFunc_api_Station_api_Station.J1 at h
 refine AW.seq (AW.region (AO.a I I (AO.nil ?_)))
 obtain rfl := Option.some.inj h
 refine AW.ret ?_
 exact ⟨.inr I, [_], [], ⟨I, trivial⟩, sl_n, ⟨I, I⟩⟩

set_option maxRecDepth 100000 in
set_option maxHeartbeats 4000000 in
theorem L.slices_ContainsFunc_api_Station_api_Station_ok (s_0 : List Station) (F1 : T) {f1 : FuncId} {p1 s1 : List T} (h1 : fnT F1 = some (f1, p1, s1)) (g1 : Station → Option Bool) (hg1 : ∀ (y0 : Station) r, g1 y0 = some r → ACalls Try.env f1 (p1 ++ [.agg (Station.row y0)] ++ s1) [] (fun x new => x = .v (.bool r) ∧ new = [])) (r : Bool) (h : L.slices_ContainsFunc_api_Station_api_Station s_0 g1 = some r) : ACalls Try.env 144 [.list 5 (s_0.map Station.row), F1] [] (fun x new => x = .v (.bool r) ∧ new = []) := by
 refine ACalls.of_body Try.func144 rfl rfl rfl (fun C hC => ?_)
 unfold L.slices_ContainsFunc_api_Station_api_Station at h
 refine AW.seq (AW.region (AO.a I I (AO.nil (AW.seq ?_))))
 obtain ⟨r1, hx2, h⟩ := ob_some h
 refine AW.region (AO.m I I (AO.m I I (AO.act [] I (AX.callL I (.refl _) I I (.rest _) I (L.slices_IndexFunc_api_Station_api_Station_ok s_0 F1 h1 g1 hg1 _ hx2) (dst_some I) (by rintro _ _ ⟨rfl, _⟩; rfl) ?_))))
 rintro _ ⟨_, rfl, -⟩
 refine AO.p (Yp.cmpI (c := decide (r1 ≥ 0)) I I I) I (AO.a I I (AO.nil ?_))
 obtain rfl := Option.some.inj h
 refine AW.ret ?_
 exact ⟨.inr I, [_], [], ⟨I, trivial⟩, sl_n, ⟨I, I⟩⟩

set_option maxRecDepth 100000 in
set_option maxHeartbeats 4000000 in
theorem L.network_limits_1_ok (s_0 : Segment) (r : Bool) (h : L.network_limits_1 s_0 = r) : ACalls Try.env 132 [.agg (Segment.row s_0)] [] (fun x new => x = .v (.bool r) ∧ new = []) := by
 refine ACalls.of_body Try.func132 rfl rfl rfl (fun C hC => ?_)
 unfold L.network_limits_1 at h
 refine AW.seqG (fun y1 hy1 => (AW.region (AO.act [] I (AX.box (cs := Segment.row s_0) (m := 7) I I I (dst_some I) (fun b2 => (AO.a I I (AO.nil ?_)))))))
 subst hy1
 refine AW.cutX (fun s ob => s = [(2, .v (.bool (decide ((s_0.Points.length : Int) < 2) || decide ((s_0.Points.length : Int) > 8))))] ∧ ob = []) [] trivial ?_ ?_
 rcases Bool.eq_false_or_eq_true (decide ((s_0.Points.length : Int) < 2)) with hg5 | hg5
 refine AW.region (AO.p (Yp.fieldPtr I I I I I I) I (AO.d (Yd.loadO 0 0 6 I I I I I (y := .list 3 (s_0.Points.map Point.row)) I) I (AO.p (Yp.lenM I I I) I (AO.p (Yp.cmpI (c := decide ((s_0.Points.length : Int) < 2)) I I I) I (AO.m I I (AO.known 7 I hg5 (AO.gf I I I (AO.gf I I I (AO.gf I I I (AO.gf I I I (AO.p (Yp.pickT I I) I (AO.a I I ?_))))))))))))
 refine AO.nil ?_
 exact ⟨_, _, ⟨I, I⟩, ⟨(get_b (by simp only [hg5, Bool.true_and, Bool.false_and, Bool.true_or, Bool.false_or, Bool.not_true, Bool.not_false, cond_true, cond_false])), trivial⟩, [], I, by decide⟩
 refine AW.region (AO.p (Yp.fieldPtr I I I I I I) I (AO.d (Yd.loadO 0 0 6 I I I I I (y := .list 3 (s_0.Points.map Point.row)) I) I (AO.p (Yp.lenM I I I) I (AO.p (Yp.cmpI (c := decide ((s_0.Points.length : Int) < 2)) I I I) I (AO.m I I (AO.known 7 I hg5 (AO.gt I I I (AO.p (Yp.fieldPtr I I I I I I) I (AO.gt I I I (AO.d (Yd.loadO 0 0 6 I I I I I (y := .list 3 (s_0.Points.map Point.row)) I) I (AO.gt I I I (AO.p (Yp.lenM I I I) I ?_))))))))))))
 refine AO.gt I I I (AO.p (Yp.cmpI (c := decide ((s_0.Points.length : Int) > 8)) I I I) I (AO.p (Yp.pickF I I) I (AO.a I I (AO.nil ?_))))
 exact ⟨_, _, ⟨I, I⟩, ⟨(get_b (by simp only [hg5, Bool.true_and, Bool.false_and, Bool.true_or, Bool.false_or, Bool.not_true, Bool.not_false, cond_true, cond_false])), trivial⟩, [], I, by decide⟩
 rintro s ob ⟨rfl, rfl⟩
 obtain rfl := h
 refine AW.ret ?_
 exact ⟨.inr I, [_], [], ⟨I, trivial⟩, sl_n, ⟨I, I⟩⟩

set_option maxRecDepth 100000 in
set_option maxHeartbeats 4000000 in
theorem L.network_limits_ok (n_0 : Network) (r : Bool) (h : L.network_limits n_0 = some r) : ACalls Try.env 101 [.agg (Network.row n_0)] [] (fun x new => x = .v (.bool r) ∧ new = []) := by
 refine ACalls.of_body Try.func101 rfl rfl rfl (fun C hC => ?_)
 unfold L.network_limits at h
 refine AW.seqG (fun y1 hy1 => (AW.region (AO.act [] I (AX.box (cs := Network.row n_0) (m := 6) I I I (dst_some I) (fun b2 => (AO.a I I (AO.nil ?_)))))))
 subst hy1
 refine AW.seq (AW.cutX (fun s ob => s = [(30, .v (.bool (decide ((n_0.Nodes.length : Int) < 1) || (decide ((n_0.Nodes.length : Int) > 24) || (decide ((n_0.Segments.length : Int) > 32) || (decide ((n_0.Ports.length : Int) > 24) || decide ((n_0.Stations.length : Int) > 12)))))))] ∧ ob = [.arr b2 30 6 1 [Network.row n_0]]) [(1, _)] ⟨I, trivial⟩ ?_ ?_)
 rcases Bool.eq_false_or_eq_true (decide ((n_0.Nodes.length : Int) < 1)) with hg8 | hg8
 refine AW.region (AO.p (Yp.fieldPtr I I I I I I) I (AO.d (Yd.loadO 0 0 0 I I I I I (y := .list 1 (n_0.Nodes.map rS)) I) I (AO.p (Yp.lenM I I I) I (AO.p (Yp.cmpI (c := decide ((n_0.Nodes.length : Int) < 1)) I I I) I (AO.m I I (AO.known 7 I hg8 (AO.gf I I I (AO.gf I I I (AO.gf I I I (AO.gf I I I (AO.p (Yp.pickT I I) I (AO.m I I ?_))))))))))))
 refine AO.gf I I I (AO.gf I I I (AO.gf I I I (AO.gf I I I (AO.p (Yp.pickT I I) I (AO.m I I (AO.gf I I I (AO.gf I I I (AO.gf I I I (AO.gf I I I (AO.p (Yp.pickT I I) I (AO.m I I (AO.gf I I I ?_))))))))))))
 refine AO.gf I I I (AO.gf I I I (AO.gf I I I (AO.p (Yp.pickT I I) I (AO.nil ?_))))
 exact ⟨_, _, ⟨I, I⟩, ⟨(get_b (by simp only [hg8, Bool.true_and, Bool.false_and, Bool.true_or, Bool.false_or, Bool.not_true, Bool.not_false, cond_true, cond_false])), I, trivial⟩, [0], I, by decide⟩
 rcases Bool.eq_false_or_eq_true (decide ((n_0.Nodes.length : Int) > 24)) with hg9 | hg9
 refine AW.region (AO.p (Yp.fieldPtr I I I I I I) I (AO.d (Yd.loadO 0 0 0 I I I I I (y := .list 1 (n_0.Nodes.map rS)) I) I (AO.p (Yp.lenM I I I) I (AO.p (Yp.cmpI (c := decide ((n_0.Nodes.length : Int) < 1)) I I I) I (AO.m I I (AO.known 7 I hg8 (AO.gt I I I (AO.p (Yp.fieldPtr I I I I I I) I (AO.gt I I I (AO.d (Yd.loadO 0 0 0 I I I I I (y := .list 1 (n_0.Nodes.map rS)) I) I (AO.gt I I I (AO.p (Yp.lenM I I I) I ?_))))))))))))
 refine AO.gt I I I (AO.p (Yp.cmpI (c := decide ((n_0.Nodes.length : Int) > 24)) I I I) I (AO.p (Yp.pickF I I) I (AO.m I I (AO.known 13 I hg9 (AO.gf I I I (AO.gf I I I (AO.gf I I I (AO.gf I I I (AO.p (Yp.pickT I I) I (AO.m I I (AO.gf I I I (AO.gf I I I ?_))))))))))))
 refine AO.gf I I I (AO.gf I I I (AO.p (Yp.pickT I I) I (AO.m I I (AO.gf I I I (AO.gf I I I (AO.gf I I I (AO.gf I I I (AO.p (Yp.pickT I I) I (AO.nil ?_)))))))))
 exact ⟨_, _, ⟨I, I⟩, ⟨(get_b (by simp only [hg8, hg9, Bool.true_and, Bool.false_and, Bool.true_or, Bool.false_or, Bool.not_true, Bool.not_false, cond_true, cond_false])), I, trivial⟩, [0], I, by decide⟩
 rcases Bool.eq_false_or_eq_true (decide ((n_0.Segments.length : Int) > 32)) with hg10 | hg10
 refine AW.region (AO.p (Yp.fieldPtr I I I I I I) I (AO.d (Yd.loadO 0 0 0 I I I I I (y := .list 1 (n_0.Nodes.map rS)) I) I (AO.p (Yp.lenM I I I) I (AO.p (Yp.cmpI (c := decide ((n_0.Nodes.length : Int) < 1)) I I I) I (AO.m I I (AO.known 7 I hg8 (AO.gt I I I (AO.p (Yp.fieldPtr I I I I I I) I (AO.gt I I I (AO.d (Yd.loadO 0 0 0 I I I I I (y := .list 1 (n_0.Nodes.map rS)) I) I (AO.gt I I I (AO.p (Yp.lenM I I I) I ?_))))))))))))
 refine AO.gt I I I (AO.p (Yp.cmpI (c := decide ((n_0.Nodes.length : Int) > 24)) I I I) I (AO.p (Yp.pickF I I) I (AO.m I I (AO.known 13 I hg9 (AO.gt I I I (AO.p (Yp.fieldPtr I I I I I I) I (AO.gt I I I (AO.d (Yd.loadO 0 0 1 I I I I I (y := .list 7 (n_0.Segments.map Segment.row)) I) I (AO.gt I I I (AO.p (Yp.lenM I I I) I (AO.gt I I I (AO.p (Yp.cmpI (c := decide ((n_0.Segments.length : Int) > 32)) I I I) I ?_))))))))))))
 refine AO.p (Yp.pickF I I) I (AO.m I I (AO.known 19 I hg10 (AO.gf I I I (AO.gf I I I (AO.gf I I I (AO.gf I I I (AO.p (Yp.pickT I I) I (AO.m I I (AO.gf I I I (AO.gf I I I (AO.gf I I I (AO.gf I I I ?_))))))))))))
 refine AO.p (Yp.pickT I I) I (AO.nil ?_)
 exact ⟨_, _, ⟨I, I⟩, ⟨(get_b (by simp only [hg8, hg9, hg10, Bool.true_and, Bool.false_and, Bool.true_or, Bool.false_or, Bool.not_true, Bool.not_false, cond_true, cond_false])), I, trivial⟩, [0], I, by decide⟩
 rcases Bool.eq_false_or_eq_true (decide ((n_0.Ports.length : Int) > 24)) with hg11 | hg11
 refine AW.region (AO.p (Yp.fieldPtr I I I I I I) I (AO.d (Yd.loadO 0 0 0 I I I I I (y := .list 1 (n_0.Nodes.map rS)) I) I (AO.p (Yp.lenM I I I) I (AO.p (Yp.cmpI (c := decide ((n_0.Nodes.length : Int) < 1)) I I I) I (AO.m I I (AO.known 7 I hg8 (AO.gt I I I (AO.p (Yp.fieldPtr I I I I I I) I (AO.gt I I I (AO.d (Yd.loadO 0 0 0 I I I I I (y := .list 1 (n_0.Nodes.map rS)) I) I (AO.gt I I I (AO.p (Yp.lenM I I I) I ?_))))))))))))
 refine AO.gt I I I (AO.p (Yp.cmpI (c := decide ((n_0.Nodes.length : Int) > 24)) I I I) I (AO.p (Yp.pickF I I) I (AO.m I I (AO.known 13 I hg9 (AO.gt I I I (AO.p (Yp.fieldPtr I I I I I I) I (AO.gt I I I (AO.d (Yd.loadO 0 0 1 I I I I I (y := .list 7 (n_0.Segments.map Segment.row)) I) I (AO.gt I I I (AO.p (Yp.lenM I I I) I (AO.gt I I I (AO.p (Yp.cmpI (c := decide ((n_0.Segments.length : Int) > 32)) I I I) I ?_))))))))))))
 refine AO.p (Yp.pickF I I) I (AO.m I I (AO.known 19 I hg10 (AO.gt I I I (AO.p (Yp.fieldPtr I I I I I I) I (AO.gt I I I (AO.d (Yd.loadO 0 0 2 I I I I I (y := .list 3 (n_0.Ports.map Port.row)) I) I (AO.gt I I I (AO.p (Yp.lenM I I I) I (AO.gt I I I (AO.p (Yp.cmpI (c := decide ((n_0.Ports.length : Int) > 24)) I I I) I (AO.p (Yp.pickF I I) I (AO.m I I ?_))))))))))))
 refine AO.known 25 I hg11 (AO.gf I I I (AO.gf I I I (AO.gf I I I (AO.gf I I I (AO.p (Yp.pickT I I) I (AO.nil ?_))))))
 exact ⟨_, _, ⟨I, I⟩, ⟨(get_b (by simp only [hg8, hg9, hg10, hg11, Bool.true_and, Bool.false_and, Bool.true_or, Bool.false_or, Bool.not_true, Bool.not_false, cond_true, cond_false])), I, trivial⟩, [0], I, by decide⟩
 refine AW.region (AO.p (Yp.fieldPtr I I I I I I) I (AO.d (Yd.loadO 0 0 0 I I I I I (y := .list 1 (n_0.Nodes.map rS)) I) I (AO.p (Yp.lenM I I I) I (AO.p (Yp.cmpI (c := decide ((n_0.Nodes.length : Int) < 1)) I I I) I (AO.m I I (AO.known 7 I hg8 (AO.gt I I I (AO.p (Yp.fieldPtr I I I I I I) I (AO.gt I I I (AO.d (Yd.loadO 0 0 0 I I I I I (y := .list 1 (n_0.Nodes.map rS)) I) I (AO.gt I I I (AO.p (Yp.lenM I I I) I ?_))))))))))))
 refine AO.gt I I I (AO.p (Yp.cmpI (c := decide ((n_0.Nodes.length : Int) > 24)) I I I) I (AO.p (Yp.pickF I I) I (AO.m I I (AO.known 13 I hg9 (AO.gt I I I (AO.p (Yp.fieldPtr I I I I I I) I (AO.gt I I I (AO.d (Yd.loadO 0 0 1 I I I I I (y := .list 7 (n_0.Segments.map Segment.row)) I) I (AO.gt I I I (AO.p (Yp.lenM I I I) I (AO.gt I I I (AO.p (Yp.cmpI (c := decide ((n_0.Segments.length : Int) > 32)) I I I) I ?_))))))))))))
 refine AO.p (Yp.pickF I I) I (AO.m I I (AO.known 19 I hg10 (AO.gt I I I (AO.p (Yp.fieldPtr I I I I I I) I (AO.gt I I I (AO.d (Yd.loadO 0 0 2 I I I I I (y := .list 3 (n_0.Ports.map Port.row)) I) I (AO.gt I I I (AO.p (Yp.lenM I I I) I (AO.gt I I I (AO.p (Yp.cmpI (c := decide ((n_0.Ports.length : Int) > 24)) I I I) I (AO.p (Yp.pickF I I) I (AO.m I I ?_))))))))))))
 refine AO.known 25 I hg11 (AO.gt I I I (AO.p (Yp.fieldPtr I I I I I I) I (AO.gt I I I (AO.d (Yd.loadO 0 0 3 I I I I I (y := .list 5 (n_0.Stations.map Station.row)) I) I (AO.gt I I I (AO.p (Yp.lenM I I I) I (AO.gt I I I (AO.p (Yp.cmpI (c := decide ((n_0.Stations.length : Int) > 12)) I I I) I (AO.p (Yp.pickF I I) I (AO.nil ?_))))))))))
 exact ⟨_, _, ⟨I, I⟩, ⟨(get_b (by simp only [hg8, hg9, hg10, hg11, Bool.true_and, Bool.false_and, Bool.true_or, Bool.false_or, Bool.not_true, Bool.not_false, cond_true, cond_false])), I, trivial⟩, [0], I, by decide⟩
 rintro s ob ⟨rfl, rfl⟩
 refine AW.cond I I ?_ ?_
 intro hc12
 replace h := ife_t hc12 h
 refine AW.seq (AW.region (AO.a I I (AO.nil (AW.ghost (Ghost.pick [] (K := []) I (by decide)) ?_))))
 obtain rfl := Option.some.inj h
 refine AW.ret ?_
 exact ⟨.inr I, [_], [], ⟨I, trivial⟩, sl_n, ⟨I, I⟩⟩
 intro hc12
 replace h := ife_f hc12 h
 refine AW.skip (AW.seq ?_)
 obtain ⟨r13, hx14, h⟩ := ob_some h
 refine AW.region (AO.p (Yp.fieldPtr I I I I I I) I (AO.d (Yd.loadO 0 0 1 I I I I I (y := .list 7 (n_0.Segments.map Segment.row)) I) I (AO.act [] I (AX.callL I (.refl _) I I (.rest _) I (L.slices_ContainsFunc_api_Segment_api_Segment_ok n_0.Segments (.v (.func (.func 132) #[] #[])) I (fun x => some (L.network_limits_1 x)) (fun x r h => by obtain I := Option.some.inj h; exact L.network_limits_1_ok x _ I) _ hx14) (dst_some I) (by rintro _ _ ⟨rfl, _⟩; rfl) ?_))))
 rintro _ ⟨_, rfl, -⟩
 refine AO.p (Yp.not I) I (AO.a I I (AO.nil (AW.ghost (Ghost.pick [] (K := []) I (by decide)) ?_)))
 obtain rfl := Option.some.inj h
 refine AW.ret ?_
 exact ⟨.inr I, [_], [], ⟨I, trivial⟩, sl_n, ⟨I, I⟩⟩

set_option maxRecDepth 100000 in
set_option maxHeartbeats 4000000 in
theorem L.flow_order_ok (n_0 : Network) (p_1 : Plan) (r : List Int) (h : L.flow_order n_0 p_1 = some r) : ACalls Try.env 113 [.agg (Network.row n_0), .agg (Plan.row p_1)] [] (fun x new => ∃ (u0 : Value), x = .v u0 ∧ new = [.us u0 3 1 (r.map rI)]) := by
 refine ACalls.of_body Try.func113 rfl rfl rfl (fun C hC => ?_)
 unfold L.flow_order at h
 refine AW.seqG (fun y1 hy1 => (AW.region (AO.act [] I (AX.box (cs := Network.row n_0) (m := 6) I I I (dst_some I) (fun b2 => (AO.act [] I (AX.box (cs := Plan.row p_1) (m := 3) I I I (dst_some I) (fun b3 => (AO.a I I (AO.nil ?_))))))))))
 subst hy1
 refine AW.scope (AW.seqG (fun y4 hy4 => (AW.region (AO.a I I (AO.nil ?_)))))
 subst hy4
 refine AW.seqG (fun y5 hy5 => ?_)
 obtain ⟨l6, hx7, h⟩ := ob_some h
 obtain ⟨m8, hx7i, hx7m, hx7r⟩ := mk_some hx7
 refine AW.region (AO.p (Yp.fieldPtr I I I I I I) I (AO.d (Yd.loadO 0 0 0 I I I I I (y := .list 1 (n_0.Nodes.map rS)) I) I (AO.p (Yp.lenM I I I) I (AO.act [] I (AX.makeU (sz := 1) I I I I I I I I I I hx7i hx7m (rep_map (f := rB) hx7r I) (dst_some I) (fun v9 => (AO.a I I (AO.nil ?_))))))))
 subst hy5
 refine AW.seqG (fun y10 hy10 => (AW.label ?_))
 subst hy10
 refine AW.cutX (fun s ob => ∃ (j165 : List Int) (v166 : Value), L.flow_order.J1 j165 = some r ∧ s = [(5, .v v166)] ∧ ob = [.us v166 3 1 (j165.map rI)]) [] trivial ?_ ?_
 refine AW.seqG (fun y167 hy167 => (AW.region (AO.a I I (AO.nil ?_))))
 subst hy167
 refine AW.block (AW.ghost (Ghost.nilU 3 1) ?_)
 obtain ⟨o321, hL322, hR323⟩ := ob_some h
 clear h
 refine AW.loopX hL322 [(2, _), (3, _), (6, _)] ⟨I, I, I, trivial⟩ (fun (st270 : (List Int) × (List Bool) × Int) s ob => ∃ (v271 : Value), s = [(5, .v v271), (7, .v (.int .i64 st270.2.2))] ∧ ob = [.arr b2 30 6 1 [Network.row n_0], .arr b3 34 3 1 [Plan.row p_1], .us v9 4 1 (st270.2.1.map rB), .us v271 3 1 (st270.1.map rI)]) ⟨(.slice none 0 0), I, I⟩ ⟨I, I, trivial⟩ ⟨[0, 1, 2, 3], I, by decide⟩ ?_
 rintro st270 r325 s ob ⟨v271, rfl, rfl⟩ h hb324
 unfold L.flow_order.B2 at h
 refine AW.seqG (fun y326 hy326 => (AW.seq (AW.region (AO.m I I (AO.p (Yp.fieldPtr I I I I I I) I (AO.d (Yd.loadO 0 0 0 I I I I I (y := .list 1 (n_0.Nodes.map rS)) I) I (AO.p (Yp.lenM I I I) I (AO.p (Yp.cmpI (c := decide (st270.2.2 < (n_0.Nodes.length : Int))) I I I) I (AO.nil (AW.cond I I ?_ ?_))))))))))
 intro hc327
 replace h := ife_t hc327 h
 refine AW.skip ?_
 subst hy326
 refine AW.cutX (fun s ob => ∃ (j373 : (List Int) × (List Bool) × Int) (v374 : Value), L.flow_order.J3 j373 = some r325 ∧ s = [(5, .v v374), (7, .v (.int .i64 j373.2.2))] ∧ ob = [.arr b2 30 6 1 [Network.row n_0], .arr b3 34 3 1 [Plan.row p_1], .us v9 4 1 (j373.2.1.map rB), .us v374 3 1 (j373.1.map rI)]) [(2, _), (3, _), (6, _)] ⟨I, I, I, trivial⟩ ?_ ?_
 refine AW.block (AW.seqG (fun y375 hy375 => (AW.seq ?_)))
 obtain ⟨p376, hp377, h⟩ := ob_some h
 obtain ⟨hp377i, hp377x⟩ := ix_some hp377
 refine AW.region (AO.m I I (AO.m I I (AO.d (Yd.indexU 2 (m := p376.1) I I I I I I I hp377i (map_get hp377x)) I (AO.d (Yd.loadU 2 p376.1 0 I I I (map_get hp377x) I (y := .v (.bool p376.2)) I) I (AO.nil (AW.cond I I ?_ ?_))))))
 intro hc378
 replace h := ife_t hc378 h
 refine AW.exit ?_
 exact ⟨_, _, ⟨(st270.1, st270.2.1, st270.2.2), v271, h, I, I⟩, ⟨I, I, I, I, I, trivial⟩, [0, 1, 2, 3], I, by decide⟩
 intro hc378
 replace h := ife_f hc378 h
 refine AW.skip ?_
 subst hy375
 refine AW.cutX (fun s ob => ∃ (j415 : Unit), L.flow_order.J4 st270 p376 j415 = some r325 ∧ s = [] ∧ ob = [.arr b2 30 6 1 [Network.row n_0], .arr b3 34 3 1 [Plan.row p_1], .us v9 4 1 (st270.2.1.map rB), .us v271 3 1 (st270.1.map rI)]) [(2, _), (3, _), (5, _), (6, _), (7, _)] ⟨I, I, I, I, I, trivial⟩ ?_ ?_
 refine AW.seqG (fun y420 hy420 => (AW.region (AO.p (Yp.fieldPtr I I I I I I) I (AO.d (Yd.loadO 0 0 1 I I I I I (y := .list 7 (n_0.Segments.map Segment.row)) I) I (AO.p (Yp.lenM I I I) I (AO.m I I (AO.nil ?_)))))))
 subst hy420
 refine AW.block (AW.listMax 28 I (fun hm423 => ?_))
 replace hm423 : n_0.Segments.length ≤ 9223372036854775806 := by rw [List.length_map] at hm423; omega
 obtain ⟨o454, hL455, hR456⟩ := ob_some h
 clear h
 refine AW.forX hL455 [(2, _), (3, _), (5, _), (6, _), (7, _), (28, _), (29, _)] ⟨I, I, I, I, I, I, I, trivial⟩ (fun (k421 : Nat) (st440 : Unit) s ob => s = [(30, .v (.int .i64 (k421 : Int)))] ∧ ob = [.arr b2 30 6 1 [Network.row n_0], .arr b3 34 3 1 [Plan.row p_1], .us v9 4 1 (st270.2.1.map rB), .us v271 3 1 (st270.1.map rI)]) ⟨I, I⟩ ⟨I, trivial⟩ ⟨[0, 1, 2, 3], I, by decide⟩ ?_ ?_
 rintro k421 x424 st440 r458 s ob hx425 hk422 ⟨rfl, rfl⟩ h hb457
 unfold L.flow_order.B5 at h
 have hk422t : decide ((k421 : Int) < (n_0.Segments.length : Int)) = true := by simp; omega
 refine AW.seqG (fun y459 hy459 => (AW.region (AO.p (Yp.cmpI (c := decide ((k421 : Int) < (n_0.Segments.length : Int))) I I I) I (AO.nil ?_))))
 subst hy459
 refine AW.seqG (fun y460 hy460 => (AW.condK (v := true) I hk422t (AW.skip ?_)))
 subst hy460
 refine AW.seq (AW.block (AW.seqG (fun y461 hy461 => (AW.region (AO.m I I (AO.p (Yp.indexE (m := k421) I I I I I I I (map_get hx425)) I (AO.d (Yd.loadE I I (y := .agg (Segment.row x424)) I) I (AO.act [] I (AX.alloc (cs := [.v (.string ⟨#[]⟩), .v (.int .i64 0), .v (.int .i64 0), .v (.int .i64 0), .v (.int .i64 0), .v (.int .i64 0), .v (.slice none 0 0)]) (m := 7) I I I I I (dst_some I) (fun b462 => (AO.a I I (AO.act [4] I (AX.store 4 0 0 (es' := [Segment.row x424]) I I I I I I I I (le_ble I) I I (AO.nil ?_))))))))))))))
 subst hy461
 refine AW.seqG (fun y463 hy463 => ?_)
 obtain ⟨p464, hp465, h⟩ := ob_some h
 obtain ⟨hp465i, hp465x⟩ := ix_some hp465
 refine AW.regionD (.still 0 (.still 1 (.still 2 (.still 3 (.still 4 (.still 5 (.act 6 (.still 7 (.still 8 (.still 9 (.still 10 (.still 11 .nil)))))))))))) [4, 1] [_, _] (by kernel_rfl) I (AP.o I (Yd.loadO 0 0 0 I I I I I (y := .agg (Segment.row x424)) I) I (AP.op I (Yp.fieldPtr I I I I I I) I (AP.o I (Yd.loadO 1 0 0 I I I I I (y := .list 1 (p_1.Rates.map rI)) I) I (AP.op I (Yp.move I) I (AP.op I (Yp.indexE (m := p464.1) I I I I I I hp465i (map_get hp465x)) I (AP.o I (Yd.loadE I I (y := .v (.int .i64 p464.2)) I) I (AP.act [] I I I (AX.callL I (.refl _) I I (.rest _) I (L.flow_Ends_ok x424 p464.2 _ I) (dst_some I) (by rintro _ _ ⟨rfl, _⟩; rfl) ?_))))))))
 rintro _ ⟨_, rfl, -⟩
 refine AP.p I (Yp.move I) I (AP.p I (Yp.extract I I) I (AP.p I (Yp.extract I I) I (AP.p I (Yp.assign I) I (AP.p I (Yp.assign I) I (AP.ofAO (AO.nil ?_))))))
 subst hy463
 refine AW.cutX (fun s ob => ∃ (j470 : Bool), L.flow_order.J6 st270 j470 = some r458 ∧ s = [(62, .v (.bool j470))] ∧ ob = [.arr b2 30 6 1 [Network.row n_0], .arr b3 34 3 1 [Plan.row p_1], .us v9 4 1 (st270.2.1.map rB), .us v271 3 1 (st270.1.map rI)]) [(2, _), (3, _), (5, _), (6, _), (7, _), (28, _), (29, _), (30, _)] ⟨I, I, I, I, I, I, I, I, trivial⟩ ?_ ?_
 rcases Bool.eq_false_or_eq_true ((p464.2 != 0)) with hg472 | hg472
 replace h := ife_t hg472 h
 rcases Bool.eq_false_or_eq_true ((((L.flow_Ends x424 p464.2).2) == st270.2.2)) with hg473 | hg473
 replace h := ife_t hg473 h
 obtain ⟨p474, hp475, h⟩ := ob_some h
 obtain ⟨hp475i, hp475x⟩ := ix_some hp475
 refine AW.region (AO.p (Yp.fieldPtr I I I I I I) I (AO.d (Yd.loadO 1 0 0 I I I I I (y := .list 1 (p_1.Rates.map rI)) I) I (AO.m I I (AO.p (Yp.indexE (m := p464.1) I I I I I I hp465i (map_get hp465x)) I (AO.d (Yd.loadE I I (y := .v (.int .i64 p464.2)) I) I (AO.p (Yp.cmpI (c := (p464.2 != 0)) I I I) I (AO.m I I (AO.known 51 I hg472 (AO.gt I I I (AO.m I I (AO.gt I I I (AO.m I I ?_))))))))))))
 refine AO.gt I I I (AO.p (Yp.cmpI (c := (((L.flow_Ends x424 p464.2).2) == st270.2.2)) I I I) I (AO.p (Yp.pickT I I) I (AO.m I I (AO.known 56 I hg473 (AO.gt I I I (AO.m I I (AO.gt I I I (AO.m I I (AO.gt I I I (AO.d (Yd.indexU 2 (m := p474.1) I I I I I I I hp475i (map_get hp475x)) I (AO.gt I I I (AO.d (Yd.loadU 2 p474.1 0 I I I (map_get hp475x) I (y := .v (.bool p474.2)) I) I ?_))))))))))))
 refine AO.gt I I I (AO.p (Yp.not I) I (AO.p (Yp.pickT I I) I (AO.nil ?_)))
 exact ⟨_, _, ⟨(!p474.2), h, I, I⟩, ⟨I, I, I, I, I, I, I, I, I, trivial⟩, [0, 1, 2, 3], I, by decide⟩
 replace h := ife_f hg473 h
 refine AW.region (AO.p (Yp.fieldPtr I I I I I I) I (AO.d (Yd.loadO 1 0 0 I I I I I (y := .list 1 (p_1.Rates.map rI)) I) I (AO.m I I (AO.p (Yp.indexE (m := p464.1) I I I I I I hp465i (map_get hp465x)) I (AO.d (Yd.loadE I I (y := .v (.int .i64 p464.2)) I) I (AO.p (Yp.cmpI (c := (p464.2 != 0)) I I I) I (AO.m I I (AO.known 51 I hg472 (AO.gt I I I (AO.m I I (AO.gt I I I (AO.m I I ?_))))))))))))
 refine AO.gt I I I (AO.p (Yp.cmpI (c := (((L.flow_Ends x424 p464.2).2) == st270.2.2)) I I I) I (AO.p (Yp.pickT I I) I (AO.m I I (AO.known 56 I hg473 (AO.gf I I I (AO.gf I I I (AO.gf I I I (AO.gf I I I (AO.gf I I I (AO.p (Yp.pickF I I) I (AO.nil ?_)))))))))))
 exact ⟨_, _, ⟨false, h, I, I⟩, ⟨I, I, I, I, I, I, I, I, I, trivial⟩, [0, 1, 2, 3], I, by decide⟩
 replace h := ife_f hg472 h
 refine AW.region (AO.p (Yp.fieldPtr I I I I I I) I (AO.d (Yd.loadO 1 0 0 I I I I I (y := .list 1 (p_1.Rates.map rI)) I) I (AO.m I I (AO.p (Yp.indexE (m := p464.1) I I I I I I hp465i (map_get hp465x)) I (AO.d (Yd.loadE I I (y := .v (.int .i64 p464.2)) I) I (AO.p (Yp.cmpI (c := (p464.2 != 0)) I I I) I (AO.m I I (AO.known 51 I hg472 (AO.gf I I I (AO.gf I I I (AO.gf I I I (AO.p (Yp.pickF I I) I ?_))))))))))))
 refine AO.m I I (AO.gf I I I (AO.gf I I I (AO.gf I I I (AO.gf I I I (AO.gf I I I (AO.p (Yp.pickF I I) I (AO.nil ?_)))))))
 exact ⟨_, _, ⟨false, h, I, I⟩, ⟨I, I, I, I, I, I, I, I, I, trivial⟩, [0, 1, 2, 3], I, by decide⟩
 rintro s ob ⟨j470, h, rfl, rfl⟩
 unfold L.flow_order.J6 at h
 refine AW.cond I I ?_ ?_
 intro hc471
 replace h := ife_t hc471 h
 obtain rfl := hb457 _ (Option.some.inj h).symm
 replace h := hR456
 replace h := se_r h
 refine AW.exit ?_
 exact ⟨_, _, ⟨(st270.1, st270.2.1, st270.2.2), v271, h, I, I⟩, ⟨I, I, I, I, I, trivial⟩, [0, 1, 2, 3], I, by decide⟩
 intro hc471
 replace h := ife_f hc471 h
 refine AW.skip (AW.region (AO.p (Yp.binI (c := ((k421 + 1 : Nat) : Int)) I I (cast_wr hk422 hm423)) I (AO.m I I ?_)))
 obtain rfl := Option.some.inj h
 refine AO.nil ?_
 exact ⟨_, _, _, I, ⟨I, I⟩, ⟨I, I, I, I, I, I, I, I, trivial⟩, [0, 1, 2, 3], I, by decide⟩
 rintro st440 s ob ⟨rfl, rfl⟩ he
 subst he
 have h := se_l hR456
 have hk422f : decide (((n_0.Segments.length : Nat) : Int) < (n_0.Segments.length : Int)) = false := by simp
 refine AW.seqG (fun y476 hy476 => (AW.region (AO.p (Yp.cmpI (c := decide (((n_0.Segments.length : Nat) : Int) < (n_0.Segments.length : Int))) I I I) I (AO.nil ?_))))
 subst hy476
 refine AW.seqG (fun y477 hy477 => (AW.condK (v := false) I hk422f (AW.exit ?_)))
 exact ⟨_, _, ⟨(), h, I, I⟩, ⟨I, I, I, I, I, trivial⟩, [0, 1, 2, 3], I, by decide⟩
 rintro s ob ⟨j415, h, rfl, rfl⟩
 unfold L.flow_order.J4 at h
 refine AW.seq (AW.region (AO.m I I (AO.m I I (AO.d (Yd.indexU 2 (m := p376.1) I I I I I I I hp377i (map_get hp377x)) I (AO.act [2] I (AX.storeU 2 p376.1 0 I I I (map_get hp377x) I I I I (le_ble I) I (us_set (x := true) I) (AO.nil (AW.seq ?_))))))))
 obtain ⟨l417, hx418, h⟩ := ob_some h
 refine AW.region (AO.m I I (AO.m I I (AO.act [] I (AX.litF (sz := 1) (es := ([st270.2.2] : List Int).map rI) I I I I I I I I I I I (dst_some I) (AO.act [3] I (AX.appendU 3 I I I I I I I I I (AppSrc.list I) (app_len (app_some hx418).1) (app_map (app_some hx418).2) (dst_some I) (fun v419 => (AO.a I I (AO.nil (AW.region (AO.a I I (AO.nil ?_))))))))))))
 exact ⟨_, _, ⟨(l417, (st270.2.1.set p376.1 true), (-1)), v419, h, I, I⟩, ⟨I, I, I, I, I, trivial⟩, [0, 1, 2, 3], I, by decide⟩
 rintro s ob ⟨j373, v374, h, rfl, rfl⟩
 unfold L.flow_order.J3 at h
 refine AW.region (AO.m I I (AO.p (Yp.binI (c := wr (j373.2.2 + 1)) I I I) I (AO.a I I ?_)))
 obtain rfl := Option.some.inj h
 refine AO.nil ?_
 exact ⟨_, _, _, I, ⟨v374, I, I⟩, ⟨I, I, I, I, I, trivial⟩, [0, 1, 2, 3], I, by decide⟩
 intro hc327
 replace h := ife_f hc327 h
 obtain rfl := hb324 _ (Option.some.inj h).symm
 replace h := hR323
 refine AW.exit ?_
 exact ⟨_, _, ⟨st270.1, v271, h, I, I⟩, ⟨I, trivial⟩, [3], I, by decide⟩
 rintro s ob ⟨j165, v166, h, rfl, rfl⟩
 unfold L.flow_order.J1 at h
 refine AW.seq (AW.region (AO.m I I (AO.a I I (AO.nil ?_))))
 obtain rfl := Option.some.inj h
 refine AW.ret ?_
 exact ⟨.inr I, [_], [.us v166 3 1 (j165.map rI)], ⟨I, trivial⟩, sl_c I (sl_n), ⟨v166, I, I⟩⟩

end Go.Proofs.Ytndfiddakngjdaa
