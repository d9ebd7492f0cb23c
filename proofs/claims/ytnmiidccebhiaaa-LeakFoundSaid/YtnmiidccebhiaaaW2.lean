/- Walks of functions of the program, printed by a program of ours. No condition. -/
import Derived.Test.YtnmiidccebhiaaaW1
namespace Go.Proofs.Ytnmiidccebhiaaa
open Go.Aw


def chkL (l : List Bal) (c : Acc) (w t : Int) : Int := if chkE l ≠ 0 then chkE l else if !c.good || decide (t < 0) || decide (1099511627776 < t) then 1 else if w < 1 ∨ 400 < w then 25 else 0
theorem chkL_ok {l : List Bal} {c : Acc} {w t : Int} (h : chkL l c w t = 0) : chkE l = 0 ∧ c.good = true ∧ 0 ≤ t ∧ t ≤ 1099511627776 ∧ 1 ≤ w ∧ w ≤ 400 := by
  unfold chkL at h
  split at h
  · omega
  · rename_i h1
    split at h
    · omega
    · rename_i h2
      split at h
      · omega
      · rename_i h3
        simp at h2
        exact ⟨by omega, h2.1.1, by omega, by omega, by omega, by omega⟩
theorem chkL_1 {l : List Bal} {c : Acc} {w t : Int} (h : chkE l = 0) (h2 : c.good = false ∨ t < 0 ∨ 1099511627776 < t) : (1 : Int) = chkL l c w t := by
  unfold chkL; rw [if_neg (by omega), if_pos]
  rcases h2 with h2 | h2 | h2 <;> simp [h2]
theorem chkL_25 {l : List Bal} {c : Acc} {w t : Int} (h : chkE l = 0) (h1 : c.good = true) (h2 : 0 ≤ t ∧ t ≤ 1099511627776) (h3 : w < 1 ∨ 400 < w) : (25 : Int) = chkL l c w t := by
  unfold chkL; rw [if_neg (by omega), if_neg (by simp [h1]; omega), if_pos h3]
theorem chkL_0 {l : List Bal} {c : Acc} {w t : Int} (h : chkE l = 0) (h1 : c.good = true) (h2 : 0 ≤ t ∧ t ≤ 1099511627776) (h3 : 1 ≤ w ∧ w ≤ 400) : (0 : Int) = chkL l c w t := by
  unfold chkL; rw [if_neg (by omega), if_neg (by simp [h1]; omega), if_neg (by omega)]
theorem chkW_of {l : List Bal} {c : Acc} {w a b : Int} (h1 : chkE l = 0) (h2 : c.good = true) (h3 : 0 ≤ a ∧ a < b ∧ b < l.length) : chkW l c a b = 0 := by
  unfold chkW winB
  rw [if_neg (by omega), h2]
  simp [h3]

set_option maxRecDepth 100000 in
theorem chkLeak (l : List Bal) (c : Acc) (w t : Int) :
    ACalls Try.env 21 [encBals l, .agg (encAcc c), .v (.int .i64 w), .v (.int .i64 t)] [] fun x _ => x = .v (.int .i64 (chkL l c w t)) := by
  refine ACalls.of_body Try.func21 rfl rfl rfl (fun C hC => ?_)
  refine AW.seq ?_
  refine AW.region ?_
  refine AO.act [] rfl (AX.box rfl rfl rfl (dst_some rfl) (fun b5 => ?_))
  refine AO.p (Yp.assign rfl) rfl ?_
  refine AO.nil ?_
  refine AW.seq ?_
  refine AW.seq ?_
  refine AW.region ?_
  refine AO.p (Yp.move rfl) rfl ?_
  refine AO.act [] rfl (AX.call0 rfl rfl rfl (check _) (dst_some rfl) ?_)
  rintro _ ⟨_, rfl⟩
  refine AO.p (Yp.assign rfl) rfl ?_
  refine AO.nil ?_
  refine AW.seq ?_
  refine AW.region ?_
  refine AO.p (Yp.move rfl) rfl ?_
  refine AO.p (Yp.cmpI rfl rfl rfl) rfl ?_
  refine AO.nil ?_
  refine AW.cond rfl rfl ?_ ?_
  · intro hc1
    replace hc1 := bne_iff_ne.1 hc1
    refine AW.seq ?_
    refine AW.region ?_
    refine AO.p (Yp.move rfl) rfl ?_
    refine AO.p (Yp.assign rfl) rfl ?_
    refine AO.nil ?_
    refine AW.ret ?_
    exact ⟨.inr rfl, [_], [], ⟨rfl, trivial⟩, List.nil_sublist _, by simp only [resV]; rw [chkL, if_pos hc1]⟩
  · intro hc1
    replace hc1 := eq_of_bne hc1
    refine AW.skip ?_
    refine AW.seq ?_
    refine AW.block ?_
    refine AW.seq ?_
    refine AW.region ?_
    refine AO.d (Yd.loadO 0 0 0 rfl rfl rfl rfl rfl rfl) rfl ?_
    refine AO.act [] rfl (AX.call0 rfl rfl rfl (accurate _) (dst_some rfl) ?_)
    rintro _ ⟨_, rfl⟩
    refine AO.p (Yp.not rfl) rfl ?_
    refine AO.p (Yp.move rfl) rfl ?_
    refine AO.g rfl rfl (dst_some rfl) ?_ ?_
    · intro hg4_4
      first
      | replace hg4_4 := of_decide_eq_false hg4_4
      | skip
      refine AO.p (Yp.move rfl) rfl ?_
      refine AO.g rfl rfl (dst_some rfl) (fun _ => ?_) (fun h => absurd h (by decide))
      refine AO.p (Yp.cmpI rfl rfl rfl) rfl ?_
      first
      | refine AO.p (Yp.pickT rfl rfl) rfl ?_
      | refine AO.p (Yp.pickF rfl rfl) rfl ?_
      | refine AO.p (Yp.pickB rfl rfl rfl) rfl ?_
      refine AO.p (Yp.move rfl) rfl ?_
      refine AO.g rfl rfl (dst_some rfl) ?_ ?_
      · intro hg4_8
        first
        | replace hg4_8 := of_decide_eq_false hg4_8
        | skip
        refine AO.p (Yp.move rfl) rfl ?_
        refine AO.g rfl rfl (dst_some rfl) (fun _ => ?_) (fun h => absurd h (by decide))
        refine AO.p (Yp.cmpI rfl rfl rfl) rfl ?_
        first
        | refine AO.p (Yp.pickT rfl rfl) rfl ?_
        | refine AO.p (Yp.pickF rfl rfl) rfl ?_
        | refine AO.p (Yp.pickB rfl rfl rfl) rfl ?_
        refine AO.p (Yp.assign rfl) rfl ?_
        refine AO.nil ?_
        refine AW.cond rfl rfl ?_ ?_
        · intro hc2
          refine AW.seq ?_
          refine AW.region ?_
          refine AO.p (Yp.assign rfl) rfl ?_
          refine AO.nil ?_
          refine AW.ret ?_
          exact ⟨.inr rfl, [_], [], ⟨rfl, trivial⟩, List.nil_sublist _, get_t_ (chkL_1 hc1 (.inr (.inr (of_decide_eq_true hc2))))⟩
        · intro hc2
          refine AW.seq ?_
          refine AW.region ?_
          refine AO.p (Yp.move rfl) rfl ?_
          refine AO.p (Yp.cmpI rfl rfl rfl) rfl ?_
          refine AO.p (Yp.move rfl) rfl ?_
          refine AO.g rfl rfl (dst_some rfl) ?_ ?_
          · intro hg6_3
            first
            | replace hg6_3 := of_decide_eq_false hg6_3
            | skip
            refine AO.p (Yp.move rfl) rfl ?_
            refine AO.g rfl rfl (dst_some rfl) (fun _ => ?_) (fun h => absurd h (by decide))
            refine AO.p (Yp.cmpI rfl rfl rfl) rfl ?_
            first
            | refine AO.p (Yp.pickT rfl rfl) rfl ?_
            | refine AO.p (Yp.pickF rfl rfl) rfl ?_
            | refine AO.p (Yp.pickB rfl rfl rfl) rfl ?_
            refine AO.p (Yp.assign rfl) rfl ?_
            refine AO.nil ?_
            refine AW.cond rfl rfl ?_ ?_
            · intro hc3
              refine AW.seq ?_
              refine AW.region ?_
              refine AO.p (Yp.assign rfl) rfl ?_
              refine AO.nil ?_
              refine AW.ret ?_
              exact ⟨.inr rfl, [_], [], ⟨rfl, trivial⟩, List.nil_sublist _, get_t_ (chkL_25 hc1 (by simpa using hg4_4) (by have := of_decide_eq_false hc2; omega) (.inr (of_decide_eq_true hc3)))⟩
            · intro hc3
              refine AW.skip ?_
              refine AW.seq ?_
              refine AW.region ?_
              refine AO.p (Yp.assign rfl) rfl ?_
              refine AO.nil ?_
              refine AW.ret ?_
              exact ⟨.inr rfl, [_], [], ⟨rfl, trivial⟩, List.nil_sublist _, get_t_ (chkL_0 hc1 (by simpa using hg4_4) (by have := of_decide_eq_false hc2; omega) (by have := of_decide_eq_false hc3; omega))⟩
          · intro hg6_3
            first
            | replace hg6_3 := of_decide_eq_true hg6_3
            | skip
            refine AO.g rfl rfl (dst_some rfl) (fun h => absurd h (by decide)) (fun _ => ?_)
            first
            | refine AO.p (Yp.pickT rfl rfl) rfl ?_
            | refine AO.p (Yp.pickF rfl rfl) rfl ?_
            | refine AO.p (Yp.pickB rfl rfl rfl) rfl ?_
            refine AO.p (Yp.assign rfl) rfl ?_
            refine AO.nil ?_
            refine AW.condK rfl (by first | rfl | (simp only [*]; done) | (simp [*]; done)) ?_
            refine AW.seq ?_
            refine AW.region ?_
            refine AO.p (Yp.assign rfl) rfl ?_
            refine AO.nil ?_
            refine AW.ret ?_
            exact ⟨.inr rfl, [_], [], ⟨rfl, trivial⟩, List.nil_sublist _, get_t_ (chkL_25 hc1 (by simpa using hg4_4) (by have := of_decide_eq_false hc2; omega) (.inl hg6_3))⟩
      · intro hg4_8
        first
        | replace hg4_8 := of_decide_eq_true hg4_8
        | skip
        refine AO.g rfl rfl (dst_some rfl) (fun h => absurd h (by decide)) (fun _ => ?_)
        first
        | refine AO.p (Yp.pickT rfl rfl) rfl ?_
        | refine AO.p (Yp.pickF rfl rfl) rfl ?_
        | refine AO.p (Yp.pickB rfl rfl rfl) rfl ?_
        refine AO.p (Yp.assign rfl) rfl ?_
        refine AO.nil ?_
        refine AW.condK rfl (by first | rfl | (simp only [*]; done) | (simp [*]; done)) ?_
        refine AW.seq ?_
        refine AW.region ?_
        refine AO.p (Yp.assign rfl) rfl ?_
        refine AO.nil ?_
        refine AW.ret ?_
        exact ⟨.inr rfl, [_], [], ⟨rfl, trivial⟩, List.nil_sublist _, get_t_ (chkL_1 hc1 (.inr (.inl hg4_8)))⟩
    · intro hg4_4
      first
      | replace hg4_4 := of_decide_eq_true hg4_4
      | skip
      refine AO.g rfl rfl (dst_some rfl) (fun h => absurd h (by decide)) (fun _ => ?_)
      first
      | refine AO.p (Yp.pickT rfl rfl) rfl ?_
      | refine AO.p (Yp.pickF rfl rfl) rfl ?_
      | refine AO.p (Yp.pickB rfl rfl rfl) rfl ?_
      refine AO.p (Yp.move rfl) rfl ?_
      refine AO.g rfl rfl (dst_some rfl) (fun h => absurd h (by decide)) (fun _ => ?_)
      refine AO.g rfl rfl (dst_some rfl) (fun h => absurd h (by decide)) (fun _ => ?_)
      first
      | refine AO.p (Yp.pickT rfl rfl) rfl ?_
      | refine AO.p (Yp.pickF rfl rfl) rfl ?_
      | refine AO.p (Yp.pickB rfl rfl rfl) rfl ?_
      refine AO.p (Yp.assign rfl) rfl ?_
      refine AO.nil ?_
      refine AW.condK rfl (by first | rfl | (simp only [*]; done) | (simp [*]; done)) ?_
      refine AW.seq ?_
      refine AW.region ?_
      refine AO.p (Yp.assign rfl) rfl ?_
      refine AO.nil ?_
      refine AW.ret ?_
      exact ⟨.inr rfl, [_], [], ⟨rfl, trivial⟩, List.nil_sublist _, get_t_ (chkL_1 hc1 (.inl (by simpa using hg4_4)))⟩


/-- The windows of w ticks of a list whose imbalance is greater than their error plus t, by their ends, from a on. -/
def alarmAt (l : List Bal) (c : Acc) (w : Nat) (t : Int) (b : Nat) : Bool := decide (mis l (b - w) b - wrg l c (b - w) b > t)
def alarmsTo (l : List Bal) (c : Acc) (w : Nat) (t : Int) (b : Nat) : List Int := ((List.range b).filter fun b => decide (w ≤ b) && alarmAt l c w t b).map fun b : Nat => (b : Int)
theorem alarmsTo_start (l : List Bal) (c : Acc) (w : Nat) (t : Int) : alarmsTo l c w t w = [] := by
  unfold alarmsTo
  rw [List.map_eq_nil_iff, List.filter_eq_nil_iff]
  intro b hb
  have := List.mem_range.1 hb
  simp; omega
theorem alarmsTo_succ (l : List Bal) (c : Acc) (w : Nat) (t : Int) (b : Nat) (h : w ≤ b) : alarmsTo l c w t (b + 1) = alarmsTo l c w t b ++ (if alarmAt l c w t b then [(b : Int)] else []) := by
  unfold alarmsTo
  rw [List.range_succ, List.filter_append, List.map_append]
  congr 1
  by_cases h2 : alarmAt l c w t b = true <;> simp [List.filter_cons, h, h2]
theorem alarmsTo_len (l : List Bal) (c : Acc) (w : Nat) (t : Int) (b : Nat) : (alarmsTo l c w t b).length ≤ b := by
  unfold alarmsTo
  rw [List.length_map]
  have := List.length_filter_le (fun b => decide (w ≤ b) && alarmAt l c w t b) (List.range b)
  simpa using this
def leastTo (l : List Bal) (c : Acc) (w : Nat) (t : Int) : Nat → Int
  | 0 => 1
  | b + 1 => if w ≤ b then max (leastTo l c w t b) ((2 * wrg l c (b - w) b + t) / w + 1) else 1
theorem leastTo_start (l : List Bal) (c : Acc) (w : Nat) (t : Int) : leastTo l c w t w = 1 := by
  cases w with
  | zero => rfl
  | succ w => simp [leastTo]; omega

set_option maxRecDepth 100000 in
theorem alarms (l : List Bal) (c : Acc) (w t : Int) :
    ACalls Try.env 11 [encBals l, .agg (encAcc c), .v (.int .i64 w), .v (.int .i64 t)] [] fun x _ => x = if chkL l c w t = 0 then .tup [encInts (alarmsTo l c w.toNat t (max w.toNat l.length)), .v (.int .i64 0)] else .tup [.list 1 [], .v (.int .i64 (chkL l c w t))] := by
  refine ACalls.of_body Try.func11 rfl rfl rfl (fun C hC => ?_)
  refine AW.seq ?_
  refine AW.region ?_
  refine AO.act [] rfl (AX.box rfl rfl rfl (dst_some rfl) (fun b5 => ?_))
  refine AO.p (Yp.assign rfl) rfl ?_
  refine AO.p (Yp.assign rfl) rfl ?_
  refine AO.nil ?_
  refine AW.seq ?_
  refine AW.seq ?_
  refine AW.region ?_
  refine AO.p (Yp.move rfl) rfl ?_
  refine AO.d (Yd.loadO 0 0 0 rfl rfl rfl rfl rfl rfl) rfl ?_
  refine AO.p (Yp.move rfl) rfl ?_
  refine AO.p (Yp.move rfl) rfl ?_
  refine AO.act [] rfl (AX.call0 rfl rfl rfl (chkLeak l _ _ _) (dst_some rfl) ?_)
  rintro _ ⟨_, rfl⟩
  refine AO.p (Yp.assign rfl) rfl ?_
  refine AO.nil ?_
  refine AW.seq ?_
  refine AW.region ?_
  refine AO.p (Yp.move rfl) rfl ?_
  refine AO.p (Yp.cmpI rfl rfl rfl) rfl ?_
  refine AO.nil ?_
  refine AW.cond rfl rfl ?_ ?_
  · intro hc1
    replace hc1 := bne_iff_ne.1 hc1
    refine AW.seq ?_
    refine AW.region ?_
    refine AO.p (Yp.move rfl) rfl ?_
    refine AO.p (Yp.assign rfl) rfl ?_
    refine AO.p (Yp.assign rfl) rfl ?_
    refine AO.nil ?_
    refine AW.nilL 8 1 rfl ?_
    refine AW.ret ?_
    exact ⟨.inr rfl, [_, _], [], ⟨rfl, rfl, trivial⟩, List.nil_sublist _, by simp only [resV]; rw [if_neg hc1]⟩
  · intro hc1
    replace hc1 := eq_of_bne hc1
    obtain ⟨k1, k2, k3, k4, k5, k6⟩ := chkL_ok hc1
    obtain ⟨q1, q2⟩ := chk_ok k1
    obtain ⟨w, rfl⟩ := Int.eq_ofNat_of_zero_le (show 0 ≤ w by omega)
    rw [if_pos hc1]
    simp only [Int.toNat_natCast]
    refine AW.skip ?_
    refine AW.seq ?_
    refine AW.region ?_
    refine AO.p (Yp.assign rfl) rfl ?_
    refine AO.nil ?_
    refine AW.seq ?_
    refine AW.seq ?_
    refine AW.region ?_
    refine AO.p (Yp.move rfl) rfl ?_
    refine AO.p (Yp.assign rfl) rfl ?_
    refine AO.nil ?_
    refine AW.block ?_
    refine AW.loopK [(0, _), (2, _), (3, _), (5, _)] ⟨rfl, rfl, rfl, rfl, trivial⟩ (fun m s ob => ∃ b : Nat, w ≤ b ∧ b ≤ max w l.length ∧ m = max w l.length - b ∧ ((alarmsTo l c w t b = [] ∧ ob = [(b5, .arr 31 2 1 [encAcc c])] ∧ s = [(11, .v (.slice none 0 0)), (12, .v (.int .i64 b))]) ∨
        ∃ b11 cap, (alarmsTo l c w t b).length ≤ cap ∧ ob = [(b5, .arr 31 2 1 [encAcc c]), (b11, .arr 3 1 cap ((alarmsTo l c w t b).map encInt))] ∧ s = [(11, .v (.slice (some ⟨b11, 0, none⟩) (alarmsTo l c w t b).length cap)), (12, .v (.int .i64 b))])) (m := _) (s0 := _) (ob0 := _) (⟨w, by omega, by omega, rfl, .inl ⟨alarmsTo_start _ _ _ _, rfl, rfl⟩⟩) ⟨rfl, rfl, trivial⟩ (List.Sublist.refl _) ?_
    rintro m s ob ⟨b, hb1, hb2, rfl, (⟨ha, rfl, rfl⟩ | ⟨b11, cap, hcap, rfl, rfl⟩)⟩
    all_goals have hal := alarmsTo_len l c w t b
    ·
      refine AW.seq ?_
      refine AW.seq ?_
      refine AW.region ?_
      refine AO.p (Yp.move rfl) rfl ?_
      refine AO.p (Yp.move rfl) rfl ?_
      first
      | refine AO.p (Yp.lenList rfl rfl rfl) rfl ?_
      | refine AO.p (Yp.lenSlice rfl rfl rfl) rfl ?_
      | refine AO.p (Yp.lenString rfl rfl rfl) rfl ?_
      refine AO.p (Yp.cmpI rfl rfl rfl) rfl ?_
      refine AO.nil ?_
      refine AW.cond rfl rfl ?_ ?_
      · intro hc2
        replace hc2 := of_decide_eq_true hc2
        simp only [List.length_map] at hc2
        have hW : chkW l c ((b : Int) - w) b = 0 := chkW_of (w := 0) k1 k2 ⟨by omega, by omega, by omega⟩
        refine AW.skip ?_
        refine AW.seq ?_
        refine AW.block ?_
        refine AW.seq ?_
        refine AW.region ?_
        refine AO.p (Yp.move rfl) rfl ?_
        refine AO.d (Yd.loadO 0 0 0 rfl rfl rfl rfl rfl rfl) rfl ?_
        refine AO.p (Yp.move rfl) rfl ?_
        refine AO.p (Yp.move rfl) rfl ?_
        first
        | refine AO.p (Yp.binI rfl rfl (w64 (by omega))) rfl ?_
        | refine AO.p (Yp.binI rfl rfl rfl) rfl ?_
        refine AO.p (Yp.move rfl) rfl ?_
        refine AO.act [] rfl (AX.call0 rfl rfl rfl (bounds l _ _ _) (dst_some rfl) ?_)
        rintro _ ⟨_, rfl⟩
        rw [if_pos hW]
        simp only [Int.toNat_natCast, show ((b : Int) - w).toNat = b - w by omega]
        refine AO.p (Yp.move rfl) rfl ?_
        refine AO.p (Yp.extract rfl rfl) rfl ?_
        refine AO.p (Yp.extract rfl rfl) rfl ?_
        refine AO.p (Yp.extract rfl rfl) rfl ?_
        refine AO.p (Yp.assign rfl) rfl ?_
        refine AO.p (Yp.assign rfl) rfl ?_
        refine AO.p (Yp.assign rfl) rfl ?_
        refine AO.nil ?_
        refine AW.seq ?_
        refine AW.seq ?_
        refine AW.region ?_
        refine AO.p (Yp.move rfl) rfl ?_
        refine AO.p (Yp.cmpI rfl rfl rfl) rfl ?_
        refine AO.nil ?_
        refine AW.cond rfl rfl ?_ ?_
        · intro hc3
          exact absurd hc3 (by decide)
        · intro hc3
          skip
          refine AW.skip ?_
          refine AW.seq ?_
          refine AW.region ?_
          refine AO.p (Yp.move rfl) rfl ?_
          refine AO.p (Yp.move rfl) rfl ?_
          refine AO.p (Yp.cmpI rfl rfl rfl) rfl ?_
          refine AO.nil ?_
          refine AW.cond rfl rfl ?_ ?_
          · intro hc4
            replace hc4 := of_decide_eq_true hc4
            refine AW.region ?_
            refine AO.p (Yp.move rfl) rfl ?_
            refine AO.p (Yp.move rfl) rfl ?_
            refine AO.act [] rfl (AX.buildSlice (sz := 1) rfl rfl rfl rfl rfl rfl rfl rfl rfl rfl rfl (dst_some rfl) (fun b50 => ?_))
            first
            | refine AO.act [] rfl (AX.appendN (sz := 1) rfl rfl rfl rfl rfl rfl rfl (AppSrc.own 1 rfl rfl rfl) (le_ble rfl) (le_ble rfl) (le_ble rfl) (dst_some rfl) (fun b51 c51 h51 => ?_))
            | refine AO.act [0] rfl (AX.appendS (sz := 1) 0 rfl rfl rfl rfl rfl rfl rfl rfl (by first | rfl | simp) rfl (AppSrc.own 1 rfl rfl rfl) (app_le (by first | omega | (simp only [List.length_map, List.length_cons, List.length_nil, List.length_append, rows_length]; omega))) (by first | omega | (simp only [List.length_map, List.length_cons, List.length_nil, List.length_append, rows_length]; omega)) (dst_some rfl) (fun b51 c51 h51 => ?_))
            | refine AO.act [1] rfl (AX.appendS (sz := 1) 1 rfl rfl rfl rfl rfl rfl rfl rfl (by first | rfl | simp) rfl (AppSrc.own 1 rfl rfl rfl) (app_le (by first | omega | (simp only [List.length_map, List.length_cons, List.length_nil, List.length_append, rows_length]; omega))) (by first | omega | (simp only [List.length_map, List.length_cons, List.length_nil, List.length_append, rows_length]; omega)) (dst_some rfl) (fun b51 c51 h51 => ?_))
            | refine AO.act [2] rfl (AX.appendS (sz := 1) 2 rfl rfl rfl rfl rfl rfl rfl rfl (by first | rfl | simp) rfl (AppSrc.own 1 rfl rfl rfl) (app_le (by first | omega | (simp only [List.length_map, List.length_cons, List.length_nil, List.length_append, rows_length]; omega))) (by first | omega | (simp only [List.length_map, List.length_cons, List.length_nil, List.length_append, rows_length]; omega)) (dst_some rfl) (fun b51 c51 h51 => ?_))
            | refine AO.act [3] rfl (AX.appendS (sz := 1) 3 rfl rfl rfl rfl rfl rfl rfl rfl (by first | rfl | simp) rfl (AppSrc.own 1 rfl rfl rfl) (app_le (by first | omega | (simp only [List.length_map, List.length_cons, List.length_nil, List.length_append, rows_length]; omega))) (by first | omega | (simp only [List.length_map, List.length_cons, List.length_nil, List.length_append, rows_length]; omega)) (dst_some rfl) (fun b51 c51 h51 => ?_))
            | refine AO.act [4] rfl (AX.appendS (sz := 1) 4 rfl rfl rfl rfl rfl rfl rfl rfl (by first | rfl | simp) rfl (AppSrc.own 1 rfl rfl rfl) (app_le (by first | omega | (simp only [List.length_map, List.length_cons, List.length_nil, List.length_append, rows_length]; omega))) (by first | omega | (simp only [List.length_map, List.length_cons, List.length_nil, List.length_append, rows_length]; omega)) (dst_some rfl) (fun b51 c51 h51 => ?_))
            | refine AO.act [5] rfl (AX.appendS (sz := 1) 5 rfl rfl rfl rfl rfl rfl rfl rfl (by first | rfl | simp) rfl (AppSrc.own 1 rfl rfl rfl) (app_le (by first | omega | (simp only [List.length_map, List.length_cons, List.length_nil, List.length_append, rows_length]; omega))) (by first | omega | (simp only [List.length_map, List.length_cons, List.length_nil, List.length_append, rows_length]; omega)) (dst_some rfl) (fun b51 c51 h51 => ?_))
            refine AO.p (Yp.assign rfl) rfl ?_
            refine AO.nil ?_
            refine AW.region ?_
            refine AO.p (Yp.move rfl) rfl ?_
            first
            | refine AO.p (Yp.binI rfl rfl (w64 (by omega))) rfl ?_
            | refine AO.p (Yp.binI rfl rfl rfl) rfl ?_
            refine AO.p (Yp.assign rfl) rfl ?_
            refine AO.nil ?_
            have hsc := alarmsTo_succ l c w t b hb1
            rw [if_pos (show alarmAt l c w t b = true from decide_eq_true hc4), ha] at hsc
            refine ⟨_, _, _, ?_, ⟨b + 1, by omega, by omega, rfl, .inr ⟨b51, c51, by rw [hsc]; exact h51, rfl, rfl⟩⟩, ⟨get_t ?_, get_i ?_, rfl, rfl, rfl, rfl, trivial⟩, sl_c rfl (sl_d (sl_c (ob_es ?_) sl_n))⟩
            · omega
            · rw [hsc]; rfl
            · simp
            · rw [hsc]; rfl
          · intro hc4
            replace hc4 := of_decide_eq_false hc4
            refine AW.skip ?_
            refine AW.region ?_
            refine AO.p (Yp.move rfl) rfl ?_
            first
            | refine AO.p (Yp.binI rfl rfl (w64 (by omega))) rfl ?_
            | refine AO.p (Yp.binI rfl rfl rfl) rfl ?_
            refine AO.p (Yp.assign rfl) rfl ?_
            refine AO.nil ?_
            have hsc := alarmsTo_succ l c w t b hb1
            rw [if_neg (by simpa [alarmAt] using hc4), ha] at hsc
            refine ⟨_, _, _, ?_, ⟨b + 1, by omega, by omega, rfl, .inl ⟨by simpa using hsc, rfl, rfl⟩⟩, ⟨rfl, get_i ?_, rfl, rfl, rfl, rfl, trivial⟩, sl_c rfl sl_n⟩
            · omega
            · simp
      · intro hc2
        replace hc2 := of_decide_eq_false hc2
        simp only [List.length_map] at hc2
        have hbe : b = max w l.length := by omega
        refine AW.nilL 11 1 rfl ?_
        refine AW.exit ?_
        refine AW.seq ?_
        refine AW.region ?_
        refine AO.p (Yp.move rfl) rfl ?_
        refine AO.p (Yp.assign rfl) rfl ?_
        refine AO.p (Yp.assign rfl) rfl ?_
        refine AO.nil ?_
        refine AW.ret ?_
        exact ⟨.inr rfl, [_, _], [], ⟨rfl, rfl, trivial⟩, List.nil_sublist _, by simp only [resV]; rw [← hbe, ha]; rfl⟩
    ·
      refine AW.seq ?_
      refine AW.seq ?_
      refine AW.region ?_
      refine AO.p (Yp.move rfl) rfl ?_
      refine AO.p (Yp.move rfl) rfl ?_
      first
      | refine AO.p (Yp.lenList rfl rfl rfl) rfl ?_
      | refine AO.p (Yp.lenSlice rfl rfl rfl) rfl ?_
      | refine AO.p (Yp.lenString rfl rfl rfl) rfl ?_
      refine AO.p (Yp.cmpI rfl rfl rfl) rfl ?_
      refine AO.nil ?_
      refine AW.cond rfl rfl ?_ ?_
      · intro hc2
        replace hc2 := of_decide_eq_true hc2
        simp only [List.length_map] at hc2
        have hW : chkW l c ((b : Int) - w) b = 0 := chkW_of (w := 0) k1 k2 ⟨by omega, by omega, by omega⟩
        refine AW.skip ?_
        refine AW.seq ?_
        refine AW.block ?_
        refine AW.seq ?_
        refine AW.region ?_
        refine AO.p (Yp.move rfl) rfl ?_
        refine AO.d (Yd.loadO 0 0 0 rfl rfl rfl rfl rfl rfl) rfl ?_
        refine AO.p (Yp.move rfl) rfl ?_
        refine AO.p (Yp.move rfl) rfl ?_
        first
        | refine AO.p (Yp.binI rfl rfl (w64 (by omega))) rfl ?_
        | refine AO.p (Yp.binI rfl rfl rfl) rfl ?_
        refine AO.p (Yp.move rfl) rfl ?_
        refine AO.act [] rfl (AX.call0 rfl rfl rfl (bounds l _ _ _) (dst_some rfl) ?_)
        rintro _ ⟨_, rfl⟩
        rw [if_pos hW]
        simp only [Int.toNat_natCast, show ((b : Int) - w).toNat = b - w by omega]
        refine AO.p (Yp.move rfl) rfl ?_
        refine AO.p (Yp.extract rfl rfl) rfl ?_
        refine AO.p (Yp.extract rfl rfl) rfl ?_
        refine AO.p (Yp.extract rfl rfl) rfl ?_
        refine AO.p (Yp.assign rfl) rfl ?_
        refine AO.p (Yp.assign rfl) rfl ?_
        refine AO.p (Yp.assign rfl) rfl ?_
        refine AO.nil ?_
        refine AW.seq ?_
        refine AW.seq ?_
        refine AW.region ?_
        refine AO.p (Yp.move rfl) rfl ?_
        refine AO.p (Yp.cmpI rfl rfl rfl) rfl ?_
        refine AO.nil ?_
        refine AW.cond rfl rfl ?_ ?_
        · intro hc3
          exact absurd hc3 (by decide)
        · intro hc3
          skip
          refine AW.skip ?_
          refine AW.seq ?_
          refine AW.region ?_
          refine AO.p (Yp.move rfl) rfl ?_
          refine AO.p (Yp.move rfl) rfl ?_
          refine AO.p (Yp.cmpI rfl rfl rfl) rfl ?_
          refine AO.nil ?_
          refine AW.cond rfl rfl ?_ ?_
          · intro hc4
            replace hc4 := of_decide_eq_true hc4
            refine AW.region ?_
            refine AO.p (Yp.move rfl) rfl ?_
            refine AO.p (Yp.move rfl) rfl ?_
            refine AO.act [] rfl (AX.buildSlice (sz := 1) rfl rfl rfl rfl rfl rfl rfl rfl rfl rfl rfl (dst_some rfl) (fun b50 => ?_))
            refine AO.act [1] rfl (AX.appendS (sz := 1) 1 rfl rfl rfl rfl rfl rfl rfl rfl (by first | rfl | simp) rfl (AppSrc.own 2 rfl rfl rfl) (app_le (by first | omega | (simp only [List.length_map, List.length_cons, List.length_nil, List.length_append, rows_length]; omega))) (by first | omega | (simp only [List.length_map, List.length_cons, List.length_nil, List.length_append, rows_length]; omega)) (dst_some rfl) (fun b51 c51 h51 => ?_))
            refine AO.p (Yp.assign rfl) rfl ?_
            refine AO.nil ?_
            refine AW.region ?_
            refine AO.p (Yp.move rfl) rfl ?_
            first
            | refine AO.p (Yp.binI rfl rfl (w64 (by omega))) rfl ?_
            | refine AO.p (Yp.binI rfl rfl rfl) rfl ?_
            refine AO.p (Yp.assign rfl) rfl ?_
            refine AO.nil ?_
            have hsc := alarmsTo_succ l c w t b hb1
            rw [if_pos (show alarmAt l c w t b = true from decide_eq_true hc4)] at hsc
            have hl2 : (alarmsTo l c w t (b + 1)).length = (alarmsTo l c w t b).length + 1 := by rw [hsc]; simp
            simp only [List.length_map, rows_length] at h51
            refine ⟨_, _, _, ?_, ⟨b + 1, by omega, by omega, rfl, .inr ⟨b51, c51, by omega, rfl, rfl⟩⟩, ⟨get_t ?_, get_i ?_, rfl, rfl, rfl, rfl, trivial⟩, sl_c rfl (sl_c (ob_es ?_) sl_n)⟩
            · omega
            · rw [hl2]; simp only [List.length_map, rows_length]
            · simp
            · rw [hsc, List.map_append]; rfl
          · intro hc4
            replace hc4 := of_decide_eq_false hc4
            refine AW.skip ?_
            refine AW.region ?_
            refine AO.p (Yp.move rfl) rfl ?_
            first
            | refine AO.p (Yp.binI rfl rfl (w64 (by omega))) rfl ?_
            | refine AO.p (Yp.binI rfl rfl rfl) rfl ?_
            refine AO.p (Yp.assign rfl) rfl ?_
            refine AO.nil ?_
            have hsc := alarmsTo_succ l c w t b hb1
            rw [if_neg (by simpa [alarmAt] using hc4), List.append_nil] at hsc
            refine ⟨_, _, _, ?_, ⟨b + 1, by omega, by omega, rfl, .inr ⟨b11, cap, by rw [hsc]; exact hcap, rfl, rfl⟩⟩, ⟨get_t ?_, get_i ?_, rfl, rfl, rfl, rfl, trivial⟩, sl_c rfl (sl_c (ob_es ?_) sl_n)⟩
            · omega
            · rw [hsc]
            · simp
            · rw [hsc]
      · intro hc2
        replace hc2 := of_decide_eq_false hc2
        simp only [List.length_map] at hc2
        have hbe : b = max w l.length := by omega
        refine AW.frz 11 1 rfl rfl (by simp) hcap ?_
        refine AW.exit ?_
        refine AW.seq ?_
        refine AW.region ?_
        refine AO.p (Yp.move rfl) rfl ?_
        refine AO.p (Yp.assign rfl) rfl ?_
        refine AO.p (Yp.assign rfl) rfl ?_
        refine AO.nil ?_
        refine AW.ret ?_
        exact ⟨.inr rfl, [_, _], [], ⟨rfl, rfl, trivial⟩, List.nil_sublist _, by simp only [resV]; rw [← hbe]; rfl⟩

set_option maxRecDepth 100000 in
theorem least (l : List Bal) (c : Acc) (w t : Int) :
    ACalls Try.env 12 [encBals l, .agg (encAcc c), .v (.int .i64 w), .v (.int .i64 t)] [] fun x _ => x = if chkL l c w t = 0 then .tup [.v (.int .i64 (leastTo l c w.toNat t (max w.toNat l.length))), .v (.int .i64 0)] else .tup [.v (.int .i64 0), .v (.int .i64 (chkL l c w t))] := by
  refine ACalls.of_body Try.func12 rfl rfl rfl (fun C hC => ?_)
  refine AW.seq ?_
  refine AW.region ?_
  refine AO.act [] rfl (AX.box rfl rfl rfl (dst_some rfl) (fun b5 => ?_))
  refine AO.p (Yp.assign rfl) rfl ?_
  refine AO.p (Yp.assign rfl) rfl ?_
  refine AO.nil ?_
  refine AW.seq ?_
  refine AW.seq ?_
  refine AW.region ?_
  refine AO.p (Yp.move rfl) rfl ?_
  refine AO.d (Yd.loadO 0 0 0 rfl rfl rfl rfl rfl rfl) rfl ?_
  refine AO.p (Yp.move rfl) rfl ?_
  refine AO.p (Yp.move rfl) rfl ?_
  refine AO.act [] rfl (AX.call0 rfl rfl rfl (chkLeak l _ _ _) (dst_some rfl) ?_)
  rintro _ ⟨_, rfl⟩
  refine AO.p (Yp.assign rfl) rfl ?_
  refine AO.nil ?_
  refine AW.seq ?_
  refine AW.region ?_
  refine AO.p (Yp.move rfl) rfl ?_
  refine AO.p (Yp.cmpI rfl rfl rfl) rfl ?_
  refine AO.nil ?_
  refine AW.cond rfl rfl ?_ ?_
  · intro hc1
    replace hc1 := bne_iff_ne.1 hc1
    refine AW.seq ?_
    refine AW.region ?_
    refine AO.p (Yp.move rfl) rfl ?_
    refine AO.p (Yp.assign rfl) rfl ?_
    refine AO.p (Yp.assign rfl) rfl ?_
    refine AO.nil ?_
    refine AW.ret ?_
    exact ⟨.inr rfl, [_, _], [], ⟨rfl, rfl, trivial⟩, List.nil_sublist _, by simp only [resV]; rw [if_neg hc1]⟩
  · intro hc1
    replace hc1 := eq_of_bne hc1
    obtain ⟨k1, k2, k3, k4, k5, k6⟩ := chkL_ok hc1
    obtain ⟨q1, q2⟩ := chk_ok k1
    have q3 := good_ok k2
    obtain ⟨w, rfl⟩ := Int.eq_ofNat_of_zero_le (show 0 ≤ w by omega)
    rw [if_pos hc1]
    simp only [Int.toNat_natCast]
    refine AW.skip ?_
    refine AW.seq ?_
    refine AW.region ?_
    refine AO.p (Yp.assign rfl) rfl ?_
    refine AO.nil ?_
    refine AW.seq ?_
    refine AW.seq ?_
    refine AW.region ?_
    refine AO.p (Yp.move rfl) rfl ?_
    refine AO.p (Yp.assign rfl) rfl ?_
    refine AO.nil ?_
    refine AW.block ?_
    refine AW.loopK [(0, _), (2, _), (3, _), (5, _)] ⟨rfl, rfl, rfl, rfl, trivial⟩ (fun m s ob => ∃ b : Nat, w ≤ b ∧ b ≤ max w l.length ∧ m = max w l.length - b ∧ ob = [(b5, .arr 31 2 1 [encAcc c])] ∧ s = [(11, .v (.int .i64 (leastTo l c w t b))), (12, .v (.int .i64 b))]) (m := _) (s0 := _) (ob0 := _) (⟨w, by omega, by omega, rfl, rfl, rfl⟩) ⟨get_i (leastTo_start _ _ _ _).symm, rfl, trivial⟩ (List.Sublist.refl _) ?_
    rintro m s ob ⟨b, hb1, hb2, rfl, rfl, rfl⟩
    refine AW.seq ?_
    refine AW.seq ?_
    refine AW.region ?_
    refine AO.p (Yp.move rfl) rfl ?_
    refine AO.p (Yp.move rfl) rfl ?_
    first
    | refine AO.p (Yp.lenList rfl rfl rfl) rfl ?_
    | refine AO.p (Yp.lenSlice rfl rfl rfl) rfl ?_
    | refine AO.p (Yp.lenString rfl rfl rfl) rfl ?_
    refine AO.p (Yp.cmpI rfl rfl rfl) rfl ?_
    refine AO.nil ?_
    refine AW.cond rfl rfl ?_ ?_
    · intro hc2
      replace hc2 := of_decide_eq_true hc2
      simp only [List.length_map] at hc2
      have hW : chkW l c ((b : Int) - w) b = 0 := chkW_of (w := 0) k1 k2 ⟨by omega, by omega, by omega⟩
      have hwb := wrg_bd q1 q2 q3 (a := b - w) (b := b) (by omega) (by omega)
      have hdv := ediv_bd (a := 2 * wrg l c (b - w) b + t) (b := w) (by omega)
      refine AW.skip ?_
      refine AW.seq ?_
      refine AW.block ?_
      refine AW.seq ?_
      refine AW.region ?_
      refine AO.p (Yp.move rfl) rfl ?_
      refine AO.d (Yd.loadO 0 0 0 rfl rfl rfl rfl rfl rfl) rfl ?_
      refine AO.p (Yp.move rfl) rfl ?_
      refine AO.p (Yp.move rfl) rfl ?_
      first
      | refine AO.p (Yp.binI rfl rfl (w64 (by omega))) rfl ?_
      | refine AO.p (Yp.binI rfl rfl rfl) rfl ?_
      refine AO.p (Yp.move rfl) rfl ?_
      refine AO.act [] rfl (AX.call0 rfl rfl rfl (error_ l _ _ _) (dst_some rfl) ?_)
      rintro _ ⟨_, rfl⟩
      rw [if_pos hW]
      simp only [Int.toNat_natCast, show ((b : Int) - w).toNat = b - w by omega]
      refine AO.p (Yp.move rfl) rfl ?_
      refine AO.p (Yp.extract rfl rfl) rfl ?_
      refine AO.p (Yp.extract rfl rfl) rfl ?_
      refine AO.p (Yp.assign rfl) rfl ?_
      refine AO.p (Yp.assign rfl) rfl ?_
      refine AO.nil ?_
      refine AW.seq ?_
      refine AW.seq ?_
      refine AW.region ?_
      refine AO.p (Yp.move rfl) rfl ?_
      refine AO.p (Yp.cmpI rfl rfl rfl) rfl ?_
      refine AO.nil ?_
      refine AW.cond rfl rfl ?_ ?_
      · intro hc3
        exact absurd hc3 (by decide)
      · intro hc3
        skip
        refine AW.skip ?_
        refine AW.region ?_
        refine AO.p (Yp.move rfl) rfl ?_
        refine AO.p (Yp.move rfl) rfl ?_
        first
        | refine AO.p (Yp.binI rfl rfl (w64 (by omega))) rfl ?_
        | refine AO.p (Yp.binI rfl rfl rfl) rfl ?_
        refine AO.p (Yp.move rfl) rfl ?_
        first
        | refine AO.p (Yp.binI rfl rfl (w64 (by omega))) rfl ?_
        | refine AO.p (Yp.binI rfl rfl rfl) rfl ?_
        refine AO.p (Yp.move rfl) rfl ?_
        first
        | refine AO.p (Yp.quoN rfl rfl (by omega) (by omega)) rfl ?_
        | refine AO.p (Yp.binI rfl rfl ⟨by omega, rfl⟩) rfl ?_
        first
        | refine AO.p (Yp.binI rfl rfl (w64 (by omega))) rfl ?_
        | refine AO.p (Yp.binI rfl rfl rfl) rfl ?_
        refine AO.p (Yp.maxI rfl rfl) rfl ?_
        refine AO.p (Yp.assign rfl) rfl ?_
        refine AO.nil ?_
        refine AW.region ?_
        refine AO.p (Yp.move rfl) rfl ?_
        first
        | refine AO.p (Yp.binI rfl rfl (w64 (by omega))) rfl ?_
        | refine AO.p (Yp.binI rfl rfl rfl) rfl ?_
        refine AO.p (Yp.assign rfl) rfl ?_
        refine AO.nil ?_
        refine ⟨_, _, _, ?_, ⟨b + 1, by omega, by omega, rfl, rfl, rfl⟩, ⟨get_i ?_, get_i ?_, rfl, rfl, rfl, rfl, trivial⟩, sl_c rfl sl_n⟩
        · omega
        · rw [leastTo, if_pos hb1]
        · simp
    · intro hc2
      replace hc2 := of_decide_eq_false hc2
      simp only [List.length_map] at hc2
      have hbe : b = max w l.length := by omega
      refine AW.exit ?_
      refine AW.seq ?_
      refine AW.region ?_
      refine AO.p (Yp.move rfl) rfl ?_
      refine AO.p (Yp.assign rfl) rfl ?_
      refine AO.p (Yp.assign rfl) rfl ?_
      refine AO.nil ?_
      refine AW.ret ?_
      exact ⟨.inr rfl, [_, _], [], ⟨rfl, rfl, trivial⟩, List.nil_sublist _, by simp only [resV]; rw [← hbe]⟩

end Go.Proofs.Ytnmiidccebhiaaa
