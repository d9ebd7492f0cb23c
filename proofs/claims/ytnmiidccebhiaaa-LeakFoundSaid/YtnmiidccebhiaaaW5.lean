/- Walks of functions of the program, printed by a program of ours. No condition. -/
import Derived.Test.YtnmiidccebhiaaaW4
namespace Go.Proofs.Ytnmiidccebhiaaa
open Go.Aw


/-- One tick of the law's data: flow f, error e, loss lost. -/
def tk (M P f e lost : Int) : Bal := ⟨f + (f * M / 4000000 * e).tdiv 128, max 0 (f - lost) - (max 0 (f - lost) * M / 4000000 * e).tdiv 128, 1000 + (P * e).tdiv 256⟩
def ew (wr : List Int) (i : Nat) : Int := wr.getD i 0
def ls (turn first rate : Int) (i : Nat) : Int := if turn = 1 ∧ (i : Int) > first then rate else 0
def xsF (M P f : Int) (wr : List Int) (turn first rate : Int) : List Bal := (List.range 30).map fun i => tk M P f (ew wr i) (ls turn first rate i)
theorem xsF_len (M P f : Int) (wr : List Int) (turn first rate : Int) : (xsF M P f wr turn first rate).length = 30 := by simp [xsF]
theorem xsF_get {M P f : Int} {wr : List Int} {turn first rate : Int} {i : Nat} (h : i < 30) : (xsF M P f wr turn first rate)[i]? = some (tk M P f (ew wr i) (ls turn first rate i)) := by
  simp [xsF, h]
theorem qb {f M e : Int} (hf : 0 ≤ f ∧ f ≤ 499) (hM : 0 ≤ M ∧ M ≤ 20000) (he : -128 ≤ e ∧ e ≤ 127) : 0 ≤ f * M ∧ f * M ≤ 9980000 ∧ -256 ≤ f * M / 4000000 * e ∧ f * M / 4000000 * e ≤ 256 := by
  have h1 := Int.mul_nonneg hf.1 hM.1
  have h2 : f * M ≤ 499 * 20000 := Int.mul_le_mul hf.2 hM.2 hM.1 (by omega)
  have h3 : f * M / 4000000 = 0 ∨ f * M / 4000000 = 1 ∨ f * M / 4000000 = 2 := by omega
  refine ⟨h1, by omega, ?_⟩
  rcases h3 with h | h | h <;> rw [h] <;> omega
theorem pb {P e : Int} (hP : 0 ≤ P ∧ P ≤ 3) (he : -128 ≤ e ∧ e ≤ 127) : -384 ≤ P * e ∧ P * e ≤ 384 := by
  have h3 : P = 0 ∨ P = 1 ∨ P = 2 ∨ P = 3 := by omega
  rcases h3 with h | h | h | h <;> rw [h] <;> omega
theorem ew_bd {wr : List Int} (h : ∀ n, n ∈ wr → -128 ≤ n ∧ n ≤ 127) (i : Nat) : -128 ≤ ew wr i ∧ ew wr i ≤ 127 := by
  unfold ew
  rw [List.getD]
  cases hx : wr[i]? with
  | none => simp
  | some x => exact h x (List.mem_of_getElem? hx)
theorem ew_get {wr : List Int} {i : Nat} {x : Int} (h : wr[i]? = some x) : ew wr i = x := by simp [ew, List.getD, h]
theorem ew_out {wr : List Int} {i : Nat} (h : wr.length ≤ i) : ew wr i = 0 := by simp [ew, List.getD, List.getElem?_eq_none h]
theorem td128 {x : Int} (h : -256 ≤ x ∧ x ≤ 256) : -9223372036854775808 ≤ x.tdiv 128 ∧ x.tdiv 128 ≤ 9223372036854775807 := tdiv_bd (by omega) (by omega)
theorem tdP {x n : Int} (hn : 0 < n) : (0 ≤ x ∧ x.tdiv n = x / n) ∨ (x < 0 ∧ x.tdiv n = -((-x) / n)) := by
  by_cases h : 0 ≤ x
  · exact .inl ⟨h, Int.tdiv_eq_ediv_of_nonneg h⟩
  · refine .inr ⟨by omega, ?_⟩
    rw [← Int.tdiv_eq_ediv_of_nonneg (show 0 ≤ -x by omega), Int.neg_tdiv, Int.neg_neg]
theorem td128b {x : Int} (h : -256 ≤ x ∧ x ≤ 256) : -2 ≤ x.tdiv 128 ∧ x.tdiv 128 ≤ 2 := by
  rcases tdP (x := x) (n := 128) (by omega) with ⟨h1, h2⟩ | ⟨h1, h2⟩ <;> rw [h2] <;> omega
theorem td256 {x : Int} (h : -384 ≤ x ∧ x ≤ 384) : -9223372036854775808 ≤ x.tdiv 256 ∧ x.tdiv 256 ≤ 9223372036854775807 := tdiv_bd (by omega) (by omega)
theorem td256b {x : Int} (h : -384 ≤ x ∧ x ≤ 384) : -1 ≤ x.tdiv 256 ∧ x.tdiv 256 ≤ 1 := by
  rcases tdP (x := x) (n := 256) (by omega) with ⟨h1, h2⟩ | ⟨h1, h2⟩ <;> rw [h2] <;> omega
/-- What a meter is off by at an error e. -/
def dd (M f e : Int) : Int := (f * M / 4000000 * e).tdiv 128
theorem dd_bd {M f e : Int} (hf : 0 ≤ f ∧ f ≤ 499) (hM : 0 ≤ M ∧ M ≤ 20000) (he : -128 ≤ e ∧ e ≤ 127) : -(f * M / 4000000) ≤ dd M f e ∧ dd M f e ≤ f * M / 4000000 := by
  have h1 := Int.mul_nonneg hf.1 hM.1
  have h2 : f * M ≤ 499 * 20000 := Int.mul_le_mul hf.2 hM.2 hM.1 (by omega)
  have h3 : f * M / 4000000 = 0 ∨ f * M / 4000000 = 1 ∨ f * M / 4000000 = 2 := by omega
  unfold dd
  rcases h3 with h | h | h <;> rw [h] <;> rcases tdP (x := _ * e) (n := 128) (by omega) with ⟨k1, k2⟩ | ⟨k1, k2⟩ <;> rw [k2] <;> omega
theorem dd_sub {M f r e : Int} (hf : 0 ≤ f ∧ f ≤ 499) (hr : 1 ≤ r ∧ r ≤ f) (hM : 0 ≤ M ∧ M ≤ 20000) (he : -128 ≤ e ∧ e ≤ 127) : dd M f e - dd M (f - r) e ≤ r ∧ (f - r) * M / 4000000 ≤ f * M / 4000000 := by
  have h1 := Int.mul_nonneg hf.1 hM.1
  have h2 : f * M ≤ 499 * 20000 := Int.mul_le_mul hf.2 hM.2 hM.1 (by omega)
  have h3 : f * M / 4000000 = 0 ∨ f * M / 4000000 = 1 ∨ f * M / 4000000 = 2 := by omega
  have h4 : (f - r) * M = f * M - r * M := Int.sub_mul ..
  have h5 : r * M ≤ r * 20000 := Int.mul_le_mul_of_nonneg_left hM.2 (by omega)
  have h7 := Int.mul_nonneg (show 0 ≤ r by omega) hM.1
  have h8 := Int.mul_nonneg (show 0 ≤ f - r by omega) hM.1
  have h6 : (f - r) * M / 4000000 = 0 ∨ (f - r) * M / 4000000 = 1 ∨ (f - r) * M / 4000000 = 2 := by omega
  refine ⟨?_, by omega⟩
  unfold dd
  rcases h3 with h | h | h <;> rcases h6 with h' | h' | h' <;> rw [h, h'] <;>
    (rcases tdP (x := _ * e) (n := 128) (by omega) with ⟨k1, k2⟩ | ⟨k1, k2⟩ <;> rw [k2]) <;>
    (try omega) <;>
    (rcases tdP (x := _ * e) (n := 128) (by omega) with ⟨j1, j2⟩ | ⟨j1, j2⟩ <;> rw [j2]) <;> omega
theorem tk_0 {M P f e : Int} (hf : 0 ≤ f) : (tk M P f e 0).i = f + dd M f e ∧ (tk M P f e 0).o = f - dd M f e := by
  simp only [tk, dd, show max 0 (f - 0) = f by omega, and_self]
theorem tk_r {M P f e r : Int} (hr : r ≤ f) : (tk M P f e r).i = f + dd M f e ∧ (tk M P f e r).o = f - r - dd M (f - r) e := by
  simp only [tk, dd, show max 0 (f - r) = f - r by omega, and_self]
theorem sI_cons (b : Bal) (l : List Bal) : sI (b :: l) = b.i + sI l := by simp [sI]
theorem sO_cons (b : Bal) (l : List Bal) : sO (b :: l) = b.o + sO l := by simp [sO]
theorem s_turn0 {M P f : Int} {E : Nat → Int} (hf : 0 ≤ f ∧ f ≤ 499) (hM : 0 ≤ M ∧ M ≤ 20000) (hE : ∀ i, -128 ≤ E i ∧ E i ≤ 127) : ∀ (I : List Nat),
    sI (I.map fun i => tk M P f (E i) 0) + sO (I.map fun i => tk M P f (E i) 0) = I.length * (2 * f) ∧
    sI (I.map fun i => tk M P f (E i) 0) - sO (I.map fun i => tk M P f (E i) 0) ≤ I.length * (2 * (f * M / 4000000))
  | [] => by simp [sI, sO]
  | i :: I => by
    obtain ⟨h1, h2⟩ := s_turn0 (P := P) hf hM hE I
    have hd := dd_bd hf hM (hE i)
    have ht := tk_0 (M := M) (P := P) (e := E i) hf.1
    simp only [List.map_cons, sI_cons, sO_cons, List.length_cons, ht.1, ht.2, Int.natCast_add, Int.add_mul]
    omega
theorem s_turn1 {M P f r : Int} {E : Nat → Int} (hf : 0 ≤ f ∧ f ≤ 499) (hr : 1 ≤ r ∧ r ≤ f) (hM : 0 ≤ M ∧ M ≤ 20000) (hE : ∀ i, -128 ≤ E i ∧ E i ≤ 127) : ∀ (I : List Nat),
    sI (I.map fun i => tk M P f (E i) r) = sI (I.map fun i => tk M P f (E i) 0) ∧
    sO (I.map fun i => tk M P f (E i) r) ≤ sO (I.map fun i => tk M P f (E i) 0) ∧
    I.length * r - I.length * (2 * (f * M / 4000000)) ≤ sI (I.map fun i => tk M P f (E i) r) - sO (I.map fun i => tk M P f (E i) r)
  | [] => by simp [sI, sO]
  | i :: I => by
    obtain ⟨h1, h2, h3⟩ := s_turn1 (P := P) hf hr hM hE I
    have hd := dd_bd hf hM (hE i)
    have hd2 := dd_bd (f := f - r) (by omega) hM (hE i)
    have hds := dd_sub hf hr hM (hE i)
    have ht := tk_0 (M := M) (P := P) (e := E i) hf.1
    have ht2 := tk_r (M := M) (P := P) (e := E i) hr.2
    simp only [List.map_cons, sI_cons, sO_cons, List.length_cons, ht.1, ht.2, ht2.1, ht2.2, Int.natCast_add, Int.add_mul]
    omega
/-- The ticks that a window covers. -/
def win (a b : Nat) : List Nat := ((List.range 30).drop (a + 1)).take (b - a)
theorem win_len {a b : Nat} (h : a ≤ b) (hb : b < 30) : (win a b).length = b - a := by simp [win]; omega
theorem win_mem {a b i : Nat} (h : i ∈ win a b) : a < i ∧ i ≤ b := by
  unfold win at h
  obtain ⟨k, hk, rfl⟩ := List.mem_iff_getElem.1 h
  simp only [List.length_take, List.length_drop, List.length_range] at hk
  simp only [List.getElem_take, List.getElem_drop, List.getElem_range]
  omega
theorem seg_win (g : Nat → Bal) (a b : Nat) : seg ((List.range 30).map g) a b = (win a b).map g := by
  simp only [seg, win, List.map_drop, List.map_take]
theorem prt_ge {v m : Int} (hv : 0 ≤ v) (hm : 0 ≤ m) : v * m ≤ 1000000 * prt v m := by
  unfold prt upI
  have h1 : v = v / 1000000 * 1000000 + v % 1000000 := by omega
  have h2 : v * m = v / 1000000 * m * 1000000 + v % 1000000 * m := by
    conv => lhs; rw [h1]
    rw [Int.add_mul, Int.mul_right_comm]
  omega
theorem prt_mv {v v' m : Int} (hv : 0 ≤ v) (h : v ≤ v') (hm : 0 ≤ m) : prt v m ≤ prt v' m := by
  have h1 : ∀ v : Int, prt v m = upI (v * m) 1000000 := by
    intro v
    unfold prt upI
    have h1 : v = v / 1000000 * 1000000 + v % 1000000 := by omega
    have h2 : v * m = v / 1000000 * m * 1000000 + v % 1000000 * m := by
      conv => lhs; rw [h1]
      rw [Int.add_mul, Int.mul_right_comm]
    omega
  rw [h1, h1]
  exact upI_mono (by omega) (Int.mul_le_mul_of_nonneg_right h hm)
/-- The pack's own error. -/
theorem pk {M P f e e' r r' : Int} (hP : 0 ≤ P ∧ P ≤ 3) (he : -128 ≤ e ∧ e ≤ 127) (he' : -128 ≤ e' ∧ e' ≤ 127) : (tk M P f e r).p - (tk M P f e' r').p ≤ 2 * P := by
  simp only [tk]
  have h3 : P = 0 ∨ P = 1 ∨ P = 2 ∨ P = 3 := by omega
  rcases h3 with h | h | h | h <;> subst h <;>
    (rcases tdP (x := _ * e) (n := 256) (by omega) with ⟨k1, k2⟩ | ⟨k1, k2⟩ <;> rw [k2]) <;>
    (rcases tdP (x := _ * e') (n := 256) (by omega) with ⟨j1, j2⟩ | ⟨j1, j2⟩ <;> rw [j2]) <;> omega
/-- The error of a window without a leak is enough. -/
theorem wrg_ge {M P f : Int} {wr : List Int} {first rate : Int} {a b : Nat} (hf : 0 ≤ f ∧ f ≤ 499) (hM : 0 ≤ M ∧ M ≤ 20000) (hE : ∀ i, -128 ≤ ew wr i ∧ ew wr i ≤ 127) (hab : a ≤ b) (hb : b < 30) (ho : balsOk (xsF M P f wr 0 first rate)) :
    ((b - a : Nat) : Int) * (2 * (f * M / 4000000)) + 2 * P ≤ wrg (xsF M P f wr 0 first rate) ⟨M, P⟩ a b := by
  have hs : seg (xsF M P f wr 0 first rate) a b = (win a b).map fun i => tk M P f (ew wr i) 0 := by
    rw [xsF, seg_win]; simp [ls]
  unfold wrg
  have o1 := (sI_bd (seg_ok ho a b)).1
  have o2 := (sO_bd (seg_ok ho a b)).1
  rw [hs] at o1 o2 ⊢
  obtain ⟨h1, h2⟩ := s_turn0 (P := P) hf hM hE (win a b)
  rw [win_len hab hb] at h1 h2
  generalize sI ((win a b).map fun i => tk M P f (ew wr i) 0) = si at *
  generalize sO ((win a b).map fun i => tk M P f (ew wr i) 0) = so at *
  have p1 := prt_ge o1 hM.1
  have p2 := prt_ge o2 hM.1
  dsimp only
  have h4 : si * M + so * M = ((b - a : Nat) : Int) * (2 * (f * M)) := by rw [← Int.add_mul, h1, Int.mul_assoc, Int.mul_assoc]
  have h5 : ((b - a : Nat) : Int) * (f * M / 4000000 * 4000000) ≤ ((b - a : Nat) : Int) * (f * M) := Int.mul_le_mul_of_nonneg_left (by omega) (by omega)
  rw [← Int.mul_assoc] at h5
  rw [show ((b - a : Nat) : Int) * (2 * (f * M)) = 2 * (((b - a : Nat) : Int) * (f * M)) by rw [Int.mul_left_comm]] at h4
  rw [show ((b - a : Nat) : Int) * (2 * (f * M / 4000000)) = 2 * (((b - a : Nat) : Int) * (f * M / 4000000)) by rw [Int.mul_left_comm]]
  have h6 : 0 ≤ ((b - a : Nat) : Int) * (f * M / 4000000) := Int.mul_nonneg (by omega) (Int.ediv_nonneg (Int.mul_nonneg hf.1 hM.1) (by omega))
  omega
theorem xsF_getD {M P f : Int} {wr : List Int} {turn first rate : Int} {i : Nat} (h : i < 30) : (xsF M P f wr turn first rate).getD i ⟨0, 0, 0⟩ = tk M P f (ew wr i) (ls turn first rate i) := by
  rw [List.getD, xsF_get h]; rfl
theorem no_alarm {M P f : Int} {wr : List Int} {first rate : Int} {w b : Nat} {t : Int} (hf : 0 ≤ f ∧ f ≤ 499) (hM : 0 ≤ M ∧ M ≤ 20000) (hP : 0 ≤ P ∧ P ≤ 3) (ht : 0 ≤ t) (hE : ∀ i, -128 ≤ ew wr i ∧ ew wr i ≤ 127) (hb : b < 30) (ho : balsOk (xsF M P f wr 0 first rate)) :
    alarmAt (xsF M P f wr 0 first rate) ⟨M, P⟩ w t b = false := by
  have hg := wrg_ge (a := b - w) hf hM hE (by omega) hb ho
  unfold alarmAt
  rw [decide_eq_false_iff_not]
  unfold mis
  rw [xsF_getD hb, xsF_getD (show b - w < 30 by omega)]
  have hp := pk (M := M) (f := f) (r := ls 0 first rate (b - w : Nat)) (r' := ls 0 first rate b) hP (hE (b - w)) (hE b)
  have hs : seg (xsF M P f wr 0 first rate) (b - w) b = (win (b - w) b).map fun i => tk M P f (ew wr i) 0 := by
    rw [xsF, seg_win]; simp [ls]
  obtain ⟨h1, h2⟩ := s_turn0 (P := P) hf hM hE (win (b - w) b)
  rw [win_len (by omega) hb] at h2
  rw [hs]
  omega
theorem no_alarms {M P f : Int} {wr : List Int} {first rate : Int} {w N : Nat} {t : Int} (hf : 0 ≤ f ∧ f ≤ 499) (hM : 0 ≤ M ∧ M ≤ 20000) (hP : 0 ≤ P ∧ P ≤ 3) (ht : 0 ≤ t) (hE : ∀ i, -128 ≤ ew wr i ∧ ew wr i ≤ 127) (hN : N ≤ 30) (ho : balsOk (xsF M P f wr 0 first rate)) :
    alarmsTo (xsF M P f wr 0 first rate) ⟨M, P⟩ w t N = [] := by
  unfold alarmsTo
  rw [List.map_eq_nil_iff, List.filter_eq_nil_iff]
  intro b hb
  have := List.mem_range.1 hb
  rw [no_alarm hf hM hP ht hE (by omega) ho]
  simp
theorem least_ge {l : List Bal} {c : Acc} {w : Nat} {t : Int} (hw : 0 < w) {b : Nat} (hb : w ≤ b) : ∀ N, b < N → 2 * wrg l c (b - w) b + t + 1 ≤ w * leastTo l c w t N
  | 0, h => absurd h (by omega)
  | n + 1, h => by
    simp only [leastTo]
    rw [if_pos (by omega)]
    by_cases hn : b = n
    · subst hn
      have h1 : (w : Int) * ((2 * wrg l c (b - w) b + t) / w + 1) ≤ w * max (leastTo l c w t b) ((2 * wrg l c (b - w) b + t) / w + 1) := Int.mul_le_mul_of_nonneg_left (by omega) (by omega)
      have h2 := Int.emod_add_mul_ediv (2 * wrg l c (b - w) b + t) w
      have h3 := Int.emod_lt_of_pos (2 * wrg l c (b - w) b + t) (show (0 : Int) < w by omega)
      rw [Int.mul_add] at h1
      omega
    · have ih := least_ge (l := l) (c := c) (t := t) hw hb n (by omega)
      have h1 : (w : Int) * leastTo l c w t n ≤ w * max (leastTo l c w t n) ((2 * wrg l c (n - w) n + t) / w + 1) := Int.mul_le_mul_of_nonneg_left (by omega) (by omega)
      omega
theorem least_1 (l : List Bal) (c : Acc) (w : Nat) (t : Int) : ∀ N, 1 ≤ leastTo l c w t N
  | 0 => by simp [leastTo]
  | n + 1 => by
    have := least_1 l c w t n
    simp only [leastTo]
    split <;> omega
theorem alarm_in {l : List Bal} {c : Acc} {w N b : Nat} {t : Int} (hb : b < N) (hw : w ≤ b) (h : alarmAt l c w t b = true) : (b : Int) ∈ alarmsTo l c w t N := by
  unfold alarmsTo
  refine List.mem_map.2 ⟨b, List.mem_filter.2 ⟨List.mem_range.2 hb, ?_⟩, rfl⟩
  simp [hw, h]
theorem alarm_of {l : List Bal} {c : Acc} {w N : Nat} {t x : Int} (h : x ∈ alarmsTo l c w t N) : ∃ b : Nat, x = b ∧ b < N ∧ w ≤ b ∧ alarmAt l c w t b = true := by
  unfold alarmsTo at h
  obtain ⟨b, hb, rfl⟩ := List.mem_map.1 h
  rw [List.mem_filter] at hb
  simp only [Bool.and_eq_true, decide_eq_true_eq] at hb
  exact ⟨b, rfl, List.mem_range.1 hb.1, hb.2.1, hb.2.2⟩
/-- In the second turn: no alarm before the leak, one at the first window that is all leak. -/
theorem late_alarm {M P f : Int} {wr : List Int} {first rate r0 : Int} {w N : Nat} {t : Int} (hf : 0 ≤ f ∧ f ≤ 499) (hM : 0 ≤ M ∧ M ≤ 20000) (hP : 0 ≤ P ∧ P ≤ 3) (ht : 0 ≤ t) (hE : ∀ i, -128 ≤ ew wr i ∧ ew wr i ≤ 127) (hN : N ≤ 30) (ho : balsOk (xsF M P f wr 0 first r0)) (x : Int) (hx : x ∈ alarmsTo (xsF M P f wr 1 first rate) ⟨M, P⟩ w t N) : first < x := by
  obtain ⟨b, rfl, hb, hwb, ha⟩ := alarm_of hx
  refine Decidable.byContradiction fun hn => ?_
  have hna := no_alarm (w := w) (b := b) hf hM hP ht hE (by omega) ho
  have he : seg (xsF M P f wr 1 first rate) (b - w) b = seg (xsF M P f wr 0 first r0) (b - w) b := by
    simp only [xsF, seg_win]
    refine List.map_congr_left fun i hi => ?_
    have := win_mem hi
    congr 1
    simp [ls]; omega
  have e1 := xsF_getD (M := M) (P := P) (f := f) (wr := wr) (turn := 1) (first := first) (rate := rate) (show b < 30 by omega)
  have e2 := xsF_getD (M := M) (P := P) (f := f) (wr := wr) (turn := 1) (first := first) (rate := rate) (show b - w < 30 by omega)
  have e3 := xsF_getD (M := M) (P := P) (f := f) (wr := wr) (turn := 0) (first := first) (rate := r0) (show b < 30 by omega)
  have e4 := xsF_getD (M := M) (P := P) (f := f) (wr := wr) (turn := 0) (first := first) (rate := r0) (show b - w < 30 by omega)
  have l1 : ls 1 first rate b = ls 0 first r0 b := by simp [ls]; omega
  have l2 : ls 1 first rate (b - w : Nat) = ls 0 first r0 (b - w : Nat) := by simp [ls]; omega
  unfold alarmAt mis wrg at ha hna
  rw [he, e1, e2, l1, l2, ← e3, ← e4] at ha
  rw [ha] at hna
  exact absurd hna (by simp)
theorem the_alarm {M P f : Int} {wr : List Int} {first rate r0 : Int} {w F N : Nat} {t : Int} (hf : 0 ≤ f ∧ f ≤ 499) (hM : 0 ≤ M ∧ M ≤ 20000) (hP : 0 ≤ P ∧ P ≤ 3) (ht : 0 ≤ t) (hE : ∀ i, -128 ≤ ew wr i ∧ ew wr i ≤ 127) (hF : first = F) (hw : 0 < w) (hN : N = 30) (hFw : F + w < 30) (ho : balsOk (xsF M P f wr 0 first r0)) (ho1 : balsOk (xsF M P f wr 1 first rate))
    (hr : leastTo (xsF M P f wr 0 first r0) ⟨M, P⟩ w t N ≤ rate) (hr2 : rate ≤ f) : first + w ∈ alarmsTo (xsF M P f wr 1 first rate) ⟨M, P⟩ w t N := by
  subst hF
  rw [show (F : Int) + w = ((F + w : Nat) : Int) by omega]
  refine alarm_in (by omega) (by omega) ?_
  have hl := least_ge (l := xsF M P f wr 0 F r0) (c := ⟨M, P⟩) (t := t) hw (show w ≤ F + w by omega) N (by omega)
  have hl1 := least_1 (xsF M P f wr 0 F r0) ⟨M, P⟩ w t N
  have hg := wrg_ge (a := F) (b := F + w) hf hM hE (by omega) hFw ho
  unfold alarmAt
  rw [decide_eq_true_eq]
  rw [show F + w - w = F by omega] at *
  have hmul : (w : Int) * leastTo (xsF M P f wr 0 F r0) ⟨M, P⟩ w t N ≤ w * rate := Int.mul_le_mul_of_nonneg_left hr (by omega)
  have hs : seg (xsF M P f wr 0 F r0) F (F + w) = (win F (F + w)).map fun i => tk M P f (ew wr i) 0 := by
    rw [xsF, seg_win]; simp [ls]
  have hs1 : seg (xsF M P f wr 1 F rate) F (F + w) = (win F (F + w)).map fun i => tk M P f (ew wr i) rate := by
    rw [xsF, seg_win]
    refine List.map_congr_left fun i hi => ?_
    have := win_mem hi
    congr 1
    simp [ls]; omega
  obtain ⟨h1, h2, h3⟩ := s_turn1 (P := P) hf (r := rate) (by omega) hM hE (win F (F + w))
  have o1 := (sI_bd (seg_ok ho1 F (F + w))).1
  have o2 := (sO_bd (seg_ok ho1 F (F + w))).1
  have hp := pk (M := M) (f := f) (e := ew wr (F + w)) (e' := ew wr F) (r := ls 1 F rate ((F + w : Nat) : Int).toNat) (r' := ls 1 F rate F) hP (hE _) (hE _)
  unfold mis
  rw [xsF_getD hFw, xsF_getD (show F < 30 by omega)]
  unfold wrg at hl hg ⊢
  rw [hs] at hl hg
  rw [hs1] at o1 o2 ⊢
  rw [win_len (by omega) hFw] at h3
  have m1 := prt_mv o2 h2 hM.1
  rw [h1] at *
  rw [show F + w - F = w by omega] at *
  simp only [Int.toNat_natCast] at hp
  dsimp only at *
  omega
theorem xsF_ok {M P f : Int} {wr : List Int} {turn first rate : Int} (hf : 200 ≤ f ∧ f ≤ 499) (hM : 0 ≤ M ∧ M ≤ 20000) (hP : 0 ≤ P ∧ P ≤ 3) (hE : ∀ i, -128 ≤ ew wr i ∧ ew wr i ≤ 127) (hr : 0 ≤ rate) : balsOk (xsF M P f wr turn first rate) := by
  intro x hx
  unfold xsF at hx
  obtain ⟨i, hi, rfl⟩ := List.mem_map.1 hx
  have hl : 0 ≤ ls turn first rate i := by unfold ls; split <;> omega
  generalize ls turn first rate i = lo at *
  have d1 := dd_bd (f := f) (by omega) hM (hE i)
  have q1 := qb (f := f) (by omega) hM (hE i)
  have d2 := dd_bd (f := max 0 (f - lo)) (by omega) hM (hE i)
  have d3 := td256b (pb hP (hE i))
  have q2 := qb (f := max 0 (f - lo)) (by omega) hM (hE i)
  have q3 : max 0 (f - lo) * M ≤ max 0 (f - lo) * 20000 := Int.mul_le_mul_of_nonneg_left hM.2 (by omega)
  unfold dd at d1 d2
  unfold tk Bal.ok vol
  dsimp only
  omega


theorem ls_bd {turn first rate : Int} {i : Nat} (hr : 0 ≤ rate) : 0 ≤ ls turn first rate i ∧ ls turn first rate i ≤ rate := by
  unfold ls; split <;> omega
theorem take_next {M P f : Int} {wr : List Int} {turn first rate : Int} {x : List Bal} (hl : x.length < 30) (h : x = (xsF M P f wr turn first rate).take x.length) : x ++ [tk M P f (ew wr x.length) (ls turn first rate x.length)] = (xsF M P f wr turn first rate).take (x ++ [tk M P f (ew wr x.length) (ls turn first rate x.length)]).length := by
  rw [List.length_append, List.length_singleton, take_one (xsF_get hl), ← h]
theorem least_bd {l : List Bal} {c : Acc} {w : Nat} {t : Int} (hl : l.length ≤ 400) (ho : balsOk l) (hc : c.ok) (hw : 0 < w) (ht : 0 ≤ t ∧ t ≤ 1099511627776) : ∀ N, N ≤ l.length → leastTo l c w t N ≤ 2305843009213693952
  | 0, _ => by simp [leastTo]
  | b + 1, h => by
    have ih := least_bd hl ho hc hw ht b (by omega)
    simp only [leastTo]
    split
    · have hwb := wrg_bd hl ho hc (a := b - w) (b := b) (by omega) (by omega)
      have := ediv_bd (a := 2 * wrg l c (b - w) b + t) (b := w) (by omega)
      omega
    · omega
theorem found2_y {P : List Int} {k : Nat} {x y : Int} (hy : P[k]? = some y) (h : ((P.take k).any fun z => decide (z ≤ x)) = true) : true = (P.take (k + 1)).any fun z => decide (z ≤ x) := by
  rw [take_one hy, List.any_append, h]; rfl
theorem found2_n {P : List Int} {k : Nat} {x y : Int} (hy : P[k]? = some y) (h : ((P.take k).any fun z => decide (z ≤ x)) = false) : decide (y ≤ x) = (P.take (k + 1)).any fun z => decide (z ≤ x) := by
  rw [take_one hy, List.any_append, h]; simp

set_option maxRecDepth 100000 in
set_option maxHeartbeats 1000000 in
theorem leakFound (l : List Int) (wd th mr at_ : Int) (wr : List Int) (hl : ∀ n, n ∈ l → i64 n) (hll : l.length ≤ 17592186044416) (hw : 0 ≤ wd ∧ wd ≤ 255) (ht : 0 ≤ th ∧ th ≤ 255) (hm : 0 ≤ mr ∧ mr ≤ 255) (ha : 0 ≤ at_ ∧ at_ ≤ 255) (hwr : ∀ n, n ∈ wr → -128 ≤ n ∧ n ≤ 127) (hwl : wr.length ≤ 140737488351232) :
    ACalls Try.env 3 [encInts l, .v (.int .u8 wd), .v (.int .u8 th), .v (.int .u8 mr), .v (.int .u8 at_), .list 1 (wr.map fun n => [.v (.int .i8 n)])] [] fun x _ => x = .v (.bool true) := by
  refine ACalls.of_body Try.func3 rfl rfl rfl (fun C hC => ?_)
  refine AW.seq ?_
  refine AW.region ?_
  refine AO.p (Yp.assign rfl) rfl ?_
  refine AO.nil ?_
  refine AW.seq ?_
  refine AW.seq ?_
  refine AW.region ?_
  refine AO.p (Yp.move rfl) rfl ?_
  refine AO.act [] rfl (AX.call0 rfl rfl rfl (few_ _) (dst_some rfl) ?_)
  rintro _ ⟨_, rfl⟩
  refine AO.p (Yp.not rfl) rfl ?_
  refine AO.nil ?_
  refine AW.cond rfl rfl ?_ ?_
  · intro hc1
    refine AW.seq ?_
    refine AW.region ?_
    refine AO.act [] rfl (AX.call0 rfl rfl rfl (awake) (dst_some rfl) ?_)
    rintro _ ⟨_, rfl⟩
    refine AO.p (Yp.assign rfl) rfl ?_
    refine AO.nil ?_
    refine AW.ret ?_
    exact ⟨.inr rfl, [_], [], ⟨rfl, trivial⟩, List.nil_sublist _, rfl⟩
  · intro hc1
    refine AW.skip ?_
    refine AW.seq ?_
    refine AW.region ?_
    refine AO.p (Yp.move rfl) rfl ?_
    refine AO.act [] rfl (AX.callN rfl rfl rfl (new_ _ (by assumption) (by omega)) (dst_some rfl) ?_)
    rintro _ b40 S40 ⟨hS40, rfl⟩
    refine AO.p (Yp.assign rfl) rfl ?_
    refine AO.nil ?_
    refine AW.seq ?_
    refine AW.region ?_
    refine AO.p (Yp.move rfl) rfl ?_
    refine AO.act [] rfl (AX.buildSlice (sz := 1) rfl rfl rfl rfl rfl rfl rfl rfl rfl rfl rfl (dst_some rfl) (fun b42 => ?_))
    refine AO.frz 42 1 rfl rfl rfl (le_ble rfl) ?_
    refine AO.act [0] rfl (AX.call1 0 rfl rfl rfl rfl (pick_ _ _ (by assumption) [0, 1000, 20000] (by decide) (by decide)) (dst_some rfl) ?_)
    rintro _ S43 ⟨hS43, r43, rfl, hr43⟩
    simp only [List.mem_cons, List.not_mem_nil, or_false] at hr43
    refine AO.p (Yp.move rfl) rfl ?_
    refine AO.act [0] rfl (AX.call1 0 rfl rfl rfl rfl (n_ _ _ (by assumption) _ (by omega) (by omega)) (dst_some rfl) ?_)
    rintro _ S45 ⟨hS45, r45, rfl, hr45⟩
    refine AO.p (Yp.build rfl rfl rfl rfl rfl rfl) rfl ?_
    refine AO.act [] rfl (AX.alloc rfl rfl rfl rfl rfl (dst_some rfl) (fun b14 => ?_))
    refine AO.act [1] rfl (AX.store 1 0 0 rfl rfl rfl rfl rfl rfl rfl rfl (le_ble rfl) rfl ?_)
    refine AO.nil ?_
    refine AW.seq ?_
    refine AW.region ?_
    refine AO.p (Yp.move rfl) rfl ?_
    first
    | refine AO.p (Yp.convI rfl rfl rfl rfl (w64 (by omega))) rfl ?_
    | refine AO.p (Yp.convI rfl rfl rfl rfl (w8 (by omega))) rfl ?_
    first
    | refine AO.p (Yp.remN rfl rfl (by omega) (by omega)) rfl ?_
    | refine AO.p (Yp.binI rfl rfl ⟨by omega, rfl⟩) rfl ?_
    first
    | refine AO.p (Yp.binI rfl rfl (w64 (by omega))) rfl ?_
    | refine AO.p (Yp.binI rfl rfl rfl) rfl ?_
    refine AO.p (Yp.move rfl) rfl ?_
    first
    | refine AO.p (Yp.convI rfl rfl rfl rfl (w64 (by omega))) rfl ?_
    | refine AO.p (Yp.convI rfl rfl rfl rfl (w8 (by omega))) rfl ?_
    refine AO.p (Yp.assign rfl) rfl ?_
    refine AO.p (Yp.assign rfl) rfl ?_
    refine AO.nil ?_
    refine AW.seq ?_
    refine AW.region ?_
    refine AO.p (Yp.move rfl) rfl ?_
    refine AO.act [0] rfl (AX.call1 0 rfl rfl rfl rfl (n_ _ _ (by assumption) _ (by omega) (by omega)) (dst_some rfl) ?_)
    rintro _ S54 ⟨hS54, r54, rfl, hr54⟩
    first
    | refine AO.p (Yp.binI rfl rfl (w64 (by omega))) rfl ?_
    | refine AO.p (Yp.binI rfl rfl rfl) rfl ?_
    refine AO.p (Yp.assign rfl) rfl ?_
    refine AO.nil ?_
    refine AW.seq ?_
    refine AW.region ?_
    have hM : 0 ≤ r43 ∧ r43 ≤ 20000 := by omega
    have hP : 0 ≤ r45 ∧ r45 ≤ 3 := by omega
    have hf : 0 ≤ 200 + r54 ∧ 200 + r54 ≤ 499 := by omega
    have hE := ew_bd hwr
    have hg := good_1 (c := (⟨r43, r45⟩ : Acc)) (by unfold Acc.ok vol; dsimp only; omega)
    refine AO.p (Yp.assign rfl) rfl ?_
    refine AO.nil ?_
    refine AW.seq ?_
    refine AW.region ?_
    refine AO.p (Yp.assign rfl) rfl ?_
    refine AO.nil ?_
    refine AW.seq ?_
    refine AW.seq ?_
    refine AW.region ?_
    refine AO.p (Yp.assign rfl) rfl ?_
    refine AO.nil ?_
    refine AW.block ?_
    refine AW.loopK [(3, _), (4, _), (5, _), (14, _), (15, _), (16, _), (17, _)] ⟨rfl, rfl, rfl, rfl, rfl, rfl, rfl, trivial⟩ (fun m s ob => ∃ turn rate : Int, m = (2 - turn).toNat ∧ ob = [(b14, .arr 31 2 1 [[.v (.int .i64 r43), .v (.int .i64 r45)]])] ∧ s = [(18, .v (.int .i64 rate)), (20, .v (.int .i64 turn))] ∧
        ((turn = 0 ∧ rate = 0) ∨ (turn = 1 ∧ 1 ≤ rate ∧ rate ≤ 200 + r54 ∧ leastTo (xsF r43 r45 (200 + r54) wr 0 (3 + at_ % 10) 0) (⟨r43, r45⟩ : Acc) (1 + wd % 10).toNat th 30 ≤ rate) ∨ turn = 2 ∧ 0 ≤ rate)) (m := _) (s0 := _) (ob0 := _) (⟨0, 0, rfl, rfl, rfl, .inl ⟨rfl, rfl⟩⟩) ⟨rfl, rfl, trivial⟩ (sl_d (sl_c rfl sl_n)) ?_
    rintro m s ob ⟨turn, rate, rfl, rfl, rfl, htr⟩
    refine AW.seq ?_
    refine AW.seq ?_
    refine AW.region ?_
    refine AO.p (Yp.move rfl) rfl ?_
    refine AO.p (Yp.cmpI rfl rfl rfl) rfl ?_
    refine AO.nil ?_
    refine AW.cond rfl rfl ?_ ?_
    · intro hc2
      replace hc2 := of_decide_eq_true hc2
      refine AW.skip ?_
      refine AW.seq ?_
      refine AW.block ?_
      refine AW.seq ?_
      refine AW.region ?_
      refine AO.p (Yp.assign rfl) rfl ?_
      refine AO.nil ?_
      refine AW.seq ?_
      refine AW.region ?_
      refine AO.p (Yp.assign rfl) rfl ?_
      refine AO.nil ?_
      refine AW.seq ?_
      refine AW.region ?_
      refine AO.p (Yp.move rfl) rfl ?_
      first
      | refine AO.p (Yp.convI rfl rfl rfl rfl (w64 (by omega))) rfl ?_
      | refine AO.p (Yp.convI rfl rfl rfl rfl (w8 (by omega))) rfl ?_
      first
      | refine AO.p (Yp.remN rfl rfl (by omega) (by omega)) rfl ?_
      | refine AO.p (Yp.binI rfl rfl ⟨by omega, rfl⟩) rfl ?_
      first
      | refine AO.p (Yp.binI rfl rfl (w64 (by omega))) rfl ?_
      | refine AO.p (Yp.binI rfl rfl rfl) rfl ?_
      refine AO.p (Yp.assign rfl) rfl ?_
      refine AO.nil ?_
      refine AW.seq ?_
      refine AW.seq ?_
      refine AW.region ?_
      refine AO.p (Yp.assign rfl) rfl ?_
      refine AO.nil ?_
      refine AW.block ?_
      refine AW.loopK [(3, _), (4, _), (5, _), (14, _), (15, _), (16, _), (17, _), (18, _), (20, _), (21, _), (22, _)] ⟨rfl, rfl, rfl, rfl, rfl, rfl, rfl, rfl, rfl, rfl, rfl, trivial⟩ (fun m s ob => ∃ x : List Bal, x.length ≤ 30 ∧ m = 30 - x.length ∧ x = (xsF r43 r45 (200 + r54) wr turn (3 + at_ % 10) rate).take x.length ∧ ((x = [] ∧ ob = [(b14, .arr 31 2 1 [[.v (.int .i64 r43), .v (.int .i64 r45)]])] ∧ s = [(19, .v (.slice none 0 0)), (23, .v (.int .i64 x.length))]) ∨
          ∃ b19 cap, x.length ≤ cap ∧ 1 ≤ x.length ∧ ob = [(b14, .arr 31 2 1 [[.v (.int .i64 r43), .v (.int .i64 r45)]]), (b19, .arr 35 3 cap (x.map encBal))] ∧ s = [(19, .v (.slice (some ⟨b19, 0, none⟩) x.length cap)), (23, .v (.int .i64 x.length))])) (m := _) (s0 := _) (ob0 := _) (⟨[], by simp, rfl, rfl, .inl ⟨rfl, rfl, rfl⟩⟩) ⟨rfl, rfl, trivial⟩ (List.Sublist.refl _) ?_
      rintro m s ob ⟨x, hi, rfl, hxt, (⟨hi0, rfl, rfl⟩ | ⟨b19, cap, hcap, hi1, rfl, rfl⟩)⟩
      all_goals have hxl2 := congrArg List.length hxt
      all_goals have hrt : 0 ≤ rate := by omega
      all_goals have hls := ls_bd (turn := turn) (first := 3 + at_ % 10) (i := x.length) hrt
      all_goals have q1 := qb (f := 200 + r54) hf hM (hE x.length)
      all_goals have q2 := qb (f := max 0 (200 + r54 - ls turn (3 + at_ % 10) rate x.length)) (by omega) hM (hE x.length)
      all_goals have d1 := td128b (x := (200 + r54) * r43 / 4000000 * ew wr x.length) (by omega)
      all_goals have d2 := td128b (x := (max 0 (200 + r54 - ls turn (3 + at_ % 10) rate x.length)) * r43 / 4000000 * ew wr x.length) (by omega)
      all_goals have q3 := pb hP (hE x.length)
      all_goals have d3 := td256b q3
      ·
        refine AW.seq ?_
        refine AW.seq ?_
        refine AW.region ?_
        refine AO.p (Yp.move rfl) rfl ?_
        refine AO.p (Yp.cmpI rfl rfl rfl) rfl ?_
        refine AO.nil ?_
        refine AW.cond rfl rfl ?_ ?_
        · intro hc3
          replace hc3 := of_decide_eq_true hc3
          refine AW.skip ?_
          refine AW.seq ?_
          refine AW.block ?_
          refine AW.seq ?_
          refine AW.region ?_
          refine AO.p (Yp.assign rfl) rfl ?_
          refine AO.nil ?_
          refine AW.cutK (fun s ob => s = [(24, .v (.int .i64 (ew wr x.length)))] ∧ ob = [(b14, .arr 31 2 1 [[.v (.int .i64 r43), .v (.int .i64 r45)]])]) [(3, _), (4, _), (5, _), (14, _), (15, _), (16, _), (17, _), (18, _), (19, _), (20, _), (21, _), (22, _), (23, _)] ⟨rfl, rfl, rfl, rfl, rfl, rfl, rfl, rfl, rfl, rfl, rfl, rfl, rfl, trivial⟩ ?_ ?_
          ·
            refine AW.seq ?_
            refine AW.region ?_
            refine AO.p (Yp.move rfl) rfl ?_
            refine AO.p (Yp.move rfl) rfl ?_
            first
            | refine AO.p (Yp.lenList rfl rfl rfl) rfl ?_
            | refine AO.p (Yp.lenSlice rfl rfl rfl) rfl ?_
            | refine AO.p (Yp.lenString rfl rfl rfl) rfl ?_
            refine AO.p (Yp.cmpI rfl rfl rfl) rfl ?_
            refine AO.nil ?_
            refine AW.cond rfl rfl ?_ ?_
            · intro hc4
              replace hc4 := of_decide_eq_true hc4
              simp only [List.length_map] at hc4
              obtain ⟨y, hy⟩ := get_ex (show x.length < wr.length by omega)
              have hyb := hwr y (List.mem_of_getElem? hy)
              refine AW.region ?_
              refine AO.p (Yp.move rfl) rfl ?_
              refine AO.p (Yp.move rfl) rfl ?_
              refine AO.p (Yp.indexE rfl rfl rfl rfl rfl rfl rfl (map_get (by assumption))) rfl ?_
              first
              | refine AO.d (Yd.loadE rfl rfl rfl) rfl ?_
              | refine AO.d (Yd.loadO 0 0 0 rfl rfl rfl rfl rfl rfl) rfl ?_
              | refine AO.d (Yd.loadO 1 0 0 rfl rfl rfl rfl rfl rfl) rfl ?_
              | refine AO.d (Yd.loadO 2 0 0 rfl rfl rfl rfl rfl rfl) rfl ?_
              | refine AO.d (Yd.loadO 3 0 0 rfl rfl rfl rfl rfl rfl) rfl ?_
              | refine AO.d (Yd.loadO 4 0 0 rfl rfl rfl rfl rfl rfl) rfl ?_
              | refine AO.d (Yd.loadO 5 0 0 rfl rfl rfl rfl rfl rfl) rfl ?_
              first
              | refine AO.p (Yp.convI rfl rfl rfl rfl (w64 (by omega))) rfl ?_
              | refine AO.p (Yp.convI rfl rfl rfl rfl (w8 (by omega))) rfl ?_
              refine AO.p (Yp.assign rfl) rfl ?_
              refine AO.nil ?_
              exact ⟨_, _, ⟨rfl, rfl⟩, ⟨get_i (ew_get hy).symm, rfl, rfl, rfl, rfl, rfl, rfl, rfl, rfl, rfl, rfl, rfl, rfl, rfl, trivial⟩, List.Sublist.refl _⟩
            · intro hc4
              replace hc4 := of_decide_eq_false hc4
              simp only [List.length_map] at hc4
              refine AW.skip ?_
              exact ⟨_, _, ⟨rfl, rfl⟩, ⟨get_i (ew_out (by omega)).symm, rfl, rfl, rfl, rfl, rfl, rfl, rfl, rfl, rfl, rfl, rfl, rfl, rfl, trivial⟩, List.Sublist.refl _⟩
          ·
            rintro s ob ⟨rfl, rfl⟩
            refine AW.seq ?_
            refine AW.region ?_
            refine AO.p (Yp.assign rfl) rfl ?_
            refine AO.nil ?_
            refine AW.cutK (fun s ob => s = [(25, .v (.int .i64 (ls turn (3 + at_ % 10) rate x.length)))] ∧ ob = [(b14, .arr 31 2 1 [[.v (.int .i64 r43), .v (.int .i64 r45)]])]) [(3, _), (4, _), (5, _), (14, _), (15, _), (16, _), (17, _), (18, _), (19, _), (20, _), (21, _), (22, _), (23, _), (24, _)] ⟨rfl, rfl, rfl, rfl, rfl, rfl, rfl, rfl, rfl, rfl, rfl, rfl, rfl, rfl, trivial⟩ ?_ ?_
            ·
              refine AW.seq ?_
              refine AW.region ?_
              refine AO.p (Yp.move rfl) rfl ?_
              refine AO.p (Yp.cmpI rfl rfl rfl) rfl ?_
              refine AO.p (Yp.move rfl) rfl ?_
              refine AO.g rfl rfl (dst_some rfl) ?_ ?_
              · intro hg22_3
                first
                | replace hg22_3 := of_decide_eq_true hg22_3
                | skip
                refine AO.p (Yp.move rfl) rfl ?_
                refine AO.g rfl rfl (dst_some rfl) (fun _ => ?_) (fun h => absurd h (by decide))
                refine AO.p (Yp.move rfl) rfl ?_
                refine AO.g rfl rfl (dst_some rfl) (fun _ => ?_) (fun h => absurd h (by decide))
                refine AO.p (Yp.cmpI rfl rfl rfl) rfl ?_
                first
                | refine AO.p (Yp.pickT rfl rfl) rfl ?_
                | refine AO.p (Yp.pickF rfl rfl) rfl ?_
                | refine AO.p (Yp.pickB rfl rfl rfl) rfl ?_
                refine AO.nil ?_
                refine AW.cond rfl rfl ?_ ?_
                · intro hc5
                  replace hc5 := of_decide_eq_true hc5
                  refine AW.region ?_
                  refine AO.p (Yp.move rfl) rfl ?_
                  refine AO.p (Yp.assign rfl) rfl ?_
                  refine AO.nil ?_
                  exact ⟨_, _, ⟨rfl, rfl⟩, ⟨get_i (by unfold ls; split <;> omega), rfl, rfl, rfl, rfl, rfl, rfl, rfl, rfl, rfl, rfl, rfl, rfl, rfl, rfl, trivial⟩, List.Sublist.refl _⟩
                · intro hc5
                  replace hc5 := of_decide_eq_false hc5
                  refine AW.skip ?_
                  exact ⟨_, _, ⟨rfl, rfl⟩, ⟨get_i (by unfold ls; split <;> omega), rfl, rfl, rfl, rfl, rfl, rfl, rfl, rfl, rfl, rfl, rfl, rfl, rfl, rfl, trivial⟩, List.Sublist.refl _⟩
              · intro hg22_3
                first
                | replace hg22_3 := of_decide_eq_false hg22_3
                | skip
                refine AO.g rfl rfl (dst_some rfl) (fun h => absurd h (by decide)) (fun _ => ?_)
                refine AO.g rfl rfl (dst_some rfl) (fun h => absurd h (by decide)) (fun _ => ?_)
                first
                | refine AO.p (Yp.pickT rfl rfl) rfl ?_
                | refine AO.p (Yp.pickF rfl rfl) rfl ?_
                | refine AO.p (Yp.pickB rfl rfl rfl) rfl ?_
                refine AO.nil ?_
                refine AW.condK rfl (by first | rfl | (simp only [*]; done) | (simp [*]; done)) ?_
                refine AW.skip ?_
                exact ⟨_, _, ⟨rfl, rfl⟩, ⟨get_i (by unfold ls; split <;> omega), rfl, rfl, rfl, rfl, rfl, rfl, rfl, rfl, rfl, rfl, rfl, rfl, rfl, rfl, trivial⟩, List.Sublist.refl _⟩
            ·
              rintro s ob ⟨rfl, rfl⟩
              refine AW.seq ?_
              refine AW.region ?_
              refine AO.p (Yp.move rfl) rfl ?_
              refine AO.p (Yp.move rfl) rfl ?_
              refine AO.p (Yp.move rfl) rfl ?_
              first
              | refine AO.p (Yp.binI rfl rfl (w64 (by omega))) rfl ?_
              | refine AO.p (Yp.binI rfl rfl rfl) rfl ?_
              refine AO.p (Yp.maxI rfl rfl) rfl ?_
              refine AO.p (Yp.assign rfl) rfl ?_
              refine AO.p (Yp.assign rfl) rfl ?_
              refine AO.nil ?_
              refine AW.seq ?_
              refine AW.region ?_
              refine AO.p (Yp.move rfl) rfl ?_
              refine AO.p (Yp.move rfl) rfl ?_
              first
              | refine AO.p (Yp.fieldPtr rfl rfl rfl rfl rfl rfl) rfl ?_
              | refine AO.p (Yp.fieldE rfl rfl rfl rfl rfl rfl rfl) rfl ?_
              refine AO.d (Yd.loadO 0 0 0 rfl rfl rfl rfl rfl rfl) rfl ?_
              first
              | refine AO.p (Yp.binI rfl rfl (w64 (by omega))) rfl ?_
              | refine AO.p (Yp.binI rfl rfl rfl) rfl ?_
              first
              | refine AO.p (Yp.quoN rfl rfl (by omega) (by omega)) rfl ?_
              | refine AO.p (Yp.binI rfl rfl ⟨by omega, rfl⟩) rfl ?_
              refine AO.p (Yp.move rfl) rfl ?_
              first
              | refine AO.p (Yp.binI rfl rfl (w64 (by omega))) rfl ?_
              | refine AO.p (Yp.binI rfl rfl rfl) rfl ?_
              refine AO.p (Yp.binI rfl rfl ⟨by omega, w64 (td128 (by omega))⟩) rfl ?_
              first
              | refine AO.p (Yp.binI rfl rfl (w64 (by omega))) rfl ?_
              | refine AO.p (Yp.binI rfl rfl rfl) rfl ?_
              refine AO.p (Yp.move rfl) rfl ?_
              refine AO.p (Yp.move rfl) rfl ?_
              first
              | refine AO.p (Yp.fieldPtr rfl rfl rfl rfl rfl rfl) rfl ?_
              | refine AO.p (Yp.fieldE rfl rfl rfl rfl rfl rfl rfl) rfl ?_
              refine AO.d (Yd.loadO 0 0 0 rfl rfl rfl rfl rfl rfl) rfl ?_
              first
              | refine AO.p (Yp.binI rfl rfl (w64 (by omega))) rfl ?_
              | refine AO.p (Yp.binI rfl rfl rfl) rfl ?_
              first
              | refine AO.p (Yp.quoN rfl rfl (by omega) (by omega)) rfl ?_
              | refine AO.p (Yp.binI rfl rfl ⟨by omega, rfl⟩) rfl ?_
              refine AO.p (Yp.move rfl) rfl ?_
              first
              | refine AO.p (Yp.binI rfl rfl (w64 (by omega))) rfl ?_
              | refine AO.p (Yp.binI rfl rfl rfl) rfl ?_
              refine AO.p (Yp.binI rfl rfl ⟨by omega, w64 (td128 (by omega))⟩) rfl ?_
              first
              | refine AO.p (Yp.binI rfl rfl (w64 (by omega))) rfl ?_
              | refine AO.p (Yp.binI rfl rfl rfl) rfl ?_
              refine AO.p (Yp.move rfl) rfl ?_
              first
              | refine AO.p (Yp.fieldPtr rfl rfl rfl rfl rfl rfl) rfl ?_
              | refine AO.p (Yp.fieldE rfl rfl rfl rfl rfl rfl rfl) rfl ?_
              refine AO.d (Yd.loadO 0 0 1 rfl rfl rfl rfl rfl rfl) rfl ?_
              refine AO.p (Yp.move rfl) rfl ?_
              first
              | refine AO.p (Yp.binI rfl rfl (w64 (by omega))) rfl ?_
              | refine AO.p (Yp.binI rfl rfl rfl) rfl ?_
              refine AO.p (Yp.binI rfl rfl ⟨by omega, w64 (td256 (by omega))⟩) rfl ?_
              first
              | refine AO.p (Yp.binI rfl rfl (w64 (by omega))) rfl ?_
              | refine AO.p (Yp.binI rfl rfl rfl) rfl ?_
              refine AO.p (Yp.build rfl rfl rfl rfl rfl rfl) rfl ?_
              refine AO.act [] rfl (AX.alloc rfl rfl rfl rfl rfl (dst_some rfl) (fun b28 => ?_))
              refine AO.act [1] rfl (AX.store 1 0 0 rfl rfl rfl rfl rfl rfl rfl rfl (le_ble rfl) rfl ?_)
              refine AO.nil ?_
              refine AW.region ?_
              refine AO.p (Yp.move rfl) rfl ?_
              refine AO.d (Yd.loadO 1 0 0 rfl rfl rfl rfl rfl rfl) rfl ?_
              refine AO.act [] rfl (AX.buildSlice (sz := 3) rfl rfl rfl rfl rfl rfl rfl rfl rfl rfl rfl (dst_some rfl) (fun b120 => ?_))
              first
              | refine AO.act [] rfl (AX.appendN (sz := 3) rfl rfl rfl rfl rfl rfl rfl (AppSrc.own 2 rfl rfl rfl) (le_ble rfl) (le_ble rfl) (le_ble rfl) (dst_some rfl) (fun b121 c121 h121 => ?_))
              | refine AO.act [0] rfl (AX.appendS (sz := 3) 0 rfl rfl rfl rfl rfl rfl rfl rfl (by first | rfl | simp) rfl (AppSrc.own 2 rfl rfl rfl) (app_le (by first | omega | (simp only [List.length_map, List.length_cons, List.length_nil, List.length_append, rows_length]; omega))) (by first | omega | (simp only [List.length_map, List.length_cons, List.length_nil, List.length_append, rows_length]; omega)) (dst_some rfl) (fun b121 c121 h121 => ?_))
              | refine AO.act [1] rfl (AX.appendS (sz := 3) 1 rfl rfl rfl rfl rfl rfl rfl rfl (by first | rfl | simp) rfl (AppSrc.own 2 rfl rfl rfl) (app_le (by first | omega | (simp only [List.length_map, List.length_cons, List.length_nil, List.length_append, rows_length]; omega))) (by first | omega | (simp only [List.length_map, List.length_cons, List.length_nil, List.length_append, rows_length]; omega)) (dst_some rfl) (fun b121 c121 h121 => ?_))
              | refine AO.act [2] rfl (AX.appendS (sz := 3) 2 rfl rfl rfl rfl rfl rfl rfl rfl (by first | rfl | simp) rfl (AppSrc.own 2 rfl rfl rfl) (app_le (by first | omega | (simp only [List.length_map, List.length_cons, List.length_nil, List.length_append, rows_length]; omega))) (by first | omega | (simp only [List.length_map, List.length_cons, List.length_nil, List.length_append, rows_length]; omega)) (dst_some rfl) (fun b121 c121 h121 => ?_))
              | refine AO.act [3] rfl (AX.appendS (sz := 3) 3 rfl rfl rfl rfl rfl rfl rfl rfl (by first | rfl | simp) rfl (AppSrc.own 2 rfl rfl rfl) (app_le (by first | omega | (simp only [List.length_map, List.length_cons, List.length_nil, List.length_append, rows_length]; omega))) (by first | omega | (simp only [List.length_map, List.length_cons, List.length_nil, List.length_append, rows_length]; omega)) (dst_some rfl) (fun b121 c121 h121 => ?_))
              | refine AO.act [4] rfl (AX.appendS (sz := 3) 4 rfl rfl rfl rfl rfl rfl rfl rfl (by first | rfl | simp) rfl (AppSrc.own 2 rfl rfl rfl) (app_le (by first | omega | (simp only [List.length_map, List.length_cons, List.length_nil, List.length_append, rows_length]; omega))) (by first | omega | (simp only [List.length_map, List.length_cons, List.length_nil, List.length_append, rows_length]; omega)) (dst_some rfl) (fun b121 c121 h121 => ?_))
              | refine AO.act [5] rfl (AX.appendS (sz := 3) 5 rfl rfl rfl rfl rfl rfl rfl rfl (by first | rfl | simp) rfl (AppSrc.own 2 rfl rfl rfl) (app_le (by first | omega | (simp only [List.length_map, List.length_cons, List.length_nil, List.length_append, rows_length]; omega))) (by first | omega | (simp only [List.length_map, List.length_cons, List.length_nil, List.length_append, rows_length]; omega)) (dst_some rfl) (fun b121 c121 h121 => ?_))
              refine AO.p (Yp.assign rfl) rfl ?_
              refine AO.nil ?_
              refine AW.region ?_
              refine AO.p (Yp.move rfl) rfl ?_
              first
              | refine AO.p (Yp.binI rfl rfl (w64 (by omega))) rfl ?_
              | refine AO.p (Yp.binI rfl rfl rfl) rfl ?_
              refine AO.p (Yp.assign rfl) rfl ?_
              refine AO.nil ?_
              have hnx := take_next (x := x) (by omega) hxt
              simp only [hi0, List.length_nil] at *
              refine ⟨_, _, _, ?_, ⟨[tk r43 r45 (200 + r54) (ew wr 0) (ls turn (3 + at_ % 10) rate 0)], by simp, rfl, hnx, .inr ⟨_, _, h121, by simp, rfl, rfl⟩⟩, ⟨rfl, get_i (by simp), rfl, rfl, rfl, rfl, rfl, rfl, rfl, rfl, rfl, rfl, rfl, trivial⟩, sl_c rfl (sl_d (sl_d (sl_c (ob_es rfl) sl_n)))⟩
              first | (simp; done) | (simp only [List.length_cons, List.length_nil]; omega) | (simp; omega)
        · intro hc3
          exact absurd (of_decide_eq_false hc3) (by subst hi0; simp)
      ·
        refine AW.seq ?_
        refine AW.seq ?_
        refine AW.region ?_
        refine AO.p (Yp.move rfl) rfl ?_
        refine AO.p (Yp.cmpI rfl rfl rfl) rfl ?_
        refine AO.nil ?_
        refine AW.cond rfl rfl ?_ ?_
        · intro hc3
          replace hc3 := of_decide_eq_true hc3
          refine AW.skip ?_
          refine AW.seq ?_
          refine AW.block ?_
          refine AW.seq ?_
          refine AW.region ?_
          refine AO.p (Yp.assign rfl) rfl ?_
          refine AO.nil ?_
          refine AW.cutK (fun s ob => s = [(24, .v (.int .i64 (ew wr x.length)))] ∧ ob = [(b14, .arr 31 2 1 [[.v (.int .i64 r43), .v (.int .i64 r45)]]), (b19, .arr 35 3 cap (x.map encBal))]) [(3, _), (4, _), (5, _), (14, _), (15, _), (16, _), (17, _), (18, _), (19, _), (20, _), (21, _), (22, _), (23, _)] ⟨rfl, rfl, rfl, rfl, rfl, rfl, rfl, rfl, rfl, rfl, rfl, rfl, rfl, trivial⟩ ?_ ?_
          ·
            refine AW.seq ?_
            refine AW.region ?_
            refine AO.p (Yp.move rfl) rfl ?_
            refine AO.p (Yp.move rfl) rfl ?_
            first
            | refine AO.p (Yp.lenList rfl rfl rfl) rfl ?_
            | refine AO.p (Yp.lenSlice rfl rfl rfl) rfl ?_
            | refine AO.p (Yp.lenString rfl rfl rfl) rfl ?_
            refine AO.p (Yp.cmpI rfl rfl rfl) rfl ?_
            refine AO.nil ?_
            refine AW.cond rfl rfl ?_ ?_
            · intro hc4
              replace hc4 := of_decide_eq_true hc4
              simp only [List.length_map] at hc4
              obtain ⟨y, hy⟩ := get_ex (show x.length < wr.length by omega)
              have hyb := hwr y (List.mem_of_getElem? hy)
              refine AW.region ?_
              refine AO.p (Yp.move rfl) rfl ?_
              refine AO.p (Yp.move rfl) rfl ?_
              refine AO.p (Yp.indexE rfl rfl rfl rfl rfl rfl rfl (map_get (by assumption))) rfl ?_
              first
              | refine AO.d (Yd.loadE rfl rfl rfl) rfl ?_
              | refine AO.d (Yd.loadO 0 0 0 rfl rfl rfl rfl rfl rfl) rfl ?_
              | refine AO.d (Yd.loadO 1 0 0 rfl rfl rfl rfl rfl rfl) rfl ?_
              | refine AO.d (Yd.loadO 2 0 0 rfl rfl rfl rfl rfl rfl) rfl ?_
              | refine AO.d (Yd.loadO 3 0 0 rfl rfl rfl rfl rfl rfl) rfl ?_
              | refine AO.d (Yd.loadO 4 0 0 rfl rfl rfl rfl rfl rfl) rfl ?_
              | refine AO.d (Yd.loadO 5 0 0 rfl rfl rfl rfl rfl rfl) rfl ?_
              first
              | refine AO.p (Yp.convI rfl rfl rfl rfl (w64 (by omega))) rfl ?_
              | refine AO.p (Yp.convI rfl rfl rfl rfl (w8 (by omega))) rfl ?_
              refine AO.p (Yp.assign rfl) rfl ?_
              refine AO.nil ?_
              exact ⟨_, _, ⟨rfl, rfl⟩, ⟨get_i (ew_get hy).symm, rfl, rfl, rfl, rfl, rfl, rfl, rfl, rfl, rfl, rfl, rfl, rfl, rfl, trivial⟩, List.Sublist.refl _⟩
            · intro hc4
              replace hc4 := of_decide_eq_false hc4
              simp only [List.length_map] at hc4
              refine AW.skip ?_
              exact ⟨_, _, ⟨rfl, rfl⟩, ⟨get_i (ew_out (by omega)).symm, rfl, rfl, rfl, rfl, rfl, rfl, rfl, rfl, rfl, rfl, rfl, rfl, rfl, trivial⟩, List.Sublist.refl _⟩
          ·
            rintro s ob ⟨rfl, rfl⟩
            refine AW.seq ?_
            refine AW.region ?_
            refine AO.p (Yp.assign rfl) rfl ?_
            refine AO.nil ?_
            refine AW.cutK (fun s ob => s = [(25, .v (.int .i64 (ls turn (3 + at_ % 10) rate x.length)))] ∧ ob = [(b14, .arr 31 2 1 [[.v (.int .i64 r43), .v (.int .i64 r45)]]), (b19, .arr 35 3 cap (x.map encBal))]) [(3, _), (4, _), (5, _), (14, _), (15, _), (16, _), (17, _), (18, _), (19, _), (20, _), (21, _), (22, _), (23, _), (24, _)] ⟨rfl, rfl, rfl, rfl, rfl, rfl, rfl, rfl, rfl, rfl, rfl, rfl, rfl, rfl, trivial⟩ ?_ ?_
            ·
              refine AW.seq ?_
              refine AW.region ?_
              refine AO.p (Yp.move rfl) rfl ?_
              refine AO.p (Yp.cmpI rfl rfl rfl) rfl ?_
              refine AO.p (Yp.move rfl) rfl ?_
              refine AO.g rfl rfl (dst_some rfl) ?_ ?_
              · intro hg22_3
                first
                | replace hg22_3 := of_decide_eq_true hg22_3
                | skip
                refine AO.p (Yp.move rfl) rfl ?_
                refine AO.g rfl rfl (dst_some rfl) (fun _ => ?_) (fun h => absurd h (by decide))
                refine AO.p (Yp.move rfl) rfl ?_
                refine AO.g rfl rfl (dst_some rfl) (fun _ => ?_) (fun h => absurd h (by decide))
                refine AO.p (Yp.cmpI rfl rfl rfl) rfl ?_
                first
                | refine AO.p (Yp.pickT rfl rfl) rfl ?_
                | refine AO.p (Yp.pickF rfl rfl) rfl ?_
                | refine AO.p (Yp.pickB rfl rfl rfl) rfl ?_
                refine AO.nil ?_
                refine AW.cond rfl rfl ?_ ?_
                · intro hc5
                  replace hc5 := of_decide_eq_true hc5
                  refine AW.region ?_
                  refine AO.p (Yp.move rfl) rfl ?_
                  refine AO.p (Yp.assign rfl) rfl ?_
                  refine AO.nil ?_
                  exact ⟨_, _, ⟨rfl, rfl⟩, ⟨get_i (by unfold ls; split <;> omega), rfl, rfl, rfl, rfl, rfl, rfl, rfl, rfl, rfl, rfl, rfl, rfl, rfl, rfl, trivial⟩, List.Sublist.refl _⟩
                · intro hc5
                  replace hc5 := of_decide_eq_false hc5
                  refine AW.skip ?_
                  exact ⟨_, _, ⟨rfl, rfl⟩, ⟨get_i (by unfold ls; split <;> omega), rfl, rfl, rfl, rfl, rfl, rfl, rfl, rfl, rfl, rfl, rfl, rfl, rfl, rfl, trivial⟩, List.Sublist.refl _⟩
              · intro hg22_3
                first
                | replace hg22_3 := of_decide_eq_false hg22_3
                | skip
                refine AO.g rfl rfl (dst_some rfl) (fun h => absurd h (by decide)) (fun _ => ?_)
                refine AO.g rfl rfl (dst_some rfl) (fun h => absurd h (by decide)) (fun _ => ?_)
                first
                | refine AO.p (Yp.pickT rfl rfl) rfl ?_
                | refine AO.p (Yp.pickF rfl rfl) rfl ?_
                | refine AO.p (Yp.pickB rfl rfl rfl) rfl ?_
                refine AO.nil ?_
                refine AW.condK rfl (by first | rfl | (simp only [*]; done) | (simp [*]; done)) ?_
                refine AW.skip ?_
                exact ⟨_, _, ⟨rfl, rfl⟩, ⟨get_i (by unfold ls; split <;> omega), rfl, rfl, rfl, rfl, rfl, rfl, rfl, rfl, rfl, rfl, rfl, rfl, rfl, rfl, trivial⟩, List.Sublist.refl _⟩
            ·
              rintro s ob ⟨rfl, rfl⟩
              refine AW.seq ?_
              refine AW.region ?_
              refine AO.p (Yp.move rfl) rfl ?_
              refine AO.p (Yp.move rfl) rfl ?_
              refine AO.p (Yp.move rfl) rfl ?_
              first
              | refine AO.p (Yp.binI rfl rfl (w64 (by omega))) rfl ?_
              | refine AO.p (Yp.binI rfl rfl rfl) rfl ?_
              refine AO.p (Yp.maxI rfl rfl) rfl ?_
              refine AO.p (Yp.assign rfl) rfl ?_
              refine AO.p (Yp.assign rfl) rfl ?_
              refine AO.nil ?_
              refine AW.seq ?_
              refine AW.region ?_
              refine AO.p (Yp.move rfl) rfl ?_
              refine AO.p (Yp.move rfl) rfl ?_
              first
              | refine AO.p (Yp.fieldPtr rfl rfl rfl rfl rfl rfl) rfl ?_
              | refine AO.p (Yp.fieldE rfl rfl rfl rfl rfl rfl rfl) rfl ?_
              refine AO.d (Yd.loadO 0 0 0 rfl rfl rfl rfl rfl rfl) rfl ?_
              first
              | refine AO.p (Yp.binI rfl rfl (w64 (by omega))) rfl ?_
              | refine AO.p (Yp.binI rfl rfl rfl) rfl ?_
              first
              | refine AO.p (Yp.quoN rfl rfl (by omega) (by omega)) rfl ?_
              | refine AO.p (Yp.binI rfl rfl ⟨by omega, rfl⟩) rfl ?_
              refine AO.p (Yp.move rfl) rfl ?_
              first
              | refine AO.p (Yp.binI rfl rfl (w64 (by omega))) rfl ?_
              | refine AO.p (Yp.binI rfl rfl rfl) rfl ?_
              refine AO.p (Yp.binI rfl rfl ⟨by omega, w64 (td128 (by omega))⟩) rfl ?_
              first
              | refine AO.p (Yp.binI rfl rfl (w64 (by omega))) rfl ?_
              | refine AO.p (Yp.binI rfl rfl rfl) rfl ?_
              refine AO.p (Yp.move rfl) rfl ?_
              refine AO.p (Yp.move rfl) rfl ?_
              first
              | refine AO.p (Yp.fieldPtr rfl rfl rfl rfl rfl rfl) rfl ?_
              | refine AO.p (Yp.fieldE rfl rfl rfl rfl rfl rfl rfl) rfl ?_
              refine AO.d (Yd.loadO 0 0 0 rfl rfl rfl rfl rfl rfl) rfl ?_
              first
              | refine AO.p (Yp.binI rfl rfl (w64 (by omega))) rfl ?_
              | refine AO.p (Yp.binI rfl rfl rfl) rfl ?_
              first
              | refine AO.p (Yp.quoN rfl rfl (by omega) (by omega)) rfl ?_
              | refine AO.p (Yp.binI rfl rfl ⟨by omega, rfl⟩) rfl ?_
              refine AO.p (Yp.move rfl) rfl ?_
              first
              | refine AO.p (Yp.binI rfl rfl (w64 (by omega))) rfl ?_
              | refine AO.p (Yp.binI rfl rfl rfl) rfl ?_
              refine AO.p (Yp.binI rfl rfl ⟨by omega, w64 (td128 (by omega))⟩) rfl ?_
              first
              | refine AO.p (Yp.binI rfl rfl (w64 (by omega))) rfl ?_
              | refine AO.p (Yp.binI rfl rfl rfl) rfl ?_
              refine AO.p (Yp.move rfl) rfl ?_
              first
              | refine AO.p (Yp.fieldPtr rfl rfl rfl rfl rfl rfl) rfl ?_
              | refine AO.p (Yp.fieldE rfl rfl rfl rfl rfl rfl rfl) rfl ?_
              refine AO.d (Yd.loadO 0 0 1 rfl rfl rfl rfl rfl rfl) rfl ?_
              refine AO.p (Yp.move rfl) rfl ?_
              first
              | refine AO.p (Yp.binI rfl rfl (w64 (by omega))) rfl ?_
              | refine AO.p (Yp.binI rfl rfl rfl) rfl ?_
              refine AO.p (Yp.binI rfl rfl ⟨by omega, w64 (td256 (by omega))⟩) rfl ?_
              first
              | refine AO.p (Yp.binI rfl rfl (w64 (by omega))) rfl ?_
              | refine AO.p (Yp.binI rfl rfl rfl) rfl ?_
              refine AO.p (Yp.build rfl rfl rfl rfl rfl rfl) rfl ?_
              refine AO.act [] rfl (AX.alloc rfl rfl rfl rfl rfl (dst_some rfl) (fun b28 => ?_))
              refine AO.act [2] rfl (AX.store 2 0 0 rfl rfl rfl rfl rfl rfl rfl rfl (le_ble rfl) rfl ?_)
              refine AO.nil ?_
              refine AW.region ?_
              refine AO.p (Yp.move rfl) rfl ?_
              refine AO.d (Yd.loadO 2 0 0 rfl rfl rfl rfl rfl rfl) rfl ?_
              refine AO.act [] rfl (AX.buildSlice (sz := 3) rfl rfl rfl rfl rfl rfl rfl rfl rfl rfl rfl (dst_some rfl) (fun b120 => ?_))
              refine AO.act [1] rfl (AX.appendS (sz := 3) 1 rfl rfl rfl rfl rfl rfl rfl rfl (by first | rfl | simp) rfl (AppSrc.own 3 rfl rfl rfl) (app_le (by first | omega | (simp only [List.length_map, List.length_cons, List.length_nil, List.length_append, rows_length]; omega))) (by first | omega | (simp only [List.length_map, List.length_cons, List.length_nil, List.length_append, rows_length]; omega)) (dst_some rfl) (fun b121 c121 h121 => ?_))
              refine AO.p (Yp.assign rfl) rfl ?_
              refine AO.nil ?_
              refine AW.region ?_
              refine AO.p (Yp.move rfl) rfl ?_
              first
              | refine AO.p (Yp.binI rfl rfl (w64 (by omega))) rfl ?_
              | refine AO.p (Yp.binI rfl rfl rfl) rfl ?_
              refine AO.p (Yp.assign rfl) rfl ?_
              refine AO.nil ?_
              have hnx := take_next (x := x) (by omega) hxt
              simp only [List.length_map, rows_length] at h121
              refine ⟨_, _, _, ?_, ⟨x ++ [tk r43 r45 (200 + r54) (ew wr x.length) (ls turn (3 + at_ % 10) rate x.length)], by simp; omega, rfl, hnx, .inr ⟨_, _, by simpa using h121, by simp, rfl, rfl⟩⟩, ⟨get_t ?_, get_i (by simp), rfl, rfl, rfl, rfl, rfl, rfl, rfl, rfl, rfl, rfl, rfl, trivial⟩, sl_c rfl (sl_c (ob_es ?_) (sl_d sl_n))⟩
              · simp; omega
              · simp only [List.length_map, rows_length, List.length_append, List.length_cons, List.length_nil]
              · rw [List.map_append]; rfl
        · intro hc3
          replace hc3 := of_decide_eq_false hc3
          have hxl := xsF_len r43 r45 (200 + r54) wr turn (3 + at_ % 10) rate
          rw [List.take_of_length_le (by omega)] at hxt
          refine AW.frz 19 1 rfl rfl (by simp) hcap ?_
          clear q1 q2 d1 d2 q3 d3 hxl2 hls
          subst hxt
          have hbo := xsF_ok (turn := turn) (first := 3 + at_ % 10) (rate := rate) (f := 200 + r54) (by omega) hM hP hE hrt
          have hk : chkL (xsF r43 r45 (200 + r54) wr turn (3 + at_ % 10) rate) (⟨r43, r45⟩ : Acc) (1 + wd % 10) th = 0 := (chkL_0 (chkE_0 (by omega) hbo) hg (by omega) (by omega)).symm
          have hN : max (1 + wd % 10).toNat (xsF r43 r45 (200 + r54) wr turn (3 + at_ % 10) rate).length = 30 := by omega
          refine AW.exit ?_
          refine AW.seq ?_
          refine AW.region ?_
          refine AO.p (Yp.move rfl) rfl ?_
          refine AO.d (Yd.loadO 0 0 0 rfl rfl rfl rfl rfl rfl) rfl ?_
          refine AO.p (Yp.move rfl) rfl ?_
          refine AO.p (Yp.move rfl) rfl ?_
          refine AO.act [] rfl (AX.call0 rfl rfl rfl (alarms (xsF r43 r45 (200 + r54) wr turn (3 + at_ % 10) rate) (⟨r43, r45⟩ : Acc) (1 + wd % 10) th) (dst_some rfl) ?_)
          rintro _ ⟨_, rfl⟩
          rw [if_pos hk, hN]
          refine AO.p (Yp.move rfl) rfl ?_
          refine AO.p (Yp.extract rfl rfl) rfl ?_
          refine AO.p (Yp.extract rfl rfl) rfl ?_
          refine AO.p (Yp.assign rfl) rfl ?_
          refine AO.p (Yp.assign rfl) rfl ?_
          refine AO.nil ?_
          refine AW.seq ?_
          refine AW.seq ?_
          refine AW.region ?_
          refine AO.p (Yp.move rfl) rfl ?_
          refine AO.p (Yp.cmpI rfl rfl rfl) rfl ?_
          refine AO.nil ?_
          refine AW.cond rfl rfl ?_ ?_
          · intro hc6
            exact absurd hc6 (by decide)
          · intro hc6
            skip
            refine AW.skip ?_
            refine AW.seq ?_
            refine AW.seq ?_
            refine AW.region ?_
            refine AO.p (Yp.move rfl) rfl ?_
            refine AO.p (Yp.cmpI rfl rfl rfl) rfl ?_
            refine AO.nil ?_
            refine AW.cond rfl rfl ?_ ?_
            · intro hc7
              replace hc7 := eq_of_beq hc7
              obtain ⟨rfl, rfl⟩ : turn = 0 ∧ rate = 0 := by omega
              rw [no_alarms hf hM hP ht.1 hE (by omega) hbo]
              have hl1 := least_1 (xsF r43 r45 (200 + r54) wr 0 (3 + at_ % 10) 0) (⟨r43, r45⟩ : Acc) (1 + wd % 10).toNat th 30
              have hl2 := least_bd (c := (⟨r43, r45⟩ : Acc)) (w := (1 + wd % 10).toNat) (t := th) (show (xsF r43 r45 (200 + r54) wr 0 (3 + at_ % 10) 0).length ≤ 400 by omega) hbo (by unfold Acc.ok vol; dsimp only; omega) (by omega) (by omega) 30 (by omega)
              refine AW.seq ?_
              refine AW.seq ?_
              refine AW.region ?_
              refine AO.p (Yp.move rfl) rfl ?_
              first
              | refine AO.p (Yp.lenList rfl rfl rfl) rfl ?_
              | refine AO.p (Yp.lenSlice rfl rfl rfl) rfl ?_
              | refine AO.p (Yp.lenString rfl rfl rfl) rfl ?_
              refine AO.p (Yp.cmpI rfl rfl rfl) rfl ?_
              refine AO.nil ?_
              refine AW.cond rfl rfl ?_ ?_
              · intro hc8
                exact absurd hc8 (by simp)
              · intro hc8
                skip
                refine AW.skip ?_
                refine AW.seq ?_
                refine AW.region ?_
                refine AO.p (Yp.move rfl) rfl ?_
                refine AO.d (Yd.loadO 0 0 0 rfl rfl rfl rfl rfl rfl) rfl ?_
                refine AO.p (Yp.move rfl) rfl ?_
                refine AO.p (Yp.move rfl) rfl ?_
                refine AO.act [] rfl (AX.call0 rfl rfl rfl (least (xsF r43 r45 (200 + r54) wr 0 (3 + at_ % 10) 0) (⟨r43, r45⟩ : Acc) (1 + wd % 10) th) (dst_some rfl) ?_)
                rintro _ ⟨_, rfl⟩
                rw [if_pos hk, hN]
                refine AO.p (Yp.move rfl) rfl ?_
                refine AO.p (Yp.extract rfl rfl) rfl ?_
                refine AO.p (Yp.extract rfl rfl) rfl ?_
                refine AO.p (Yp.assign rfl) rfl ?_
                refine AO.p (Yp.assign rfl) rfl ?_
                refine AO.nil ?_
                refine AW.seq ?_
                refine AW.seq ?_
                refine AW.region ?_
                refine AO.p (Yp.move rfl) rfl ?_
                refine AO.p (Yp.cmpI rfl rfl rfl) rfl ?_
                refine AO.p (Yp.move rfl) rfl ?_
                refine AO.g rfl rfl (dst_some rfl) ?_ ?_
                · intro hg34_3
                  first
                  | replace hg34_3 := of_decide_eq_false hg34_3
                  | skip
                  refine AO.p (Yp.move rfl) rfl ?_
                  refine AO.g rfl rfl (dst_some rfl) (fun _ => ?_) (fun h => absurd h (by decide))
                  refine AO.p (Yp.cmpI rfl rfl rfl) rfl ?_
                  first
                  | refine AO.p (Yp.pickT rfl rfl) rfl ?_
                  | refine AO.p (Yp.pickF rfl rfl) rfl ?_
                  | refine AO.p (Yp.pickB rfl rfl rfl) rfl ?_
                  refine AO.nil ?_
                  refine AW.cond rfl rfl ?_ ?_
                  · intro hc9
                    exact absurd (of_decide_eq_true hc9) (by omega)
                  · intro hc9
                    skip
                    refine AW.skip ?_
                    refine AW.seq ?_
                    refine AW.region ?_
                    refine AO.p (Yp.move rfl) rfl ?_
                    refine AO.p (Yp.move rfl) rfl ?_
                    first
                    | refine AO.p (Yp.convI rfl rfl rfl rfl (w64 (by omega))) rfl ?_
                    | refine AO.p (Yp.convI rfl rfl rfl rfl (w8 (by omega))) rfl ?_
                    first
                    | refine AO.p (Yp.binI rfl rfl (w64 (by omega))) rfl ?_
                    | refine AO.p (Yp.binI rfl rfl rfl) rfl ?_
                    refine AO.p (Yp.assign rfl) rfl ?_
                    refine AO.nil ?_
                    refine AW.seq ?_
                    refine AW.seq ?_
                    refine AW.region ?_
                    refine AO.p (Yp.move rfl) rfl ?_
                    refine AO.p (Yp.move rfl) rfl ?_
                    refine AO.p (Yp.cmpI rfl rfl rfl) rfl ?_
                    refine AO.nil ?_
                    refine AW.cond rfl rfl ?_ ?_
                    · intro hc10
                      skip
                      refine AW.seq ?_
                      refine AW.region ?_
                      refine AO.act [] rfl (AX.call0 rfl rfl rfl (awake) (dst_some rfl) ?_)
                      rintro _ ⟨_, rfl⟩
                      refine AO.p (Yp.assign rfl) rfl ?_
                      refine AO.nil ?_
                      refine AW.ret ?_
                      exact ⟨.inr rfl, [_], [], ⟨rfl, trivial⟩, List.nil_sublist _, rfl⟩
                    · intro hc10
                      replace hc10 := of_decide_eq_false hc10
                      refine AW.skip ?_
                      refine AW.exit ?_
                      refine AW.region ?_
                      refine AO.p (Yp.move rfl) rfl ?_
                      first
                      | refine AO.p (Yp.binI rfl rfl (w64 (by omega))) rfl ?_
                      | refine AO.p (Yp.binI rfl rfl rfl) rfl ?_
                      refine AO.p (Yp.assign rfl) rfl ?_
                      refine AO.nil ?_
                      exact ⟨_, _, _, by omega, ⟨1, _, rfl, rfl, rfl, .inr (.inl ⟨rfl, by omega, by omega, by omega⟩)⟩, ⟨rfl, rfl, rfl, rfl, rfl, rfl, rfl, rfl, rfl, trivial⟩, sl_c rfl sl_n⟩
                · intro hg34_3
                  first
                  | replace hg34_3 := of_decide_eq_true hg34_3
                  | skip
                  exact absurd hg34_3 (by decide)
            · intro hc7
              replace hc7 := ne_of_beq_false hc7
              obtain ⟨rfl, hr1, hr2, hr3⟩ : turn = 1 ∧ 1 ≤ rate ∧ rate ≤ 200 + r54 ∧ leastTo (xsF r43 r45 (200 + r54) wr 0 (3 + at_ % 10) 0) (⟨r43, r45⟩ : Acc) (1 + wd % 10).toNat th 30 ≤ rate := by
                rcases htr with h | h | h
                · omega
                · exact h
                · omega
              have hb0 := xsF_ok (turn := 0) (first := 3 + at_ % 10) (rate := 0) (f := 200 + r54) (by omega) hM hP hE (Int.le_refl 0)
              have hlate := late_alarm (first := 3 + at_ % 10) (rate := rate) (w := (1 + wd % 10).toNat) (N := 30) hf hM hP ht.1 hE (by omega) hb0
              have hthe := the_alarm (first := 3 + at_ % 10) (rate := rate) (w := (1 + wd % 10).toNat) (F := (3 + at_ % 10).toNat) (N := 30) hf hM hP ht.1 hE (by omega) (by omega) rfl (by omega) hb0 hbo hr3 hr2
              have hql := alarmsTo_len (xsF r43 r45 (200 + r54) wr 1 (3 + at_ % 10) rate) (⟨r43, r45⟩ : Acc) (1 + wd % 10).toNat th 30
              generalize alarmsTo (xsF r43 r45 (200 + r54) wr 1 (3 + at_ % 10) rate) (⟨r43, r45⟩ : Acc) (1 + wd % 10).toNat th 30 = Q at *
              refine AW.skip ?_
              refine AW.seq ?_
              refine AW.region ?_
              refine AO.p (Yp.assign rfl) rfl ?_
              refine AO.nil ?_
              refine AW.seq ?_
              refine AW.seq ?_
              refine AW.region ?_
              refine AO.p (Yp.assign rfl) rfl ?_
              refine AO.nil ?_
              refine AW.block ?_
              refine AW.loopK [(3, _), (4, _), (5, _), (14, _), (15, _), (16, _), (17, _), (18, _), (20, _), (22, _), (29, _)] ⟨rfl, rfl, rfl, rfl, rfl, rfl, rfl, rfl, rfl, rfl, rfl, trivial⟩ (fun m s ob => ∃ (k : Nat) (fd : Bool), k ≤ Q.length ∧ m = Q.length - k ∧ ob = [(b14, .arr 31 2 1 [[.v (.int .i64 r43), .v (.int .i64 r45)]])] ∧ s = [(33, .v (.bool fd)), (34, .v (.int .i64 k))] ∧ fd = (Q.take k).any fun z => decide (z ≤ 3 + at_ % 10 + (1 + wd % 10))) (m := _) (s0 := _) (ob0 := _) (⟨0, false, by omega, rfl, rfl, rfl, by simp⟩) ⟨rfl, rfl, trivial⟩ (List.Sublist.refl _) ?_
              rintro m s ob ⟨k, fd, hk, rfl, rfl, rfl, hfd⟩
              refine AW.seq ?_
              refine AW.seq ?_
              refine AW.region ?_
              refine AO.p (Yp.move rfl) rfl ?_
              refine AO.p (Yp.move rfl) rfl ?_
              first
              | refine AO.p (Yp.lenList rfl rfl rfl) rfl ?_
              | refine AO.p (Yp.lenSlice rfl rfl rfl) rfl ?_
              | refine AO.p (Yp.lenString rfl rfl rfl) rfl ?_
              refine AO.p (Yp.cmpI rfl rfl rfl) rfl ?_
              refine AO.nil ?_
              refine AW.cond rfl rfl ?_ ?_
              · intro hc11
                replace hc11 := of_decide_eq_true hc11
                simp only [List.length_map] at hc11
                obtain ⟨x, hx⟩ := get_ex (show k < Q.length by omega)
                have hxl := hlate x (List.mem_of_getElem? hx)
                refine AW.skip ?_
                refine AW.seq ?_
                refine AW.block ?_
                refine AW.seq ?_
                refine AW.region ?_
                refine AO.p (Yp.move rfl) rfl ?_
                refine AO.p (Yp.move rfl) rfl ?_
                refine AO.g rfl rfl (dst_some rfl) ?_ ?_
                · intro hg43_2
                  first
                  | replace hg43_2 := of_decide_eq_false hg43_2
                  | skip
                  refine AO.p (Yp.move rfl) rfl ?_
                  refine AO.g rfl rfl (dst_some rfl) (fun _ => ?_) (fun h => absurd h (by decide))
                  refine AO.p (Yp.move rfl) rfl ?_
                  refine AO.g rfl rfl (dst_some rfl) (fun _ => ?_) (fun h => absurd h (by decide))
                  refine AO.p (Yp.indexE rfl rfl rfl rfl rfl rfl rfl (map_get (by assumption))) rfl ?_
                  refine AO.g rfl rfl (dst_some rfl) (fun _ => ?_) (fun h => absurd h (by decide))
                  first
                  | refine AO.d (Yd.loadE rfl rfl rfl) rfl ?_
                  | refine AO.d (Yd.loadO 0 0 0 rfl rfl rfl rfl rfl rfl) rfl ?_
                  | refine AO.d (Yd.loadO 1 0 0 rfl rfl rfl rfl rfl rfl) rfl ?_
                  | refine AO.d (Yd.loadO 2 0 0 rfl rfl rfl rfl rfl rfl) rfl ?_
                  | refine AO.d (Yd.loadO 3 0 0 rfl rfl rfl rfl rfl rfl) rfl ?_
                  | refine AO.d (Yd.loadO 4 0 0 rfl rfl rfl rfl rfl rfl) rfl ?_
                  | refine AO.d (Yd.loadO 5 0 0 rfl rfl rfl rfl rfl rfl) rfl ?_
                  refine AO.g rfl rfl (dst_some rfl) (fun _ => ?_) (fun h => absurd h (by decide))
                  refine AO.p (Yp.move rfl) rfl ?_
                  refine AO.g rfl rfl (dst_some rfl) (fun _ => ?_) (fun h => absurd h (by decide))
                  refine AO.p (Yp.move rfl) rfl ?_
                  refine AO.g rfl rfl (dst_some rfl) (fun _ => ?_) (fun h => absurd h (by decide))
                  first
                  | refine AO.p (Yp.binI rfl rfl (w64 (by omega))) rfl ?_
                  | refine AO.p (Yp.binI rfl rfl rfl) rfl ?_
                  refine AO.g rfl rfl (dst_some rfl) (fun _ => ?_) (fun h => absurd h (by decide))
                  refine AO.p (Yp.cmpI rfl rfl rfl) rfl ?_
                  first
                  | refine AO.p (Yp.pickT rfl rfl) rfl ?_
                  | refine AO.p (Yp.pickF rfl rfl) rfl ?_
                  | refine AO.p (Yp.pickB rfl rfl rfl) rfl ?_
                  refine AO.p (Yp.assign rfl) rfl ?_
                  refine AO.nil ?_
                  refine AW.seq ?_
                  refine AW.region ?_
                  refine AO.p (Yp.move rfl) rfl ?_
                  refine AO.p (Yp.move rfl) rfl ?_
                  refine AO.p (Yp.indexE rfl rfl rfl rfl rfl rfl rfl (map_get (by assumption))) rfl ?_
                  first
                  | refine AO.d (Yd.loadE rfl rfl rfl) rfl ?_
                  | refine AO.d (Yd.loadO 0 0 0 rfl rfl rfl rfl rfl rfl) rfl ?_
                  | refine AO.d (Yd.loadO 1 0 0 rfl rfl rfl rfl rfl rfl) rfl ?_
                  | refine AO.d (Yd.loadO 2 0 0 rfl rfl rfl rfl rfl rfl) rfl ?_
                  | refine AO.d (Yd.loadO 3 0 0 rfl rfl rfl rfl rfl rfl) rfl ?_
                  | refine AO.d (Yd.loadO 4 0 0 rfl rfl rfl rfl rfl rfl) rfl ?_
                  | refine AO.d (Yd.loadO 5 0 0 rfl rfl rfl rfl rfl rfl) rfl ?_
                  refine AO.p (Yp.move rfl) rfl ?_
                  refine AO.p (Yp.cmpI rfl rfl rfl) rfl ?_
                  refine AO.nil ?_
                  refine AW.cond rfl rfl ?_ ?_
                  · intro hc12
                    exact absurd (of_decide_eq_true hc12) (by omega)
                  · intro hc12
                    skip
                    refine AW.skip ?_
                    refine AW.region ?_
                    refine AO.p (Yp.move rfl) rfl ?_
                    first
                    | refine AO.p (Yp.binI rfl rfl (w64 (by omega))) rfl ?_
                    | refine AO.p (Yp.binI rfl rfl rfl) rfl ?_
                    refine AO.p (Yp.assign rfl) rfl ?_
                    refine AO.nil ?_
                    exact ⟨_, _, _, by omega, ⟨k + 1, _, by omega, rfl, rfl, rfl, found2_n hx (hfd.symm.trans hg43_2)⟩, ⟨rfl, get_i (by simp), rfl, rfl, rfl, rfl, rfl, rfl, rfl, rfl, rfl, rfl, rfl, trivial⟩, sl_c rfl sl_n⟩
                · intro hg43_2
                  first
                  | replace hg43_2 := of_decide_eq_true hg43_2
                  | skip
                  refine AO.g rfl rfl (dst_some rfl) (fun h => absurd h (by decide)) (fun _ => ?_)
                  refine AO.g rfl rfl (dst_some rfl) (fun h => absurd h (by decide)) (fun _ => ?_)
                  refine AO.g rfl rfl (dst_some rfl) (fun h => absurd h (by decide)) (fun _ => ?_)
                  refine AO.g rfl rfl (dst_some rfl) (fun h => absurd h (by decide)) (fun _ => ?_)
                  refine AO.g rfl rfl (dst_some rfl) (fun h => absurd h (by decide)) (fun _ => ?_)
                  refine AO.g rfl rfl (dst_some rfl) (fun h => absurd h (by decide)) (fun _ => ?_)
                  refine AO.g rfl rfl (dst_some rfl) (fun h => absurd h (by decide)) (fun _ => ?_)
                  first
                  | refine AO.p (Yp.pickT rfl rfl) rfl ?_
                  | refine AO.p (Yp.pickF rfl rfl) rfl ?_
                  | refine AO.p (Yp.pickB rfl rfl rfl) rfl ?_
                  refine AO.p (Yp.assign rfl) rfl ?_
                  refine AO.nil ?_
                  refine AW.seq ?_
                  refine AW.region ?_
                  refine AO.p (Yp.move rfl) rfl ?_
                  refine AO.p (Yp.move rfl) rfl ?_
                  refine AO.p (Yp.indexE rfl rfl rfl rfl rfl rfl rfl (map_get (by assumption))) rfl ?_
                  first
                  | refine AO.d (Yd.loadE rfl rfl rfl) rfl ?_
                  | refine AO.d (Yd.loadO 0 0 0 rfl rfl rfl rfl rfl rfl) rfl ?_
                  | refine AO.d (Yd.loadO 1 0 0 rfl rfl rfl rfl rfl rfl) rfl ?_
                  | refine AO.d (Yd.loadO 2 0 0 rfl rfl rfl rfl rfl rfl) rfl ?_
                  | refine AO.d (Yd.loadO 3 0 0 rfl rfl rfl rfl rfl rfl) rfl ?_
                  | refine AO.d (Yd.loadO 4 0 0 rfl rfl rfl rfl rfl rfl) rfl ?_
                  | refine AO.d (Yd.loadO 5 0 0 rfl rfl rfl rfl rfl rfl) rfl ?_
                  refine AO.p (Yp.move rfl) rfl ?_
                  refine AO.p (Yp.cmpI rfl rfl rfl) rfl ?_
                  refine AO.nil ?_
                  refine AW.cond rfl rfl ?_ ?_
                  · intro hc12
                    exact absurd (of_decide_eq_true hc12) (by omega)
                  · intro hc12
                    skip
                    refine AW.skip ?_
                    refine AW.region ?_
                    refine AO.p (Yp.move rfl) rfl ?_
                    first
                    | refine AO.p (Yp.binI rfl rfl (w64 (by omega))) rfl ?_
                    | refine AO.p (Yp.binI rfl rfl rfl) rfl ?_
                    refine AO.p (Yp.assign rfl) rfl ?_
                    refine AO.nil ?_
                    exact ⟨_, _, _, by omega, ⟨k + 1, true, by omega, rfl, rfl, rfl, found2_y hx (hfd.symm.trans hg43_2)⟩, ⟨rfl, get_i (by simp), rfl, rfl, rfl, rfl, rfl, rfl, rfl, rfl, rfl, rfl, rfl, trivial⟩, sl_c rfl sl_n⟩
              · intro hc11
                replace hc11 := of_decide_eq_false hc11
                simp only [List.length_map] at hc11
                have hke : k = Q.length := by omega
                subst hke
                rw [List.take_length] at hfd
                refine AW.exit ?_
                refine AW.seq ?_
                refine AW.region ?_
                refine AO.p (Yp.move rfl) rfl ?_
                refine AO.p (Yp.not rfl) rfl ?_
                refine AO.nil ?_
                refine AW.cond rfl rfl ?_ ?_
                · intro hc13
                  exact absurd hc13 (by rw [hfd, List.any_eq_true.2 ⟨_, hthe, decide_eq_true (by omega)⟩]; decide)
                · intro hc13
                  skip
                  refine AW.skip ?_
                  refine AW.region ?_
                  refine AO.p (Yp.move rfl) rfl ?_
                  first
                  | refine AO.p (Yp.binI rfl rfl (w64 (by omega))) rfl ?_
                  | refine AO.p (Yp.binI rfl rfl rfl) rfl ?_
                  refine AO.p (Yp.assign rfl) rfl ?_
                  refine AO.nil ?_
                  exact ⟨_, _, _, by omega, ⟨2, rate, rfl, rfl, rfl, .inr (.inr ⟨rfl, by omega⟩)⟩, ⟨rfl, rfl, rfl, rfl, rfl, rfl, rfl, rfl, rfl, trivial⟩, sl_c rfl sl_n⟩
    · intro hc2
      skip
      refine AW.exit ?_
      refine AW.seq ?_
      refine AW.region ?_
      refine AO.act [] rfl (AX.call0 rfl rfl rfl (awake) (dst_some rfl) ?_)
      rintro _ ⟨_, rfl⟩
      refine AO.p (Yp.assign rfl) rfl ?_
      refine AO.nil ?_
      refine AW.ret ?_
      exact ⟨.inr rfl, [_], [], ⟨rfl, trivial⟩, List.nil_sublist _, rfl⟩

end Go.Proofs.Ytnmiidccebhiaaa
