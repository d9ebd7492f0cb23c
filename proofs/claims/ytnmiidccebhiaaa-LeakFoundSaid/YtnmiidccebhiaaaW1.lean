/- Walks of functions of the program, printed by a program of ours. No condition. -/
import Derived.Test.YtnmiidccebhiaaaTab
namespace Go.Proofs.Ytnmiidccebhiaaa
open Go.Aw


def i64 (x : Int) : Prop := -9223372036854775808 ≤ x ∧ x ≤ 9223372036854775807
def encInt (n : Int) : List T := [.v (.int .i64 n)]
def encInts (l : List Int) : T := .list 1 (l.map encInt)
def srcOb (l : List Int) (p : Nat) : Ob := .arr 62 2 1 [[encInts l, .v (.int .i64 p)]]
/-- The reader of numbers, whatever it has read. -/
def SrcOk (S : Ob) : Prop := ∃ l p, S = srcOb l p ∧ (∀ n, n ∈ l → i64 n) ∧ p ≤ l.length ∧ l.length ≤ 2000

set_option maxRecDepth 100000 in
theorem raw_ (b : Nat) (S : Ob) (hS : SrcOk S) :
    ACalls Try.env 20 [.v (.pointer (some ⟨b, 0, none⟩))] [(b, S)] fun x fp => ∃ S', fp = [(b, S')] ∧ SrcOk S' ∧ ∃ r, x = .v (.int .i64 r) ∧ i64 r := by
  obtain ⟨l, p, rfl, hl, hp, hm⟩ := hS
  refine ACalls.of_body Try.func20 rfl rfl rfl (fun C hC => ?_)
  refine AW.seq ?_
  refine AW.region ?_
  refine AO.p (Yp.assign rfl) rfl ?_
  refine AO.nil ?_
  refine AW.seq ?_
  refine AW.seq ?_
  refine AW.regionD (.still 0 (.still 1 (.still 2 (.still 3 (.still 4 (.still 5 (.still 6 (.still 7 (.still 8 (.still 9 .nil)))))))))) [0] [_] (by kernel_rfl) rfl ?_
  refine AP.op rfl (Yp.move rfl) rfl ?_
  first
  | refine AP.op rfl (Yp.nilCheckP rfl) rfl ?_
  | refine AP.op rfl (Yp.nilCheckE rfl) rfl ?_
  first
  | refine AP.op rfl (Yp.fieldPtr rfl rfl rfl rfl rfl rfl) rfl ?_
  | refine AP.op rfl (Yp.fieldE rfl rfl rfl rfl rfl rfl rfl) rfl ?_
  refine AP.o rfl (Yd.loadO 0 0 1 rfl rfl rfl rfl rfl rfl) rfl ?_
  refine AP.op rfl (Yp.move rfl) rfl ?_
  first
  | refine AP.op rfl (Yp.nilCheckP rfl) rfl ?_
  | refine AP.op rfl (Yp.nilCheckE rfl) rfl ?_
  first
  | refine AP.op rfl (Yp.fieldPtr rfl rfl rfl rfl rfl rfl) rfl ?_
  | refine AP.op rfl (Yp.fieldE rfl rfl rfl rfl rfl rfl rfl) rfl ?_
  refine AP.o rfl (Yd.loadO 0 0 0 rfl rfl rfl rfl rfl rfl) rfl ?_
  first
  | refine AP.op rfl (Yp.lenList rfl rfl rfl) rfl ?_
  | refine AP.op rfl (Yp.lenSlice rfl rfl rfl) rfl ?_
  | refine AP.op rfl (Yp.lenString rfl rfl rfl) rfl ?_
  refine AP.op rfl (Yp.cmpI rfl rfl rfl) rfl ?_
  refine AP.nil ?_
  refine AW.cond rfl rfl ?_ ?_
  · intro hc1
    replace hc1 := of_decide_eq_true hc1
    refine AW.seq ?_
    refine AW.region ?_
    refine AO.p (Yp.assign rfl) rfl ?_
    refine AO.nil ?_
    refine AW.ret ?_
    exact ⟨.inr rfl, [_], _, ⟨rfl, trivial⟩, List.Sublist.refl _, ⟨_, rfl, ⟨l, p, rfl, hl, hp, hm⟩, 0, rfl, by unfold i64; omega⟩⟩
  · intro hc1
    replace hc1 := of_decide_eq_false hc1
    simp only [List.length_map] at hc1
    obtain ⟨x, hx⟩ := get_ex (show p < l.length by omega)
    have hxo := hl x (List.mem_of_getElem? hx)
    refine AW.skip ?_
    refine AW.seq ?_
    refine AW.region ?_
    refine AO.p (Yp.move rfl) rfl ?_
    first
    | refine AO.p (Yp.nilCheckP rfl) rfl ?_
    | refine AO.p (Yp.nilCheckE rfl) rfl ?_
    first
    | refine AO.p (Yp.fieldPtr rfl rfl rfl rfl rfl rfl) rfl ?_
    | refine AO.p (Yp.fieldE rfl rfl rfl rfl rfl rfl rfl) rfl ?_
    refine AO.d (Yd.loadO 0 0 1 rfl rfl rfl rfl rfl rfl) rfl ?_
    first
    | refine AO.p (Yp.binI rfl rfl (w64 (by omega))) rfl ?_
    | refine AO.p (Yp.binI rfl rfl rfl) rfl ?_
    first
    | refine AO.p (Yp.nilCheckP rfl) rfl ?_
    | refine AO.p (Yp.nilCheckE rfl) rfl ?_
    first
    | refine AO.p (Yp.fieldPtr rfl rfl rfl rfl rfl rfl) rfl ?_
    | refine AO.p (Yp.fieldE rfl rfl rfl rfl rfl rfl rfl) rfl ?_
    refine AO.act [0] rfl (AX.store 0 0 1 rfl rfl rfl rfl rfl rfl rfl rfl (le_ble rfl) rfl ?_)
    refine AO.nil ?_
    refine AW.seq ?_
    refine AW.regionD (.still 0 (.still 1 (.still 2 (.still 3 (.still 4 (.still 5 (.still 6 (.still 7 (.still 8 (.still 9 (.still 10 (.still 11 .nil)))))))))))) [0] [_] (by kernel_rfl) rfl ?_
    refine AP.op rfl (Yp.move rfl) rfl ?_
    first
    | refine AP.op rfl (Yp.nilCheckP rfl) rfl ?_
    | refine AP.op rfl (Yp.nilCheckE rfl) rfl ?_
    first
    | refine AP.op rfl (Yp.fieldPtr rfl rfl rfl rfl rfl rfl) rfl ?_
    | refine AP.op rfl (Yp.fieldE rfl rfl rfl rfl rfl rfl rfl) rfl ?_
    refine AP.o rfl (Yd.loadO 0 0 0 rfl rfl rfl rfl rfl rfl) rfl ?_
    refine AP.op rfl (Yp.move rfl) rfl ?_
    first
    | refine AP.op rfl (Yp.nilCheckP rfl) rfl ?_
    | refine AP.op rfl (Yp.nilCheckE rfl) rfl ?_
    first
    | refine AP.op rfl (Yp.fieldPtr rfl rfl rfl rfl rfl rfl) rfl ?_
    | refine AP.op rfl (Yp.fieldE rfl rfl rfl rfl rfl rfl rfl) rfl ?_
    refine AP.o rfl (Yd.loadO 0 0 1 rfl rfl rfl rfl rfl rfl) rfl ?_
    first
    | refine AP.op rfl (Yp.binI rfl rfl (w64 (by omega))) rfl ?_
    | refine AP.op rfl (Yp.binI rfl rfl rfl) rfl ?_
    refine AP.op rfl (Yp.indexE (m := p) rfl rfl rfl rfl rfl rfl (by omega) (map_get hx)) rfl ?_
    first
    | refine AP.o rfl (Yd.loadE rfl rfl rfl) rfl ?_
    | refine AP.o rfl (Yd.loadO 0 0 0 rfl rfl rfl rfl rfl rfl) rfl ?_
    | refine AP.o rfl (Yd.loadO 1 0 0 rfl rfl rfl rfl rfl rfl) rfl ?_
    | refine AP.o rfl (Yd.loadO 2 0 0 rfl rfl rfl rfl rfl rfl) rfl ?_
    | refine AP.o rfl (Yd.loadO 3 0 0 rfl rfl rfl rfl rfl rfl) rfl ?_
    | refine AP.o rfl (Yd.loadO 4 0 0 rfl rfl rfl rfl rfl rfl) rfl ?_
    | refine AP.o rfl (Yd.loadO 5 0 0 rfl rfl rfl rfl rfl rfl) rfl ?_
    refine AP.op rfl (Yp.assign rfl) rfl ?_
    refine AP.nil ?_
    refine AW.ret ?_
    exact ⟨.inr rfl, [_], _, ⟨rfl, trivial⟩, List.Sublist.refl _, ⟨_, rfl, ⟨l, p + 1, rfl, hl, by omega, hm⟩, x, rfl, hxo⟩⟩


theorem tmod_bd {x n : Int} (hn : 0 < n) : -n < x.tmod n ∧ x.tmod n < n := by
  rcases Int.le_total 0 x with h | h
  · rw [Int.tmod_eq_emod_of_nonneg h]
    have h1 := Int.emod_nonneg x (show n ≠ 0 by omega)
    have h2 := Int.emod_lt_of_pos x hn
    omega
  · have e : x.tmod n = -((-x).tmod n) := by rw [Int.neg_tmod]; omega
    rw [e, Int.tmod_eq_emod_of_nonneg (show 0 ≤ -x by omega)]
    have h1 := Int.emod_nonneg (-x) (show n ≠ 0 by omega)
    have h2 := Int.emod_lt_of_pos (-x) hn
    omega
theorem ediv_bd {a b : Int} (hb : 0 < b) : (0 ≤ a → 0 ≤ a / b ∧ a / b ≤ a) ∧ (a < 0 → a ≤ a / b ∧ a / b < 0) := by
  refine ⟨fun h => ⟨Int.ediv_nonneg h (by omega), Int.ediv_le_self b h⟩, fun h => ?_⟩
  refine ⟨?_, Int.ediv_neg_of_neg_of_pos h hb⟩
  rw [Int.le_ediv_iff_mul_le hb]
  have h1 : 0 ≤ (-a) * (b - 1) := Int.mul_nonneg (by omega) (by omega)
  rw [Int.neg_mul, Int.mul_sub] at h1
  omega
theorem tdiv_eq {a b : Int} (hb : 0 < b) : a.tdiv b = if a.tmod b < 0 then a / b + 1 else a / b := by
  have h1 : a.tmod b + b * a.tdiv b = a := by rw [Int.tmod_def]; omega
  have h2 := Int.emod_add_mul_ediv a b
  have hbd := tmod_bd (x := a) hb
  have h3 := Int.emod_nonneg a (show b ≠ 0 by omega)
  have h4 := Int.emod_lt_of_pos a hb
  have hb0 : b ≠ 0 := by omega
  split
  · have : a = (a.tmod b + b) + b * (a.tdiv b - 1) := by rw [Int.mul_sub]; omega
    have e : a / b = a.tdiv b - 1 := by
      conv => lhs; rw [this]
      rw [Int.add_mul_ediv_left _ _ hb0, Int.ediv_eq_zero_of_lt (by omega) (by omega)]; omega
    omega
  · have e : a / b = a.tdiv b := by
      conv => lhs; rw [← h1]
      rw [Int.add_mul_ediv_left _ _ hb0, Int.ediv_eq_zero_of_lt (by omega) (by omega)]; omega
    omega
theorem tdiv_bd {a b : Int} (hb : 0 < b) (ha : -4611686018427387904 ≤ a ∧ a ≤ 4611686018427387904) : -9223372036854775808 ≤ a.tdiv b ∧ a.tdiv b ≤ 9223372036854775807 := by
  have h := ediv_bd (a := a) hb
  rw [tdiv_eq hb]
  split <;> rcases Int.lt_or_le a 0 with h0 | h0 <;> omega
theorem tdiv_bd2 {a b : Int} (hb : 0 < b) (ha : -4611686018427387904 ≤ a ∧ a ≤ 4611686018427387904) : -4611686018427387904 ≤ a.tdiv b ∧ a.tdiv b ≤ 4611686018427387905 := by
  have h := ediv_bd (a := a) hb
  rw [tdiv_eq hb]
  split <;> rcases Int.lt_or_le a 0 with h0 | h0 <;> omega
theorem tdiv_neg_ {a b : Int} (hb : 0 < b) (h : a.tmod b < 0) : a.tdiv b - 1 = a / b := by rw [tdiv_eq hb, if_pos h]; omega
theorem tdiv_nonneg_ {a b : Int} (hb : 0 < b) (h : 0 ≤ a.tmod b) : a.tdiv b = a / b := by rw [tdiv_eq hb, if_neg (by omega)]
theorem tmod_emod (x n : Int) : (x.tmod n) % n = x % n := by
  have h : x.tmod n + n * x.tdiv n = x := by rw [Int.tmod_def]; omega
  have : x % n = (x.tmod n + n * x.tdiv n) % n := by rw [h]
  rw [this, Int.add_mul_emod_self_left]
theorem tmod_neg {x n : Int} (hn : 0 < n) (h : x.tmod n < 0) : x.tmod n + n = x % n := by
  have hb := tmod_bd (x := x) hn
  rw [← tmod_emod x n, ← Int.add_emod_right, Int.emod_eq_of_lt (by omega) (by omega)]
theorem tmod_nonneg {x n : Int} (hn : 0 < n) (h : 0 ≤ x.tmod n) : x.tmod n = x % n := by
  have hb := tmod_bd (x := x) hn
  rw [← tmod_emod x n, Int.emod_eq_of_lt (by omega) (by omega)]

set_option maxRecDepth 100000 in
theorem mod_ (x n : Int) (hx : i64 x) (hn : i64 n) :
    ACalls Try.env 19 [.v (.int .i64 x), .v (.int .i64 n)] [] fun y _ => y = .v (.int .i64 (if n < 1 then 0 else x % n)) := by
  unfold i64 at hx hn
  refine ACalls.of_body Try.func19 rfl rfl rfl (fun C hC => ?_)
  refine AW.seq ?_
  refine AW.region ?_
  refine AO.p (Yp.assign rfl) rfl ?_
  refine AO.nil ?_
  refine AW.seq ?_
  refine AW.seq ?_
  refine AW.region ?_
  refine AO.p (Yp.move rfl) rfl ?_
  refine AO.p (Yp.cmpI rfl rfl rfl) rfl ?_
  refine AO.nil ?_
  refine AW.cond rfl rfl ?_ ?_
  · intro hc1
    replace hc1 := of_decide_eq_true hc1
    refine AW.seq ?_
    refine AW.region ?_
    refine AO.p (Yp.assign rfl) rfl ?_
    refine AO.nil ?_
    refine AW.ret ?_
    exact ⟨.inr rfl, [_], [], ⟨rfl, trivial⟩, List.nil_sublist _, by simp only [resV]; rw [if_pos hc1]⟩
  · intro hc1
    replace hc1 := of_decide_eq_false hc1
    refine AW.skip ?_
    refine AW.seq ?_
    refine AW.region ?_
    refine AO.p (Yp.move rfl) rfl ?_
    refine AO.p (Yp.move rfl) rfl ?_
    refine AO.p (Yp.binI (c := x.tmod n) rfl rfl ⟨by omega, rfl⟩) rfl ?_
    refine AO.p (Yp.assign rfl) rfl ?_
    refine AO.nil ?_
    have hbd := tmod_bd (x := x) (show 0 < n by omega)
    refine AW.seq ?_
    refine AW.seq ?_
    refine AW.region ?_
    refine AO.p (Yp.move rfl) rfl ?_
    refine AO.p (Yp.cmpI rfl rfl rfl) rfl ?_
    refine AO.nil ?_
    refine AW.cond rfl rfl ?_ ?_
    · intro hc2
      replace hc2 := of_decide_eq_true hc2
      refine AW.region ?_
      refine AO.p (Yp.move rfl) rfl ?_
      refine AO.p (Yp.move rfl) rfl ?_
      first
      | refine AO.p (Yp.binI rfl rfl (w64 (by omega))) rfl ?_
      | refine AO.p (Yp.binI rfl rfl rfl) rfl ?_
      refine AO.p (Yp.assign rfl) rfl ?_
      refine AO.nil ?_
      refine AW.seq ?_
      refine AW.region ?_
      refine AO.p (Yp.move rfl) rfl ?_
      refine AO.p (Yp.assign rfl) rfl ?_
      refine AO.nil ?_
      refine AW.ret ?_
      exact ⟨.inr rfl, [_], [], ⟨rfl, trivial⟩, List.nil_sublist _, by simp only [resV]; rw [if_neg hc1, tmod_neg (by omega) hc2]⟩
    · intro hc2
      replace hc2 := of_decide_eq_false hc2
      refine AW.skip ?_
      refine AW.seq ?_
      refine AW.region ?_
      refine AO.p (Yp.move rfl) rfl ?_
      refine AO.p (Yp.assign rfl) rfl ?_
      refine AO.nil ?_
      refine AW.ret ?_
      exact ⟨.inr rfl, [_], [], ⟨rfl, trivial⟩, List.nil_sublist _, by simp only [resV]; rw [if_neg hc1, tmod_nonneg (by omega) (by omega)]⟩

set_option maxRecDepth 100000 in
theorem n_ (b : Nat) (S : Ob) (hS : SrcOk S) (n : Int) (h1 : 1 ≤ n) (h2 : n ≤ 9223372036854775807) :
    ACalls Try.env 10 [.v (.pointer (some ⟨b, 0, none⟩)), .v (.int .i64 n)] [(b, S)] fun x fp => ∃ S', fp = [(b, S')] ∧ SrcOk S' ∧ ∃ r, x = .v (.int .i64 r) ∧ 0 ≤ r ∧ r < n := by
  refine ACalls.of_body Try.func10 rfl rfl rfl (fun C hC => ?_)
  refine AW.seq ?_
  refine AW.region ?_
  refine AO.p (Yp.assign rfl) rfl ?_
  refine AO.nil ?_
  refine AW.seq ?_
  refine AW.region ?_
  refine AO.p (Yp.move rfl) rfl ?_
  refine AO.act [0] rfl (AX.call1 0 rfl rfl rfl rfl (raw_ _ _ (by assumption)) (dst_some rfl) ?_)
  rintro _ S6 ⟨hS6, r6, rfl, hr6⟩
  refine AO.p (Yp.move rfl) rfl ?_
  refine AO.act [] rfl (AX.call0 rfl rfl rfl (mod_ _ _ (by assumption) (by first | assumption | (unfold i64; omega))) (dst_some rfl) ?_)
  rintro _ ⟨_, rfl⟩
  refine AO.p (Yp.assign rfl) rfl ?_
  refine AO.nil ?_
  refine AW.ret ?_
  refine ⟨.inr rfl, [_], _, ⟨rfl, trivial⟩, List.Sublist.refl _, ⟨_, rfl, hS6, _, rfl, ?_⟩⟩
  rw [if_neg (by omega)]
  exact ⟨Int.emod_nonneg _ (by omega), Int.emod_lt_of_pos _ (by omega)⟩

set_option maxRecDepth 100000 in
theorem pick_ (b : Nat) (S : Ob) (hS : SrcOk S) (l : List Int) (h1 : 0 < l.length) (h2 : l.length ≤ 1000) :
    ACalls Try.env 9 [.v (.pointer (some ⟨b, 0, none⟩)), encInts l] [(b, S)] fun x fp => ∃ S', fp = [(b, S')] ∧ SrcOk S' ∧ ∃ r, x = .v (.int .i64 r) ∧ r ∈ l := by
  refine ACalls.of_body Try.func9 rfl rfl rfl (fun C hC => ?_)
  refine AW.seq ?_
  refine AW.region ?_
  refine AO.p (Yp.assign rfl) rfl ?_
  refine AO.nil ?_
  refine AW.seq ?_
  refine AW.region ?_
  refine AO.p (Yp.move rfl) rfl ?_
  refine AO.p (Yp.move rfl) rfl ?_
  refine AO.p (Yp.move rfl) rfl ?_
  first
  | refine AO.p (Yp.lenList rfl rfl rfl) rfl ?_
  | refine AO.p (Yp.lenSlice rfl rfl rfl) rfl ?_
  | refine AO.p (Yp.lenString rfl rfl rfl) rfl ?_
  refine AO.act [0] rfl (AX.call1 0 rfl rfl rfl rfl (n_ _ _ (by assumption) _ (by simp only [List.length_map]; omega) (by simp only [List.length_map]; omega)) (dst_some rfl) ?_)
  rintro _ S9 ⟨hS9, r9, rfl, hr9⟩
  obtain ⟨m, rfl⟩ := Int.eq_ofNat_of_zero_le hr9.1
  simp only [List.length_map] at hr9
  obtain ⟨x, hx⟩ := get_ex (show m < l.length by omega)
  refine AO.p (Yp.indexE rfl rfl rfl rfl rfl rfl rfl (map_get (by assumption))) rfl ?_
  first
  | refine AO.d (Yd.loadE rfl rfl rfl) rfl ?_
  | refine AO.d (Yd.loadO 0 0 0 rfl rfl rfl rfl rfl rfl) rfl ?_
  | refine AO.d (Yd.loadO 1 0 0 rfl rfl rfl rfl rfl rfl) rfl ?_
  | refine AO.d (Yd.loadO 2 0 0 rfl rfl rfl rfl rfl rfl) rfl ?_
  | refine AO.d (Yd.loadO 3 0 0 rfl rfl rfl rfl rfl rfl) rfl ?_
  | refine AO.d (Yd.loadO 4 0 0 rfl rfl rfl rfl rfl rfl) rfl ?_
  | refine AO.d (Yd.loadO 5 0 0 rfl rfl rfl rfl rfl rfl) rfl ?_
  refine AO.p (Yp.assign rfl) rfl ?_
  refine AO.nil ?_
  refine AW.ret ?_
  exact ⟨.inr rfl, [_], _, ⟨rfl, trivial⟩, List.Sublist.refl _, ⟨_, rfl, hS9, x, rfl, List.mem_of_getElem? hx⟩⟩

set_option maxRecDepth 100000 in
theorem range_ (b : Nat) (S : Ob) (hS : SrcOk S) (lo hi : Int) (h0 : lo ≤ hi) (h1 : -2305843009213693952 ≤ lo) (h2 : hi ≤ 2305843009213693952) :
    ACalls Try.env 24 [.v (.pointer (some ⟨b, 0, none⟩)), .v (.int .i64 lo), .v (.int .i64 hi)] [(b, S)] fun x fp => ∃ S', fp = [(b, S')] ∧ SrcOk S' ∧ ∃ r, x = .v (.int .i64 r) ∧ lo ≤ r ∧ r ≤ hi := by
  refine ACalls.of_body Try.func24 rfl rfl rfl (fun C hC => ?_)
  refine AW.seq ?_
  refine AW.region ?_
  refine AO.p (Yp.assign rfl) rfl ?_
  refine AO.nil ?_
  refine AW.seq ?_
  refine AW.region ?_
  refine AO.p (Yp.move rfl) rfl ?_
  refine AO.p (Yp.move rfl) rfl ?_
  refine AO.p (Yp.move rfl) rfl ?_
  refine AO.p (Yp.move rfl) rfl ?_
  first
  | refine AO.p (Yp.binI rfl rfl (w64 (by omega))) rfl ?_
  | refine AO.p (Yp.binI rfl rfl rfl) rfl ?_
  first
  | refine AO.p (Yp.binI rfl rfl (w64 (by omega))) rfl ?_
  | refine AO.p (Yp.binI rfl rfl rfl) rfl ?_
  refine AO.act [0] rfl (AX.call1 0 rfl rfl rfl rfl (n_ _ _ (by assumption) _ (by omega) (by omega)) (dst_some rfl) ?_)
  rintro _ S13 ⟨hS13, r13, rfl, hr13⟩
  first
  | refine AO.p (Yp.binI rfl rfl (w64 (by omega))) rfl ?_
  | refine AO.p (Yp.binI rfl rfl rfl) rfl ?_
  refine AO.p (Yp.assign rfl) rfl ?_
  refine AO.nil ?_
  refine AW.ret ?_
  exact ⟨.inr rfl, [_], _, ⟨rfl, trivial⟩, List.Sublist.refl _, ⟨_, rfl, hS13, _, rfl, by omega, by omega⟩⟩

set_option maxRecDepth 100000 in
theorem new_ (l : List Int) (hl : ∀ n, n ∈ l → i64 n) (hm : l.length ≤ 17592186044416) :
    ACalls Try.env 8 [encInts l] [] fun x fp => ∃ b S, fp = [(b, S)] ∧ SrcOk S ∧ x = .v (.pointer (some ⟨b, 0, none⟩)) := by
  refine ACalls.of_body Try.func8 rfl rfl rfl (fun C hC => ?_)
  refine AW.seq ?_
  refine AW.region ?_
  refine AO.p (Yp.assign rfl) rfl ?_
  refine AO.nil ?_
  refine AW.seq ?_
  refine AW.region ?_
  refine AO.p (Yp.move rfl) rfl ?_
  refine AO.p (Yp.move rfl) rfl ?_
  first
  | refine AO.p (Yp.lenList rfl rfl rfl) rfl ?_
  | refine AO.p (Yp.lenSlice rfl rfl rfl) rfl ?_
  | refine AO.p (Yp.lenString rfl rfl rfl) rfl ?_
  refine AO.p (Yp.minI rfl rfl) rfl ?_
  refine AO.p (Yp.sliceL 0 (min l.length 2000) 0 rfl rfl rfl rfl rfl rfl ⟨_, _, rfl, by simp only [List.length_map]; omega⟩ (fun cap hcap => ⟨cap, rfl, by simp only [List.length_map] at hcap; omega, by omega⟩) (by simp) (by omega) (by simp only [List.length_map]; omega)) rfl ?_
  have he : (List.take (min l.length 2000 - 0) (List.drop 0 (l.map encInt))) = (l.take (min l.length 2000)).map encInt := by simp
  rw [he]
  refine AO.p (Yp.build rfl rfl rfl rfl rfl rfl) rfl ?_
  refine AO.act [] rfl (AX.box rfl rfl rfl (dst_some rfl) (fun b9 => ?_))
  refine AO.p (Yp.assign rfl) rfl ?_
  refine AO.nil ?_
  refine AW.ret ?_
  exact ⟨.inr rfl, [_], _, ⟨rfl, trivial⟩, List.Sublist.refl _, ⟨_, _, rfl, ⟨l.take (min l.length 2000), 0, rfl, fun n hn => hl n (List.mem_of_mem_take hn), by omega, by simp; omega⟩, rfl⟩⟩

set_option maxRecDepth 100000 in
theorem few_ (l : List Int) : ACalls Try.env 6 [encInts l] [] fun x _ => x = .v (.bool (decide (l.length ≤ 400))) := by
  refine ACalls.of_body Try.func6 rfl rfl rfl (fun C hC => ?_)
  refine AW.seq ?_
  refine AW.region ?_
  refine AO.p (Yp.assign rfl) rfl ?_
  refine AO.nil ?_
  refine AW.seq ?_
  refine AW.region ?_
  refine AO.p (Yp.move rfl) rfl ?_
  first
  | refine AO.p (Yp.lenList rfl rfl rfl) rfl ?_
  | refine AO.p (Yp.lenSlice rfl rfl rfl) rfl ?_
  | refine AO.p (Yp.lenString rfl rfl rfl) rfl ?_
  refine AO.p (Yp.cmpI rfl rfl rfl) rfl ?_
  refine AO.p (Yp.assign rfl) rfl ?_
  refine AO.nil ?_
  refine AW.ret ?_
  exact ⟨.inr rfl, [_], [], ⟨rfl, trivial⟩, List.nil_sublist _, by simp [resV]; omega⟩


theorem take_one {α : Type} {l : List α} {k : Nat} {x : α} (h : l[k]? = some x) : l.take (k + 1) = l.take k ++ [x] := by
  rw [List.take_add_one, h]; rfl
theorem findIdx_at {α : Type} {l : List α} {p : α → Bool} {k : Nat} {x : α} (hn : (l.take k).findIdx? p = none) (hx : l[k]? = some x) (hp : p x = true) :
    (match l.findIdx? p with | some i => (i : Int) | none => -1) = (k : Int) := by
  have hk := (List.getElem?_eq_some_iff.1 hx).1
  have hlen : (l.take k).length = k := by simp; omega
  have h : l.findIdx? p = some k := by
    have e : l = l.take k ++ (x :: l.drop (k + 1)) := by
      have := List.take_append_drop k l
      rw [List.drop_eq_getElem_cons hk] at this
      rw [List.getElem?_eq_getElem hk] at hx
      cases hx
      exact this.symm
    rw [e, List.findIdx?_append, hn]
    simp [List.findIdx?_cons, hp, hlen]
  rw [h]
theorem find_any {α : Type} {l : List α} {p : α → Bool} : decide ((match l.findIdx? p with | some i => (i : Int) | none => -1) ≥ 0) = l.any p := by
  cases h : l.findIdx? p with
  | none =>
    rw [List.findIdx?_eq_none_iff] at h
    have : l.any p = false := by rw [List.any_eq_false]; intro x hx; simpa using h x hx
    simp [this]
  | some i =>
    rw [List.findIdx?_eq_some_iff_getElem] at h
    obtain ⟨hi, hp, _⟩ := h
    have : l.any p = true := List.any_eq_true.2 ⟨_, List.getElem_mem hi, hp⟩
    simp [this]


structure Bal where
  (i o p : Int)
def encBal (b : Bal) : List T := [.v (.int .i64 b.i), .v (.int .i64 b.o), .v (.int .i64 b.p)]
def encBals (l : List Bal) : T := .list 3 (l.map encBal)
structure Acc where
  (m p : Int)
def encAcc (a : Acc) : List T := [.v (.int .i64 a.m), .v (.int .i64 a.p)]
def sI (l : List Bal) : Int := (l.map (·.i)).sum
def sO (l : List Bal) : Int := (l.map (·.o)).sum
def seg (l : List Bal) (a b : Nat) : List Bal := (l.drop (a + 1)).take (b - a)
def vol (x : Int) : Prop := 0 ≤ x ∧ x ≤ 1099511627776
def Bal.ok (b : Bal) : Prop := vol b.i ∧ vol b.o ∧ vol b.p
def balsOk (l : List Bal) : Prop := ∀ b, b ∈ l → b.ok
def Acc.ok (a : Acc) : Prop := 0 ≤ a.m ∧ a.m ≤ 100000 ∧ vol a.p
def volB (x : Int) : Bool := decide (0 ≤ x ∧ x ≤ 1099511627776)
def Bal.bad (b : Bal) : Bool := !volB b.i || !volB b.o || !volB b.p
def chkE (l : List Bal) : Int := if 400 < l.length then 4 else if l.any Bal.bad then 1 else 0
def Acc.good (a : Acc) : Bool := decide (0 ≤ a.m ∧ a.m ≤ 100000) && volB a.p
def winB (l : List Bal) (a b : Int) : Bool := decide (0 ≤ a ∧ a < b ∧ b < l.length)

theorem sI_bd : ∀ {l : List Bal}, balsOk l → 0 ≤ sI l ∧ sI l ≤ l.length * 1099511627776
  | [], _ => by simp [sI]
  | b :: l, h => by
    have h1 := h b (by simp)
    have h2 := sI_bd (l := l) (fun x hx => h x (by simp [hx]))
    simp only [sI, List.map_cons, List.sum_cons, List.length_cons] at *
    have := h1.1
    unfold vol at this
    omega

theorem sO_bd : ∀ {l : List Bal}, balsOk l → 0 ≤ sO l ∧ sO l ≤ l.length * 1099511627776
  | [], _ => by simp [sO]
  | b :: l, h => by
    have h1 := h b (by simp)
    have h2 := sO_bd (l := l) (fun x hx => h x (by simp [hx]))
    simp only [sO, List.map_cons, List.sum_cons, List.length_cons] at *
    have := h1.2.1
    unfold vol at this
    omega

theorem sI_snoc (l : List Bal) (b : Bal) : sI (l ++ [b]) = sI l + b.i := by simp [sI]
theorem sO_snoc (l : List Bal) (b : Bal) : sO (l ++ [b]) = sO l + b.o := by simp [sO]
theorem seg_ok {l : List Bal} (h : balsOk l) (a b : Nat) : balsOk (seg l a b) := fun x hx => h x (List.mem_of_mem_drop (List.mem_of_mem_take hx))
theorem take_ok {l : List Bal} (h : balsOk l) (k : Nat) : balsOk (l.take k) := fun x hx => h x (List.mem_of_mem_take hx)
theorem seg_len {l : List Bal} {a b : Nat} (hab : a ≤ b) (hb : b < l.length) : (seg l a b).length = b - a := by simp [seg]; omega
theorem seg_map (l : List Bal) (a b : Nat) : ((l.map encBal).drop (a + 1)).take (b + 1 - (a + 1)) = (seg l a b).map encBal := by
  rw [← List.map_drop, ← List.map_take]; congr 2; omega
theorem volB_iff {x : Int} : volB x = true ↔ vol x := by simp [volB, vol]
theorem chk_ok {l : List Bal} (h : chkE l = 0) : l.length ≤ 400 ∧ balsOk l := by
  unfold chkE at h
  split at h
  · omega
  · rename_i hl
    split at h
    · omega
    · rename_i hb
      refine ⟨by omega, fun b hb' => ?_⟩
      have := List.any_eq_false.1 (by simpa using hb) b hb'
      simp only [Bal.bad, Bool.or_eq_true, Bool.not_eq_true', not_or, Bool.not_eq_false, volB_iff] at this
      exact ⟨this.1.1, this.1.2, this.2⟩
/-- What is missing in a window; by how much it can be wrong. -/
def mis (l : List Bal) (a b : Nat) : Int := sI (seg l a b) - sO (seg l a b) - (l.getD b ⟨0, 0, 0⟩).p + (l.getD a ⟨0, 0, 0⟩).p
def upI (x n : Int) : Int := (x + n - 1) / n
def prt (v m : Int) : Int := v / 1000000 * m + upI (v % 1000000 * m) 1000000
def wrg (l : List Bal) (c : Acc) (a b : Nat) : Int := prt (sI (seg l a b)) c.m + prt (sO (seg l a b)) c.m + 2 * c.p

set_option maxRecDepth 100000 in
theorem counted (l : List Bal) (a b : Int) (hl : l.length ≤ 400) (ho : balsOk l) (h0 : 0 ≤ a) (hab : a ≤ b) (hb : b < l.length) :
    ACalls Try.env 53 [encBals l, .v (.int .i64 a), .v (.int .i64 b)] [] fun x _ => x = .tup [.v (.int .i64 (sI (seg l a.toNat b.toNat))), .v (.int .i64 (sO (seg l a.toNat b.toNat)))] := by
  obtain ⟨a, rfl⟩ := Int.eq_ofNat_of_zero_le h0
  obtain ⟨b, rfl⟩ := Int.eq_ofNat_of_zero_le (show 0 ≤ b by omega)
  simp only [Int.toNat_natCast]
  have hsl := seg_len (l := l) (a := a) (b := b) (by omega) (by omega)
  have hso := seg_ok ho a b
  refine ACalls.of_body Try.func53 rfl rfl rfl (fun C hC => ?_)
  refine AW.seq ?_
  refine AW.region ?_
  refine AO.p (Yp.assign rfl) rfl ?_
  refine AO.p (Yp.assign rfl) rfl ?_
  refine AO.nil ?_
  refine AW.seq ?_
  refine AW.seq ?_
  refine AW.region ?_
  refine AO.p (Yp.move rfl) rfl ?_
  refine AO.p (Yp.move rfl) rfl ?_
  first
  | refine AO.p (Yp.binI rfl rfl (w64 (by omega))) rfl ?_
  | refine AO.p (Yp.binI rfl rfl rfl) rfl ?_
  refine AO.p (Yp.move rfl) rfl ?_
  first
  | refine AO.p (Yp.binI rfl rfl (w64 (by omega))) rfl ?_
  | refine AO.p (Yp.binI rfl rfl rfl) rfl ?_
  refine AO.p (Yp.move rfl) rfl ?_
  first
  | refine AO.p (Yp.binI rfl rfl (w64 (by omega))) rfl ?_
  | refine AO.p (Yp.binI rfl rfl rfl) rfl ?_
  refine AO.p (Yp.sliceL (a + 1) (b + 1) (b + 1) rfl rfl rfl rfl rfl ⟨_, _, rfl, by omega⟩ ⟨_, _, rfl, by omega⟩ (fun cap hcap => ⟨b + 1, ⟨_, _, rfl, by omega⟩, by omega, by simp at hcap; omega⟩) (by simp) (by omega) (by simp; omega)) rfl ?_
  rw [seg_map l a b]
  first
  | refine AO.p (Yp.lenList rfl rfl rfl) rfl ?_
  | refine AO.p (Yp.lenSlice rfl rfl rfl) rfl ?_
  | refine AO.p (Yp.lenString rfl rfl rfl) rfl ?_
  refine AO.p (Yp.move rfl) rfl ?_
  refine AO.nil ?_
  refine AW.block ?_
  refine AW.loopK [(17, _), (18, _)] ⟨rfl, rfl, trivial⟩ (fun m s ob => ∃ k : Nat, k ≤ (seg l a b).length ∧ m = (seg l a b).length - k ∧ ob = [] ∧
      s = [(6, .v (.int .i64 (sI ((seg l a b).take k)))), (7, .v (.int .i64 (sO ((seg l a b).take k)))), (19, .v (.int .i64 k))]) (m := _) (s0 := _) (ob0 := _) (⟨0, by omega, rfl, rfl, rfl⟩) ⟨rfl, rfl, rfl, trivial⟩ (List.Sublist.refl _) ?_
  rintro m s ob ⟨k, hk, rfl, rfl, rfl⟩
  have hb1 := sI_bd (take_ok hso k)
  have hb2 := sO_bd (take_ok hso k)
  have htl : ((seg l a b).take k).length = k := by simp; omega
  rw [htl] at hb1 hb2
  clear htl
  refine AW.seq ?_
  refine AW.region ?_
  refine AO.p (Yp.cmpI rfl rfl rfl) rfl ?_
  refine AO.nil ?_
  refine AW.seq ?_
  refine AW.cond rfl rfl ?_ ?_
  · intro hc1
    replace hc1 := of_decide_eq_true hc1
    simp only [List.length_map] at hc1
    obtain ⟨x, hx⟩ := get_ex (show k < (seg l a b).length by omega)
    have hxo := hso x (List.mem_of_getElem? hx)
    unfold Bal.ok vol at hxo
    refine AW.skip ?_
    refine AW.seq ?_
    refine AW.block ?_
    refine AW.seq ?_
    refine AW.region ?_
    refine AO.p (Yp.indexE rfl rfl rfl rfl rfl rfl rfl (map_get (by assumption))) rfl ?_
    first
    | refine AO.d (Yd.loadE rfl rfl rfl) rfl ?_
    | refine AO.d (Yd.loadO 0 0 0 rfl rfl rfl rfl rfl rfl) rfl ?_
    | refine AO.d (Yd.loadO 1 0 0 rfl rfl rfl rfl rfl rfl) rfl ?_
    | refine AO.d (Yd.loadO 2 0 0 rfl rfl rfl rfl rfl rfl) rfl ?_
    | refine AO.d (Yd.loadO 3 0 0 rfl rfl rfl rfl rfl rfl) rfl ?_
    | refine AO.d (Yd.loadO 4 0 0 rfl rfl rfl rfl rfl rfl) rfl ?_
    | refine AO.d (Yd.loadO 5 0 0 rfl rfl rfl rfl rfl rfl) rfl ?_
    refine AO.act [] rfl (AX.alloc rfl rfl rfl rfl rfl (dst_some rfl) (fun b9 => ?_))
    first
    | refine AO.act [0] rfl (AX.store 0 0 0 rfl rfl rfl rfl rfl rfl rfl rfl (le_ble rfl) rfl ?_)
    | refine AO.act [1] rfl (AX.store 1 0 0 rfl rfl rfl rfl rfl rfl rfl rfl (le_ble rfl) rfl ?_)
    | refine AO.act [2] rfl (AX.store 2 0 0 rfl rfl rfl rfl rfl rfl rfl rfl (le_ble rfl) rfl ?_)
    | refine AO.act [3] rfl (AX.store 3 0 0 rfl rfl rfl rfl rfl rfl rfl rfl (le_ble rfl) rfl ?_)
    | refine AO.act [4] rfl (AX.store 4 0 0 rfl rfl rfl rfl rfl rfl rfl rfl (le_ble rfl) rfl ?_)
    | refine AO.act [5] rfl (AX.store 5 0 0 rfl rfl rfl rfl rfl rfl rfl rfl (le_ble rfl) rfl ?_)
    refine AO.nil ?_
    refine AW.regionD (.still 0 (.still 1 (.still 2 (.still 3 (.still 4 (.still 5 (.still 6 (.still 7 (.still 8 (.still 9 .nil)))))))))) [0] [_] (by kernel_rfl) rfl ?_
    refine AP.op rfl (Yp.move rfl) rfl ?_
    first
    | refine AP.op rfl (Yp.fieldPtr rfl rfl rfl rfl rfl rfl) rfl ?_
    | refine AP.op rfl (Yp.fieldE rfl rfl rfl rfl rfl rfl rfl) rfl ?_
    first
    | refine AP.o rfl (Yd.loadE rfl rfl rfl) rfl ?_
    | refine AP.o rfl (Yd.loadO 0 0 0 rfl rfl rfl rfl rfl rfl) rfl ?_
    | refine AP.o rfl (Yd.loadO 1 0 0 rfl rfl rfl rfl rfl rfl) rfl ?_
    | refine AP.o rfl (Yd.loadO 2 0 0 rfl rfl rfl rfl rfl rfl) rfl ?_
    | refine AP.o rfl (Yd.loadO 3 0 0 rfl rfl rfl rfl rfl rfl) rfl ?_
    | refine AP.o rfl (Yd.loadO 4 0 0 rfl rfl rfl rfl rfl rfl) rfl ?_
    | refine AP.o rfl (Yd.loadO 5 0 0 rfl rfl rfl rfl rfl rfl) rfl ?_
    first
    | refine AP.op rfl (Yp.binI rfl rfl (w64 (by omega))) rfl ?_
    | refine AP.op rfl (Yp.binI rfl rfl rfl) rfl ?_
    refine AP.op rfl (Yp.move rfl) rfl ?_
    first
    | refine AP.op rfl (Yp.fieldPtr rfl rfl rfl rfl rfl rfl) rfl ?_
    | refine AP.op rfl (Yp.fieldE rfl rfl rfl rfl rfl rfl rfl) rfl ?_
    first
    | refine AP.o rfl (Yd.loadE rfl rfl rfl) rfl ?_
    | refine AP.o rfl (Yd.loadO 0 0 1 rfl rfl rfl rfl rfl rfl) rfl ?_
    | refine AP.o rfl (Yd.loadO 1 0 1 rfl rfl rfl rfl rfl rfl) rfl ?_
    | refine AP.o rfl (Yd.loadO 2 0 1 rfl rfl rfl rfl rfl rfl) rfl ?_
    | refine AP.o rfl (Yd.loadO 3 0 1 rfl rfl rfl rfl rfl rfl) rfl ?_
    | refine AP.o rfl (Yd.loadO 4 0 1 rfl rfl rfl rfl rfl rfl) rfl ?_
    | refine AP.o rfl (Yd.loadO 5 0 1 rfl rfl rfl rfl rfl rfl) rfl ?_
    first
    | refine AP.op rfl (Yp.binI rfl rfl (w64 (by omega))) rfl ?_
    | refine AP.op rfl (Yp.binI rfl rfl rfl) rfl ?_
    refine AP.op rfl (Yp.assign rfl) rfl ?_
    refine AP.op rfl (Yp.assign rfl) rfl ?_
    refine AP.nil ?_
    refine AW.region ?_
    first
    | refine AO.p (Yp.binI rfl rfl (w64 (by omega))) rfl ?_
    | refine AO.p (Yp.binI rfl rfl rfl) rfl ?_
    refine AO.p (Yp.move rfl) rfl ?_
    refine AO.nil ?_
    refine ⟨_, _, _, ?_, ⟨k + 1, by omega, rfl, rfl, rfl⟩, ⟨get_i ?_, get_i ?_, get_i ?_, rfl, rfl, trivial⟩, List.nil_sublist _⟩
    · omega
    · rw [take_one hx, sI_snoc]
    · rw [take_one hx, sO_snoc]
    · simp
  · intro hc1
    replace hc1 := of_decide_eq_false hc1
    simp only [List.length_map] at hc1
    have hke : k = (seg l a b).length := by omega
    subst hke
    clear hb1 hb2
    refine AW.exit ?_
    refine AW.seq ?_
    refine AW.region ?_
    refine AO.p (Yp.move rfl) rfl ?_
    refine AO.p (Yp.move rfl) rfl ?_
    refine AO.p (Yp.assign rfl) rfl ?_
    refine AO.p (Yp.assign rfl) rfl ?_
    refine AO.nil ?_
    refine AW.ret ?_
    exact ⟨.inr rfl, [_, _], [], ⟨rfl, rfl, trivial⟩, List.nil_sublist _, by simp [resV, List.take_length]⟩

set_option maxRecDepth 100000 in
theorem window (l : List Bal) (a b : Int) : ACalls Try.env 52 [encBals l, .v (.int .i64 a), .v (.int .i64 b)] [] fun x _ => x = .v (.bool (winB l a b)) := by
  refine ACalls.of_body Try.func52 rfl rfl rfl (fun C hC => ?_)
  refine AW.seq ?_
  refine AW.region ?_
  refine AO.p (Yp.assign rfl) rfl ?_
  refine AO.nil ?_
  refine AW.seq ?_
  refine AW.region ?_
  refine AO.p (Yp.move rfl) rfl ?_
  refine AO.p (Yp.cmpI rfl rfl rfl) rfl ?_
  refine AO.p (Yp.move rfl) rfl ?_
  refine AO.g rfl rfl (dst_some rfl) ?_ ?_
  · intro hg1_3
    first
    | replace hg1_3 := of_decide_eq_true hg1_3
    | skip
    refine AO.p (Yp.move rfl) rfl ?_
    refine AO.g rfl rfl (dst_some rfl) (fun _ => ?_) (fun h => absurd h (by decide))
    refine AO.p (Yp.move rfl) rfl ?_
    refine AO.g rfl rfl (dst_some rfl) (fun _ => ?_) (fun h => absurd h (by decide))
    refine AO.p (Yp.cmpI rfl rfl rfl) rfl ?_
    first
    | refine AO.p (Yp.pickT rfl rfl) rfl ?_
    | refine AO.p (Yp.pickF rfl rfl) rfl ?_
    | refine AO.p (Yp.pickB rfl rfl rfl) rfl ?_
    refine AO.p (Yp.move rfl) rfl ?_
    refine AO.g rfl rfl (dst_some rfl) ?_ ?_
    · intro hg1_8
      first
      | replace hg1_8 := of_decide_eq_true hg1_8
      | skip
      refine AO.p (Yp.move rfl) rfl ?_
      refine AO.g rfl rfl (dst_some rfl) (fun _ => ?_) (fun h => absurd h (by decide))
      refine AO.p (Yp.move rfl) rfl ?_
      refine AO.g rfl rfl (dst_some rfl) (fun _ => ?_) (fun h => absurd h (by decide))
      first
      | refine AO.p (Yp.lenList rfl rfl rfl) rfl ?_
      | refine AO.p (Yp.lenSlice rfl rfl rfl) rfl ?_
      | refine AO.p (Yp.lenString rfl rfl rfl) rfl ?_
      refine AO.g rfl rfl (dst_some rfl) (fun _ => ?_) (fun h => absurd h (by decide))
      refine AO.p (Yp.cmpI rfl rfl rfl) rfl ?_
      first
      | refine AO.p (Yp.pickT rfl rfl) rfl ?_
      | refine AO.p (Yp.pickF rfl rfl) rfl ?_
      | refine AO.p (Yp.pickB rfl rfl rfl) rfl ?_
      refine AO.p (Yp.assign rfl) rfl ?_
      refine AO.nil ?_
      refine AW.ret ?_
      exact ⟨.inr rfl, [_], [], ⟨rfl, trivial⟩, List.nil_sublist _, by refine bool_eq ?_; simp only [winB, decide_eq_true_eq, Bool.false_eq_true, List.length_map, false_iff, true_iff]; omega⟩
    · intro hg1_8
      first
      | replace hg1_8 := of_decide_eq_false hg1_8
      | skip
      refine AO.g rfl rfl (dst_some rfl) (fun h => absurd h (by decide)) (fun _ => ?_)
      refine AO.g rfl rfl (dst_some rfl) (fun h => absurd h (by decide)) (fun _ => ?_)
      refine AO.g rfl rfl (dst_some rfl) (fun h => absurd h (by decide)) (fun _ => ?_)
      first
      | refine AO.p (Yp.pickT rfl rfl) rfl ?_
      | refine AO.p (Yp.pickF rfl rfl) rfl ?_
      | refine AO.p (Yp.pickB rfl rfl rfl) rfl ?_
      refine AO.p (Yp.assign rfl) rfl ?_
      refine AO.nil ?_
      refine AW.ret ?_
      exact ⟨.inr rfl, [_], [], ⟨rfl, trivial⟩, List.nil_sublist _, by refine bool_eq ?_; simp only [winB, decide_eq_true_eq, Bool.false_eq_true, List.length_map, false_iff, true_iff]; omega⟩
  · intro hg1_3
    first
    | replace hg1_3 := of_decide_eq_false hg1_3
    | skip
    refine AO.g rfl rfl (dst_some rfl) (fun h => absurd h (by decide)) (fun _ => ?_)
    refine AO.g rfl rfl (dst_some rfl) (fun h => absurd h (by decide)) (fun _ => ?_)
    first
    | refine AO.p (Yp.pickT rfl rfl) rfl ?_
    | refine AO.p (Yp.pickF rfl rfl) rfl ?_
    | refine AO.p (Yp.pickB rfl rfl rfl) rfl ?_
    refine AO.p (Yp.move rfl) rfl ?_
    refine AO.g rfl rfl (dst_some rfl) (fun h => absurd h (by decide)) (fun _ => ?_)
    refine AO.g rfl rfl (dst_some rfl) (fun h => absurd h (by decide)) (fun _ => ?_)
    refine AO.g rfl rfl (dst_some rfl) (fun h => absurd h (by decide)) (fun _ => ?_)
    refine AO.g rfl rfl (dst_some rfl) (fun h => absurd h (by decide)) (fun _ => ?_)
    first
    | refine AO.p (Yp.pickT rfl rfl) rfl ?_
    | refine AO.p (Yp.pickF rfl rfl) rfl ?_
    | refine AO.p (Yp.pickB rfl rfl rfl) rfl ?_
    refine AO.p (Yp.assign rfl) rfl ?_
    refine AO.nil ?_
    refine AW.ret ?_
    exact ⟨.inr rfl, [_], [], ⟨rfl, trivial⟩, List.nil_sublist _, by refine bool_eq ?_; simp only [winB, decide_eq_true_eq, Bool.false_eq_true, List.length_map, false_iff, true_iff]; omega⟩

set_option maxRecDepth 100000 in
theorem volume (x : Int) : ACalls Try.env 51 [.v (.int .i64 x)] [] fun y _ => y = .v (.bool (volB x)) := by
  refine ACalls.of_body Try.func51 rfl rfl rfl (fun C hC => ?_)
  refine AW.seq ?_
  refine AW.region ?_
  refine AO.p (Yp.assign rfl) rfl ?_
  refine AO.nil ?_
  refine AW.seq ?_
  refine AW.region ?_
  refine AO.p (Yp.move rfl) rfl ?_
  refine AO.p (Yp.cmpI rfl rfl rfl) rfl ?_
  refine AO.p (Yp.move rfl) rfl ?_
  refine AO.g rfl rfl (dst_some rfl) ?_ ?_
  · intro hg1_3
    first
    | replace hg1_3 := of_decide_eq_true hg1_3
    | skip
    refine AO.p (Yp.move rfl) rfl ?_
    refine AO.g rfl rfl (dst_some rfl) (fun _ => ?_) (fun h => absurd h (by decide))
    refine AO.p (Yp.cmpI rfl rfl rfl) rfl ?_
    first
    | refine AO.p (Yp.pickT rfl rfl) rfl ?_
    | refine AO.p (Yp.pickF rfl rfl) rfl ?_
    | refine AO.p (Yp.pickB rfl rfl rfl) rfl ?_
    refine AO.p (Yp.assign rfl) rfl ?_
    refine AO.nil ?_
    refine AW.ret ?_
    exact ⟨.inr rfl, [_], [], ⟨rfl, trivial⟩, List.nil_sublist _, by refine bool_eq ?_; simp only [volB, decide_eq_true_eq, Bool.false_eq_true, false_iff, true_iff]; omega⟩
  · intro hg1_3
    first
    | replace hg1_3 := of_decide_eq_false hg1_3
    | skip
    refine AO.g rfl rfl (dst_some rfl) (fun h => absurd h (by decide)) (fun _ => ?_)
    first
    | refine AO.p (Yp.pickT rfl rfl) rfl ?_
    | refine AO.p (Yp.pickF rfl rfl) rfl ?_
    | refine AO.p (Yp.pickB rfl rfl rfl) rfl ?_
    refine AO.p (Yp.assign rfl) rfl ?_
    refine AO.nil ?_
    refine AW.ret ?_
    exact ⟨.inr rfl, [_], [], ⟨rfl, trivial⟩, List.nil_sublist _, by refine bool_eq ?_; simp only [volB, decide_eq_true_eq, Bool.false_eq_true, false_iff, true_iff]; omega⟩

set_option maxRecDepth 100000 in
theorem check1 (b : Bal) : ACalls Try.env 50 [.agg (encBal b)] [] fun y _ => y = .v (.bool b.bad) := by
  refine ACalls.of_body Try.func50 rfl rfl rfl (fun C hC => ?_)
  refine AW.seq ?_
  refine AW.region ?_
  refine AO.act [] rfl (AX.box rfl rfl rfl (dst_some rfl) (fun b1 => ?_))
  refine AO.p (Yp.assign rfl) rfl ?_
  refine AO.nil ?_
  refine AW.seq ?_
  refine AW.region ?_
  first
  | refine AO.p (Yp.fieldPtr rfl rfl rfl rfl rfl rfl) rfl ?_
  | refine AO.p (Yp.fieldE rfl rfl rfl rfl rfl rfl rfl) rfl ?_
  refine AO.d (Yd.loadO 0 0 0 rfl rfl rfl rfl rfl rfl) rfl ?_
  refine AO.act [] rfl (AX.call0 rfl rfl rfl (volume _) (dst_some rfl) ?_)
  rintro _ ⟨_, rfl⟩
  refine AO.p (Yp.not rfl) rfl ?_
  refine AO.p (Yp.move rfl) rfl ?_
  refine AO.g rfl rfl (dst_some rfl) ?_ ?_
  · intro hg1_5
    first
    | replace hg1_5 := of_decide_eq_false hg1_5
    | skip
    first
    | refine AO.p (Yp.fieldPtr rfl rfl rfl rfl rfl rfl) rfl ?_
    | refine AO.p (Yp.fieldE rfl rfl rfl rfl rfl rfl rfl) rfl ?_
    refine AO.g rfl rfl (dst_some rfl) (fun _ => ?_) (fun h => absurd h (by decide))
    refine AO.d (Yd.loadO 0 0 1 rfl rfl rfl rfl rfl rfl) rfl ?_
    refine AO.g rfl rfl (dst_some rfl) (fun _ => ?_) (fun h => absurd h (by decide))
    refine AO.act [] rfl (AX.call0 rfl rfl rfl (volume _) (dst_some rfl) ?_)
    rintro _ ⟨_, rfl⟩
    refine AO.g rfl rfl (dst_some rfl) (fun _ => ?_) (fun h => absurd h (by decide))
    refine AO.p (Yp.not rfl) rfl ?_
    first
    | refine AO.p (Yp.pickT rfl rfl) rfl ?_
    | refine AO.p (Yp.pickF rfl rfl) rfl ?_
    | refine AO.p (Yp.pickB rfl rfl rfl) rfl ?_
    refine AO.p (Yp.move rfl) rfl ?_
    refine AO.g rfl rfl (dst_some rfl) ?_ ?_
    · intro hg1_11
      first
      | replace hg1_11 := of_decide_eq_false hg1_11
      | skip
      first
      | refine AO.p (Yp.fieldPtr rfl rfl rfl rfl rfl rfl) rfl ?_
      | refine AO.p (Yp.fieldE rfl rfl rfl rfl rfl rfl rfl) rfl ?_
      refine AO.g rfl rfl (dst_some rfl) (fun _ => ?_) (fun h => absurd h (by decide))
      refine AO.d (Yd.loadO 0 0 2 rfl rfl rfl rfl rfl rfl) rfl ?_
      refine AO.g rfl rfl (dst_some rfl) (fun _ => ?_) (fun h => absurd h (by decide))
      refine AO.act [] rfl (AX.call0 rfl rfl rfl (volume _) (dst_some rfl) ?_)
      rintro _ ⟨_, rfl⟩
      refine AO.g rfl rfl (dst_some rfl) (fun _ => ?_) (fun h => absurd h (by decide))
      refine AO.p (Yp.not rfl) rfl ?_
      first
      | refine AO.p (Yp.pickT rfl rfl) rfl ?_
      | refine AO.p (Yp.pickF rfl rfl) rfl ?_
      | refine AO.p (Yp.pickB rfl rfl rfl) rfl ?_
      refine AO.p (Yp.assign rfl) rfl ?_
      refine AO.nil ?_
      refine AW.ret ?_
      exact ⟨.inr rfl, [_], [], ⟨rfl, trivial⟩, List.nil_sublist _, by simp only [resV, Bal.bad]; rw [hg1_5, hg1_11]; rfl⟩
    · intro hg1_11
      first
      | replace hg1_11 := of_decide_eq_true hg1_11
      | skip
      refine AO.g rfl rfl (dst_some rfl) (fun h => absurd h (by decide)) (fun _ => ?_)
      refine AO.g rfl rfl (dst_some rfl) (fun h => absurd h (by decide)) (fun _ => ?_)
      refine AO.g rfl rfl (dst_some rfl) (fun h => absurd h (by decide)) (fun _ => ?_)
      first
      | refine AO.p (Yp.pickT rfl rfl) rfl ?_
      | refine AO.p (Yp.pickF rfl rfl) rfl ?_
      | refine AO.p (Yp.pickB rfl rfl rfl) rfl ?_
      refine AO.p (Yp.assign rfl) rfl ?_
      refine AO.nil ?_
      refine AW.ret ?_
      exact ⟨.inr rfl, [_], [], ⟨rfl, trivial⟩, List.nil_sublist _, by simp only [resV, Bal.bad]; rw [hg1_11]; cases volB b.i <;> rfl⟩
  · intro hg1_5
    first
    | replace hg1_5 := of_decide_eq_true hg1_5
    | skip
    refine AO.g rfl rfl (dst_some rfl) (fun h => absurd h (by decide)) (fun _ => ?_)
    refine AO.g rfl rfl (dst_some rfl) (fun h => absurd h (by decide)) (fun _ => ?_)
    refine AO.g rfl rfl (dst_some rfl) (fun h => absurd h (by decide)) (fun _ => ?_)
    first
    | refine AO.p (Yp.pickT rfl rfl) rfl ?_
    | refine AO.p (Yp.pickF rfl rfl) rfl ?_
    | refine AO.p (Yp.pickB rfl rfl rfl) rfl ?_
    refine AO.p (Yp.move rfl) rfl ?_
    refine AO.g rfl rfl (dst_some rfl) (fun h => absurd h (by decide)) (fun _ => ?_)
    refine AO.g rfl rfl (dst_some rfl) (fun h => absurd h (by decide)) (fun _ => ?_)
    refine AO.g rfl rfl (dst_some rfl) (fun h => absurd h (by decide)) (fun _ => ?_)
    refine AO.g rfl rfl (dst_some rfl) (fun h => absurd h (by decide)) (fun _ => ?_)
    first
    | refine AO.p (Yp.pickT rfl rfl) rfl ?_
    | refine AO.p (Yp.pickF rfl rfl) rfl ?_
    | refine AO.p (Yp.pickB rfl rfl rfl) rfl ?_
    refine AO.p (Yp.assign rfl) rfl ?_
    refine AO.nil ?_
    refine AW.ret ?_
    exact ⟨.inr rfl, [_], [], ⟨rfl, trivial⟩, List.nil_sublist _, by simp only [resV, Bal.bad]; rw [hg1_5]; rfl⟩

set_option maxRecDepth 100000 in
theorem accurate (a : Acc) : ACalls Try.env 37 [.agg (encAcc a)] [] fun y _ => y = .v (.bool a.good) := by
  refine ACalls.of_body Try.func37 rfl rfl rfl (fun C hC => ?_)
  refine AW.seq ?_
  refine AW.region ?_
  refine AO.act [] rfl (AX.box rfl rfl rfl (dst_some rfl) (fun b1 => ?_))
  refine AO.p (Yp.assign rfl) rfl ?_
  refine AO.nil ?_
  refine AW.seq ?_
  refine AW.region ?_
  first
  | refine AO.p (Yp.fieldPtr rfl rfl rfl rfl rfl rfl) rfl ?_
  | refine AO.p (Yp.fieldE rfl rfl rfl rfl rfl rfl rfl) rfl ?_
  refine AO.d (Yd.loadO 0 0 0 rfl rfl rfl rfl rfl rfl) rfl ?_
  refine AO.p (Yp.cmpI rfl rfl rfl) rfl ?_
  refine AO.p (Yp.move rfl) rfl ?_
  refine AO.g rfl rfl (dst_some rfl) ?_ ?_
  · intro hg1_4
    first
    | replace hg1_4 := of_decide_eq_true hg1_4
    | skip
    first
    | refine AO.p (Yp.fieldPtr rfl rfl rfl rfl rfl rfl) rfl ?_
    | refine AO.p (Yp.fieldE rfl rfl rfl rfl rfl rfl rfl) rfl ?_
    refine AO.g rfl rfl (dst_some rfl) (fun _ => ?_) (fun h => absurd h (by decide))
    refine AO.d (Yd.loadO 0 0 0 rfl rfl rfl rfl rfl rfl) rfl ?_
    refine AO.g rfl rfl (dst_some rfl) (fun _ => ?_) (fun h => absurd h (by decide))
    refine AO.p (Yp.cmpI rfl rfl rfl) rfl ?_
    first
    | refine AO.p (Yp.pickT rfl rfl) rfl ?_
    | refine AO.p (Yp.pickF rfl rfl) rfl ?_
    | refine AO.p (Yp.pickB rfl rfl rfl) rfl ?_
    refine AO.p (Yp.move rfl) rfl ?_
    refine AO.g rfl rfl (dst_some rfl) ?_ ?_
    · intro hg1_9
      first
      | replace hg1_9 := of_decide_eq_true hg1_9
      | skip
      first
      | refine AO.p (Yp.fieldPtr rfl rfl rfl rfl rfl rfl) rfl ?_
      | refine AO.p (Yp.fieldE rfl rfl rfl rfl rfl rfl rfl) rfl ?_
      refine AO.g rfl rfl (dst_some rfl) (fun _ => ?_) (fun h => absurd h (by decide))
      refine AO.d (Yd.loadO 0 0 1 rfl rfl rfl rfl rfl rfl) rfl ?_
      refine AO.g rfl rfl (dst_some rfl) (fun _ => ?_) (fun h => absurd h (by decide))
      refine AO.act [] rfl (AX.call0 rfl rfl rfl (volume _) (dst_some rfl) ?_)
      rintro _ ⟨_, rfl⟩
      first
      | refine AO.p (Yp.pickT rfl rfl) rfl ?_
      | refine AO.p (Yp.pickF rfl rfl) rfl ?_
      | refine AO.p (Yp.pickB rfl rfl rfl) rfl ?_
      refine AO.p (Yp.assign rfl) rfl ?_
      refine AO.nil ?_
      refine AW.ret ?_
      exact ⟨.inr rfl, [_], [], ⟨rfl, trivial⟩, List.nil_sublist _, by simp only [resV, Acc.good]; rw [decide_eq_true (by omega)]; rfl⟩
    · intro hg1_9
      first
      | replace hg1_9 := of_decide_eq_false hg1_9
      | skip
      refine AO.g rfl rfl (dst_some rfl) (fun h => absurd h (by decide)) (fun _ => ?_)
      refine AO.g rfl rfl (dst_some rfl) (fun h => absurd h (by decide)) (fun _ => ?_)
      first
      | refine AO.p (Yp.pickT rfl rfl) rfl ?_
      | refine AO.p (Yp.pickF rfl rfl) rfl ?_
      | refine AO.p (Yp.pickB rfl rfl rfl) rfl ?_
      refine AO.p (Yp.assign rfl) rfl ?_
      refine AO.nil ?_
      refine AW.ret ?_
      exact ⟨.inr rfl, [_], [], ⟨rfl, trivial⟩, List.nil_sublist _, by simp only [resV, Acc.good]; rw [decide_eq_false (by omega)]; rfl⟩
  · intro hg1_4
    first
    | replace hg1_4 := of_decide_eq_false hg1_4
    | skip
    refine AO.g rfl rfl (dst_some rfl) (fun h => absurd h (by decide)) (fun _ => ?_)
    refine AO.g rfl rfl (dst_some rfl) (fun h => absurd h (by decide)) (fun _ => ?_)
    first
    | refine AO.p (Yp.pickT rfl rfl) rfl ?_
    | refine AO.p (Yp.pickF rfl rfl) rfl ?_
    | refine AO.p (Yp.pickB rfl rfl rfl) rfl ?_
    refine AO.p (Yp.move rfl) rfl ?_
    refine AO.g rfl rfl (dst_some rfl) (fun h => absurd h (by decide)) (fun _ => ?_)
    refine AO.g rfl rfl (dst_some rfl) (fun h => absurd h (by decide)) (fun _ => ?_)
    refine AO.g rfl rfl (dst_some rfl) (fun h => absurd h (by decide)) (fun _ => ?_)
    first
    | refine AO.p (Yp.pickT rfl rfl) rfl ?_
    | refine AO.p (Yp.pickF rfl rfl) rfl ?_
    | refine AO.p (Yp.pickB rfl rfl rfl) rfl ?_
    refine AO.p (Yp.assign rfl) rfl ?_
    refine AO.nil ?_
    refine AW.ret ?_
    exact ⟨.inr rfl, [_], [], ⟨rfl, trivial⟩, List.nil_sublist _, by simp only [resV, Acc.good]; rw [decide_eq_false (by omega)]; rfl⟩

set_option maxRecDepth 100000 in
theorem bal_index (l : List Bal) (hl : l.length ≤ 1000000) (fid : Nat) (first cap : Array Value) (p : Bal → Bool)
    (hf : ∀ x, x ∈ l → ACalls Try.env fid (first.toList.map T.v ++ [.agg (encBal x)] ++ cap.toList.map T.v) [] fun y _ => y = .v (.bool (p x))) :
    ACalls Try.env 71 [.list 3 (l.map encBal), .v (.func (.func fid) first cap)] [] fun y _ => y = .v (.int .i64 (match l.findIdx? p with | some i => (i : Int) | none => -1)) := by
  refine ACalls.of_body Try.func71 rfl rfl rfl (fun C hC => ?_)
  refine AW.seq ?_
  refine AW.region ?_
  refine AO.p (Yp.assign rfl) rfl ?_
  refine AO.nil ?_
  refine AW.seq ?_
  refine AW.seq ?_
  refine AW.region ?_
  refine AO.p (Yp.move rfl) rfl ?_
  first
  | refine AO.p (Yp.lenList rfl rfl rfl) rfl ?_
  | refine AO.p (Yp.lenSlice rfl rfl rfl) rfl ?_
  | refine AO.p (Yp.lenString rfl rfl rfl) rfl ?_
  refine AO.p (Yp.move rfl) rfl ?_
  refine AO.nil ?_
  refine AW.block ?_
  refine AW.loopK [(0, _), (1, _), (7, _)] ⟨rfl, rfl, rfl, trivial⟩ (fun m s ob => ∃ k : Nat, k ≤ l.length ∧ m = l.length - k ∧ ob = [] ∧ s = [(8, .v (.int .i64 k))] ∧ (l.take k).findIdx? p = none) (m := _) (s0 := _) (ob0 := _) (⟨0, by omega, rfl, rfl, rfl, by simp⟩) ⟨rfl, trivial⟩ (List.Sublist.refl _) ?_
  rintro m s ob ⟨k, hk, rfl, rfl, rfl, hn⟩
  refine AW.seq ?_
  refine AW.region ?_
  refine AO.p (Yp.cmpI rfl rfl rfl) rfl ?_
  refine AO.nil ?_
  refine AW.seq ?_
  refine AW.cond rfl rfl ?_ ?_
  · intro hc1
    replace hc1 := of_decide_eq_true hc1
    simp only [List.length_map] at hc1
    obtain ⟨x, hx⟩ := get_ex (show k < l.length by omega)
    refine AW.skip ?_
    refine AW.seq ?_
    refine AW.block ?_
    refine AW.seq ?_
    refine AW.region ?_
    refine AO.p (Yp.move rfl) rfl ?_
    refine AO.p (Yp.assign rfl) rfl ?_
    refine AO.nil ?_
    refine AW.seq ?_
    refine AW.region ?_
    refine AO.p (Yp.move rfl) rfl ?_
    refine AO.p (Yp.move rfl) rfl ?_
    refine AO.p (Yp.move rfl) rfl ?_
    refine AO.p (Yp.indexE rfl rfl rfl rfl rfl rfl rfl (map_get (by assumption))) rfl ?_
    first
    | refine AO.d (Yd.loadE rfl rfl rfl) rfl ?_
    | refine AO.d (Yd.loadO 0 0 0 rfl rfl rfl rfl rfl rfl) rfl ?_
    | refine AO.d (Yd.loadO 1 0 0 rfl rfl rfl rfl rfl rfl) rfl ?_
    | refine AO.d (Yd.loadO 2 0 0 rfl rfl rfl rfl rfl rfl) rfl ?_
    | refine AO.d (Yd.loadO 3 0 0 rfl rfl rfl rfl rfl rfl) rfl ?_
    | refine AO.d (Yd.loadO 4 0 0 rfl rfl rfl rfl rfl rfl) rfl ?_
    | refine AO.d (Yd.loadO 5 0 0 rfl rfl rfl rfl rfl rfl) rfl ?_
    refine AO.act [] rfl (AX.call0 rfl rfl rfl (hf x (List.mem_of_getElem? hx)) (dst_some rfl) ?_)
    rintro _ ⟨_, rfl⟩
    refine AO.nil ?_
    refine AW.cond rfl rfl ?_ ?_
    · intro hc2
      skip
      refine AW.seq ?_
      refine AW.region ?_
      refine AO.p (Yp.move rfl) rfl ?_
      refine AO.p (Yp.assign rfl) rfl ?_
      refine AO.nil ?_
      refine AW.ret ?_
      exact ⟨.inr rfl, [_], [], ⟨rfl, trivial⟩, List.nil_sublist _, by simp only [resV]; rw [findIdx_at hn hx hc2]⟩
    · intro hc2
      skip
      refine AW.skip ?_
      refine AW.region ?_
      first
      | refine AO.p (Yp.binI rfl rfl (w64 (by omega))) rfl ?_
      | refine AO.p (Yp.binI rfl rfl rfl) rfl ?_
      refine AO.p (Yp.move rfl) rfl ?_
      refine AO.nil ?_
      refine ⟨_, _, _, ?_, ⟨k + 1, by omega, rfl, rfl, rfl, ?_⟩, ⟨get_i ?_, rfl, rfl, rfl, trivial⟩, List.nil_sublist _⟩
      · omega
      · rw [take_one hx, List.findIdx?_append, hn]; simp [hc2]
      · simp
  · intro hc1
    replace hc1 := of_decide_eq_false hc1
    simp only [List.length_map] at hc1
    have hke : k = l.length := by omega
    subst hke
    rw [List.take_length] at hn
    refine AW.exit ?_
    refine AW.seq ?_
    refine AW.region ?_
    refine AO.p (Yp.assign rfl) rfl ?_
    refine AO.nil ?_
    refine AW.ret ?_
    exact ⟨.inr rfl, [_], [], ⟨rfl, trivial⟩, List.nil_sublist _, by simp only [resV]; rw [hn]⟩

set_option maxRecDepth 100000 in
theorem bal_contains (l : List Bal) (hl : l.length ≤ 1000000) (fid : Nat) (first cap : Array Value) (p : Bal → Bool)
    (hf : ∀ x, x ∈ l → ACalls Try.env fid (first.toList.map T.v ++ [.agg (encBal x)] ++ cap.toList.map T.v) [] fun y _ => y = .v (.bool (p x))) :
    ACalls Try.env 49 [.list 3 (l.map encBal), .v (.func (.func fid) first cap)] [] fun y _ => y = .v (.bool (l.any p)) := by
  refine ACalls.of_body Try.func49 rfl rfl rfl (fun C hC => ?_)
  refine AW.seq ?_
  refine AW.region ?_
  refine AO.p (Yp.assign rfl) rfl ?_
  refine AO.nil ?_
  refine AW.seq ?_
  refine AW.region ?_
  refine AO.p (Yp.move rfl) rfl ?_
  refine AO.p (Yp.move rfl) rfl ?_
  refine AO.act [] rfl (AX.call0 rfl rfl rfl (bal_index _ (by assumption) _ _ _ _ (by assumption)) (dst_some rfl) ?_)
  rintro _ ⟨_, rfl⟩
  refine AO.p (Yp.cmpI rfl rfl rfl) rfl ?_
  refine AO.p (Yp.assign rfl) rfl ?_
  refine AO.nil ?_
  refine AW.ret ?_
  exact ⟨.inr rfl, [_], [], ⟨rfl, trivial⟩, List.nil_sublist _, by simp only [resV]; rw [find_any]⟩

set_option maxRecDepth 100000 in
theorem check (l : List Bal) : ACalls Try.env 36 [encBals l] [] fun y _ => y = .v (.int .i64 (chkE l)) := by
  refine ACalls.of_body Try.func36 rfl rfl rfl (fun C hC => ?_)
  refine AW.seq ?_
  refine AW.region ?_
  refine AO.p (Yp.assign rfl) rfl ?_
  refine AO.nil ?_
  refine AW.seq ?_
  refine AW.seq ?_
  refine AW.region ?_
  refine AO.p (Yp.move rfl) rfl ?_
  first
  | refine AO.p (Yp.lenList rfl rfl rfl) rfl ?_
  | refine AO.p (Yp.lenSlice rfl rfl rfl) rfl ?_
  | refine AO.p (Yp.lenString rfl rfl rfl) rfl ?_
  refine AO.p (Yp.cmpI rfl rfl rfl) rfl ?_
  refine AO.nil ?_
  refine AW.cond rfl rfl ?_ ?_
  · intro hc1
    replace hc1 := of_decide_eq_true hc1
    simp only [List.length_map] at hc1
    refine AW.seq ?_
    refine AW.region ?_
    refine AO.p (Yp.assign rfl) rfl ?_
    refine AO.nil ?_
    refine AW.ret ?_
    exact ⟨.inr rfl, [_], [], ⟨rfl, trivial⟩, List.nil_sublist _, by simp only [resV]; rw [chkE, if_pos (by omega)]⟩
  · intro hc1
    replace hc1 := of_decide_eq_false hc1
    simp only [List.length_map] at hc1
    refine AW.skip ?_
    refine AW.seq ?_
    refine AW.seq ?_
    refine AW.region ?_
    refine AO.p (Yp.move rfl) rfl ?_
    refine AO.act [] rfl (AX.call0 rfl rfl rfl (bal_contains l (by omega) 50 _ _ Bal.bad (fun x _ => check1 x)) (dst_some rfl) ?_)
    rintro _ ⟨_, rfl⟩
    refine AO.nil ?_
    refine AW.cond rfl rfl ?_ ?_
    · intro hc2
      refine AW.seq ?_
      refine AW.region ?_
      refine AO.p (Yp.assign rfl) rfl ?_
      refine AO.nil ?_
      refine AW.ret ?_
      exact ⟨.inr rfl, [_], [], ⟨rfl, trivial⟩, List.nil_sublist _, by simp only [resV]; rw [chkE, if_neg (by omega), if_pos hc2]⟩
    · intro hc2
      refine AW.skip ?_
      refine AW.seq ?_
      refine AW.region ?_
      refine AO.p (Yp.assign rfl) rfl ?_
      refine AO.nil ?_
      refine AW.ret ?_
      exact ⟨.inr rfl, [_], [], ⟨rfl, trivial⟩, List.nil_sublist _, by simp only [resV]; rw [chkE, if_neg (by omega), if_neg (by simp [hc2])]⟩

set_option maxRecDepth 100000 in
theorem divide (a b : Int) (hb : 1 ≤ b) (hb2 : b ≤ 1099511627776) (ha : -2305843009213693952 ≤ a) (ha2 : a ≤ 2305843009213693952) :
    ACalls Try.env 76 [.v (.int .i64 a), .v (.int .i64 b)] [] fun x _ => x = .tup [.v (.int .i64 (a / b)), .v (.int .i64 (a % b)), .v (.bool true)] := by
  refine ACalls.of_body Try.func76 rfl rfl rfl (fun C hC => ?_)
  refine AW.seq ?_
  refine AW.region ?_
  refine AO.p (Yp.assign rfl) rfl ?_
  refine AO.p (Yp.assign rfl) rfl ?_
  refine AO.p (Yp.assign rfl) rfl ?_
  refine AO.nil ?_
  refine AW.seq ?_
  refine AW.seq ?_
  refine AW.region ?_
  refine AO.p (Yp.move rfl) rfl ?_
  refine AO.p (Yp.cmpI rfl rfl rfl) rfl ?_
  refine AO.p (Yp.move rfl) rfl ?_
  refine AO.g rfl rfl (dst_some rfl) ?_ ?_
  · intro hg1_3
    first
    | replace hg1_3 := of_decide_eq_false hg1_3
    | skip
    refine AO.p (Yp.move rfl) rfl ?_
    refine AO.g rfl rfl (dst_some rfl) (fun _ => ?_) (fun h => absurd h (by decide))
    refine AO.p (Yp.cmpI rfl rfl rfl) rfl ?_
    first
    | refine AO.p (Yp.pickT rfl rfl) rfl ?_
    | refine AO.p (Yp.pickF rfl rfl) rfl ?_
    | refine AO.p (Yp.pickB rfl rfl rfl) rfl ?_
    refine AO.p (Yp.move rfl) rfl ?_
    refine AO.g rfl rfl (dst_some rfl) ?_ ?_
    · intro hg1_7
      first
      | replace hg1_7 := of_decide_eq_false hg1_7
      | skip
      refine AO.p (Yp.move rfl) rfl ?_
      refine AO.g rfl rfl (dst_some rfl) (fun _ => ?_) (fun h => absurd h (by decide))
      refine AO.p (Yp.cmpI rfl rfl rfl) rfl ?_
      first
      | refine AO.p (Yp.pickT rfl rfl) rfl ?_
      | refine AO.p (Yp.pickF rfl rfl) rfl ?_
      | refine AO.p (Yp.pickB rfl rfl rfl) rfl ?_
      refine AO.p (Yp.move rfl) rfl ?_
      refine AO.g rfl rfl (dst_some rfl) ?_ ?_
      · intro hg1_11
        first
        | replace hg1_11 := of_decide_eq_false hg1_11
        | skip
        refine AO.p (Yp.move rfl) rfl ?_
        refine AO.g rfl rfl (dst_some rfl) (fun _ => ?_) (fun h => absurd h (by decide))
        refine AO.p (Yp.cmpI rfl rfl rfl) rfl ?_
        first
        | refine AO.p (Yp.pickT rfl rfl) rfl ?_
        | refine AO.p (Yp.pickF rfl rfl) rfl ?_
        | refine AO.p (Yp.pickB rfl rfl rfl) rfl ?_
        refine AO.nil ?_
        refine AW.cond rfl rfl ?_ ?_
        · intro hc1
          exact absurd (of_decide_eq_true hc1) (by omega)
        · intro hc1
          skip
          refine AW.skip ?_
          refine AW.seq ?_
          have htb := tmod_bd (x := a) (show 0 < b by omega)
          have hdb := tdiv_bd2 (a := a) (b := b) (by omega) (by omega)
          refine AW.regionD (.still 0 (.still 1 (.still 2 (.still 3 (.still 4 (.still 5 (.still 6 (.still 7 .nil)))))))) [] [] (by kernel_rfl) rfl ?_
          refine AP.op rfl (Yp.move rfl) rfl ?_
          refine AP.op rfl (Yp.move rfl) rfl ?_
          refine AP.op rfl (Yp.binI (c := a.tdiv b) rfl rfl ⟨by omega, w64 (tdiv_bd (by omega) (by omega))⟩) rfl ?_
          refine AP.op rfl (Yp.move rfl) rfl ?_
          refine AP.op rfl (Yp.move rfl) rfl ?_
          refine AP.op rfl (Yp.binI (c := a.tmod b) rfl rfl ⟨by omega, rfl⟩) rfl ?_
          refine AP.op rfl (Yp.assign rfl) rfl ?_
          refine AP.op rfl (Yp.assign rfl) rfl ?_
          refine AP.nil ?_
          refine AW.seq ?_
          refine AW.seq ?_
          refine AW.region ?_
          refine AO.p (Yp.move rfl) rfl ?_
          refine AO.p (Yp.cmpI rfl rfl rfl) rfl ?_
          refine AO.nil ?_
          refine AW.cond rfl rfl ?_ ?_
          · intro hc2
            replace hc2 := of_decide_eq_true hc2
            refine AW.region ?_
            refine AO.p (Yp.move rfl) rfl ?_
            first
            | refine AO.p (Yp.binI rfl rfl (w64 (by omega))) rfl ?_
            | refine AO.p (Yp.binI rfl rfl rfl) rfl ?_
            refine AO.p (Yp.move rfl) rfl ?_
            refine AO.p (Yp.move rfl) rfl ?_
            first
            | refine AO.p (Yp.binI rfl rfl (w64 (by omega))) rfl ?_
            | refine AO.p (Yp.binI rfl rfl rfl) rfl ?_
            refine AO.p (Yp.assign rfl) rfl ?_
            refine AO.p (Yp.assign rfl) rfl ?_
            refine AO.nil ?_
            refine AW.seq ?_
            refine AW.region ?_
            refine AO.p (Yp.move rfl) rfl ?_
            refine AO.p (Yp.move rfl) rfl ?_
            refine AO.p (Yp.assign rfl) rfl ?_
            refine AO.p (Yp.assign rfl) rfl ?_
            refine AO.p (Yp.assign rfl) rfl ?_
            refine AO.nil ?_
            refine AW.ret ?_
            exact ⟨.inr rfl, [_, _, _], [], ⟨rfl, rfl, rfl, trivial⟩, List.nil_sublist _, by simp only [resV]; rw [tdiv_neg_ (by omega) hc2, tmod_neg (by omega) hc2]⟩
          · intro hc2
            replace hc2 := of_decide_eq_false hc2
            refine AW.skip ?_
            refine AW.seq ?_
            refine AW.region ?_
            refine AO.p (Yp.move rfl) rfl ?_
            refine AO.p (Yp.move rfl) rfl ?_
            refine AO.p (Yp.assign rfl) rfl ?_
            refine AO.p (Yp.assign rfl) rfl ?_
            refine AO.p (Yp.assign rfl) rfl ?_
            refine AO.nil ?_
            refine AW.ret ?_
            exact ⟨.inr rfl, [_, _, _], [], ⟨rfl, rfl, rfl, trivial⟩, List.nil_sublist _, by simp only [resV]; rw [tdiv_nonneg_ (by omega) (by omega), tmod_nonneg (by omega) (by omega)]⟩
      · intro hg1_11
        first
        | replace hg1_11 := of_decide_eq_true hg1_11
        | skip
        exact absurd hg1_11 (by omega)
    · intro hg1_7
      first
      | replace hg1_7 := of_decide_eq_true hg1_7
      | skip
      exact absurd hg1_7 (by omega)
  · intro hg1_3
    first
    | replace hg1_3 := of_decide_eq_true hg1_3
    | skip
    exact absurd hg1_3 (by omega)

set_option maxRecDepth 100000 in
theorem divide_no (a b : Int) (h : b < 1 ∨ 1099511627776 < b ∨ a < -2305843009213693952 ∨ 2305843009213693952 < a) :
    ACalls Try.env 76 [.v (.int .i64 a), .v (.int .i64 b)] [] fun x _ => x = .tup [.v (.int .i64 0), .v (.int .i64 0), .v (.bool false)] := by
  refine ACalls.of_body Try.func76 rfl rfl rfl (fun C hC => ?_)
  refine AW.seq ?_
  refine AW.region ?_
  refine AO.p (Yp.assign rfl) rfl ?_
  refine AO.p (Yp.assign rfl) rfl ?_
  refine AO.p (Yp.assign rfl) rfl ?_
  refine AO.nil ?_
  refine AW.seq ?_
  refine AW.seq ?_
  refine AW.region ?_
  refine AO.p (Yp.move rfl) rfl ?_
  refine AO.p (Yp.cmpI rfl rfl rfl) rfl ?_
  refine AO.p (Yp.move rfl) rfl ?_
  refine AO.g rfl rfl (dst_some rfl) ?_ ?_
  · intro hg1_3
    first
    | replace hg1_3 := of_decide_eq_false hg1_3
    | skip
    refine AO.p (Yp.move rfl) rfl ?_
    refine AO.g rfl rfl (dst_some rfl) (fun _ => ?_) (fun h => absurd h (by decide))
    refine AO.p (Yp.cmpI rfl rfl rfl) rfl ?_
    first
    | refine AO.p (Yp.pickT rfl rfl) rfl ?_
    | refine AO.p (Yp.pickF rfl rfl) rfl ?_
    | refine AO.p (Yp.pickB rfl rfl rfl) rfl ?_
    refine AO.p (Yp.move rfl) rfl ?_
    refine AO.g rfl rfl (dst_some rfl) ?_ ?_
    · intro hg1_7
      first
      | replace hg1_7 := of_decide_eq_false hg1_7
      | skip
      refine AO.p (Yp.move rfl) rfl ?_
      refine AO.g rfl rfl (dst_some rfl) (fun _ => ?_) (fun h => absurd h (by decide))
      refine AO.p (Yp.cmpI rfl rfl rfl) rfl ?_
      first
      | refine AO.p (Yp.pickT rfl rfl) rfl ?_
      | refine AO.p (Yp.pickF rfl rfl) rfl ?_
      | refine AO.p (Yp.pickB rfl rfl rfl) rfl ?_
      refine AO.p (Yp.move rfl) rfl ?_
      refine AO.g rfl rfl (dst_some rfl) ?_ ?_
      · intro hg1_11
        first
        | replace hg1_11 := of_decide_eq_false hg1_11
        | skip
        refine AO.p (Yp.move rfl) rfl ?_
        refine AO.g rfl rfl (dst_some rfl) (fun _ => ?_) (fun h => absurd h (by decide))
        refine AO.p (Yp.cmpI rfl rfl rfl) rfl ?_
        first
        | refine AO.p (Yp.pickT rfl rfl) rfl ?_
        | refine AO.p (Yp.pickF rfl rfl) rfl ?_
        | refine AO.p (Yp.pickB rfl rfl rfl) rfl ?_
        refine AO.nil ?_
        refine AW.cond rfl rfl ?_ ?_
        · intro hc1
          skip
          refine AW.seq ?_
          refine AW.region ?_
          refine AO.p (Yp.assign rfl) rfl ?_
          refine AO.p (Yp.assign rfl) rfl ?_
          refine AO.p (Yp.assign rfl) rfl ?_
          refine AO.nil ?_
          refine AW.ret ?_
          exact ⟨.inr rfl, [_, _, _], [], ⟨rfl, rfl, rfl, trivial⟩, List.nil_sublist _, rfl⟩
        · intro hc1
          exact absurd (of_decide_eq_false hc1) (by omega)
      · intro hg1_11
        first
        | replace hg1_11 := of_decide_eq_true hg1_11
        | skip
        refine AO.g rfl rfl (dst_some rfl) (fun h => absurd h (by decide)) (fun _ => ?_)
        first
        | refine AO.p (Yp.pickT rfl rfl) rfl ?_
        | refine AO.p (Yp.pickF rfl rfl) rfl ?_
        | refine AO.p (Yp.pickB rfl rfl rfl) rfl ?_
        refine AO.nil ?_
        refine AW.condK rfl (by first | rfl | (simp only [*]; done) | (simp [*]; done)) ?_
        refine AW.seq ?_
        refine AW.region ?_
        refine AO.p (Yp.assign rfl) rfl ?_
        refine AO.p (Yp.assign rfl) rfl ?_
        refine AO.p (Yp.assign rfl) rfl ?_
        refine AO.nil ?_
        refine AW.ret ?_
        exact ⟨.inr rfl, [_, _, _], [], ⟨rfl, rfl, rfl, trivial⟩, List.nil_sublist _, rfl⟩
    · intro hg1_7
      first
      | replace hg1_7 := of_decide_eq_true hg1_7
      | skip
      refine AO.g rfl rfl (dst_some rfl) (fun h => absurd h (by decide)) (fun _ => ?_)
      first
      | refine AO.p (Yp.pickT rfl rfl) rfl ?_
      | refine AO.p (Yp.pickF rfl rfl) rfl ?_
      | refine AO.p (Yp.pickB rfl rfl rfl) rfl ?_
      refine AO.p (Yp.move rfl) rfl ?_
      refine AO.g rfl rfl (dst_some rfl) (fun h => absurd h (by decide)) (fun _ => ?_)
      refine AO.g rfl rfl (dst_some rfl) (fun h => absurd h (by decide)) (fun _ => ?_)
      first
      | refine AO.p (Yp.pickT rfl rfl) rfl ?_
      | refine AO.p (Yp.pickF rfl rfl) rfl ?_
      | refine AO.p (Yp.pickB rfl rfl rfl) rfl ?_
      refine AO.nil ?_
      refine AW.condK rfl (by first | rfl | (simp only [*]; done) | (simp [*]; done)) ?_
      refine AW.seq ?_
      refine AW.region ?_
      refine AO.p (Yp.assign rfl) rfl ?_
      refine AO.p (Yp.assign rfl) rfl ?_
      refine AO.p (Yp.assign rfl) rfl ?_
      refine AO.nil ?_
      refine AW.ret ?_
      exact ⟨.inr rfl, [_, _, _], [], ⟨rfl, rfl, rfl, trivial⟩, List.nil_sublist _, rfl⟩
  · intro hg1_3
    first
    | replace hg1_3 := of_decide_eq_true hg1_3
    | skip
    refine AO.g rfl rfl (dst_some rfl) (fun h => absurd h (by decide)) (fun _ => ?_)
    first
    | refine AO.p (Yp.pickT rfl rfl) rfl ?_
    | refine AO.p (Yp.pickF rfl rfl) rfl ?_
    | refine AO.p (Yp.pickB rfl rfl rfl) rfl ?_
    refine AO.p (Yp.move rfl) rfl ?_
    refine AO.g rfl rfl (dst_some rfl) (fun h => absurd h (by decide)) (fun _ => ?_)
    refine AO.g rfl rfl (dst_some rfl) (fun h => absurd h (by decide)) (fun _ => ?_)
    first
    | refine AO.p (Yp.pickT rfl rfl) rfl ?_
    | refine AO.p (Yp.pickF rfl rfl) rfl ?_
    | refine AO.p (Yp.pickB rfl rfl rfl) rfl ?_
    refine AO.p (Yp.move rfl) rfl ?_
    refine AO.g rfl rfl (dst_some rfl) (fun h => absurd h (by decide)) (fun _ => ?_)
    refine AO.g rfl rfl (dst_some rfl) (fun h => absurd h (by decide)) (fun _ => ?_)
    first
    | refine AO.p (Yp.pickT rfl rfl) rfl ?_
    | refine AO.p (Yp.pickF rfl rfl) rfl ?_
    | refine AO.p (Yp.pickB rfl rfl rfl) rfl ?_
    refine AO.nil ?_
    refine AW.condK rfl (by first | rfl | (simp only [*]; done) | (simp [*]; done)) ?_
    refine AW.seq ?_
    refine AW.region ?_
    refine AO.p (Yp.assign rfl) rfl ?_
    refine AO.p (Yp.assign rfl) rfl ?_
    refine AO.p (Yp.assign rfl) rfl ?_
    refine AO.nil ?_
    refine AW.ret ?_
    exact ⟨.inr rfl, [_, _, _], [], ⟨rfl, rfl, rfl, trivial⟩, List.nil_sublist _, rfl⟩


theorem upI_eq {a b : Int} (hb : 0 < b) : upI a b = a / b + (if 0 < a % b then 1 else 0) := by
  unfold upI
  have h1 := Int.emod_nonneg a (show b ≠ 0 by omega)
  have h2 := Int.emod_lt_of_pos a hb
  have h3 := Int.emod_add_mul_ediv a b
  split
  · have : a + b - 1 = (a % b - 1) + b * (a / b + 1) := by rw [Int.mul_add]; omega
    rw [this, Int.add_mul_ediv_left _ _ (by omega), Int.ediv_eq_zero_of_lt (by omega) (by omega)]; omega
  · have : a + b - 1 = (b - 1) + b * (a / b) := by omega
    rw [this, Int.add_mul_ediv_left _ _ (by omega), Int.ediv_eq_zero_of_lt (by omega) (by omega)]; omega

set_option maxRecDepth 100000 in
theorem up_ (a b : Int) (hb : 1 ≤ b) (hb2 : b ≤ 1099511627776) (ha : -2305843009213693952 ≤ a) (ha2 : a ≤ 2305843009213693952) :
    ACalls Try.env 72 [.v (.int .i64 a), .v (.int .i64 b)] [] fun x _ => x = .v (.int .i64 (upI a b)) := by
  refine ACalls.of_body Try.func72 rfl rfl rfl (fun C hC => ?_)
  refine AW.seq ?_
  refine AW.region ?_
  refine AO.p (Yp.assign rfl) rfl ?_
  refine AO.nil ?_
  refine AW.seq ?_
  have hdb := ediv_bd (a := a) (b := b) (by omega)
  refine AW.region ?_
  refine AO.p (Yp.move rfl) rfl ?_
  refine AO.p (Yp.move rfl) rfl ?_
  refine AO.act [] rfl (AX.call0 rfl rfl rfl (divide _ _ (by omega) (by omega) (by omega) (by omega)) (dst_some rfl) ?_)
  rintro _ ⟨_, rfl⟩
  refine AO.p (Yp.move rfl) rfl ?_
  refine AO.p (Yp.extract rfl rfl) rfl ?_
  refine AO.p (Yp.extract rfl rfl) rfl ?_
  refine AO.p (Yp.extract rfl rfl) rfl ?_
  refine AO.p (Yp.assign rfl) rfl ?_
  refine AO.p (Yp.assign rfl) rfl ?_
  refine AO.p (Yp.assign rfl) rfl ?_
  refine AO.nil ?_
  refine AW.seq ?_
  refine AW.seq ?_
  refine AW.region ?_
  refine AO.p (Yp.move rfl) rfl ?_
  refine AO.p (Yp.move rfl) rfl ?_
  refine AO.g rfl rfl (dst_some rfl) ?_ ?_
  · intro hg2_2
    first
    | replace hg2_2 := of_decide_eq_true hg2_2
    | skip
    refine AO.p (Yp.move rfl) rfl ?_
    refine AO.g rfl rfl (dst_some rfl) (fun _ => ?_) (fun h => absurd h (by decide))
    refine AO.p (Yp.cmpI rfl rfl rfl) rfl ?_
    first
    | refine AO.p (Yp.pickT rfl rfl) rfl ?_
    | refine AO.p (Yp.pickF rfl rfl) rfl ?_
    | refine AO.p (Yp.pickB rfl rfl rfl) rfl ?_
    refine AO.nil ?_
    refine AW.cond rfl rfl ?_ ?_
    · intro hc1
      refine AW.region ?_
      refine AO.p (Yp.move rfl) rfl ?_
      first
      | refine AO.p (Yp.binI rfl rfl (w64 (by omega))) rfl ?_
      | refine AO.p (Yp.binI rfl rfl rfl) rfl ?_
      refine AO.p (Yp.assign rfl) rfl ?_
      refine AO.nil ?_
      refine AW.seq ?_
      refine AW.region ?_
      refine AO.p (Yp.move rfl) rfl ?_
      refine AO.p (Yp.assign rfl) rfl ?_
      refine AO.nil ?_
      refine AW.ret ?_
      exact ⟨.inr rfl, [_], [], ⟨rfl, trivial⟩, List.nil_sublist _, by simp only [resV]; rw [upI_eq (by omega), if_pos (of_decide_eq_true hc1)]⟩
    · intro hc1
      refine AW.skip ?_
      refine AW.seq ?_
      refine AW.region ?_
      refine AO.p (Yp.move rfl) rfl ?_
      refine AO.p (Yp.assign rfl) rfl ?_
      refine AO.nil ?_
      refine AW.ret ?_
      exact ⟨.inr rfl, [_], [], ⟨rfl, trivial⟩, List.nil_sublist _, by simp only [resV]; rw [upI_eq (by omega), if_neg (of_decide_eq_false hc1)]; simp⟩
  · intro hg2_2
    first
    | replace hg2_2 := of_decide_eq_false hg2_2
    | skip
    exact absurd hg2_2 (by decide)


theorem prt_bd {v m : Int} (hv : 0 ≤ v ∧ v ≤ 439804651110400) (hm : 0 ≤ m ∧ m ≤ 100000) : 0 ≤ v / 1000000 * m ∧ v / 1000000 * m ≤ 43980465111100 ∧ 0 ≤ v % 1000000 * m ∧ v % 1000000 * m ≤ 100000000000 ∧ 0 ≤ upI (v % 1000000 * m) 1000000 ∧ upI (v % 1000000 * m) 1000000 ≤ 100000 := by
  have h1 : 0 ≤ v / 1000000 ∧ v / 1000000 ≤ 439804651 := by omega
  have h2 : 0 ≤ v % 1000000 ∧ v % 1000000 ≤ 999999 := by omega
  have h3 := Int.mul_nonneg h1.1 hm.1
  have h4 := Int.mul_nonneg h2.1 hm.1
  have h5 : v / 1000000 * m ≤ 439804651 * 100000 := Int.mul_le_mul h1.2 hm.2 hm.1 (by omega)
  have h6 : v % 1000000 * m ≤ 999999 * 100000 := Int.mul_le_mul h2.2 hm.2 hm.1 (by omega)
  unfold upI
  omega
theorem prt_le {v m : Int} (hv : 0 ≤ v ∧ v ≤ 439804651110400) (hm : 0 ≤ m ∧ m ≤ 100000) : 0 ≤ prt v m ∧ prt v m ≤ 43980465211200 := by
  have := prt_bd hv hm
  unfold prt; omega

set_option maxRecDepth 100000 in
theorem part_ (v m : Int) (hv : 0 ≤ v ∧ v ≤ 439804651110400) (hm : 0 ≤ m ∧ m ≤ 100000) : ACalls Try.env 54 [.v (.int .i64 v), .v (.int .i64 m)] [] fun x _ => x = .v (.int .i64 (prt v m)) := by
  have hb := prt_bd hv hm
  refine ACalls.of_body Try.func54 rfl rfl rfl (fun C hC => ?_)
  refine AW.seq ?_
  refine AW.region ?_
  refine AO.p (Yp.assign rfl) rfl ?_
  refine AO.nil ?_
  refine AW.seq ?_
  refine AW.region ?_
  refine AO.p (Yp.move rfl) rfl ?_
  first
  | refine AO.p (Yp.quoN rfl rfl (by omega) (by omega)) rfl ?_
  | refine AO.p (Yp.binI rfl rfl ⟨by omega, rfl⟩) rfl ?_
  refine AO.p (Yp.move rfl) rfl ?_
  first
  | refine AO.p (Yp.binI rfl rfl (w64 (by omega))) rfl ?_
  | refine AO.p (Yp.binI rfl rfl rfl) rfl ?_
  refine AO.p (Yp.move rfl) rfl ?_
  first
  | refine AO.p (Yp.remN rfl rfl (by omega) (by omega)) rfl ?_
  | refine AO.p (Yp.binI rfl rfl ⟨by omega, rfl⟩) rfl ?_
  refine AO.p (Yp.move rfl) rfl ?_
  first
  | refine AO.p (Yp.binI rfl rfl (w64 (by omega))) rfl ?_
  | refine AO.p (Yp.binI rfl rfl rfl) rfl ?_
  refine AO.act [] rfl (AX.call0 rfl rfl rfl (up_ _ _ (by omega) (by omega) (by omega) (by omega)) (dst_some rfl) ?_)
  rintro _ ⟨_, rfl⟩
  first
  | refine AO.p (Yp.binI rfl rfl (w64 (by omega))) rfl ?_
  | refine AO.p (Yp.binI rfl rfl rfl) rfl ?_
  refine AO.p (Yp.assign rfl) rfl ?_
  refine AO.nil ?_
  refine AW.ret ?_
  exact ⟨.inr rfl, [_], [], ⟨rfl, trivial⟩, List.nil_sublist _, rfl⟩


theorem getD_of {l : List Bal} {k : Nat} {x : Bal} (h : l[k]? = some x) : l.getD k ⟨0, 0, 0⟩ = x := by simp [List.getD, h]
theorem segI_bd {l : List Bal} (hl : l.length ≤ 400) (ho : balsOk l) {a b : Nat} (hab : a ≤ b) (hb : b < l.length) : (0 ≤ sI (seg l a b) ∧ sI (seg l a b) ≤ 439804651110400) ∧ (0 ≤ sO (seg l a b) ∧ sO (seg l a b) ≤ 439804651110400) := by
  have h1 := sI_bd (seg_ok ho a b)
  have h2 := sO_bd (seg_ok ho a b)
  have h3 := seg_len hab hb
  rw [h3] at h1 h2
  omega
theorem mis_bd {l : List Bal} (hl : l.length ≤ 400) (ho : balsOk l) {a b : Nat} (hab : a ≤ b) (hb : b < l.length) : -2000000000000000 ≤ mis l a b ∧ mis l a b ≤ 2000000000000000 := by
  have h := segI_bd hl ho hab hb
  have h1 := (ho l[a] (List.getElem_mem (by omega))).2.2
  have h2 := (ho l[b] (List.getElem_mem hb)).2.2
  unfold vol at h1 h2
  have e1 : l.getD a ⟨0, 0, 0⟩ = l[a] := getD_of (List.getElem?_eq_getElem (by omega))
  have e2 : l.getD b ⟨0, 0, 0⟩ = l[b] := getD_of (List.getElem?_eq_getElem hb)
  unfold mis; rw [e1, e2]; omega
theorem wrg_bd {l : List Bal} {c : Acc} (hl : l.length ≤ 400) (ho : balsOk l) (hc : c.ok) {a b : Nat} (hab : a ≤ b) (hb : b < l.length) : 0 ≤ wrg l c a b ∧ wrg l c a b ≤ 100000000000000 := by
  have h := segI_bd hl ho hab hb
  unfold Acc.ok vol at hc
  have h1 := prt_le h.1 (show 0 ≤ c.m ∧ c.m ≤ 100000 by omega)
  have h2 := prt_le h.2 (show 0 ≤ c.m ∧ c.m ≤ 100000 by omega)
  unfold wrg; omega

set_option maxRecDepth 100000 in
theorem missing (l : List Bal) (a b : Int) (hl : l.length ≤ 400) (ho : balsOk l) (h0 : 0 ≤ a) (hab : a ≤ b) (hb : b < l.length) :
    ACalls Try.env 39 [encBals l, .v (.int .i64 a), .v (.int .i64 b)] [] fun x _ => x = .v (.int .i64 (mis l a.toNat b.toNat)) := by
  obtain ⟨a, rfl⟩ := Int.eq_ofNat_of_zero_le h0
  obtain ⟨b, rfl⟩ := Int.eq_ofNat_of_zero_le (show 0 ≤ b by omega)
  obtain ⟨xa, hxa⟩ := get_ex (show a < l.length by omega)
  obtain ⟨xb, hxb⟩ := get_ex (show b < l.length by omega)
  have hoa := (ho xa (List.mem_of_getElem? hxa)).2.2
  have hob := (ho xb (List.mem_of_getElem? hxb)).2.2
  unfold vol at hoa hob
  have hsb := segI_bd hl ho (a := a) (b := b) (by omega) (by omega)
  refine ACalls.of_body Try.func39 rfl rfl rfl (fun C hC => ?_)
  refine AW.seq ?_
  refine AW.region ?_
  refine AO.p (Yp.assign rfl) rfl ?_
  refine AO.nil ?_
  refine AW.seq ?_
  refine AW.region ?_
  refine AO.p (Yp.move rfl) rfl ?_
  refine AO.p (Yp.move rfl) rfl ?_
  refine AO.p (Yp.move rfl) rfl ?_
  refine AO.act [] rfl (AX.call0 rfl rfl rfl (counted l _ _ (by assumption) (by assumption) (by omega) (by omega) (by omega)) (dst_some rfl) ?_)
  rintro _ ⟨_, rfl⟩
  simp only [Int.toNat_natCast]
  refine AO.p (Yp.move rfl) rfl ?_
  refine AO.p (Yp.extract rfl rfl) rfl ?_
  refine AO.p (Yp.extract rfl rfl) rfl ?_
  refine AO.p (Yp.assign rfl) rfl ?_
  refine AO.p (Yp.assign rfl) rfl ?_
  refine AO.nil ?_
  refine AW.seq ?_
  refine AW.regionD (.still 0 (.still 1 (.still 2 (.still 3 (.still 4 (.still 5 (.still 6 (.still 7 (.still 8 (.still 9 (.still 10 (.still 11 (.still 12 (.still 13 (.still 14 (.still 15 .nil)))))))))))))))) [] [] (by kernel_rfl) rfl ?_
  refine AP.op rfl (Yp.move rfl) rfl ?_
  refine AP.op rfl (Yp.move rfl) rfl ?_
  first
  | refine AP.op rfl (Yp.binI rfl rfl (w64 (by omega))) rfl ?_
  | refine AP.op rfl (Yp.binI rfl rfl rfl) rfl ?_
  refine AP.op rfl (Yp.move rfl) rfl ?_
  refine AP.op rfl (Yp.move rfl) rfl ?_
  refine AP.op rfl (Yp.indexE rfl rfl rfl rfl rfl rfl rfl (map_get hxb)) rfl ?_
  first
  | refine AP.op rfl (Yp.fieldPtr rfl rfl rfl rfl rfl rfl) rfl ?_
  | refine AP.op rfl (Yp.fieldE rfl rfl rfl rfl rfl rfl rfl) rfl ?_
  first
  | refine AP.o rfl (Yd.loadE rfl rfl rfl) rfl ?_
  | refine AP.o rfl (Yd.loadO 0 0 2 rfl rfl rfl rfl rfl rfl) rfl ?_
  | refine AP.o rfl (Yd.loadO 1 0 2 rfl rfl rfl rfl rfl rfl) rfl ?_
  | refine AP.o rfl (Yd.loadO 2 0 2 rfl rfl rfl rfl rfl rfl) rfl ?_
  | refine AP.o rfl (Yd.loadO 3 0 2 rfl rfl rfl rfl rfl rfl) rfl ?_
  | refine AP.o rfl (Yd.loadO 4 0 2 rfl rfl rfl rfl rfl rfl) rfl ?_
  | refine AP.o rfl (Yd.loadO 5 0 2 rfl rfl rfl rfl rfl rfl) rfl ?_
  first
  | refine AP.op rfl (Yp.binI rfl rfl (w64 (by omega))) rfl ?_
  | refine AP.op rfl (Yp.binI rfl rfl rfl) rfl ?_
  refine AP.op rfl (Yp.move rfl) rfl ?_
  refine AP.op rfl (Yp.move rfl) rfl ?_
  refine AP.op rfl (Yp.indexE rfl rfl rfl rfl rfl rfl rfl (map_get hxa)) rfl ?_
  first
  | refine AP.op rfl (Yp.fieldPtr rfl rfl rfl rfl rfl rfl) rfl ?_
  | refine AP.op rfl (Yp.fieldE rfl rfl rfl rfl rfl rfl rfl) rfl ?_
  first
  | refine AP.o rfl (Yd.loadE rfl rfl rfl) rfl ?_
  | refine AP.o rfl (Yd.loadO 0 0 2 rfl rfl rfl rfl rfl rfl) rfl ?_
  | refine AP.o rfl (Yd.loadO 1 0 2 rfl rfl rfl rfl rfl rfl) rfl ?_
  | refine AP.o rfl (Yd.loadO 2 0 2 rfl rfl rfl rfl rfl rfl) rfl ?_
  | refine AP.o rfl (Yd.loadO 3 0 2 rfl rfl rfl rfl rfl rfl) rfl ?_
  | refine AP.o rfl (Yd.loadO 4 0 2 rfl rfl rfl rfl rfl rfl) rfl ?_
  | refine AP.o rfl (Yd.loadO 5 0 2 rfl rfl rfl rfl rfl rfl) rfl ?_
  first
  | refine AP.op rfl (Yp.binI rfl rfl (w64 (by omega))) rfl ?_
  | refine AP.op rfl (Yp.binI rfl rfl rfl) rfl ?_
  refine AP.op rfl (Yp.assign rfl) rfl ?_
  refine AP.nil ?_
  refine AW.ret ?_
  exact ⟨.inr rfl, [_], [], ⟨rfl, trivial⟩, List.nil_sublist _, by simp only [resV, Int.toNat_natCast, mis]; rw [getD_of hxa, getD_of hxb]⟩

set_option maxRecDepth 100000 in
theorem wrong (l : List Bal) (c : Acc) (a b : Int) (hl : l.length ≤ 400) (ho : balsOk l) (hc : c.ok) (h0 : 0 ≤ a) (hab : a ≤ b) (hb : b < l.length) :
    ACalls Try.env 40 [encBals l, .agg (encAcc c), .v (.int .i64 a), .v (.int .i64 b)] [] fun x _ => x = .v (.int .i64 (wrg l c a.toNat b.toNat)) := by
  obtain ⟨a, rfl⟩ := Int.eq_ofNat_of_zero_le h0
  obtain ⟨b, rfl⟩ := Int.eq_ofNat_of_zero_le (show 0 ≤ b by omega)
  have hsb := segI_bd hl ho (a := a) (b := b) (by omega) (by omega)
  unfold Acc.ok vol at hc
  have hp1 := prt_le hsb.1 (show 0 ≤ c.m ∧ c.m ≤ 100000 by omega)
  have hp2 := prt_le hsb.2 (show 0 ≤ c.m ∧ c.m ≤ 100000 by omega)
  refine ACalls.of_body Try.func40 rfl rfl rfl (fun C hC => ?_)
  refine AW.seq ?_
  refine AW.region ?_
  refine AO.act [] rfl (AX.box rfl rfl rfl (dst_some rfl) (fun b5 => ?_))
  refine AO.p (Yp.assign rfl) rfl ?_
  refine AO.nil ?_
  refine AW.seq ?_
  refine AW.region ?_
  refine AO.p (Yp.move rfl) rfl ?_
  refine AO.p (Yp.move rfl) rfl ?_
  refine AO.p (Yp.move rfl) rfl ?_
  refine AO.act [] rfl (AX.call0 rfl rfl rfl (counted l _ _ (by assumption) (by assumption) (by omega) (by omega) (by omega)) (dst_some rfl) ?_)
  rintro _ ⟨_, rfl⟩
  simp only [Int.toNat_natCast]
  refine AO.p (Yp.move rfl) rfl ?_
  refine AO.p (Yp.extract rfl rfl) rfl ?_
  refine AO.p (Yp.extract rfl rfl) rfl ?_
  refine AO.p (Yp.assign rfl) rfl ?_
  refine AO.p (Yp.assign rfl) rfl ?_
  refine AO.nil ?_
  refine AW.seq ?_
  refine AW.regionD (.still 0 (.still 1 (.still 2 (.still 4 (.still 5 (.still 6 (.still 9 (.still 10 (.still 11 (.act 3 (.act 7 (.still 8 (.still 12 (.still 13 .nil)))))))))))))) [0] [_] (by kernel_rfl) rfl ?_
  refine AP.op rfl (Yp.move rfl) rfl ?_
  first
  | refine AP.op rfl (Yp.fieldPtr rfl rfl rfl rfl rfl rfl) rfl ?_
  | refine AP.op rfl (Yp.fieldE rfl rfl rfl rfl rfl rfl rfl) rfl ?_
  refine AP.o rfl (Yd.loadO 0 0 0 rfl rfl rfl rfl rfl rfl) rfl ?_
  refine AP.op rfl (Yp.move rfl) rfl ?_
  first
  | refine AP.op rfl (Yp.fieldPtr rfl rfl rfl rfl rfl rfl) rfl ?_
  | refine AP.op rfl (Yp.fieldE rfl rfl rfl rfl rfl rfl rfl) rfl ?_
  refine AP.o rfl (Yd.loadO 0 0 0 rfl rfl rfl rfl rfl rfl) rfl ?_
  first
  | refine AP.op rfl (Yp.fieldPtr rfl rfl rfl rfl rfl rfl) rfl ?_
  | refine AP.op rfl (Yp.fieldE rfl rfl rfl rfl rfl rfl rfl) rfl ?_
  refine AP.o rfl (Yd.loadO 0 0 1 rfl rfl rfl rfl rfl rfl) rfl ?_
  first
  | refine AP.op rfl (Yp.binI rfl rfl (w64 (by omega))) rfl ?_
  | refine AP.op rfl (Yp.binI rfl rfl rfl) rfl ?_
  refine AP.act [] rfl rfl rfl (AX.call0 rfl rfl rfl (part_ _ _ (by omega) (by omega)) (dst_some rfl) ?_)
  rintro _ ⟨_, rfl⟩
  refine AP.act [] rfl rfl rfl (AX.call0 rfl rfl rfl (part_ _ _ (by omega) (by omega)) (dst_some rfl) ?_)
  rintro _ ⟨_, rfl⟩
  first
  | refine AP.p rfl (Yp.binI rfl rfl (w64 (by omega))) rfl ?_
  | refine AP.p rfl (Yp.binI rfl rfl rfl) rfl ?_
  first
  | refine AP.p rfl (Yp.binI rfl rfl (w64 (by omega))) rfl ?_
  | refine AP.p rfl (Yp.binI rfl rfl rfl) rfl ?_
  refine AP.p rfl (Yp.assign rfl) rfl ?_
  refine AP.nil ?_
  refine AW.ret ?_
  exact ⟨.inr rfl, [_], [], ⟨rfl, trivial⟩, List.nil_sublist _, rfl⟩


def chkW (l : List Bal) (c : Acc) (a b : Int) : Int := if chkE l ≠ 0 then chkE l else if !c.good then 1 else if !winB l a b then 25 else 0
theorem good_ok {c : Acc} (h : c.good = true) : c.ok := by
  simp only [Acc.good, Bool.and_eq_true, decide_eq_true_eq, volB_iff] at h
  exact ⟨h.1.1, h.1.2, h.2⟩
theorem chkW_ok {l : List Bal} {c : Acc} {a b : Int} (h : chkW l c a b = 0) : l.length ≤ 400 ∧ balsOk l ∧ c.ok ∧ 0 ≤ a ∧ a < b ∧ b < l.length := by
  unfold chkW at h
  split at h
  · omega
  · rename_i h1
    split at h
    · omega
    · rename_i h2
      split at h
      · omega
      · rename_i h3
        obtain ⟨k1, k2⟩ := chk_ok (l := l) (by omega)
        simp only [Bool.not_eq_true', Bool.not_eq_false] at h2 h3
        simp only [winB, decide_eq_true_eq] at h3
        exact ⟨k1, k2, good_ok h2, h3.1, h3.2.1, h3.2.2⟩

set_option maxRecDepth 100000 in
theorem checkW (l : List Bal) (c : Acc) (a b : Int) :
    ACalls Try.env 38 [encBals l, .agg (encAcc c), .v (.int .i64 a), .v (.int .i64 b)] [] fun x _ => x = .v (.int .i64 (chkW l c a b)) := by
  refine ACalls.of_body Try.func38 rfl rfl rfl (fun C hC => ?_)
  refine AW.seq ?_
  refine AW.region ?_
  refine AO.act [] rfl (AX.box rfl rfl rfl (dst_some rfl) (fun b5 => ?_))
  refine AO.p (Yp.assign rfl) rfl ?_
  refine AO.nil ?_
  refine AW.seq ?_
  refine AW.seq ?_
  refine AW.region ?_
  refine AO.p (Yp.move rfl) rfl ?_
  refine AO.act [] rfl (AX.call0 rfl rfl rfl (check _) (dst_some rfl) ?_)
  rintro _ ⟨_, rfl⟩
  refine AO.p (Yp.assign rfl) rfl ?_
  refine AO.nil ?_
  refine AW.seq ?_
  refine AW.region ?_
  refine AO.p (Yp.move rfl) rfl ?_
  refine AO.p (Yp.cmpI rfl rfl rfl) rfl ?_
  refine AO.nil ?_
  refine AW.cond rfl rfl ?_ ?_
  · intro hc1
    replace hc1 := bne_iff_ne.1 hc1
    refine AW.seq ?_
    refine AW.region ?_
    refine AO.p (Yp.move rfl) rfl ?_
    refine AO.p (Yp.assign rfl) rfl ?_
    refine AO.nil ?_
    refine AW.ret ?_
    exact ⟨.inr rfl, [_], [], ⟨rfl, trivial⟩, List.nil_sublist _, by simp only [resV]; rw [chkW, if_pos hc1]⟩
  · intro hc1
    replace hc1 := eq_of_bne hc1
    refine AW.skip ?_
    refine AW.seq ?_
    refine AW.block ?_
    refine AW.seq ?_
    refine AW.region ?_
    refine AO.d (Yd.loadO 0 0 0 rfl rfl rfl rfl rfl rfl) rfl ?_
    refine AO.act [] rfl (AX.call0 rfl rfl rfl (accurate _) (dst_some rfl) ?_)
    rintro _ ⟨_, rfl⟩
    refine AO.p (Yp.not rfl) rfl ?_
    refine AO.p (Yp.assign rfl) rfl ?_
    refine AO.nil ?_
    refine AW.cond rfl rfl ?_ ?_
    · intro hc2
      refine AW.seq ?_
      refine AW.region ?_
      refine AO.p (Yp.assign rfl) rfl ?_
      refine AO.nil ?_
      refine AW.ret ?_
      exact ⟨.inr rfl, [_], [], ⟨rfl, trivial⟩, List.nil_sublist _, by simp only [resV]; rw [chkW, if_neg (by simpa using hc1), if_pos hc2]⟩
    · intro hc2
      refine AW.seq ?_
      refine AW.region ?_
      refine AO.p (Yp.move rfl) rfl ?_
      refine AO.p (Yp.move rfl) rfl ?_
      refine AO.p (Yp.move rfl) rfl ?_
      refine AO.act [] rfl (AX.call0 rfl rfl rfl (window _ _ _) (dst_some rfl) ?_)
      rintro _ ⟨_, rfl⟩
      refine AO.p (Yp.not rfl) rfl ?_
      refine AO.p (Yp.assign rfl) rfl ?_
      refine AO.nil ?_
      refine AW.cond rfl rfl ?_ ?_
      · intro hc3
        refine AW.seq ?_
        refine AW.region ?_
        refine AO.p (Yp.assign rfl) rfl ?_
        refine AO.nil ?_
        refine AW.ret ?_
        exact ⟨.inr rfl, [_], [], ⟨rfl, trivial⟩, List.nil_sublist _, by simp only [resV]; rw [chkW, if_neg (by simpa using hc1), if_neg (by simpa using hc2), if_pos hc3]⟩
      · intro hc3
        refine AW.skip ?_
        refine AW.seq ?_
        refine AW.region ?_
        refine AO.p (Yp.assign rfl) rfl ?_
        refine AO.nil ?_
        refine AW.ret ?_
        exact ⟨.inr rfl, [_], [], ⟨rfl, trivial⟩, List.nil_sublist _, by simp only [resV]; rw [chkW, if_neg (by simpa using hc1), if_neg (by simpa using hc2), if_neg (by simpa using hc3)]⟩

set_option maxRecDepth 100000 in
theorem bounds (l : List Bal) (c : Acc) (a b : Int) :
    ACalls Try.env 22 [encBals l, .agg (encAcc c), .v (.int .i64 a), .v (.int .i64 b)] [] fun x _ => x = if chkW l c a b = 0 then .tup [.v (.int .i64 (mis l a.toNat b.toNat - wrg l c a.toNat b.toNat)), .v (.int .i64 (mis l a.toNat b.toNat + wrg l c a.toNat b.toNat)), .v (.int .i64 0)] else .tup [.v (.int .i64 0), .v (.int .i64 0), .v (.int .i64 (chkW l c a b))] := by
  refine ACalls.of_body Try.func22 rfl rfl rfl (fun C hC => ?_)
  refine AW.seq ?_
  refine AW.region ?_
  refine AO.act [] rfl (AX.box rfl rfl rfl (dst_some rfl) (fun b5 => ?_))
  refine AO.p (Yp.assign rfl) rfl ?_
  refine AO.p (Yp.assign rfl) rfl ?_
  refine AO.p (Yp.assign rfl) rfl ?_
  refine AO.nil ?_
  refine AW.seq ?_
  refine AW.seq ?_
  refine AW.region ?_
  refine AO.p (Yp.move rfl) rfl ?_
  refine AO.d (Yd.loadO 0 0 0 rfl rfl rfl rfl rfl rfl) rfl ?_
  refine AO.p (Yp.move rfl) rfl ?_
  refine AO.p (Yp.move rfl) rfl ?_
  refine AO.act [] rfl (AX.call0 rfl rfl rfl (checkW l _ _ _) (dst_some rfl) ?_)
  rintro _ ⟨_, rfl⟩
  refine AO.p (Yp.assign rfl) rfl ?_
  refine AO.nil ?_
  refine AW.seq ?_
  refine AW.region ?_
  refine AO.p (Yp.move rfl) rfl ?_
  refine AO.p (Yp.cmpI rfl rfl rfl) rfl ?_
  refine AO.nil ?_
  refine AW.cond rfl rfl ?_ ?_
  · intro hc1
    replace hc1 := bne_iff_ne.1 hc1
    refine AW.seq ?_
    refine AW.region ?_
    refine AO.p (Yp.move rfl) rfl ?_
    refine AO.p (Yp.assign rfl) rfl ?_
    refine AO.p (Yp.assign rfl) rfl ?_
    refine AO.p (Yp.assign rfl) rfl ?_
    refine AO.nil ?_
    refine AW.ret ?_
    exact ⟨.inr rfl, [_, _, _], [], ⟨rfl, rfl, rfl, trivial⟩, List.nil_sublist _, by simp only [resV]; rw [if_neg hc1]⟩
  · intro hc1
    replace hc1 := eq_of_bne hc1
    obtain ⟨k1, k2, k3, k4, k5, k6⟩ := chkW_ok hc1
    have hmb := mis_bd k1 k2 (a := a.toNat) (b := b.toNat) (by omega) (by omega)
    have hwb := wrg_bd k1 k2 k3 (a := a.toNat) (b := b.toNat) (by omega) (by omega)
    refine AW.skip ?_
    refine AW.seq ?_
    refine AW.regionD (.still 0 (.still 1 (.still 2 (.still 4 (.still 5 (.still 6 (.still 7 (.act 3 (.act 8 (.still 9 (.still 10 .nil))))))))))) [0] [_] (by kernel_rfl) rfl ?_
    refine AP.op rfl (Yp.move rfl) rfl ?_
    refine AP.op rfl (Yp.move rfl) rfl ?_
    refine AP.op rfl (Yp.move rfl) rfl ?_
    refine AP.op rfl (Yp.move rfl) rfl ?_
    refine AP.o rfl (Yd.loadO 0 0 0 rfl rfl rfl rfl rfl rfl) rfl ?_
    refine AP.op rfl (Yp.move rfl) rfl ?_
    refine AP.op rfl (Yp.move rfl) rfl ?_
    refine AP.act [] rfl rfl rfl (AX.call0 rfl rfl rfl (missing l _ _ (by assumption) (by assumption) (by omega) (by omega) (by omega)) (dst_some rfl) ?_)
    rintro _ ⟨_, rfl⟩
    refine AP.act [] rfl rfl rfl (AX.call0 rfl rfl rfl (wrong l _ _ _ (by assumption) (by assumption) (by assumption) (by omega) (by omega) (by omega)) (dst_some rfl) ?_)
    rintro _ ⟨_, rfl⟩
    refine AP.p rfl (Yp.assign rfl) rfl ?_
    refine AP.p rfl (Yp.assign rfl) rfl ?_
    refine AP.nil ?_
    refine AW.seq ?_
    refine AW.region ?_
    refine AO.p (Yp.move rfl) rfl ?_
    refine AO.p (Yp.move rfl) rfl ?_
    first
    | refine AO.p (Yp.binI rfl rfl (w64 (by omega))) rfl ?_
    | refine AO.p (Yp.binI rfl rfl rfl) rfl ?_
    refine AO.p (Yp.move rfl) rfl ?_
    refine AO.p (Yp.move rfl) rfl ?_
    first
    | refine AO.p (Yp.binI rfl rfl (w64 (by omega))) rfl ?_
    | refine AO.p (Yp.binI rfl rfl rfl) rfl ?_
    refine AO.p (Yp.assign rfl) rfl ?_
    refine AO.p (Yp.assign rfl) rfl ?_
    refine AO.p (Yp.assign rfl) rfl ?_
    refine AO.nil ?_
    refine AW.ret ?_
    exact ⟨.inr rfl, [_, _, _], [], ⟨rfl, rfl, rfl, trivial⟩, List.nil_sublist _, by simp only [resV]; rw [if_pos hc1]⟩

set_option maxRecDepth 100000 in
theorem error_ (l : List Bal) (c : Acc) (a b : Int) :
    ACalls Try.env 23 [encBals l, .agg (encAcc c), .v (.int .i64 a), .v (.int .i64 b)] [] fun x _ => x = if chkW l c a b = 0 then .tup [.v (.int .i64 (wrg l c a.toNat b.toNat)), .v (.int .i64 0)] else .tup [.v (.int .i64 0), .v (.int .i64 (chkW l c a b))] := by
  refine ACalls.of_body Try.func23 rfl rfl rfl (fun C hC => ?_)
  refine AW.seq ?_
  refine AW.region ?_
  refine AO.act [] rfl (AX.box rfl rfl rfl (dst_some rfl) (fun b5 => ?_))
  refine AO.p (Yp.assign rfl) rfl ?_
  refine AO.p (Yp.assign rfl) rfl ?_
  refine AO.nil ?_
  refine AW.seq ?_
  refine AW.seq ?_
  refine AW.region ?_
  refine AO.p (Yp.move rfl) rfl ?_
  refine AO.d (Yd.loadO 0 0 0 rfl rfl rfl rfl rfl rfl) rfl ?_
  refine AO.p (Yp.move rfl) rfl ?_
  refine AO.p (Yp.move rfl) rfl ?_
  refine AO.act [] rfl (AX.call0 rfl rfl rfl (checkW l _ _ _) (dst_some rfl) ?_)
  rintro _ ⟨_, rfl⟩
  refine AO.p (Yp.assign rfl) rfl ?_
  refine AO.nil ?_
  refine AW.seq ?_
  refine AW.region ?_
  refine AO.p (Yp.move rfl) rfl ?_
  refine AO.p (Yp.cmpI rfl rfl rfl) rfl ?_
  refine AO.nil ?_
  refine AW.cond rfl rfl ?_ ?_
  · intro hc1
    replace hc1 := bne_iff_ne.1 hc1
    refine AW.seq ?_
    refine AW.region ?_
    refine AO.p (Yp.move rfl) rfl ?_
    refine AO.p (Yp.assign rfl) rfl ?_
    refine AO.p (Yp.assign rfl) rfl ?_
    refine AO.nil ?_
    refine AW.ret ?_
    exact ⟨.inr rfl, [_, _], [], ⟨rfl, rfl, trivial⟩, List.nil_sublist _, by simp only [resV]; rw [if_neg hc1]⟩
  · intro hc1
    replace hc1 := eq_of_bne hc1
    obtain ⟨k1, k2, k3, k4, k5, k6⟩ := chkW_ok hc1
    refine AW.skip ?_
    refine AW.seq ?_
    refine AW.region ?_
    refine AO.p (Yp.move rfl) rfl ?_
    refine AO.d (Yd.loadO 0 0 0 rfl rfl rfl rfl rfl rfl) rfl ?_
    refine AO.p (Yp.move rfl) rfl ?_
    refine AO.p (Yp.move rfl) rfl ?_
    refine AO.act [] rfl (AX.call0 rfl rfl rfl (wrong l _ _ _ (by assumption) (by assumption) (by assumption) (by omega) (by omega) (by omega)) (dst_some rfl) ?_)
    rintro _ ⟨_, rfl⟩
    refine AO.p (Yp.assign rfl) rfl ?_
    refine AO.p (Yp.assign rfl) rfl ?_
    refine AO.nil ?_
    refine AW.ret ?_
    exact ⟨.inr rfl, [_, _], [], ⟨rfl, rfl, trivial⟩, List.nil_sublist _, by simp only [resV]; rw [if_pos hc1]⟩

end Go.Proofs.Ytnmiidccebhiaaa
