/- Plain proofs. No condition. -/
import Derived.Test.YtehbcbedipkifaaGreatDoorZxP1
import Derived.Test.YtehbcbedipkifaaGreatDoorZxD
import Derived.KernelRfl
import Derived.Test.YtehbcbedipkifaaGreatDoorZxB1
import Derived.ProofKit
import Derived.SizedLaws
import Derived.Carry
import Derived.OpenShut
import Derived.ChangeSame
import Derived.LaidMore
import Derived.MakeChecks
import Derived.Stop.Joined
set_option maxRecDepth 100000
namespace Go.Proofs.YtehbcbedipkifaaGreatDoor
set_option linter.unusedVariables false
set_option linter.unusedSimpArgs false
open Go.Aw
theorem ref01Up {a b : Int} (hb : 1 ≤ b ∧ b ≤ 1099511627776) (ha : -2305843009213693952 ≤ a ∧ a ≤ 2305843009213693952) : L.zulm a b = some (up a b) := by
 have h := floor_t (a := a) (b := b) (by omega)
 have hd := dn_small (a := a) (b := b) (by omega)
 unfold dn at hd
 have hm0 := Int.emod_nonneg a (by omega : b ≠ 0)
 have hm1 := Int.emod_lt_of_pos a (by omega : 0 < b)
 have : Ok (L.zulm a b) fun r => r = up a b := by
  unfold L.zulm
  refine Ok.iteN (fun h => ?_) fun _ => ?_
  ·simp [L.zvbp] at h; omega
  refine .bind' (.quo (by omega) (.bind' (.rem (by omega) ?_)))
  unfold up L.zulm.J1
  by_cases hn : a.tmod b < 0
  ·have h1 := h.1 hn
   have h2 := Int.lt_tmod_of_pos a (b := b) (by omega)
   refine Ok.iteD (fun hh => by omega) fun _ => .pure ?_
   rw [if_pos (by omega), wr_id (by omega)]; omega
  ·have h1 := h.2 hn
   refine Ok.iteD (fun hh => .pure ?_) fun hh => .pure ?_
   ·rw [if_pos (by omega), wr_id (x := a.tdiv b) (by omega), wr_id (by omega)]; omega
   ·rw [if_neg (by omega), wr_id (by omega)]; omega
 obtain ⟨r, h, rfl⟩ := this
 exact h
theorem ref01Down {a b : Int} (hb : 1 ≤ b ∧ b ≤ 1099511627776) (ha : -2305843009213693952 ≤ a ∧ a ≤ 2305843009213693952) : L.zfsa a b = some (dn a b) := by
 have h := floor_t (a := a) (b := b) (by omega)
 have hd := dn_small (a := a) (b := b) (by omega)
 unfold dn at hd
 have : Ok (L.zfsa a b) fun r => r = dn a b := by
  unfold L.zfsa
  refine Ok.iteN (fun h => ?_) fun _ => ?_
  ·simp [L.zvbp] at h; omega
  refine .bind' (.quo (by omega) (.bind' (.rem (by omega) ?_)))
  unfold dn L.zfsa.J1
  by_cases hn : a.tmod b < 0
  ·have h1 := h.1 hn
   refine Ok.iteD (fun hh => .pure ?_) fun hh => by omega
   rw [wr_id (x := a.tdiv b) (by omega), wr_id (by omega)]; omega
  ·have h1 := h.2 hn
   refine Ok.iteD (fun hh => by omega) fun hh => .pure ?_
   rw [wr_id (by omega)]; omega
 obtain ⟨r, h, rfl⟩ := this
 exact h
theorem add19_ok {l : List Int} (hl : l.Pairwise (· < ·)) (h1 : l.length ≤ 1000) (n : Int) : Ok (L.zkpq l n) fun r => r.Pairwise (· < ·) ∧ (∀ x, x ∈ r ↔ x ∈ l ∨ x = n) ∧ r.length ≤ l.length + 1 := by
 unfold L.zkpq
 refine .bind (Q := fun d : Int => ∃ k : Nat, d = (k : Int) ∧ k ≤ l.length ∧ (∀ j x, j < k → l[j]? = some x → x < n) ∧ ∀ x, l[k]? = some x → n ≤ x) ?_ ?_
 ·refine .loop (fun st : Int => ∃ k : Nat, st = (k : Int) ∧ k ≤ l.length ∧ ∀ j x, j < k → l[j]? = some x → x < n) (fun st => l.length - st.toNat) ⟨0, rfl, by omega, by omega⟩ (by omega) ?_
  rintro _ ⟨k, rfl, hk, hI⟩
  unfold L.zkpq.B4 L.zkpq.J5
  refine Ok.iteD (fun hlt => .bind' (.ix k rfl (by omega) ?_)) fun hn => ?_
  ·have hx : l[k]? = some (l[k]'(by omega)) := gq _
   refine Ok.iteD (fun hh => .pure ⟨⟨k + 1, ?_, by omega, fun j x hj hx' => ?_⟩, ?_⟩) fun hh => .pure ⟨k, rfl, hk, hI, fun x hx' => ?_⟩
   ·rw [wr_id (by omega)]; omega
   ·by_cases hjk : j = k
    ·subst hjk; rw [hx] at hx'; cases hx'; exact hh
    ·exact hI j x (by omega) hx'
   ·rw [wr_id (by omega)]; omega
   ·rw [hx] at hx'; cases hx'
    dsimp only at hh; omega
  ·refine Ok.iteB (fun h => by cases h) fun _ => .pure ⟨k, rfl, hk, hI, fun x hx' => ?_⟩
   have := (gs hx').1; omega
 ·rintro _ ⟨k, rfl, hk, hI, hJ⟩
  have fin : (∀ x, l[k]? = some x → x ≠ n) → Ok (L.zkpq.J2 l n (k : Int) false) fun r => r.Pairwise (· < ·) ∧ (∀ x, x ∈ r ↔ x ∈ l ∨ x = n) ∧ r.length ≤ l.length + 1 := by
   intro hne
   unfold L.zkpq.J2
   refine Ok.iteB (fun h => by cases h) fun _ => .bind' (.sub 0 k rfl rfl (by omega) hk (.bind' (.app (by simp; omega) (.bind' (.app (by simp; omega) (.bind' (.sub k l.length rfl rfl hk (Nat.le_refl _) (.bind' (.app (by simp; omega) ?_)))))))))
   unfold L.zkpq.J3
   simp only [List.drop_zero, Nat.sub_zero, List.nil_append]
   rw [List.take_of_length_le (l := l.drop k) (by simp)]
   have hlow : ∀ x, x ∈ l.take k → x < n := fun x hx => by
    obtain ⟨j, hj⟩ := List.getElem?_of_mem hx
    have hjl := (gs hj).1
    simp at hjl
    rw [List.getElem?_take_of_lt (by omega)] at hj
    exact hI j x (by omega) hj
   have hhigh : ∀ x, x ∈ l.drop k → n < x := fun x hx => by
    obtain ⟨j, hj⟩ := List.getElem?_of_mem hx
    rw [List.getElem?_drop] at hj
    have hjl := (gs hj).1
    have hk' : l[k]? = some (l[k]'(by omega)) := gq _
    have h1 := hJ _ hk'
    have h2 := hne _ hk'
    rcases Nat.eq_zero_or_pos j with rfl | hj0
    ·simp at hj; rw [hk'] at hj; cases hj; omega
    ·have := up_get hl (show k < k + j by omega) hk' hj
     omega
   refine .pure ⟨?_, fun x => ?_, by simp; omega⟩
   ·rw [List.append_assoc, List.pairwise_append]
    refine ⟨hl.sublist (List.take_sublist _ _), ?_, fun x hx y hy => ?_⟩
    ·rw [List.singleton_append, List.pairwise_cons]
     exact ⟨hhigh, hl.sublist (List.drop_sublist _ _)⟩
    ·have := hlow x hx
     rcases List.mem_cons.1 hy with rfl | hy
     ·exact this
     ·have := hhigh y hy; omega
   ·have : x ∈ l ↔ x ∈ l.take k ∨ x ∈ l.drop k := by rw [← List.mem_append, List.take_append_drop]
    simp only [List.mem_append, List.mem_cons, List.not_mem_nil, or_false]
    rw [this]
    constructor
    ·rintro ((h | h) | h)
     ·exact .inl (.inl h)
     ·exact .inr h
     ·exact .inl (.inr h)
    ·rintro ((h | h) | h)
     ·exact .inl (.inl h)
     ·exact .inr h
     ·exact .inl (.inr h)
  unfold L.zkpq.J1
  refine Ok.iteD (fun hlt => .bind' (.ix k rfl (by omega) ?_)) fun hn => fin fun x hx => by have := (gs hx).1; omega
  have hx : l[k]? = some (l[k]'(by omega)) := gq _
  dsimp only
  by_cases he : l[k] = n
  ·rw [show (l[k] == n) = true by simpa using he]
   unfold L.zkpq.J2
   refine Ok.iteB (fun _ => .pure ⟨hl, fun x => ⟨.inl, fun h => ?_⟩, by omega⟩) fun h => by cases h
   rcases h with h | rfl
   ·exact h
   ·exact he ▸ mg hx
  ·rw [show (l[k] == n) = false by simpa using he]
   exact fin fun x hx' => by rw [hx] at hx'; cases hx'; exact he
theorem ref19Breaks {s : Segment} {f : List Piece} (h1 : s.Points.length ≤ 100) (h2 : f.length ≤ 12) (h3 : ∀ p, p ∈ f → 1 ≤ p.Volume) (h4 : sumV f ≤ 1000000) : L.zkrt s f = some (brk s f) := by
 have : Ok (L.zkrt s f) fun r => r = brk s f := by
  unfold L.zkrt
  refine .bind (.forS (fun k st => st.Pairwise (· < ·) ∧ (∀ x, x ∈ st ↔ ∃ p, p ∈ s.Points.take k ∧ p.At = x) ∧ st.length ≤ k) ⟨.nil, by simp, by simp⟩ ?_ fun st h => h) ?_
  ·rintro k p st hp ⟨i1, i2, i3⟩
   have hk := (gs hp).1
   unfold L.zkrt.B4
   refine .bind (add19_ok i1 (by omega) p.At) ?_
   rintro r ⟨r1, r2, r3⟩
   refine .pure ⟨r1, fun x => ?_, by omega⟩
   rw [r2, i2, List.take_add_one, hp]
   simp only [Option.toList_some, List.mem_append, List.mem_cons, List.not_mem_nil, or_false]
   constructor
   ·rintro (⟨q, hq, rfl⟩ | rfl)
    ·exact ⟨q, .inl hq, rfl⟩
    ·exact ⟨p, .inr rfl, rfl⟩
   ·rintro ⟨q, hq | rfl, rfl⟩
    ·exact .inl ⟨q, hq, rfl⟩
    ·exact .inr rfl
  ·rintro out ⟨o1, o2, o3⟩
   rw [List.take_of_length_le (Nat.le_refl _)] at o2
   unfold L.zkrt.J1
   refine .bind (.forS (fun k st => st.1.Pairwise (· < ·) ∧ (∀ x, x ∈ st.1 ↔ (∃ p, p ∈ s.Points ∧ p.At = x) ∨ ∃ j, j < k ∧ x = sumV (f.take (j + 1))) ∧ st.1.length ≤ s.Points.length + k ∧ st.2 = sumV (f.take k)) ⟨o1, by simpa using o2, by simpa using o3, by simp [sumV]⟩ ?_ fun st h => h) ?_
   ·rintro k p ⟨st, at_⟩ hp ⟨i1, i2, i3, i4⟩
    dsimp only at i1 i2 i3 i4
    subst i4
    have hk := (gs hp).1
    have e := sumV_take hp
    have b := sumV_le_take h3 (k + 1)
    unfold L.zkrt.B3
    dsimp only
    rw [wr_id (by omega), ← e]
    refine .bind (add19_ok i1 (by omega) _) ?_
    rintro r ⟨r1, r2, r3⟩
    refine .pure ⟨r1, fun x => ?_, by dsimp only; omega, rfl⟩
    dsimp only
    rw [r2, i2]
    constructor
    ·rintro ((h | ⟨j, hj, rfl⟩) | rfl)
     ·exact .inl h
     ·exact .inr ⟨j, by omega, rfl⟩
     ·exact .inr ⟨k, by omega, rfl⟩
    ·rintro (h | ⟨j, hj, rfl⟩)
     ·exact .inl (.inl h)
     ·by_cases hjk : j = k
      ·subst hjk; exact .inr rfl
      ·exact .inl (.inr ⟨j, by omega, rfl⟩)
   ·rintro ⟨st, at_⟩ ⟨i1, i2, i3, i4⟩
    unfold L.zkrt.J2
    refine .pure (up_uniq i1 (brk_up s f) fun x => ?_)
    rw [brk_mem]; exact i2 x
 obtain ⟨r, h, rfl⟩ := this
 exact h
theorem at14 {cap : Int} {f : List Piece} (hf : FillOk cap f) (hc : 1 ≤ cap ∧ cap ≤ 1000) {a : Int} {k : Nat} {x : Piece} (hx : f[k]? = some x) (h1 : 0 ≤ a) (h2 : sumV (f.take k) ≤ a) (h3 : a < sumV (f.take (k + 1))) : L.zqbz f a = some x.Batch := by
 have : Ok (L.zqbz f a) fun r => r = x.Batch := by
  unfold L.zqbz
  rw [ref14Valid hf hc]
  refine .bind' (.pure (Ok.iteN (fun h => by cases h) fun _ => ?_))
  rw [show decide (a < 0) = false by simp; omega]
  unfold L.zqbz.J1
  refine Ok.iteB (fun h => by cases h) fun _ => .bind (Q := Sum.elim (fun _ : Int => False) fun r : Int => r = x.Batch) (.forL (fun j st => j ≤ k ∧ st = a - sumV (f.take j)) (fun r => r = x.Batch) ⟨Nat.zero_le _, by simp [sumV]⟩ ?_ ?_ fun _ h => h) ?_
  ·rintro j y _ hy ⟨hj, rfl⟩
   have e := sumV_take hy
   unfold L.zqbz.B3
   refine Ok.iteD (fun hh => .pure ?_) fun hh => .pure ?_
   ·have : j = k := by
     rcases Nat.lt_or_ge j k with hlt | hge
     ·have := sumV_mono hf.vol (show j + 1 ≤ k from hlt); omega
     ·omega
    subst this
    rw [hx] at hy; cases hy
    rfl
   ·have hjk : j ≠ k := by
     rintro rfl
     omega
    have b1 := sumV_le_take hf.vol (j + 1)
    have b2 := hf.sum
    have b3 := sumV_le_take hf.vol (k + 1)
    exact ⟨by omega, by rw [wr_id (by omega)]; omega⟩
  ·rintro _ ⟨hk, rfl⟩
   have := (gs hx).1
   omega
  ·rintro (_ | r) hr
   ·exact hr.elim
   ·exact .pure hr
 obtain ⟨r, h, rfl⟩ := this
 exact h
theorem liq_full {f : List Piece} {b : List Batch} {p : List Product} {cap : Int} (hf : FillOk cap f) (hb : BatsOk p.length b) :
  ∃ l, L.zovs f b p = some (l, 0) ∧ l.length = f.length ∧ (∀ y, y ∈ l → y ∈ p) ∧ ∀ (k : Nat) (x : Piece) (y : Product), f[k]? = some x → l[k]? = some y → ∃ (j : Nat) (c : Batch) (i : Nat), x.Batch = (j : Int) ∧ b[j]? = some c ∧ c.Product = (i : Int) ∧ p[i]? = some y := by
 have : Ok (L.zovs f b p) fun r => r.2 = 0 ∧ r.1.length = f.length ∧ (∀ y, y ∈ r.1 → y ∈ p) ∧ ∀ (k : Nat) (x : Piece) (y : Product), f[k]? = some x → r.1[k]? = some y → ∃ (j : Nat) (c : Batch) (i : Nat), x.Batch = (j : Int) ∧ b[j]? = some c ∧ c.Product = (i : Int) ∧ p[i]? = some y := by
  have hlen := hf.len
  unfold L.zovs
  refine .bind' (.forL (fun k st => st.length = k ∧ (∀ y, y ∈ st → y ∈ p) ∧ ∀ (k : Nat) (x : Piece) (y : Product), f[k]? = some x → st[k]? = some y → ∃ (j : Nat) (c : Batch) (i : Nat), x.Batch = (j : Int) ∧ b[j]? = some c ∧ c.Product = (i : Int) ∧ p[i]? = some y) (fun _ => False) ⟨rfl, by simp, by simp⟩ ?_ ?_ fun _ h => h.elim)
  ·rintro k x st hx ⟨h1, h2, h3⟩
   have hk := (gs hx).1
   have hbx := hf.bat x (mg hx)
   have hbl := hb.len
   unfold L.zovs.B2
   refine Ok.iteD (fun h => by omega) fun _ => .bind' (.ix' hbx.1 (by omega) fun j y hj hy => ?_)
   have hy2 := hb.all y (mg hy)
   refine Ok.iteB (fun h => ?_) fun _ => .bind' (.ix' hy2.1 hy2.2 fun i z hi hz => .bind' (.app (by simp; omega) (.pure ⟨by simp [h1], fun w hw => ?_, fun k' x' y' hx' hy' => ?_⟩)))
   ·simp at h; omega
   ·rcases List.mem_append.1 hw with hw | hw
    ·exact h2 w hw
    ·simp at hw; subst hw; exact mg hz
   ·rw [List.getElem?_append] at hy'
    split at hy'
    ·exact h3 k' x' y' hx' hy'
    ·rename_i hge
     have := (gs hy').1
     simp at this
     have : k' = st.length := by omega
     subst this
     simp at hy'
     subst h1
     rw [hx] at hx'; cases hx'
     subst hy'
     exact ⟨j, y, i, hj, hy, hi, hz⟩
  ·rintro st ⟨h1, h2, h3⟩
   exact .pure ⟨rfl, h1, h2, h3⟩
 obtain ⟨⟨l, e⟩, h, h1, h2, h3, h4⟩ := this
 dsimp only at h1 h2 h3 h4
 subst h1
 exact ⟨l, h, h2, h3, h4⟩
theorem part19 {s : Segment} {f : List Piece} {bs : List Batch} {p l : List Product} {i : Nat} {x : gradient_part} {r a b : Int} (hs : SegG s) (hf : FillOk s.Capacity f)
  (hl : ∀ (k : Nat) (x : Piece) (y : Product), f[k]? = some x → l[k]? = some y → ∃ (j : Nat) (c : Batch) (i : Nat), x.Batch = (j : Int) ∧ bs[j]? = some c ∧ c.Product = (i : Int) ∧ p[i]? = some y)
  (hx : IsPart s f l i x) (hxo : PartOk s x) (ha : (brk s f)[i]? = some a) (hb : (brk s f)[i + 1]? = some b) (hr : -1000 ≤ r ∧ r ≤ 1000) :
  L.zqae s f bs p r a b = some (frA s r x, frB s, liA x, liB x) := by
 have hc := hs.cap
 have hpl := hs.points.len
 obtain ⟨a', b', q, u, v, k, y, h1, h2, h3, h4, h5, h6, h7, h8, h9, h10, rfl⟩ := hx
 rw [ha] at h1; cases h1
 rw [hb] at h2; cases h2
 have hfk : f[k]? = some (f[k]'h9) := gq _
 obtain ⟨j, c, i', e1, e2, e3, e4⟩ := hl k _ y hfk h10
 have hab := up_get (brk_up s f) (Nat.lt_succ_self i) ha hb
 have har := brk_range hs.points hf (mg ha)
 have hbr := brk_range hs.points hf (mg hb)
 have hua : u.At ≤ a := brk_prev ha hb (brk_mem.2 (.inl ⟨u, mg h3, rfl⟩)) h5
 have hka : sumV (f.take k) ≤ a := by
  rcases Nat.eq_zero_or_pos k with rfl | hk0
  ·simp [sumV]; omega
  ·exact brk_prev ha hb (brk_mem.2 (.inr ⟨k - 1, by omega, by rw [show k - 1 + 1 = k by omega]⟩)) h7
 have hq : q + 1 < s.Points.length := (gs h4).1
 have huR := hs.points.at_range h3
 have hvR := hs.points.at_range h4
 have hh1 := hs.points.height u (mg h3)
 have hh2 := hs.points.height v (mg h4)
 have fr := hxo.friction; have de := hxo.density
 dsimp only at fr de
 have hlen : wr (b - a) = b - a := wr_id (by omega)
 have m1 := mul_bd (a := s.Resist) (b := y.Friction) (A := 1000) (B := 2000) (by have := hs.resist; omega) (by omega)
 have m2 := mul_bd (a := s.Resist * y.Friction) (b := r) (A := 2000000) (B := 1000) (by omega) (by omega)
 have m3 := mul_bd (a := s.Resist * y.Friction * r) (b := r) (A := 2000000000) (B := 1000) (by omega) (by omega)
 have m4 := mul_bd (a := s.Resist * y.Friction * r * r) (b := b - a) (A := 2000000000000) (B := 1000) (by omega) (by omega)
 have n1 := mul_bd (a := y.Density * 9807) (b := v.Height - u.Height) (A := 12000000) (B := 5500) (by omega) (by omega)
 have n2 := mul_bd (a := y.Density * 9807 * (v.Height - u.Height)) (b := b - a) (A := 66000000000) (B := 1000) (by omega) (by omega)
 have : Ok (L.zqae s f bs p r a b) fun t => t = (frA s r ⟨b - a, v.At - u.At, v.Height - u.Height, y⟩, frB s, liA ⟨b - a, v.At - u.At, v.Height - u.Height, y⟩, liB ⟨b - a, v.At - u.At, v.Height - u.Height, y⟩) := by
  unfold L.zqae
  rw [at14 hf hc hfk har.1 hka (by omega), e1]
  refine .bind' (.pure (.bind' (.eq (ix_nat e2) ?_)))
  dsimp only
  rw [e3]
  refine .bind' (.eq (ix_nat e4) (.bind (Q := fun d : Int => d = (q : Int)) ?_ ?_))
  ·refine .loop (fun st : Int => ∃ m : Nat, st = (m : Int) ∧ m ≤ q) (fun st => q - st.toNat) ⟨0, rfl, Nat.zero_le _⟩ (by omega) ?_
   rintro _ ⟨m, rfl, hm⟩
   have hw : s.Points[m + 1]? = some (s.Points[m + 1]'(by omega)) := gq _
   unfold L.zqae.B3
   rw [wr_id (by omega)]
   refine .bind' (.eq (by rw [show (m : Int) + 1 = ((m + 1 : Nat) : Int) by omega]; exact ix_nat hw) ?_)
   dsimp only
   by_cases hmq : m = q
   ·subst hmq
    rw [h4] at hw
    rw [← Option.some.inj hw]
    exact Ok.iteD (fun hh => by omega) fun _ => .pure rfl
   ·have hle : s.Points[m + 1].At ≤ u.At := by
     rcases Nat.lt_or_ge (m + 1) q with hlt | hge
     ·have := hs.points.asc _ _ _ _ hlt hw h3; omega
     ·have : m + 1 = q := by omega
      subst this
      rw [h3] at hw; rw [← Option.some.inj hw]; omega
    exact Ok.iteD (fun hh => .pure ⟨⟨m + 1, by omega, by omega⟩, by omega⟩) fun hh => by omega
  ·rintro _ rfl
   unfold L.zqae.J1
   refine .bind' (.eq (ix_nat h3) ?_)
   rw [wr_id (by omega)]
   refine .bind' (.eq (by rw [show (q : Int) + 1 = ((q + 1 : Nat) : Int) by omega]; exact ix_nat h4) ?_)
   unfold L.zqae.J2
   dsimp only
   refine .pure ?_
   unfold frA frB liA liB
   dsimp only
   rw [wr_id (x := b - a) (by omega), wr_id (x := s.Resist * y.Friction) (by omega), wr_id (x := s.Resist * y.Friction * r) (by omega), wr_id (x := s.Resist * y.Friction * r * r) (by omega), wr_id (x := s.Resist * y.Friction * r * r * (b - a)) (by omega),
    wr_id (x := 1000 * s.Capacity) (by omega), wr_id (x := y.Density * 9807) (by omega), wr_id (x := v.Height - u.Height) (by omega), wr_id (x := y.Density * 9807 * (v.Height - u.Height)) (by omega),
    wr_id (x := y.Density * 9807 * (v.Height - u.Height) * (b - a)) (by omega), wr_id (x := v.At - u.At) (by omega), wr_id (x := 1000 * (v.At - u.At)) (by omega)]
 obtain ⟨t, h, rfl⟩ := this
 exact h
theorem along19 {s : Segment} {f : List Piece} {bs : List Batch} {p l : List Product} {W : List gradient_part} (hs : SegG s) (hf : FillOk s.Capacity f) (hp : ProdsOk p) (hb : BatsOk p.length bs)
  (hl : ∀ (k : Nat) (x : Piece) (y : Product), f[k]? = some x → l[k]? = some y → ∃ (j : Nat) (c : Batch) (i : Nat), x.Batch = (j : Int) ∧ bs[j]? = some c ∧ c.Product = (i : Int) ∧ p[i]? = some y)
  (hW : Parts s f l W) (hP : ∀ x, x ∈ W → PartOk s x) {r : Int} {b : Bounds} (hr : 1 ≤ r ∧ r ≤ 1000) (hb1 : b.Low ≤ b.High) (hb2 : -1125899906842624 ≤ b.Low) (hb3 : b.High ≤ 1125899906842624) :
  L.zwrr s f bs p r b = some (along s f W r b, 0) := by
 have hc := hs.cap
 have hpl := hs.points.len
 have hfl := hf.len
 have hbl := brk_len s f
 have hb2' := brk_two hs.points hc.1 hf
 have hWl := hW.len
 have hprop : L.znpg b = true := by unfold L.znpg; simp; omega
 have hcond : ((r == 0) || (decide (r < (-1000)) || (decide (r > 1000) || (!(L.znpg b))))) = false := by rw [hprop]; simp; omega
 have e0 : along s f W r b = lvls s r b (brk s f) W := by unfold along; rw [if_neg (by omega)]
 have : Ok (L.zwrr s f bs p r b) fun t => t = (along s f W r b, 0) := by
  unfold L.zwrr
  rw [ref19Fits hs hf, ref04Check hp, ref19Known hf hb, hcond]
  refine .bind' (.pure (Ok.iteU (fun h => absurd rfl h) fun _ => .bind' (.pure (Ok.iteU (fun h => absurd rfl h) fun _ => .bind' (.pure (Ok.iteN (fun h => by cases h) fun _ => Ok.iteB (fun h => by cases h) fun _ => ?_))))))
  rw [ref19Breaks (by omega) hfl hf.vol (by have := hf.sum; omega)]
  refine .bind' (.pure (.bind' (.mk (brk s f).length rfl (by omega) (Ok.iteD (fun _ => ?_) fun h => by omega))))
  have h0 : (brk s f)[0]? = some ((brk s f)[0]'(by omega)) := gq _
  have h0' : ix (brk s f) 0 = some (0, (brk s f)[0]'(by omega)) := ix_nat h0
  rw [h0']
  refine .bind' (.pure (.bind' (.ix 0 rfl (by simp; omega) ?_)))
  dsimp only
  refine .bind (Q := fun d => d = lvls s r b (brk s f) W) ?_ (by rintro _ rfl; unfold L.zwrr.J4; exact .pure (by rw [e0]))
  refine .loop (fun st : List Level × Int × Int × Int => ∃ k : Nat, st.2.2.2 = ((k + 1 : Nat) : Int) ∧ k + 1 ≤ (brk s f).length ∧ st.2.1 = b.Low - sumBy (hi s r) (W.take k) ∧ st.2.2.1 = b.High - sumBy (lo s r) (W.take k) ∧ st.1.length = (brk s f).length ∧
   ∀ j, j ≤ k → st.1[j]? = some (lvl s r b (brk s f) W j)) (fun st => (brk s f).length - st.2.2.2.toNat) ⟨0, rfl, by omega, by simp [sumBy], by simp [sumBy], by simp, fun j hj => ?_⟩ (by dsimp only; omega) ?_
  ·have : j = 0 := by omega
   subst this
   rw [List.getElem?_set_self (by simp; omega)]
   simp [lvl, List.getD, h0, sumBy]
  ·rintro ⟨out, low, high, i⟩ ⟨k, h1, h2, h3, h4, h5, h6⟩
   dsimp only at h1 h2 h3 h4 h5 h6 ⊢
   subst h1 h3 h4
   unfold L.zwrr.B5
   dsimp only
   refine Ok.iteD (fun hlt => ?_) fun hn => .pure ?_
   ·have hkW : k < W.length := by omega
    have hx : W[k]? = some (W[k]'hkW) := gq _
    have hm := hP _ (mg hx)
    have ha : (brk s f)[k]? = some ((brk s f)[k]'(by omega)) := gq _
    have hbb : (brk s f)[k + 1]? = some ((brk s f)[k + 1]'(by omega)) := gq _
    have bd : ∀ x, x ∈ W.take (k + 1) → PartOk s x := fun x hx => hP x (List.mem_of_mem_take hx)
    have s1 := sumBy_bd (g := lo s r) (B := 3000000000000000) (l := W.take (k + 1)) fun x hx => (lo_bd hc.1 hs.resist hr (bd x hx)).1
    have s2 := sumBy_bd (g := hi s r) (B := 3000000000000000) (l := W.take (k + 1)) fun x hx => (lo_bd hc.1 hs.resist hr (bd x hx)).2
    have t1 := sumBy_take (lo s r) hx
    have t2 := sumBy_take (hi s r) hx
    simp only [List.length_take] at s1 s2
    have fA := frA_bd hs.resist hr hm
    have lA := liA_bd hm
    have hw := hm.width
    have b1 : 1 ≤ frB s ∧ frB s ≤ 1099511627776 := by unfold frB; omega
    have b2 : 1 ≤ liB (W[k]'hkW) ∧ liB (W[k]'hkW) ≤ 1099511627776 := by unfold liB; omega
    have d1 := dn_small (a := frA s r (W[k]'hkW)) (b := frB s) (by omega)
    have d2 := up_small (a := frA s r (W[k]'hkW)) (b := frB s) (by omega)
    rw [wr_id (x := ((k + 1 : Nat) : Int) - 1) (by omega), show ((k + 1 : Nat) : Int) - 1 = (k : Int) by omega, ix_nat ha, ix_nat hbb]
    simp only [Option.bind_some]
    rw [part19 hs hf hl (hW.all k _ hx) hm ha hbb (by omega)]
    simp only [Option.bind_some]
    rw [ref01Up b1 (by omega), ref01Up b2 (by omega), ref01Down b1 (by omega), ref01Down b2 (by omega)]
    simp only [Option.bind_some]
    have hlo : lo s r (W[k]'hkW) = dn (frA s r (W[k]'hkW)) (frB s) + dn (liA (W[k]'hkW)) (liB (W[k]'hkW)) := rfl
    have hhi : hi s r (W[k]'hkW) = up (frA s r (W[k]'hkW)) (frB s) + up (liA (W[k]'hkW)) (liB (W[k]'hkW)) := rfl
    have s1' := sumBy_bd (g := lo s r) (B := 3000000000000000) (l := W.take k) fun x hx => (lo_bd hc.1 hs.resist hr (hP x (List.mem_of_mem_take hx))).1
    have s2' := sumBy_bd (g := hi s r) (B := 3000000000000000) (l := W.take k) fun x hx => (lo_bd hc.1 hs.resist hr (hP x (List.mem_of_mem_take hx))).2
    simp only [List.length_take] at s1' s2'
    refine .bind' (.ix (k + 1) rfl (by omega) (.pure ⟨⟨k + 1, ?_, by omega, ?_, ?_, by simp [h5], fun j hj => ?_⟩, ?_⟩))
    ·dsimp only; rw [wr_id (by omega)]; omega
    ·dsimp only; rw [t2, hhi, wr_id (x := b.Low - sumBy (hi s r) (W.take k) - up (frA s r (W[k]'hkW)) (frB s)) (by omega), wr_id (by omega)]; omega
    ·dsimp only; rw [t1, hlo, wr_id (x := b.High - sumBy (lo s r) (W.take k) - dn (frA s r (W[k]'hkW)) (frB s)) (by omega), wr_id (by omega)]; omega
    ·dsimp only
     by_cases hjk : j = k + 1
     ·subst hjk
      rw [List.getElem?_set_self (by omega)]
      simp only [lvl, List.getD, hbb, Option.getD_some, t1, t2]
      rw [hlo, hhi, wr_id (x := b.Low - sumBy (hi s r) (W.take k) - up (frA s r (W[k]'hkW)) (frB s)) (by omega), wr_id (x := b.Low - sumBy (hi s r) (W.take k) - up (frA s r (W[k]'hkW)) (frB s) - _) (by omega),
       wr_id (x := b.High - sumBy (lo s r) (W.take k) - dn (frA s r (W[k]'hkW)) (frB s)) (by omega), wr_id (by omega)]
      congr 3 <;> omega
     ·rw [List.getElem?_set_ne (by omega)]
      exact h6 j (by omega)
    ·dsimp only; rw [wr_id (by omega)]; omega
   ·have hk : k + 1 = (brk s f).length := by omega
    apply List.ext_getElem?
    intro j
    by_cases hj : j < (brk s f).length
    ·rw [h6 j (by omega), lvls_get _ _ _ _ hj]
    ·rw [List.getElem?_eq_none (by omega), List.getElem?_eq_none (by rw [lvls_len]; omega)]
 obtain ⟨t, h, rfl⟩ := this
 exact h
theorem awake21 : L.zusz = some true := by kernel_rfl
def nSingle (s : Segment) : Network := ⟨([(⟨#[97]⟩ : ByteArray), (⟨#[98]⟩ : ByteArray)] : List ByteArray), [s], ([(⟨(⟨#[105, 110]⟩ : ByteArray), 0, 300000⟩ : Port), (⟨(⟨#[111, 117, 116]⟩ : ByteArray), 1, 0⟩ : Port)] : List Port), ([(⟨(⟨#[112]⟩ : ByteArray), 0, 500000, 200, 100000⟩ : Station)] : List Station), 50000, 10⟩
theorem nmd1 {x : ByteArray} (h : L.zcvq x = some true) : Nmd [x] := by
 refine ⟨by simp, fun k y hy => ?_, fun i j y z hy hz _ => ?_⟩
 ·have := mg hy
  simp at this; subst this; exact h
 ·have h1 := (gs hy).1
  have h2 := (gs hz).1
  simp at h1 h2; omega
theorem nmd2 {x y : ByteArray} (h : L.zcvq x = some true) (h' : L.zcvq y = some true) (h1 : sEq x y = false) (h2 : sEq y x = false) : Nmd [x, y] := by
 refine ⟨by simp, fun k z hz => ?_, fun i j a b ha hb he => ?_⟩
 ·have := mg hz
  simp at this; rcases this with rfl | rfl <;> assumption
 ·have l1 := (gs ha).1
  have l2 := (gs hb).1
  simp at l1 l2
  have : (i = 0 ∨ i = 1) ∧ (j = 0 ∨ j = 1) := by omega
  rcases this with ⟨rfl | rfl, rfl | rfl⟩
  ·rfl
  ·simp at ha hb; subst ha hb; rw [h1] at he; cases he
  ·simp at ha hb; subst ha hb; rw [h2] at he; cases he
  ·rfl
theorem single_net {s : Segment} (hs : SegOk 2 0 s) : NetOk (nSingle s) := by
 refine ⟨by simp [nSingle], by simp [nSingle], fun k t ht => ?_, by simp [nSingle], fun k q hq => ?_, fun i j p q hij hp hq => ?_, by simp [nSingle], fun k t ht => ?_, fun i j p q hij hp hq => ?_, by simp [nSingle], by simp [nSingle], fun l hl => ?_⟩
 ·simp only [nSingle] at ht
  have := (gs ht).1
  simp at this; subst this
  simp at ht; subst ht; exact hs
 ·simp only [nSingle] at hq
  have := mg hq
  simp at this
  rcases this with rfl | rfl
  ·exact ⟨by simp [nSingle], by simp⟩
  ·exact ⟨by simp [nSingle], by simp⟩
 ·simp only [nSingle] at hp hq
  have h1 := (gs hq).1
  simp at h1
  have hi : i = 0 := by omega
  have hj : j = 1 := by omega
  subst hi hj
  simp at hp hq; subst hp hq; decide
 ·simp only [nSingle] at ht
  have := mg ht
  simp at this; subst this
  exact ⟨by rfl, by simp [nSingle], by simp, by simp, by simp⟩
 ·simp only [nSingle] at hp hq
  have h1 := (gs hq).1
  simp at h1; omega
 ·simp only [nSingle, List.map_cons, List.map_nil, List.mem_cons, List.not_mem_nil, or_false] at hl
  rcases hl with rfl | rfl | rfl | rfl
  ·exact nmd2 (by rfl) (by rfl) (by kernel_rfl) (by kernel_rfl)
  ·refine nmd1 ?_
   rw [hs.name]; exact nameOk (by simp) (by decide)
  ·exact nmd2 (by rfl) (by rfl) (by kernel_rfl) (by kernel_rfl)
  ·exact nmd1 (by rfl)
theorem single_flow {s : Segment} (hs : SegOk 2 0 s) (h0 : s.From = 0) (h1 : s.To = 1) {r : Int} (hr : 1 ≤ r ∧ r ≤ 1000 ∧ r ≤ s.Capacity) (b : Bool) : FlowOk (nSingle s) ⟨[r], [r, -r], [b]⟩ := by
 have e : L.ztzg s r = (0, 1) := by unfold L.ztzg; rw [if_neg (by simp; omega), h0, h1]
 refine ⟨by simp [nSingle], by simp [nSingle], by simp [nSingle], fun k x t hx ht => ?_, fun k x hx => ?_, fun v _ => ?_, fun there hl hb k hk => ?_⟩
 ·simp only [nSingle] at ht
  have h1 := mg hx
  have h2 := mg ht
  simp at h1 h2; subst h1 h2; omega
 ·have h1 := mg hx
  simp at h1; omega
 ·simp only [nSingle, wt, wp, List.map_cons, List.map_nil, dot, h0, h1]
  simp only [Int.sub_mul]
  have : ∀ a c : Int, a * r - c * r + 0 + (c * r + (a * -r + 0)) = 0 := fun a c => by rw [Int.mul_neg]; omega
  exact this _ _
 ·simp only [nSingle] at hl
  have blk : ∀ j : Nat, there[j]? = some false → j = 1 ∧ there[0]? = some false := by
   intro j hj
   obtain ⟨i, s', r', f, hs', hr', hr0, hto, hfr, hf⟩ := hb j hj
   simp only [nSingle] at hs'
   have m1 := mg hs'
   have m2 := mg hr'
   simp at m1 m2; subst m1 m2
   rw [e] at hto hfr
   dsimp only at hto hfr
   have : f = 0 := by omega
   subst this
   exact ⟨by omega, hf⟩
  have := (blk k hk).2
  have := (blk 0 this).1
  omega
theorem outf_single {s : Segment} (h0 : s.From = 0) (h1 : s.To = 1) {r : Int} (hr : 1 ≤ r) (b : Bool) : outf (nSingle s) ⟨[r], [r, -r], [b]⟩ 0 = r := by
 have e : L.ztzg s r = (0, 1) := by unfold L.ztzg; rw [if_neg (by simp; omega), h0, h1]
 unfold outf
 simp only [nSingle, outW, e]
 simp
 omega
theorem along19_of {s : Segment} {f : List Piece} {bs : List Batch} {p l : List Product} {W : List gradient_part} (hs : SegG s) (hf : FillOk s.Capacity f) (hp : ProdsOk p) (hb : BatsOk p.length bs)
  (hl : L.zovs f bs p = some (l, 0)) (hW : Parts s f l W) (hP : ∀ x, x ∈ W → PartOk s x) {r : Int} {b : Bounds} (hr : 1 ≤ r ∧ r ≤ 1000) (hb1 : b.Low ≤ b.High) (hb2 : -1125899906842624 ≤ b.Low) (hb3 : b.High ≤ 1125899906842624) :
  L.zwrr s f bs p r b = some (along s f W r b, 0) := by
 obtain ⟨l', h1, _, _, h4⟩ := liq_full hf hb
 rw [hl] at h1
 have := (Prod.mk.inj (Option.some.inj h1)).1
 subst this
 exact along19 hs hf hp hb h4 hW hP hr hb1 hb2 hb3
set_option maxHeartbeats 1000000 in
theorem steadySingle (l : List Int) (rate : Int) (pump : Bool) (hq : 0 ≤ rate ∧ rate ≤ 255) : L.zocg l rate pump = some true := by
 have : Ok (L.zocg l rate pump) fun r => r = true := by
  unfold L.zocg
  refine .bind (new_ok l) fun s0 hs0 => .bind (seg_ok hs0 (nodes := 2) (k := 0) (by decide) (by decide) (by decide) (by decide)) ?_
  rintro ⟨s, s1⟩ ⟨hs, hs1⟩
  dsimp only at hs hs1 ⊢
  refine .bind (products_ok hs1) ?_
  rintro ⟨pr, s2⟩ ⟨hpr, hs2⟩
  dsimp only at hpr hs2 ⊢
  refine .bind (batches_ok hs2 hpr.len) ?_
  rintro ⟨b, s3⟩ ⟨hb, hs3⟩
  dsimp only at hb hs3 ⊢
  refine .bind (fill_ok hs3 hs.cap) ?_
  rintro ⟨f, s4⟩ ⟨hf, hs4⟩
  dsimp only at hf hs4 ⊢
  have hcap := hs.cap
  refine .bind' (.rem (by omega) ?_)
  rw [wr_id (x := rate) (by omega)]
  have t1 := Int.tmod_nonneg (min 1000 s.Capacity) hq.1
  have t2 := Int.tmod_lt_of_pos rate (b := min 1000 s.Capacity) (by omega)
  obtain ⟨r, hr⟩ : ∃ r, r = 1 + rate.tmod (min 1000 s.Capacity) := ⟨_, rfl⟩
  rw [wr_id (x := 1 + rate.tmod _) (by omega), ← hr, wr_id (x := 0 - r) (by omega), show (0 : Int) - r = -r by omega]
  have hr1 : 1 ≤ r ∧ r ≤ 1000 ∧ r ≤ s.Capacity := by omega
  obtain ⟨s', hs'⟩ : ∃ s' : Segment, s' = ⟨s.Name, 0, 1, s.Capacity, s.Resist, s.Wave, s.Points⟩ := ⟨_, rfl⟩
  rw [← hs']
  have hso : SegOk 2 0 s' := by rw [hs']; exact ⟨hs.name, by simp, hs.cap, hs.resist, hs.wave, hs.points⟩
  have e0 : s'.From = 0 := by rw [hs']
  have e1 : s'.To = 1 := by rw [hs']
  have ec : s'.Capacity = s.Capacity := by rw [hs']
  have hn := single_net hso
  have hp := single_flow hso e0 e1 (by rw [ec]; exact hr1) pump
  have hw : W21 (nSingle s') b pr [f] := ⟨hn, hpr, hb, by simp [nSingle], fun k x t hx ht => by
   have h1 := mg hx
   simp only [nSingle] at ht
   have h2 := mg ht
   simp at h1 h2; subst h1 h2; rw [ec]; exact hf⟩
  obtain ⟨x, hx, hS⟩ := solve_spec hw hp
  refine .bind' (.eq hx ?_)
  have k1 := hS.inv.kl; have k2 := hS.inv.nl; have k3 := hS.inv.sl
  simp only [nSingle, List.length_cons, List.length_nil] at k1 k2 k3
  have hends : L.ztzg s' r = (0, 1) := by unfold L.ztzg; rw [if_neg (by simp; omega), e0, e1]
  have hfl : Fl (nSingle s') ⟨[r], [r, -r], [pump]⟩ 0 s' r := ⟨rfl, rfl, by omega⟩
  obtain ⟨lv, l1, l2, v, bd, c, fi, m1, m2, m3, m4, m5, m6⟩ := hS.segs 0 s' r hfl
  rw [hends] at m1
  have hv : v = 0 := by dsimp only at m1; omega
  subst hv
  cases m5
  obtain ⟨kb0, c0, g1, g2, g3⟩ := hS.nodes 0 (by simp [nSingle])
  obtain ⟨kb1, c1, g1', g2', g3'⟩ := hS.nodes 1 (by simp [nSingle])
  have only0 : ∀ d, Come (nSingle s') ⟨[r], [r, -r], [pump]⟩ x.Segments (fun _ => True) (fun _ => True) ((0 : Nat) : Int) d → d = ⟨300000, 300000⟩ := by
   rintro d (⟨i, q, a, _, h1, h2, h3, h4, rfl⟩ | ⟨i, t, r', lv', _, h1, h2, _⟩)
   ·have := mg h1
    simp [nSingle] at this
    rcases this with rfl | rfl
    ·rfl
    ·simp at h4
   ·have m1 := mg h1.seg
    have m2 := mg h1.rate
    simp [nSingle] at m1 m2; subst m1 m2
    rw [hends] at h2; simp at h2
  have is0 : Come (nSingle s') ⟨[r], [r, -r], [pump]⟩ x.Segments (fun _ => True) (fun _ => True) ((0 : Nat) : Int) ⟨300000, 300000⟩ := .inl ⟨0, _, r, trivial, rfl, rfl, by omega, rfl, rfl⟩
  have only1 : ∀ d, Come (nSingle s') ⟨[r], [r, -r], [pump]⟩ x.Segments (fun _ => True) (fun _ => True) ((1 : Nat) : Int) d → d = lvEnd r lv := by
   rintro d (⟨i, q, a, _, h1, h2, h3, h4, rfl⟩ | ⟨i, t, r', lv', _, h1, h2, h3, rfl⟩)
   ·have hi := (gs h1).1
    simp [nSingle] at hi
    have : i = 0 ∨ i = 1 := by omega
    rcases this with rfl | rfl
    ·simp [nSingle] at h1; subst h1; simp at h4
    ·simp at h2; omega
   ·have hi := (gs h1.seg).1
    simp [nSingle] at hi
    subst hi
    have m2 := h1.rate
    simp at m2; subst m2
    rw [l1] at h3; cases h3; rfl
  have is1 : Come (nSingle s') ⟨[r], [r, -r], [pump]⟩ x.Segments (fun _ => True) (fun _ => True) ((1 : Nat) : Int) (lvEnd r lv) := .inr ⟨0, s', r, lv, trivial, hfl, by rw [hends]; rfl, l1, rfl⟩
  have hk0 := g3.kn.2 ⟨_, is0⟩
  have hk1 := g3'.kn.2 ⟨_, is1⟩
  subst hk0 hk1
  have b0 : c0 = ⟨300000, 300000⟩ := by
   obtain ⟨d1, a1, a2⟩ := g3.lo rfl
   obtain ⟨d2, a3, a4⟩ := g3.hi rfl
   rw [only0 d1 a1] at a2; rw [only0 d2 a3] at a4
   obtain ⟨u, w⟩ := c0
   dsimp only at a2 a4; rw [a2, a4]
  have b1 : c1 = lvEnd r lv := by
   obtain ⟨d1, a1, a2⟩ := g3'.lo rfl
   obtain ⟨d2, a3, a4⟩ := g3'.hi rfl
   rw [only1 d1 a1] at a2; rw [only1 d2 a3] at a4
   obtain ⟨u, w⟩ := c1
   dsimp only at a2 a4; rw [a2, a4]
  rw [g2] at m3; cases m3
  subst b0
  have hcb := hS.inv.ent (b := b) hn hp (by omega) g2 m4
  have hout : outf (nSingle s') ⟨[r], [r, -r], [pump]⟩ ((0 : Nat) : Int) = r := outf_single e0 e1 hr1.1 pump
  have hsg : SegG s' := hso.g (by decide)
  have hf' : FillOk s'.Capacity f := by rw [ec]; exact hf
  have fin : ∀ cc : Bounds, cc = c → Ok (L.zocg.J1 (s, s1) (pr, s2) (b, s3) (f, s4) (rate.tmod (min 1000 s.Capacity)) (x, 0) (cc.Low, cc.High)) fun r => r = true := by
   intro cc hcc
   subst hcc
   obtain ⟨q, hl1, hl2, hl3⟩ := liq_ok hf' hb
   obtain ⟨W, hW, hP, hA⟩ := along_ok hsg hf' hpr hl1 hl2 hl3
   have hA' := hA r cc (by omega) (by omega) (by omega) hcb.1 (by have := hcb.2; omega) (by have := hcb.2; omega)
   rw [m6] at hA'
   have hlv : lv = along s' f W r cc := (Prod.mk.inj (Option.some.inj hA')).1
   have h19 := along19_of hsg hf' hpr hb hl1 hW hP (r := r) (b := cc) ⟨hr1.1, hr1.2.1⟩ hcb.1 (by have := hcb.2; omega) (by have := hcb.2; omega)
   unfold L.zocg.J1
   dsimp only
   rw [show ix [f] 0 = some (0, f) from rfl]
   simp only [Option.bind_some]
   rw [← hs', wr_id (x := 1 + rate.tmod _) (by omega), ← hr, h19, ← hlv]
   simp only [Option.bind_some]
   rw [if_neg (by simp; omega), show ix x.Segments 0 = some (0, lv) from ix_nat l1]
   simp only [Option.bind_some]
   have hsame : L.zlrb lv lv = some true := by
    have : Ok (L.zlrb lv lv) fun r => r = true := by
     unfold L.zlrb
     rw [if_neg (by simp)]
     refine .bind' (.forL (fun _ _ => True) (fun _ => False) trivial ?_ (fun _ _ => .pure rfl) fun _ h => h.elim)
     intro k y _ hy _
     unfold L.zlrb.B2
     refine .bind' (.eq (ix_nat hy) ?_)
     simp only [beq_self_eq_true, Bool.and_self, Bool.not_true, Bool.false_eq_true, if_false]
     exact .pure trivial
    obtain ⟨z, hz, rfl⟩ := this
    exact hz
   rw [hsame]
   simp only [Option.bind_some, if_true]
   have hll : lv.length ≤ 20 := (hS.inv.sb 0 lv s' l1 rfl).1
   have il : lv[lv.length - 1]? = some (lv[lv.length - 1]'(by omega)) := gq _
   rw [show ix x.Nodes 1 = some (1, c1) from ix_nat g2', wr_id (by omega), show (lv.length : Int) - 1 = ((lv.length - 1 : Nat) : Int) by omega, ix_nat il]
   simp only [Option.bind_some]
   have he : c1 = (lv[lv.length - 1]'(by omega)).Bounds := by rw [b1]; unfold lvEnd; rw [if_pos (by omega), il]; rfl
   rw [if_pos (by rw [he]; simp), show ix x.Known 0 = some (0, true) from ix_nat g1]
   simp only [Option.bind_some, if_true]
   rw [show ix x.Known 1 = some (1, true) from ix_nat g1']
   simp only [Option.bind_some, if_true]
   rw [awake21]
   exact .pure rfl
  refine .bind' (.eq (show ix ([(⟨(⟨#[105, 110]⟩ : ByteArray), 0, 300000⟩ : Port), (⟨(⟨#[111, 117, 116]⟩ : ByteArray), 1, 0⟩ : Port)] : List Port) 0 = some (0, _) from rfl) ?_)
  rcases m4 with ⟨j, t, a1, a2, a3, a4⟩ | ⟨a1, a2⟩
  ·have hj := (gs a3).1
   simp at hj; subst hj
   simp at a3; subst a3
   simp [nSingle] at a1; subst a1
   rw [hout] at a4
   refine Ok.iteB (fun _ => ?_) fun h => by cases h
   refine .bind' (.eq (show ix ([(⟨(⟨#[112]⟩ : ByteArray), 0, 500000, 200, 100000⟩ : Station)] : List Station) 0 = some (0, _) from rfl) ?_)
   dsimp only
   have hb20 : L.zqzf (⟨(⟨#[112]⟩ : ByteArray), 0, 500000, 200, 100000⟩ : Station) r = some (boost ⟨(⟨#[112]⟩ : ByteArray), 0, 500000, 200, 100000⟩ r, 0) := by
    have m3 : 0 ≤ 200 * r * r := Int.mul_nonneg (by omega) (by omega)
    have m4 := mul_bd (a := 200 * r) (b := r) (A := 200000) (B := 1000) (by omega) (by omega)
    have dd := dn_small (a := 200 * r * r) (b := 1000) (by decide)
    have hv : L.zmyz (⟨(⟨#[112]⟩ : ByteArray), 0, 500000, 200, 100000⟩ : Station) = some true := by rfl
    have ht : (200 * r * r).tdiv 1000 = dn (200 * r * r) 1000 := by unfold dn; exact Int.tdiv_eq_ediv_of_nonneg m3
    unfold L.zqzf
    rw [hv]
    simp only [Option.bind_some, Bool.not_true, Bool.false_eq_true, if_false]
    rw [if_neg (by simp; omega), wr_id (x := 200 * r) (by omega), wr_id (x := 200 * r * r) (by omega), ht, wr_id (x := dn _ _) (by omega), wr_id (by omega)]
    rfl
   have hbo : 0 ≤ boost ⟨(⟨#[112]⟩ : ByteArray), 0, 500000, 200, 100000⟩ r ∧ boost ⟨(⟨#[112]⟩ : ByteArray), 0, 500000, 200, 100000⟩ r ≤ 500000 := by
    have m3 : 0 ≤ 200 * r * r := Int.mul_nonneg (by omega) (by omega)
    have := dn_nonneg (a := 200 * r * r) (b := 1000) (by decide) m3
    unfold boost; dsimp only; omega
   have hra : L.zrdf (⟨(⟨#[112]⟩ : ByteArray), 0, 500000, 200, 100000⟩ : Station) (⟨300000, 300000⟩ : Bounds) r = some (c, 0) := by
    unfold L.zrdf
    rw [hb20]
    simp only [Option.bind_some, bne_self_eq_false, Bool.false_eq_true, if_false]
    rw [if_neg (by unfold L.znpg; simp), wr_id (x := (300000 : Int) + _) (by omega), a4]
   rw [hra]
   exact .bind' (.pure (fin c rfl))
  ·have hp0 : pump = false := by
    cases hpb : pump with
    | false => rfl
    | true => exact absurd (by rw [hpb]; rfl) (a1 0 ⟨(⟨#[112]⟩ : ByteArray), 0, 500000, 200, 100000⟩ rfl rfl)
   subst hp0
   refine Ok.iteB (fun h => by cases h) fun _ => ?_
   dsimp only
   exact fin ⟨300000, 300000⟩ a2.symm
 obtain ⟨r, h, rfl⟩ := this
 exact h
end Go.Proofs.YtehbcbedipkifaaGreatDoor
namespace Go.Aw
set_option linter.unusedVariables false
set_option linter.unusedSimpArgs false
open Go.ChangeShapes Go.WideShapes Go.ChangeAt Go.RowKit
section
variable {H : Type} {enc : TypeId × Value → H} {P : Program}
theorem trodAll_below (hl : laidOutB P = true) {W W' : World} (hb : Below W.heap.size W W') : ∀ {ts : List TypeId} {vs : List Value} {ds : List (DataW H)} {ps : List MemPlace},
  (∀ t, t ∈ ts → P.readableRec t = true ∧ t < P.types.size) → (∀ x, x ∈ ps → x.block < W.heap.size) → DataW.TrodAll enc P W 0 (fun _ => true) true ts vs ds ps →
  DataW.TrodAll enc P W' 0 (fun b => decide (b < W.heap.size)) true ts vs ds ps
 | [], vs, ds, ps, _, _, h => by
  cases vs <;> cases ds <;> simp [DataW.TrodAll] at h ⊢
  exact h
 | t :: ts, vs, ds, ps, ht, hlt, h => by
  obtain ⟨v, vs', d, ds', p, q, rfl, rfl, rfl, h1, h2⟩ := trodAll_cons h
  have hr := ht t (by simp)
  exact ⟨p, q, Below.trod hl hr.1 hr.2 h1 hb (fun x hx => hlt x (by simp [hx])), trodAll_below hl hb (fun t ht' => ht t (by simp [ht'])) (fun x hx => hlt x (by simp [hx])) h2, rfl⟩
theorem law_post {f : Func} {s : ChangeSpec} {W W' : World} {args : Array Value} {ds : List (DataW H)} {p : List MemPlace} {t : TypeId} (hW : DataW.Whole enc P f.params.toList s.vars false W args.toList ds [] (p ++ []))
  (hA : DataW.TrodAll enc P W 0 (fun _ => true) true f.params.toList args.toList ds p)
  (hres : (s.fn H (ds ++ [])).results = [.lit (.bool true)]) (hargs : (s.fn H (ds ++ [])).args = ds) (hv : (s.fn H (ds ++ [])).vars = []) (hsv : s.vars = [])
  (hrt : f.resultTypes.toList = [t]) (hu : P.underlying t = some .bool) (hl : laidOutB P = true) (hall : ∀ t, t ∈ f.params.toList → P.readableRec t = true ∧ t < P.types.size)
  (hb : Below W.heap.size W W') : s.post enc P f false true false false W args (.bool true) W' := by
 have hlt : ∀ x, x ∈ p → x.block < W.heap.size := fun x hx => hW.lt x (by simp [hx])
 have hsz : f.resultTypes.size = 1 := by rw [← Array.length_toList, hrt]; rfl
 refine ⟨ds, [], p ++ [], [], p, [], hW, ?_, ?_, ?_, hb.frame _, fun h => by cases h⟩
 ·rw [hres, hrt, hsz]
  exact trodAll_mk1 (shut_bool hu true)
 ·rw [hargs]
  exact trodAll_below hl hb hall hlt hA
 ·rw [hv, hsv]; rfl
def encK (k : IntKind) (l : List Int) : T := .list 1 (l.map fun n => [.v (.int k n)])
theorem open_list {t e : TypeId} {k : IntKind} {W : World} {base : Nat} {r : Reach} {v : Value} {d : DataW H} {ps : List MemPlace} (ht : P.underlying t = some (.slice e)) (he : P.underlying e = some (.int k)) (hc : P.cellsOf e = 1)
  (hval : Value.okWide P W r base t v) (h : DataW.Trod enc P W 0 (fun _ => true) true t v d ps) :
  ∃ l : List Int, (l.length ≤ maxL → VR (fun b => W.heap[b]?) v (encK k l)) ∧ (∀ n, n ∈ l → (Lit.int k n).wf = true) ∧ (l = [] ∨ ∃ elems spare, d = .slice elems spare ∧ l.length = elems.length) := by
 obtain ⟨a0, len, cap, rfl⟩ := okWide_slice ht hval
 obtain ⟨fuel, hf⟩ := h
 rcases open_ints ht he hc hf with ⟨hcs, hx⟩ | ⟨a, len', cap', zs, hcs, _, hl, hm, hz, hx, hcell, hwz⟩
 ·simp [Value.cells] at hcs
  obtain ⟨rfl, rfl, rfl⟩ := hcs
  exact ⟨[], fun _ => .empty _ _ _, by simp, .inl rfl⟩
 ·simp [Value.cells] at hcs
  obtain ⟨rfl, rfl, rfl⟩ := hcs
  simp only [Prod.mk.injEq] at hx
  obtain ⟨rfl, rfl⟩ := hx
  simp only [if_true] at hz
  have hlt : (zs.take len).length = len := by simp; omega
  refine ⟨zs.take len, fun hmax => ?_, fun n hn => hwz n (List.mem_of_mem_take hn), .inr ⟨_, _, rfl, by simp [lits]⟩⟩
  by_cases hl0 : len = 0
  ·subst hl0; simp only [List.take_zero, encK, List.map_nil]; exact .empty _ _ _
  ·obtain ⟨b, off, spot⟩ := a
   have hspot : spot = none := by simpa [Addr.add] using World.cell?_spot (hcell 0 (by omega))
   subst hspot
   have hcell' : ∀ i, i < zs.length → W.cell? ⟨b, off + i, none⟩ = some (.int k (zs.getD i 0)) := fun i hi => by rw [← Addr.add_mk]; exact hcell i hi
   have hc0 := hcell' 0 (by omega)
   have hcs : ∃ cs ty fr, W.heap[b]? = some (.cells cs ty fr) := by
    unfold World.cell? at hc0
    split at hc0
    ·rename_i c ty fr hh; exact ⟨_, _, _, hh⟩
    ·cases hc0
   obtain ⟨cs, ty, fr, hh⟩ := hcs
   have hcs' : ∀ i, i < zs.length → cs[off + i]? = some (.int k (zs.getD i 0)) := fun i hi => by
    have := hcell' i hi
    simpa [World.cell?, hh] using this
   have hlen : ((zs.take len).map fun n => [T.v (.int k n)]).length = len := by rw [List.length_map, hlt]
   have hbig : off + len ≤ cs.size := by
    have := (Array.getElem?_eq_some_iff.1 (hcs' (len - 1) (by omega))).1
    omega
   have hgd : ∀ i e, ((zs.take len).map fun n => [T.v (.int k n)])[i]? = some e → ∀ (j : Nat) (x : T), e[j]? = some x → j = 0 ∧ x = .v (.int k (zs.getD i 0)) ∧ cs.getD (off + i * 1 + j) undef = .int k (zs.getD i 0) := by
    intro i e he j x hx
    simp only [List.getElem?_map, Option.map_eq_some_iff] at he
    obtain ⟨n, hn, rfl⟩ := he
    have hil := (List.getElem?_eq_some_iff.1 hn).1
    rw [hlt] at hil
    rw [List.getElem?_take_of_lt hil] at hn
    have hj : j = 0 := by have := (List.getElem?_eq_some_iff.1 hx).1; simp at this; exact this
    subst hj
    simp at hx
    have hzi : zs.getD i 0 = n := by simp [List.getD, hn]
    refine ⟨rfl, by rw [hzi]; exact hx.symm, ?_⟩
    rw [Array.getD_eq_getD_getElem?, show off + i * 1 + 0 = off + i by omega, hcs' i (by omega)]; rfl
   have := VR.list (H := fun b => W.heap[b]?) b off cap 1 ((zs.take len).map fun n => [T.v (.int k n)]) cs ty fr hh (by rw [hlen]; exact hl) (by rw [List.length_map]; exact hmax) (by rw [hlen]; omega)
    (fun i e he => by simp only [List.getElem?_map, Option.map_eq_some_iff] at he; obtain ⟨n, _, rfl⟩ := he; rfl)
    (fun i e he j x hx => by rw [(hgd i e he j x hx).2.2]; rfl) (fun i e he j x hx => by rw [(hgd i e he j x hx).2.2, (hgd i e he j x hx).2.1]; exact .v _)
   rw [hlen] at this
   exact this
end
theorem wf_u8 {n : Int} (h : (Lit.int .u8 n).wf = true) : 0 ≤ n ∧ n ≤ 255 := by
 have h1 : IntKind.u8.min = 0 := rfl
 have h2 : IntKind.u8.max = 255 := rfl
 simp only [Lit.wf, Bool.and_eq_true, decide_eq_true_eq] at h
 omega
theorem law_calls {E : Env} {f : FuncId} {xs : List T} {W : World} {args : Array Value} (hgl : Held fun b => W.heap[b]?) (hc : ACalls E f xs [] fun x _ => x = .v (.bool true)) (hsz : args.size = xs.length)
  (hv : ∀ (i : Nat) (x : T), xs[i]? = some x → VR (fun b => W.heap[b]?) (args.getD i undef) x) : Calls E.P f args W fun e W' => e = .returned (.bool true) ∧ Below W.heap.size W W' := by
 refine (hc.2 (fun b => W.heap[b]?) W args hsz hv ⟨fun _ _ h => h, hgl⟩ (by simp) (by simp)).mono ?_
 rintro e w' ⟨v, x, fp', H', rfl, rfl, hvr, _, _, _, _, hs, ⟨e1, e2, e3⟩, hfr⟩
 refine ⟨by rw [hvr.v_eq], ⟨e1, e2, e3, hs, fun k hk => (hfr k hk (by simp)).1⟩⟩
section
variable {H : Type} {enc : TypeId × Value → H} {P : Program} {w : World} {base : Nat} {spare : Nat → Bool} {held : Bool} {fuel : Nat} {t e i : TypeId} {cs : List Value} {p : List MemPlace}
theorem pair_cells {f0 f1 : Field} (ht : P.underlying t = some (.struct #[f0, f1])) (o0 : f0.offset = 0) (o1 : f1.offset = 1) (y0 : f0.type = i) (y1 : f1.type = i) (hi : P.underlying i = some (.int .i64)) (hc : P.cellsOf i = 1) (hct : P.cellsOf t = 2)
  {x : DataW H × List MemPlace} {a b : Int} (hx : x.1 = .agg [.lit (.int .i64 a), .lit (.int .i64 b)]) (h : DataW.trod enc P w base spare held fuel t cs = some x) : cs = [.int .i64 a, .int .i64 b] := by
 obtain ⟨z0, z1, n, rfl, hl, h0, h1⟩ := trod_struct2 ht h
 rw [hct] at hl
 rw [y0] at h0
 rw [y1] at h1
 obtain ⟨m0, e0, rfl, _⟩ := DataW.trod_int hi h0
 obtain ⟨m1, e1, rfl, _⟩ := DataW.trod_int hi h1
 rw [hc, o0] at e0
 rw [hc, o1] at e1
 simp only [DataW.agg.injEq, List.cons.injEq, DataW.lit.injEq, Lit.int.injEq, true_and, and_true] at hx
 match cs, hl with
 | [c0, c1], _ =>
  simp at e0 e1
  rw [e0, e1, hx.1, hx.2]
theorem spans_cells {f0 f1 : Field} (ht : P.underlying t = some (.array 4 e)) (he : P.underlying e = some (.struct #[f0, f1])) (o0 : f0.offset = 0) (o1 : f1.offset = 1) (y0 : f0.type = i) (y1 : f1.type = i) (hi : P.underlying i = some (.int .i64)) (hc : P.cellsOf i = 1) (hct : P.cellsOf e = 2) (hca : P.cellsOf t = 8)
  {a0 a1 a2 a3 a4 a5 a6 a7 : Int}
  (h : DataW.trod enc P w base spare held fuel t cs = some (.agg [.agg [.lit (.int .i64 a0), .lit (.int .i64 a1)], .agg [.lit (.int .i64 a2), .lit (.int .i64 a3)], .agg [.lit (.int .i64 a4), .lit (.int .i64 a5)], .agg [.lit (.int .i64 a6), .lit (.int .i64 a7)]], p)) :
  cs = [a0, a1, a2, a3, a4, a5, a6, a7].map fun n => .int .i64 n := by
 obtain ⟨xs, m, _, hx, hl, hn, hel⟩ := DataW.trod_array ht h
 rw [hca] at hl
 match xs, hn with
 | [x0, x1, x2, x3], _ =>
  simp only [Prod.mk.injEq, DataW.agg.injEq, List.map_cons, List.map_nil, List.cons.injEq, and_true] at hx
  obtain ⟨⟨g0, g1, g2, g3⟩, _⟩ := hx
  have k0 := pair_cells he o0 o1 y0 y1 hi hc hct g0.symm (by simpa using hel 0 (by decide))
  have k1 := pair_cells he o0 o1 y0 y1 hi hc hct g1.symm (by simpa using hel 1 (by decide))
  have k2 := pair_cells he o0 o1 y0 y1 hi hc hct g2.symm (by simpa using hel 2 (by decide))
  have k3 := pair_cells he o0 o1 y0 y1 hi hc hct g3.symm (by simpa using hel 3 (by decide))
  rw [hct] at k0 k1 k2 k3
  match cs, hl with
  | [c0, c1, c2, c3, c4, c5, c6, c7], _ =>
   simp at k0 k1 k2 k3
   simp [k0, k1, k2, k3]
theorem held_of {W : World} {n : String} {cs : Array Value} {l : List Int} (hn : P.globalNamed n = some 0) (h : W.var? P n = some cs) (hcs : cs.toList = l.map fun n => .int .i64 n) (hgl : gl = [(0, l.map fun n => .v (.int .i64 n))]) : Held fun b => W.heap[b]? := by
 have hb : ∃ ty fr, W.heap[0]? = some (.cells cs ty fr) := by
  simp only [World.var?, hn, Option.bind_some] at h
  split at h
  ·rename_i c ty fr hh; cases h; exact ⟨ty, fr, hh⟩
  ·cases h
 obtain ⟨ty, fr, hb⟩ := hb
 intro b m hm
 rw [hgl] at hm
 simp only [List.mem_cons, List.not_mem_nil, or_false, Prod.mk.injEq] at hm
 obtain ⟨rfl, rfl⟩ := hm
 have hget : ∀ (j : Nat) (x : T), (l.map fun n => T.v (.int .i64 n))[j]? = some x → ∃ n, x = .v (.int .i64 n) ∧ cs.getD (0 + j) undef = .int .i64 n := by
  intro j x hx
  simp only [List.getElem?_map, Option.map_eq_some_iff] at hx
  obtain ⟨n, hn, rfl⟩ := hx
  refine ⟨n, rfl, ?_⟩
  have : cs.toList[j]? = some (.int .i64 n) := by rw [hcs]; simp [hn]
  rw [Array.getElem?_toList] at this
  rw [Nat.zero_add, Array.getD_eq_getD_getElem?, this]; rfl
 refine .eptr 0 0 _ cs ty fr hb ?_ (fun j x hx => ?_) fun j x hx => ?_
 ·have := congrArg List.length hcs
  simp at this
  simp; omega
 ·obtain ⟨n, _, h⟩ := hget j x hx
  rw [h]; rfl
 ·obtain ⟨n, rfl, h⟩ := hget j x hx
  rw [h]; exact .v _
end
end Go.Aw
