/- Plain proofs. No condition. -/
import Derived.Test.YtehbcbedipkifaaGreatDoorZxP0
import Derived.Test.YtehbcbedipkifaaGreatDoorZxD
set_option maxRecDepth 100000
namespace Go.Proofs.YtehbcbedipkifaaGreatDoor
set_option linter.unusedVariables false
set_option linter.unusedSimpArgs false
open Go.Aw
theorem rdiv_ok {a b : Int} (hb : 1 ≤ b ∧ b ≤ 1099511627776) (ha : -2305843009213693952 ≤ a ∧ a ≤ 2305843009213693952) : L.ziky a b = some (a / b, a % b, true) := by
 have h := floor_t (a := a) (b := b) (by omega)
 have hd := dn_small (a := a) (b := b) (by omega)
 unfold dn at hd
 have hm0 := Int.emod_nonneg a (by omega : b ≠ 0)
 have hm1 := Int.emod_lt_of_pos a (by omega : 0 < b)
 have : Ok (L.ziky a b) fun r => r = (a / b, a % b, true) := by
  unfold L.ziky
  refine Ok.iteB (fun h => ?_) fun _ => ?_
  ·simp at h; omega
  refine .bind' (.quo (by omega) (.bind' (.rem (by omega) (Ok.iteD (fun hn => ?_) fun hn => ?_))))
  ·have h1 := h.1 hn
   unfold L.ziky.J1
   rw [wr_id (x := a.tdiv b) (by omega), wr_id (by omega), wr_id (by omega)]
   exact .pure (by rw [h1.1, h1.2])
  ·have h1 := h.2 hn
   unfold L.ziky.J1
   rw [wr_id (x := a.tdiv b) (by omega)]
   exact .pure (by rw [h1.1, h1.2])
 obtain ⟨r, h, rfl⟩ := this
 exact h
theorem down_ok {a b : Int} (hb : 1 ≤ b ∧ b ≤ 1099511627776) (ha : -2305843009213693952 ≤ a ∧ a ≤ 2305843009213693952) : L.zwdf a b = some (dn a b) := by
 unfold L.zwdf; rw [rdiv_ok hb ha]; rfl
theorem up_ok {a b : Int} (hb : 1 ≤ b ∧ b ≤ 1099511627776) (ha : -2305843009213693952 ≤ a ∧ a ≤ 2305843009213693952) : L.zspy a b = some (up a b) := by
 have hd := dn_small (a := a) (b := b) (by omega)
 unfold dn at hd
 unfold L.zspy
 rw [rdiv_ok hb ha]
 simp only [Option.bind_some, Bool.true_and, decide_eq_true_eq, gt_iff_lt, L.zspy.J1]
 unfold up
 split
 ·rw [wr_id (by omega)]
 ·rfl
theorem loss_ok {s : Segment} {q : Int} {x : gradient_part} (hc : 1 ≤ s.Capacity ∧ s.Capacity ≤ 1000) (hr : 0 ≤ s.Resist ∧ s.Resist ≤ 1000) (hq : 1 ≤ q ∧ q ≤ 1000) (hx : PartOk s x) :
  L.zpsp x s q = some (lo s q x, hi s q x) := by
 have f := frA_bd hr hq hx
 have l := liA_bd hx
 have w := hx.width
 have b := lo_bd hc.1 hr hq hx
 have e1 : wr ((wr ((wr ((wr (s.Resist * x.liquid.Friction)) * q)) * q)) * x.length) = frA s q x := by
  rw [wr_id (x := s.Resist * x.liquid.Friction) (by omega), wr_id (x := s.Resist * x.liquid.Friction * q) (by omega), wr_id (x := s.Resist * x.liquid.Friction * q * q) (by omega)]
  exact wr_id (x := frA s q x) (by omega)
 have e2 : wr ((wr ((wr (x.liquid.Density * 9807)) * x.height)) * x.length) = liA x := by
  rw [wr_id (x := x.liquid.Density * 9807) (by omega), wr_id (x := x.liquid.Density * 9807 * x.height) (by omega)]
  exact wr_id (x := liA x) (by omega)
 have e3 : wr (1000 * s.Capacity) = frB s := wr_id (by omega)
 have e4 : wr (1000 * x.width) = liB x := wr_id (by omega)
 have b1 : 1 ≤ frB s ∧ frB s ≤ 1099511627776 := by unfold frB; omega
 have b2 : 1 ≤ liB x ∧ liB x ≤ 1099511627776 := by unfold liB; omega
 unfold L.zpsp
 rw [e1, e2, e3, e4, down_ok b1 (by omega), down_ok b2 (by omega), up_ok b1 (by omega), up_ok b2 (by omega)]
 have e5 : wr (dn (frA s q x) (frB s) + dn (liA x) (liB x)) = lo s q x := wr_id (x := lo s q x) (by omega)
 have e6 : wr (up (frA s q x) (frB s) + up (liA x) (liB x)) = hi s q x := wr_id (x := hi s q x) (by omega)
 simp only [Option.bind_some, e5, e6]
theorem liquids_ok {f : List Piece} {b : List Batch} {p : List Product} {cap : Int} (hf : FillOk cap f) (hb : BatsOk p.length b) : Ok (L.zovs f b p) fun r => r.2 = 0 ∧ r.1.length = f.length ∧ ∀ y, y ∈ r.1 → y ∈ p := by
 have hlen := hf.len
 unfold L.zovs
 refine .bind' (.forL (fun k st => st.length = k ∧ ∀ y, y ∈ st → y ∈ p) (fun _ => False) ⟨rfl, by simp⟩ ?_ ?_ fun _ h => h.elim)
 ·rintro k x st hx ⟨h1, h2⟩
  have hk := (gs hx).1
  have hbx := hf.bat x (mg hx)
  have hbl := hb.len
  unfold L.zovs.B2
  refine Ok.iteD (fun h => by omega) fun _ => .bind' (.ix' hbx.1 (by omega) fun j y hj hy => ?_)
  have hy2 := hb.all y (mg hy)
  refine Ok.iteB (fun h => ?_) fun _ => .bind' (.ix' hy2.1 hy2.2 fun i z hi hz => .bind' (.app (by simp; omega) (.pure ⟨by simp [h1], fun w hw => ?_⟩)))
  ·simp at h; omega
  ·rcases List.mem_append.1 hw with hw | hw
   ·exact h2 w hw
   ·simp at hw; subst hw; exact mg hz
 ·rintro st ⟨h1, h2⟩
  exact .pure ⟨rfl, h1, h2⟩
def IsPart (s : Segment) (f : List Piece) (l : List Product) (i : Nat) (x : gradient_part) : Prop :=
 ∃ (a b : Int) (p : Nat) (u v : Point) (k : Nat) (y : Product), (brk s f)[i]? = some a ∧ (brk s f)[i + 1]? = some b ∧ s.Points[p]? = some u ∧ s.Points[p + 1]? = some v ∧ u.At < b ∧ b ≤ v.At ∧
  sumV (f.take k) < b ∧ b ≤ sumV (f.take (k + 1)) ∧ k < f.length ∧ l[k]? = some y ∧ x = ⟨b - a, v.At - u.At, v.Height - u.Height, y⟩
structure Parts (s : Segment) (f : List Piece) (l : List Product) (W : List gradient_part) : Prop where
 len : W.length + 1 = (brk s f).length
 all : ∀ i x, W[i]? = some x → IsPart s f l i x
theorem IsPart.ok {s : Segment} {f : List Piece} {l : List Product} {i : Nat} {x : gradient_part} (hs : SegG s) (hf : FillOk s.Capacity f) (hl : ∀ y, y ∈ l → (400 ≤ y.Density ∧ y.Density ≤ 1200) ∧ 1 ≤ y.Friction ∧ y.Friction ≤ 2000) (h : IsPart s f l i x) : PartOk s x := by
 obtain ⟨a, b, p, u, v, k, y, h1, h2, h3, h4, h5, h6, _, _, _, h7, rfl⟩ := h
 have hc := hs.cap
 have ha := brk_range hs.points hf (mg h1)
 have hb := brk_range hs.points hf (mg h2)
 have hab := up_get (brk_up s f) (Nat.lt_succ_self i) h1 h2
 have hu := hs.points.at_range h3
 have hv := hs.points.at_range h4
 have hh1 := hs.points.height u (mg h3)
 have hh2 := hs.points.height v (mg h4)
 have hy := hl y (mg h7)
 exact ⟨by dsimp only; omega, by dsimp only; omega, by dsimp only; omega, hy.1, hy.2⟩
theorem parts_ok {s : Segment} {f : List Piece} {l : List Product} (hs : SegG s) (hf : FillOk s.Capacity f) (hl : l.length = f.length) : Ok (L.zdmv s f l (brk s f)) fun W => Parts s f l W := by
 have hc := hs.cap
 have hp := hs.points
 have hpl := hp.len
 have hfl := hf.len
 have hbl := brk_len s f
 have hb2 := brk_two hp hc.1 hf
 have hf0 : 0 < f.length := by
  rcases Nat.eq_zero_or_pos f.length with h | h
  ·have : f = [] := List.eq_nil_of_length_eq_zero h
   subst this
   have := hf.sum
   simp [sumV] at this; omega
  ·exact h
 have hg0 : f[0]? = some (f[0]'hf0) := gq _
 unfold L.zdmv
 refine .bind' (.eq (ix_nat (k := 0) hg0) (.bind (Q := fun W => Parts s f l W) ?_ fun d hd => by unfold L.zdmv.J1; exact .pure hd))
 refine .loop (fun st : List gradient_part × Int × Int × Int => ∃ k : Nat, st.2.1 = (k : Int) ∧ k < f.length ∧ st.2.2.1 = sumV (f.take (k + 1)) ∧ st.2.2.2 = ((st.1.length + 1 : Nat) : Int) ∧ st.1.length + 1 ≤ (brk s f).length ∧
   (∀ b, (brk s f)[st.1.length + 1]? = some b → sumV (f.take k) < b) ∧ ∀ i x, st.1[i]? = some x → IsPart s f l i x) (fun st => (brk s f).length - st.1.length)
  ⟨0, rfl, hf0, ?_, rfl, by simp; omega, ?_, by simp⟩ (by dsimp only; simp only [List.length_nil]; omega) ?_
 ·dsimp only; rw [sumV_take hg0]; simp [sumV]
 ·intro b hb
  have h0 := brk_first hp hf
  have := up_get (brk_up s f) (by simp) h0 hb
  simpa [sumV] using this
 rintro ⟨out, i1, i2, i3⟩ ⟨k, h1, hk, h2, h3, ho, hlow, hall⟩
 dsimp only at h1 h2 h3 ho hlow hall
 subst h1 h2 h3
 unfold L.zdmv.B2
 dsimp only
 refine Ok.iteD (fun h => ?_) fun h => .pure ⟨by omega, hall⟩
 have hb : (brk s f)[out.length + 1]? = some ((brk s f)[out.length + 1]'(by omega)) := gq _
 obtain ⟨b, hbe⟩ : ∃ b, b = (brk s f)[out.length + 1]'(by omega) := ⟨_, rfl⟩
 rw [← hbe] at hb
 have ha : (brk s f)[out.length]? = some ((brk s f)[out.length]'(by omega)) := gq _
 obtain ⟨a, hae⟩ : ∃ a, a = (brk s f)[out.length]'(by omega) := ⟨_, rfl⟩
 rw [← hae] at ha
 have hbr := brk_range hp hf (mg hb)
 have har := brk_range hp hf (mg ha)
 have hab := up_get (brk_up s f) (Nat.lt_succ_self _) ha hb
 refine .bind (Q := fun d : Int × Int => ∃ k' : Nat, d = ((k' : Int), sumV (f.take (k' + 1))) ∧ k' < f.length ∧ sumV (f.take k') < b ∧ b ≤ sumV (f.take (k' + 1))) ?_ ?_
 ·refine .loop (fun d : Int × Int => ∃ k' : Nat, d = ((k' : Int), sumV (f.take (k' + 1))) ∧ k' < f.length ∧ sumV (f.take k') < b) (fun d => f.length - d.1.toNat) ⟨k, rfl, hk, hlow b hb⟩ (by dsimp only; omega) ?_
  rintro _ ⟨k', rfl, hk', hl'⟩
  unfold L.zdmv.B6
  dsimp only
  refine .bind' (.eq (ix_nat hb) (Ok.iteD (fun h => ?_) fun h => .pure ⟨k', rfl, hk', hl', by omega⟩))
  have hn : k' + 1 < f.length := by
   by_cases hh : k' + 1 < f.length
   ·exact hh
   ·rw [List.take_of_length_le (by omega), hf.sum] at h; omega
  have hgn : f[k' + 1]? = some (f[k' + 1]'hn) := gq _
  have hsn := sumV_take hgn
  have hsr := sumV_le_take hf.vol (k' + 1 + 1)
  have hfs := hf.sum
  rw [show wr ((k' : Int) + 1) = ((k' + 1 : Nat) : Int) by rw [wr_id (by omega)]; omega]
  refine .bind' (.eq (ix_nat hgn) (.pure ⟨⟨k' + 1, ?_, hn, h⟩, ?_⟩))
  ·dsimp only; rw [wr_id (by omega), ← hsn]
  ·dsimp only; omega
 ·rintro _ ⟨k', rfl, hk', hl1, hl2⟩
  unfold L.zdmv.J4
  dsimp only
  refine .bind' (.eq (ix_nat hb) ?_)
  refine .bind (section_ok ⟨hpl.1, by omega⟩ hp.asc hp.first (e := b) (by omega) fun p hp' => by have := hp.last p hp'; omega) ?_
  rintro r ⟨p, u, v, rfl, hu, hv, hub, hbv⟩
  have hpl' := (gs hv).1
  have hur := hp.at_range hu
  have hvr := hp.at_range hv
  have hh1 := hp.height u (mg hu)
  have hh2 := hp.height v (mg hv)
  rw [show wr (((p + 1 : Nat) : Int) - 1) = (p : Int) by rw [wr_id (by omega)]; omega]
  refine .bind' (.eq (ix_nat hu) (.bind' (.eq (ix_nat hv) ?_)))
  unfold L.zdmv.J5
  dsimp only
  rw [show wr (((out.length + 1 : Nat) : Int) - 1) = (out.length : Int) by rw [wr_id (by omega)]; omega]
  have hly : l[k']? = some (l[k']'(by omega)) := gq _
  refine .bind' (.eq (ix_nat ha) (.bind' (.eq (ix_nat hly) (.bind' (.app (by simp; omega) ?_)))))
  unfold L.zdmv.J3
  dsimp only
  rw [wr_id (x := b - a) (by omega), wr_id (x := v.At - u.At) (by omega), wr_id (x := v.Height - u.Height) (by omega), wr_id (x := ((out.length + 1 : Nat) : Int) + 1) (by omega)]
  refine .pure ⟨⟨k', rfl, hk', rfl, by simp, by simp; omega, fun b' hb' => ?_, fun i x hx => ?_⟩, ?_⟩
  ·simp only [List.length_append, List.length_singleton] at hb'
   have := up_get (brk_up s f) (Nat.lt_succ_self _) hb hb'
   omega
  ·rw [List.getElem?_append] at hx
   split at hx
   ·exact hall i x hx
   ·have hi := (gs hx).1
    simp at hi
    have : i = out.length := by omega
    subst this
    simp at hx
    exact ⟨a, b, p, u, v, k', _, ha, hb, hu, hv, hub, hbv, hl1, hl2, hk', hly, hx.symm⟩
  ·dsimp only; simp only [List.length_append, List.length_singleton]; omega
theorem rev_ok {α : Type} {B : List α × Int × Int → Option ((List α × Int × Int) ⊕ List α)}
  (hB : ∀ st, B st = if decide (st.2.1 < st.2.2) = true then Option.bind (ix st.1 st.2.2) fun p59 => Option.bind (ix st.1 st.2.1) fun p61 => Option.bind (ix (st.1.set p61.1 p59.2) st.2.2) fun p63 => some (.inl ((st.1.set p61.1 p59.2).set p63.1 p61.2, wr (st.2.1 + 1), wr (st.2.2 - 1))) else some (.inr st.1))
  {l : List α} (hl : l.length ≤ 1000000) : Option.bind (loopN B lots (l, 0, wr ((l.length : Int) - 1))) (fun d => some d) = some l.reverse := by
 have : Ok (loopN B lots (l, 0, wr ((l.length : Int) - 1))) fun r => r = l.reverse := by
  refine .loop (fun st => ∃ i : Nat, st.2.1 = (i : Int) ∧ st.2.2 = (l.length : Int) - 1 - i ∧ 2 * i ≤ l.length ∧ st.1.length = l.length ∧ ∀ k : Nat, k < l.length → st.1[k]? = if k < i ∨ l.length - 1 - i < k then l[l.length - 1 - k]? else l[k]?) (fun st => (st.2.2 - st.2.1 + 1).toNat)
   ⟨0, rfl, by dsimp only; rw [wr_id (by omega)]; omega, by omega, rfl, fun k hk => ?_⟩ (by dsimp only; rw [wr_id (by omega)]; omega) ?_
  ·rw [if_neg (by omega)]
  rintro ⟨m, _, _⟩ ⟨i, rfl, rfl, hi, hm, hh⟩
  dsimp only at hm hh
  rw [hB]
  dsimp only
  refine Ok.iteD (fun h => ?_) fun h => .pure ?_
  ·have e : (l.length : Int) - 1 - i = ((l.length - 1 - i : Nat) : Int) := by omega
   rw [e]
   have h1 : m[l.length - 1 - i]? = some (m[l.length - 1 - i]'(by omega)) := gq _
   have h2 : m[i]? = some (m[i]'(by omega)) := gq _
   refine .bind' (.eq (ix_nat h1) (.bind' (.eq (ix_nat h2) ?_)))
   dsimp only
   have h3 : (m.set i (m[l.length - 1 - i]'(by omega)))[l.length - 1 - i]? = some (m[l.length - 1 - i]'(by omega)) := by rw [List.getElem?_set_ne (by omega)]; exact h1
   refine .bind' (.eq (ix_nat h3) (.pure ⟨⟨i + 1, ?_, ?_, by omega, by simp [hm], fun k hk => ?_⟩, ?_⟩))
   ·dsimp only; rw [wr_id (by omega)]; omega
   ·dsimp only; rw [wr_id (by omega)]; omega
   ·dsimp only
    have e1 : m[l.length - 1 - i]? = l[l.length - 1 - i]? := by rw [hh _ (by omega), if_neg (by omega)]
    have e2 : m[i]? = l[i]? := by rw [hh _ (by omega), if_neg (by omega)]
    by_cases c1 : k = l.length - 1 - i
    ·subst c1
     rw [List.getElem?_set_self (by simp; omega), if_pos (by omega), ← h2, e2]
     congr 1; omega
    ·rw [List.getElem?_set_ne (by omega)]
     by_cases c2 : k = i
     ·subst c2
      rw [List.getElem?_set_self (by omega), if_pos (by omega), ← h1, e1]
     ·rw [List.getElem?_set_ne (by omega), hh k hk]
      by_cases c3 : k < i ∨ l.length - 1 - i < k
      ·rw [if_pos c3, if_pos (by omega)]
      ·rw [if_neg c3, if_neg (by omega)]
   ·dsimp only; rw [wr_id (by omega), wr_id (by omega)]; omega
  ·apply List.ext_getElem?
   intro k
   by_cases hk : k < l.length
   ·rw [List.getElem?_reverse hk, hh k hk]
    split
    ·rfl
    ·congr 1; omega
   ·rw [List.getElem?_eq_none (by omega), List.getElem?_eq_none (by simp; omega)]
 obtain ⟨r, h, rfl⟩ := this
 rw [h]; rfl
theorem rev_int {l : List Int} (hl : l.length ≤ 1000000) : L.zyqm l = some l.reverse := rev_ok (B := L.zyqm.B1) (fun _ => rfl) hl
theorem rev_part {l : List gradient_part} (hl : l.length ≤ 1000000) : L.zbxo l = some l.reverse := rev_ok (B := L.zbxo.B1) (fun _ => rfl) hl
theorem rev_level {l : List Level} (hl : l.length ≤ 1000000) : L.zaagu l = some l.reverse := rev_ok (B := L.zaagu.B1) (fun _ => rfl) hl
theorem each_ok {α : Type} {B : Nat → List α → Option (List α)} {g : α → α} (l : List α) (hB : ∀ (k : Nat) (m : List α) (x : α), l[k]? = some x → m[k]? = some x → B k m = some (m.set k (g x))) : forJ B 0 l.length l = some (l.map g) := by
 have : Ok (forJ B 0 l.length l) fun r => r = l.map g := by
  refine .forJ (fun k st => st.length = l.length ∧ ∀ j : Nat, st[j]? = if j < k then (l[j]?).map g else l[j]?) ⟨rfl, fun j => by simp⟩ ?_ ?_
  ·rintro k st hk ⟨h1, h2⟩
   have hx : l[k]? = some (l[k]'hk) := gq _
   have hx' : st[k]? = some (l[k]'hk) := by rw [h2, if_neg (by omega), hx]
   refine .eq (hB k st _ hx hx') ⟨by simp [h1], fun j => ?_⟩
   by_cases hj : j = k
   ·subst hj
    rw [List.getElem?_set_self (by omega), if_pos (by omega), hx]; rfl
   ·rw [List.getElem?_set_ne (by omega), h2]
    by_cases h3 : j < k
    ·rw [if_pos h3, if_pos (by omega)]
    ·rw [if_neg h3, if_neg (by omega)]
  ·rintro st ⟨h1, h2⟩
   apply List.ext_getElem?
   intro j
   rw [h2, List.getElem?_map]
   split
   ·rfl
   ·rw [List.getElem?_eq_none (by omega)]; rfl
 obtain ⟨r, h, rfl⟩ := this
 exact h
theorem wayp_ok {s : Segment} {r q : Int} {b : Bounds} {places : List Int} {way : List gradient_part} (hc : 1 ≤ s.Capacity ∧ s.Capacity ≤ 1000) (hr : 0 ≤ s.Resist ∧ s.Resist ≤ 1000) (hq : max r (wr (0 - r)) = q) (hq1 : 1 ≤ q ∧ q ≤ 1000)
  (hl : way.length + 1 = places.length) (hl2 : places.length ≤ 200) (hw : ∀ x, x ∈ way → PartOk s x) (h1 : -1125899906842624 ≤ b.Low ∧ b.Low ≤ 1125899906842624) (h2 : -1125899906842624 ≤ b.High ∧ b.High ≤ 1125899906842624) {a : Int} (ha : places[0]? = some a) :
  Ok (forJ (L.zuct.B4 s r (way, places)) 0 way.length (b.Low, b.High, [⟨a, b⟩])) fun st => st.2.2 = lvls s q b places way := by
 refine .forJ (fun k st => st.1 = b.Low - sumBy (hi s q) (way.take k) ∧ st.2.1 = b.High - sumBy (lo s q) (way.take k) ∧ st.2.2 = (List.range (k + 1)).map (lvl s q b places way)) ⟨by simp [sumBy], by simp [sumBy], ?_⟩ ?_ ?_
 ·simp [lvl, List.range_succ, List.getD, ha, sumBy]
 ·rintro k ⟨x1, x2, out⟩ hk ⟨i1, i2, i3⟩
  dsimp only at i1 i2 i3
  subst i1 i2 i3
  have hx : way[k]? = some (way[k]'hk) := gq _
  have hm := hw _ (mg hx)
  have bd : ∀ x, x ∈ way.take (k + 1) → PartOk s x := fun x hx => hw x (List.mem_of_mem_take hx)
  have bd0 : ∀ x, x ∈ way.take k → PartOk s x := fun x hx => hw x (List.mem_of_mem_take hx)
  have s1 := sumBy_bd (g := lo s q) (B := 3000000000000000) (l := way.take (k + 1)) fun x hx => (lo_bd hc.1 hr hq1 (bd x hx)).1
  have s2 := sumBy_bd (g := hi s q) (B := 3000000000000000) (l := way.take (k + 1)) fun x hx => (lo_bd hc.1 hr hq1 (bd x hx)).2
  have t1 := sumBy_take (lo s q) hx
  have t2 := sumBy_take (hi s q) hx
  simp only [List.length_take] at s1 s2
  unfold L.zuct.B4
  refine .bind' (.ix k rfl hk (.bind' (.eq (by rw [hq]; exact loss_ok hc hr hq1 hm) (.bind' (.ix (k + 1) rfl (by dsimp only; omega) (.bind' (.app (by simp; omega) (.pure ⟨?_, ?_, ?_⟩))))))))
  ·dsimp only; rw [t2, wr_id (by omega)]; omega
  ·dsimp only; rw [t1, wr_id (by omega)]; omega
  ·dsimp only
   rw [List.range_succ (n := k + 1), List.map_append]
   have e1 : wr (b.Low - sumBy (hi s q) (way.take k) - hi s q way[k]) = b.Low - sumBy (hi s q) (way.take (k + 1)) := by rw [t2, wr_id (by omega)]; omega
   have e2 : wr (b.High - sumBy (lo s q) (way.take k) - lo s q way[k]) = b.High - sumBy (lo s q) (way.take (k + 1)) := by rw [t1, wr_id (by omega)]; omega
   rw [e1, e2]
   simp [lvl, List.getD, gq (show k + 1 < places.length by omega)]
 ·rintro ⟨x1, x2, out⟩ ⟨i1, i2, i3⟩
  dsimp only at i3 ⊢
  rw [i3, hl]; rfl
def along (s : Segment) (f : List Piece) (W : List gradient_part) (r : Int) (b : Bounds) : List Level :=
 if r < 0 then (lvls s (-r) b (brk s f).reverse (W.reverse.map neg)).reverse else lvls s r b (brk s f) W
theorem liq_ok {f : List Piece} {b : List Batch} {p : List Product} {cap : Int} (hf : FillOk cap f) (hb : BatsOk p.length b) : ∃ l, L.zovs f b p = some (l, 0) ∧ l.length = f.length ∧ ∀ y, y ∈ l → y ∈ p := by
 obtain ⟨⟨l, e⟩, h, h1, h2, h3⟩ := liquids_ok hf hb
 dsimp only at h1 h2 h3
 subst h1
 exact ⟨l, h, h2, h3⟩
theorem prod_bd {p : List Product} (hp : ProdsOk p) {y : Product} (hy : y ∈ p) : (400 ≤ y.Density ∧ y.Density ≤ 1200) ∧ 1 ≤ y.Friction ∧ y.Friction ≤ 2000 := by
 obtain ⟨k, hk⟩ := List.getElem?_of_mem hy
 have := hp.all k y hk
 exact ⟨this.density, this.friction⟩
theorem along_ok {s : Segment} {f : List Piece} {bs : List Batch} {p l : List Product} (hs : SegG s) (hf : FillOk s.Capacity f) (hp : ProdsOk p) (hliq : L.zovs f bs p = some (l, 0)) (hlen : l.length = f.length) (hmem : ∀ y, y ∈ l → y ∈ p) :
  ∃ W, Parts s f l W ∧ (∀ x, x ∈ W → PartOk s x) ∧ ∀ (r : Int) (b : Bounds), r ≠ 0 → -1000 ≤ r → r ≤ 1000 → b.Low ≤ b.High → -1125899906842624 ≤ b.Low → b.High ≤ 1125899906842624 → L.zuct s f bs p r b = some (along s f W r b, 0) := by
 obtain ⟨W, hW, hP⟩ := parts_ok hs hf hlen
 have hPo : ∀ x, x ∈ W → PartOk s x := fun x hx => by
  obtain ⟨i, hi⟩ := List.getElem?_of_mem hx
  exact (hP.all i x hi).ok hs hf fun y hy => prod_bd hp (hmem y hy)
 refine ⟨W, hP, hPo, fun r b hr0 hr1 hr2 hb1 hb2 hb3 => ?_⟩
 have hc := hs.cap
 have hpl := hs.points.len
 have hfl := hf.len
 have hbl := brk_len s f
 have hb2' := brk_two hs.points hc.1 hf
 have hWl := hP.len
 have hright : L.zspb b = true := by unfold L.zspb; simp; omega
 have hcond : ((r == 0) || (decide (r < (-1000)) || (decide (r > 1000) || (!(L.zspb b))))) = false := by rw [hright]; simp; omega
 have e1 : L.zvxi (brk s f) = some (brk s f) := by
  unfold L.zvxi
  rw [app?_eq (by simp; omega)]; rfl
 unfold L.zuct
 rw [filledOk hs hf, productsCheck hp, hliq, breaks_ok ⟨by omega, by omega⟩ hfl hf.vol (by have := hf.sum; omega)]
 simp only [Option.bind_some, hcond, bne_self_eq_false, Bool.false_eq_true, if_false, Option.bind_some, hW, e1]
 have body : ∀ (places : List Int) (way : List gradient_part), way.length + 1 = places.length → places.length = (brk s f).length → (∀ x, x ∈ way → PartOk s x) →
   L.zuct.J1 s r b (way, places) = (if decide (r < 0) = true then some ((lvls s (-r) b places way).reverse, 0) else some (lvls s r b places way, 0)) := by
  intro places way h1 h2 h3
  have h0 : places[0]? = some (places[0]'(by omega)) := gq _
  have hq : max r (wr (0 - r)) = if r < 0 then -r else r := by rw [wr_id (by omega)]; split <;> omega
  obtain ⟨st, g1, g2⟩ := wayp_ok (s := s) (r := r) (b := b) hc hs.resist hq (by split <;> omega) h1 (by omega) h3 (by omega) (by omega) h0
  unfold L.zuct.J1
  have h0' : ix places 0 = some (0, places[0]) := ix_nat h0
  rw [h0']
  simp only [Option.bind_some, g1, L.zuct.J2, L.zuct.J3, g2]
  by_cases hr : r < 0
  ·simp only [hr, decide_true, if_true]
   rw [rev_level (by rw [lvls_len]; omega)]; rfl
  ·simp only [hr, decide_false, if_false, Bool.false_eq_true]
 unfold along
 by_cases hr : r < 0
 ·simp only [hr, decide_true, if_true]
  rw [rev_int (by omega), rev_part (by omega)]
  simp only [Option.bind_some]
  have hneg : forJ L.zuct.B5 0 W.reverse.length W.reverse = some (W.reverse.map neg) := each_ok _ fun k m x hx hm => by
   have hb := (hPo x (List.mem_reverse.1 (mg hx))).height
   unfold L.zuct.B5
   rw [ix_nat hm]
   simp only [Option.bind_some]
   rw [wr_id (by omega), Int.zero_sub]; rfl
  rw [hneg]
  simp only [Option.bind_some]
  rw [body _ _ (by simp; omega) (by simp) (by
   intro x hx
   simp only [List.mem_map, List.mem_reverse] at hx
   obtain ⟨y, hy, rfl⟩ := hx
   exact negp_ok (hPo y hy))]
  simp only [hr, decide_true, if_true]
 ·simp only [hr, decide_false, if_false, Bool.false_eq_true]
  rw [body _ _ (by omega) rfl hPo]
  simp only [hr, decide_false, if_false, Bool.false_eq_true]
theorem along_len (s : Segment) (f : List Piece) (W : List gradient_part) (r : Int) (b : Bounds) : (along s f W r b).length = (brk s f).length := by
 unfold along; split <;> simp [lvls_len]
def wayOf (W : List gradient_part) (r : Int) : List gradient_part := if r < 0 then W.reverse.map neg else W
def placesOf (s : Segment) (f : List Piece) (r : Int) : List Int := if r < 0 then (brk s f).reverse else brk s f
def ixOf (s : Segment) (f : List Piece) (r : Int) (i : Nat) : Nat := if r < 0 then (brk s f).length - 1 - i else i
def absR (r : Int) : Int := if r < 0 then -r else r
theorem along_get (s : Segment) (f : List Piece) (W : List gradient_part) (r : Int) (b : Bounds) {i : Nat} (h : i < (brk s f).length) :
  (along s f W r b)[i]? = some (lvl s (absR r) b (placesOf s f r) (wayOf W r) (ixOf s f r i)) := by
 unfold along wayOf placesOf ixOf absR
 split
 ·rw [List.getElem?_reverse (by rw [lvls_len]; simp; omega), lvls_len, List.length_reverse, lvls_get _ _ _ _ (by simp; omega)]
 ·rw [lvls_get _ _ _ _ h]
theorem wayOf_len (W : List gradient_part) (r : Int) : (wayOf W r).length = W.length := by unfold wayOf; split <;> simp
theorem brk_prev {s : Segment} {f : List Piece} {i : Nat} {a b x : Int} (h1 : (brk s f)[i]? = some a) (h2 : (brk s f)[i + 1]? = some b) (hx : x ∈ brk s f) (hb : x < b) : x ≤ a := by
 obtain ⟨j, hj⟩ := List.getElem?_of_mem hx
 rcases Nat.lt_trichotomy j i with h | h | h
 ·have := up_get (brk_up s f) h hj h1; omega
 ·subst h; rw [hj] at h1; cases h1; omega
 ·rcases Nat.lt_or_ge (i + 1) j with h' | h'
  ·have := up_get (brk_up s f) h' h2 hj; omega
  ·have : j = i + 1 := by omega
   subst this
   rw [hj] at h2; cases h2; omega
theorem quot_bd {a b M : Int} (hb : 0 < b) (h : -(M * b) ≤ a ∧ a ≤ M * b) : (-M ≤ dn a b ∧ dn a b ≤ M) ∧ -M ≤ up a b ∧ up a b ≤ M := by
 have e1 : dn (M * b) b = M := Int.mul_ediv_cancel M (by omega)
 have e2 : dn (-(M * b)) b = -M := by rw [← Int.neg_mul]; exact Int.mul_ediv_cancel (-M) (by omega)
 have e3 : up (M * b) b = M := by rw [up_eq hb]; rw [show -(M * b) / b = -M from e2]; omega
 have e4 : up (-(M * b)) b = -M := by rw [up_neg hb, e1]
 have m1 := dn_mono hb h.1; have m2 := dn_mono hb h.2; have m3 := up_mono hb h.1; have m4 := up_mono hb h.2
 omega
def Fits (s : Segment) (x : gradient_part) : Prop := x.length ≤ x.width ∧ x.length ≤ s.Capacity
theorem IsPart.fits {s : Segment} {f : List Piece} {l : List Product} {i : Nat} {x : gradient_part} (hs : SegG s) (hf : FillOk s.Capacity f) (h : IsPart s f l i x) : Fits s x := by
 obtain ⟨a, b, p, u, v, k, y, h1, h2, h3, h4, h5, h6, _, _, _, h7, rfl⟩ := h
 have ha := brk_range hs.points hf (mg h1)
 have hb := brk_range hs.points hf (mg h2)
 have hua : u.At ≤ a := brk_prev h1 h2 (brk_mem.2 (.inl ⟨u, mg h3, rfl⟩)) h5
 exact ⟨by dsimp only; omega, by dsimp only; omega⟩
theorem loss_tight {s : Segment} {q : Int} {x : gradient_part} (hc : 1 ≤ s.Capacity ∧ s.Capacity ≤ 1000) (hr : 0 ≤ s.Resist ∧ s.Resist ≤ 1000) (hq : 1 ≤ q ∧ q ≤ 1000) (hx : PartOk s x) (hf : Fits s x) :
  (-2100000000 ≤ lo s q x ∧ lo s q x ≤ 2100000000) ∧ -2100000000 ≤ hi s q x ∧ hi s q x ≤ 2100000000 := by
 have fr := hx.friction; have de := hx.density; have le := hx.length; have wi := hx.width; have he := hx.height
 obtain ⟨f1, f2⟩ := hf
 have a1 : 0 ≤ s.Resist * x.liquid.Friction := Int.mul_nonneg hr.1 (by omega)
 have a2 := mul_bd (a := s.Resist) (b := x.liquid.Friction) (A := 1000) (B := 2000) (by omega) (by omega)
 have b1 : 0 ≤ s.Resist * x.liquid.Friction * q := Int.mul_nonneg a1 (by omega)
 have b2 := mul_bd (a := s.Resist * x.liquid.Friction) (b := q) (A := 2000000) (B := 1000) (by omega) (by omega)
 have c1 : 0 ≤ s.Resist * x.liquid.Friction * q * q := Int.mul_nonneg b1 (by omega)
 have c2 := mul_bd (a := s.Resist * x.liquid.Friction * q) (b := q) (A := 2000000000) (B := 1000) (by omega) (by omega)
 have d1 : 0 ≤ frA s q x := Int.mul_nonneg c1 (by omega)
 have d2 : frA s q x ≤ 2000000000000 * s.Capacity := by
  have := Int.mul_le_mul (c2.2) f2 (by omega : 0 ≤ x.length) (by omega : (0 : Int) ≤ 2000000000 * 1000)
  unfold frA; omega
 have e1 := quot_bd (a := frA s q x) (b := frB s) (M := 2000000000) (by unfold frB; omega) (by unfold frB; omega)
 have g1 := mul_bd (a := x.liquid.Density * 9807) (b := x.height) (A := 12000000) (B := 5500) (by omega) (by omega)
 have g2 : -(66000000000 * x.length) ≤ liA x ∧ liA x ≤ 66000000000 * x.length := by
  unfold liA
  have u1 := Int.mul_le_mul_of_nonneg_right g1.2 (by omega : 0 ≤ x.length)
  have u2 := Int.mul_le_mul_of_nonneg_right g1.1 (by omega : 0 ≤ x.length)
  omega
 have e2 := quot_bd (a := liA x) (b := liB x) (M := 66000000) (by unfold liB; omega) (by unfold liB; omega)
 unfold lo hi
 omega
def Bd (B : Int) (b : Bounds) : Prop := b.Low ≤ b.High ∧ -B ≤ b.Low ∧ b.High ≤ B
theorem Bd.mono {B C : Int} {b : Bounds} (h : Bd B b) (hc : B ≤ C) : Bd C b := ⟨h.1, by have := h.2; omega, by have := h.2; omega⟩
theorem lvl_bd {s : Segment} {q B : Int} {way : List gradient_part} {b : Bounds} (hc : 1 ≤ s.Capacity ∧ s.Capacity ≤ 1000) (hr : 0 ≤ s.Resist ∧ s.Resist ≤ 1000) (hq : 1 ≤ q ∧ q ≤ 1000) (hw : ∀ x, x ∈ way → PartOk s x ∧ Fits s x) (hl : way.length ≤ 20) (hb : Bd B b) (places : List Int) (j : Nat) :
  Bd (B + 42000000000) (lvl s q b places way j).Bounds := by
 have bd : ∀ x, x ∈ way.take j → PartOk s x ∧ Fits s x := fun x hx => hw x (List.mem_of_mem_take hx)
 have s1 := sumBy_bd (g := lo s q) (B := 2100000000) (l := way.take j) fun x hx => (loss_tight hc hr hq (bd x hx).1 (bd x hx).2).1
 have s2 := sumBy_bd (g := hi s q) (B := 2100000000) (l := way.take j) fun x hx => (loss_tight hc hr hq (bd x hx).1 (bd x hx).2).2
 have s3 := sumBy_le (g := lo s q) (h := hi s q) (l := way.take j) fun x hx => (lohi hc.1 (bd x hx).1).1
 simp only [List.length_take] at s1 s2
 obtain ⟨h1, h2, h3⟩ := hb
 unfold lvl
 exact ⟨by dsimp only; omega, by dsimp only; omega, by dsimp only; omega⟩
theorem neg_fits {s : Segment} {x : gradient_part} (h : Fits s x) : Fits s (neg x) := h
theorem wayOf_all {s : Segment} {W : List gradient_part} (h : ∀ x, x ∈ W → PartOk s x ∧ Fits s x) (r : Int) : ∀ x, x ∈ wayOf W r → PartOk s x ∧ Fits s x := by
 intro x hx
 unfold wayOf at hx
 split at hx
 ·simp only [List.mem_map, List.mem_reverse] at hx
  obtain ⟨y, hy, rfl⟩ := hx
  exact ⟨negp_ok (h y hy).1, neg_fits (h y hy).2⟩
 ·exact h x hx
theorem along_in {s : Segment} {f : List Piece} {bs : List Batch} {p : List Product} (hs : SegG s) (hf : FillOk s.Capacity f) (hp : ProdsOk p) (hb : BatsOk p.length bs) {r B : Int} {b : Bounds} (hr : r ≠ 0 ∧ -1000 ≤ r ∧ r ≤ 1000) (hB : 0 ≤ B ∧ B ≤ 1000000000000000) (hbd : Bd B b) :
  ∃ x, L.zuct s f bs p r b = some (x, 0) ∧ 2 ≤ x.length ∧ x.length ≤ 20 ∧ (∀ y, y ∈ x → Bd (B + 42000000000) y.Bounds ∧ 0 ≤ y.At ∧ y.At ≤ s.Capacity) := by
 obtain ⟨l, hl1, hl2, hl3⟩ := liq_ok hf hb
 obtain ⟨W, hW, hP, hA⟩ := along_ok hs hf hp hl1 hl2 hl3
 have hc := hs.cap
 have hpl := hs.points.len
 have hfl := hf.len
 have hbl := brk_len s f
 have hb2 := brk_two hs.points hc.1 hf
 have hWl := hW.len
 have hFW : ∀ x, x ∈ W → PartOk s x ∧ Fits s x := fun x hx => by
  obtain ⟨i, hi⟩ := List.getElem?_of_mem hx
  exact ⟨hP x hx, (hW.all i x hi).fits hs hf⟩
 obtain ⟨b1, b2, b3⟩ := hbd
 refine ⟨_, hA r b hr.1 hr.2.1 hr.2.2 b1 (by omega) (by omega), by rw [along_len]; exact hb2, by rw [along_len]; omega, fun y hy => ?_⟩
 obtain ⟨i, hi⟩ := List.getElem?_of_mem hy
 have hil : i < (brk s f).length := by have := (gs hi).1; rw [along_len] at this; exact this
 rw [along_get _ _ _ _ _ hil] at hi
 have hy' := Option.some.inj hi
 have hq : 1 ≤ absR r ∧ absR r ≤ 1000 := by unfold absR; split <;> omega
 refine ⟨by rw [← hy']; exact lvl_bd hc hs.resist hq (wayOf_all hFW r) (by rw [wayOf_len]; omega) ⟨b1, b2, b3⟩ _ _, ?_⟩
 have hm : y.At ∈ brk s f := by
  rw [← hy']
  simp only [lvl]
  have hpl2 : (placesOf s f r).length = (brk s f).length := by unfold placesOf; split <;> simp
  have hix : ixOf s f r i < (placesOf s f r).length := by rw [hpl2]; unfold ixOf; split <;> omega
  have hg : (placesOf s f r)[ixOf s f r i]? = some ((placesOf s f r)[ixOf s f r i]'hix) := gq _
  rw [List.getD_eq_getElem?_getD, hg]
  have := mg hg
  simp only [Option.getD_some]
  unfold placesOf at this ⊢
  split at this
  ·rename_i hn; simp only [if_pos hn] at this ⊢; exact List.mem_reverse.1 this
  ·rename_i hn; simp only [if_neg hn] at this ⊢; exact this
 exact brk_range hs.points hf hm
def boost (t : Station) (rate : Int) : Int := max 0 (t.Head - dn (t.Fall * rate * rate) 1000)
theorem raise_eq {k nodes : Nat} {s : Station} (hs : StOk nodes k s) (hk : k < 26) (hn : nodes ≤ 24) {b : Bounds} {B rate : Int} (hB : 0 ≤ B ∧ B ≤ 1000000000000000) (hb : Bd B b) (hr : 0 ≤ rate ∧ rate ≤ 32000) :
  L.zzlp s b rate = some (⟨b.Low + boost s rate, b.High + boost s rate⟩, 0) ∧ Bd (B + 2000000) ⟨b.Low + boost s rate, b.High + boost s rate⟩ := by
 unfold boost
 have h1 := hs.node; have h2 := hs.head; have h3 := hs.fall; have h4 := hs.suction
 obtain ⟨b1, b2, b3⟩ := hb
 have m1 : 0 ≤ s.Fall * rate := Int.mul_nonneg h3.1 hr.1
 have m2 := mul_bd (a := s.Fall) (b := rate) (A := 100000) (B := 32000) (by omega) (by omega)
 have m3 : 0 ≤ s.Fall * rate * rate := Int.mul_nonneg m1 hr.1
 have m4 := mul_bd (a := s.Fall * rate) (b := rate) (A := 3200000000) (B := 32000) (by omega) (by omega)
 have dd := dn_small (a := s.Fall * rate * rate) (b := 1000) (by decide)
 have d0 := dn_nonneg (a := s.Fall * rate * rate) (b := 1000) (by decide) m3
 have e : L.zdzr s rate = some (max 0 (s.Head - dn (s.Fall * rate * rate) 1000), 0) := by
  have hv : L.zsmw s = some true := by
   unfold L.zsmw L.zsmw.J1
   rw [hs.name]
   have v1 : L.zack s.Node 23 = true := by simp [L.zack]; omega
   have v2 : L.zack s.Head 100000000 = true := by simp [L.zack]; omega
   have v3 : L.zack s.Fall 100000 = true := by simp [L.zack]; omega
   have v4 : L.zack s.Suction 100000000 = true := by simp [L.zack]; omega
   simp only [Option.bind_some, v1, v2, v3, v4, if_true]
  unfold L.zdzr
  rw [hv]
  simp only [Option.bind_some, Bool.not_true, Bool.false_eq_true, if_false]
  rw [if_neg (by simp; omega)]
  unfold L.zlvv
  dsimp only
  rw [wr_id (x := s.Fall * rate) (by omega), wr_id (x := s.Fall * rate * rate) (by omega), down_ok (by decide) (by omega)]
  simp only [Option.bind_some]
  rw [wr_id (by omega)]
 refine ⟨?_, by dsimp only; omega, by dsimp only; omega, by dsimp only; omega⟩
 unfold L.zzlp
 rw [e]
 simp only [Option.bind_some, bne_self_eq_false, Bool.false_eq_true, if_false]
 rw [if_neg (by simp; omega), wr_id (x := b.Low + max 0 (s.Head - dn (s.Fall * rate * rate) 1000)) (by omega), wr_id (x := b.High + max 0 (s.Head - dn (s.Fall * rate * rate) 1000)) (by omega)]
structure FillsOk (n : Network) (f : List (List Piece)) : Prop where
 len : f.length = n.Segments.length
 all : ∀ (k : Nat) (x : List Piece) (s : Segment), f[k]? = some x → n.Segments[k]? = some s → FillOk s.Capacity x
theorem SegOk.g {nodes k : Nat} {s : Segment} (h : SegOk nodes k s) (hk : k < 26) : SegG s := ⟨⟨k, hk, h.name⟩, h.cap, h.resist, h.wave, h.points⟩
structure W21 (n : Network) (b : List Batch) (pr : List Product) (f : List (List Piece)) : Prop where
 net : NetOk n
 prods : ProdsOk pr
 bats : BatsOk pr.length b
 fills : FillsOk n f
def mkL (n : Network) (b : List Batch) (pr : List Product) (f : List (List Piece)) (p : Plan) (K : List Bool) (N : List Bounds) (S : List (List Level)) : steady_line := ⟨n, b, pr, f, p, ⟨K, N, S⟩⟩
abbrev ST := steady_line
abbrev pk (n : Network) (b : List Batch) (pr : List Product) (f : List (List Piece)) (p : Plan) (K : List Bool) (N : List Bounds) (S : List (List Level)) : ST := mkL n b pr f p K N S
structure Inv (n : Network) (B : Int) (K : List Bool) (N : List Bounds) (S : List (List Level)) : Prop where
 kl : K.length = n.Nodes.length
 nl : N.length = n.Nodes.length
 sl : S.length = n.Segments.length
 nb : ∀ b, b ∈ N → Bd B b
 sb : ∀ (i : Nat) (lv : List Level) (s : Segment), S[i]? = some lv → n.Segments[i]? = some s → lv.length ≤ 20 ∧ ∀ y, y ∈ lv → Bd B y.Bounds ∧ 0 ≤ y.At ∧ y.At ≤ s.Capacity
theorem Inv.mono {n : Network} {B C : Int} {K : List Bool} {N : List Bounds} {S : List (List Level)} (h : Inv n B K N S) (hc : B ≤ C) : Inv n C K N S :=
 ⟨h.kl, h.nl, h.sl, fun b hb => (h.nb b hb).mono hc, fun i lv s h1 h2 => ⟨(h.sb i lv s h1 h2).1, fun y hy => let q := (h.sb i lv s h1 h2).2 y hy; ⟨q.1.mono hc, q.2⟩⟩⟩
theorem comes_ok {n : Network} {b : List Batch} {pr : List Product} {f : List (List Piece)} {p : Plan} {K : List Bool} {N : List Bounds} {S : List (List Level)} {B node : Int} {c : Bounds} (h : Inv n B K N S) (hv : 0 ≤ node ∧ node < (n.Nodes.length : Int)) (hc : Bd B c) :
  Ok (L.zkto (mkL n b pr f p K N S) node c) fun l => ∃ K' N', l = mkL n b pr f p K' N' S ∧ Inv n B K' N' S := by
 have hkl := h.kl; have hnl := h.nl
 obtain ⟨v, rfl⟩ := nat_of hv.1
 have j1 : ∀ x y : Int, Bd B ⟨x, y⟩ → Ok (L.zkto.J1 (mkL n b pr f p K N S) (v : Int) (x, y)) fun l => ∃ K' N', l = mkL n b pr f p K' N' S ∧ Inv n B K' N' S := by
  intro x y hxy
  unfold L.zkto.J1 mkL
  dsimp only
  refine .bind' (.ix v rfl (by omega) (.bind' (.ix v rfl (by omega) (.pure ⟨_, _, rfl, by simp [hkl], by simp [hnl], h.sl, fun z hz => ?_, h.sb⟩))))
  rcases List.mem_or_eq_of_mem_set hz with hz | rfl
  ·exact h.nb z hz
  ·exact hxy
 unfold L.zkto
 refine .bind' (.ix v rfl (by simp only [mkL]; omega) (Ok.iteB (fun _ => .bind' (.ix v rfl (by simp only [mkL]; omega) (j1 _ _ ?_))) fun _ => j1 _ _ hc))
 have := h.nb _ (List.getElem_mem (l := N) (n := v) (by omega))
 obtain ⟨a1, a2, a3⟩ := this
 obtain ⟨b1, b2, b3⟩ := hc
 simp only [mkL]
 exact ⟨by dsimp only; omega, by dsimp only; omega, by dsimp only; omega⟩
theorem none_ll_api_Piece_api_Piece {s : List (List Piece)} {g : List Piece → Option Bool} (hg : ∀ (k : Nat) x, s[k]? = some x → g x = some false) : L.zbxi s g = some false := by
 have : Ok (L.zbxi s g) fun r => r = false := by
  unfold L.zbxi L.zvuy
  refine .bind (Q := fun r : Int => r = -1) (.bind' (.forL (fun _ _ => True) (fun _ => False) trivial ?_ ?_ fun _ h => h.elim)) ?_
  ·intro k y _ hy _
   unfold L.zvuy.B2
   exact .bind' (.eq (hg k y hy) (Ok.iteB (fun h => by cases h) fun _ => .pure trivial))
  ·intro _ _
   simp only [Sum.elim_inl]
   unfold L.zvuy.J1
   exact .pure rfl
  ·rintro _ rfl
   exact .pure rfl
 obtain ⟨r, h, rfl⟩ := this
 exact h
theorem none_api_Piece_api_Piece {s : List (Piece)} {g : Piece → Option Bool} (hg : ∀ (k : Nat) x, s[k]? = some x → g x = some false) : L.zytx s g = some false := by
 have : Ok (L.zytx s g) fun r => r = false := by
  unfold L.zytx L.zkmq
  refine .bind (Q := fun r : Int => r = -1) (.bind' (.forL (fun _ _ => True) (fun _ => False) trivial ?_ ?_ fun _ h => h.elim)) ?_
  ·intro k y _ hy _
   unfold L.zkmq.B2
   exact .bind' (.eq (hg k y hy) (Ok.iteB (fun h => by cases h) fun _ => .pure trivial))
  ·intro _ _
   simp only [Sum.elim_inl]
   unfold L.zkmq.J1
   exact .pure rfl
  ·rintro _ rfl
   exact .pure rfl
 obtain ⟨r, h, rfl⟩ := this
 exact h
theorem volume_ok {cap : Int} {f : List Piece} (h : FillOk cap f) (hc : 1 ≤ cap ∧ cap ≤ 1000) : L.zryf f = some cap := by
 unfold L.zryf
 rw [pieceValid h hc, total_ok h.len h.vol (by have := h.sum; omega), h.sum]
 rfl
theorem advCheck {n : Network} {b : List Batch} {pr : List Product} {f : List (List Piece)} (hw : W21 n b pr f) : L.zspo n f = some 0 := by
 have hfl := hw.fills.len
 have hfill : ∀ (k : Nat) (x : List Piece), f[k]? = some x → ∃ s, n.Segments[k]? = some s ∧ FillOk s.Capacity x ∧ 1 ≤ s.Capacity ∧ s.Capacity ≤ 1000 := by
  intro k x hx
  have hk := (gs hx).1
  have hs : n.Segments[k]? = some (n.Segments[k]'(by omega)) := gq _
  exact ⟨_, hs, hw.fills.all k x _ hx hs, (hw.net.segs k _ hs).cap⟩
 have : Ok (L.zspo n f) fun r => r = 0 := by
  unfold L.zspo
  rw [netCheck hw.net]
  refine .bind' (.pure (Ok.iteU (fun h => absurd rfl h) fun _ => Ok.iteU (fun h => by omega) fun _ => ?_))
  rw [none_ll_api_Piece_api_Piece (fun k x hx => by
   obtain ⟨s, _, h1, h2⟩ := hfill k x hx
   unfold L.zfxs
   rw [pieceValid h1 h2]; rfl)]
  unfold L.zspo.J1
  refine .bind' (.pure (Ok.iteB (fun h => by cases h) fun _ => .bind' (.forL (fun _ _ => True) (fun _ => False) trivial ?_ (fun _ _ => .pure rfl) fun _ h => h.elim)))
  intro k x _ hx _
  obtain ⟨s, hs, h1, h2⟩ := hfill k x hx
  unfold L.zspo.B3
  rw [volume_ok h1 h2]
  exact .bind' (.pure (.bind' (.eq (ix_nat hs) (Ok.iteU (fun h => absurd rfl h) fun _ => .pure trivial))))
 obtain ⟨r, h, rfl⟩ := this
 exact h
theorem known_ok {b : List Batch} {pr : List Product} (hb : BatsOk pr.length b) {k : Int} (hk : 0 ≤ k ∧ k < 3) : L.zokq k b pr = some true := by
 have hl := hb.len
 have : Ok (L.zokq k b pr) fun r => r = true := by
  unfold L.zokq L.zokq.J1
  refine Ok.iteD (fun _ => .bind' (.ix' hk.1 (by omega) fun j y hj hy => ?_)) fun h => by omega
  have := hb.all y (mg hy)
  exact Ok.iteD (fun _ => .pure (by simp; omega)) fun h => by dsimp only at h; omega
 obtain ⟨r, h, rfl⟩ := this
 exact h
def limKV (pts : List Point) (x : Int) : Nat → Int
 | 0 => 100000000
 | k + 1 => match pts[k]?, pts[k + 1]? with
  | some a, some b => if a.At ≤ x ∧ x ≤ b.At then min (min (limKV pts x k) a.Limit) b.Limit else limKV pts x k
  | _, _ => limKV pts x k
def limV (pts : List Point) (x : Int) : Int := limKV pts x (pts.length - 1)
def Inside (n : Network) (x : Pressures) (e : List Int) : Prop :=
 ∃ (i : Nat) (lv : List Level) (s : Segment) (a : Int) (y : Level), x.Segments[i]? = some lv ∧ n.Segments[i]? = some s ∧ e[i]? = some a ∧ y ∈ lv ∧ (limV s.Points y.At < y.Bounds.High + a ∨ y.Bounds.Low - a < n.Vapour)
def Broken (n : Network) (p : Plan) (x : Pressures) (e : List Int) : Prop := Inside n x e ∨ ∃ r, L.zjxt n p x = some r ∧ r.2 = true
theorem Broken.mono {n : Network} {p : Plan} {x : Pressures} {e e' : List Int} (hl : e.length = e'.length) (h : ∀ (i : Nat) (a a' : Int), e[i]? = some a → e'[i]? = some a' → a ≤ a') (hb : Broken n p x e) : Broken n p x e' := by
 rcases hb with ⟨i, lv, s, a, y, h1, h2, h3, h4, h5⟩ | h2
 ·have hi := (gs h3).1
  have h3' : e'[i]? = some (e'[i]'(by omega)) := gq _
  have := h i a _ h3 h3'
  exact .inl ⟨i, lv, s, _, y, h1, h2, h3', h4, by omega⟩
 ·exact .inr h2
structure Fl (n : Network) (p : Plan) (i : Nat) (s : Segment) (r : Int) : Prop where
 seg : n.Segments[i]? = some s
 rate : p.Rates[i]? = some r
 ne : r ≠ 0
structure Topo (n : Network) (p : Plan) (l : List Int) : Prop where
 rng : ∀ v, v ∈ l → 0 ≤ v ∧ v < (n.Nodes.length : Int)
 nodup : l.Nodup
 topo : ∀ (k : Nat) (v : Int), l[k]? = some v → ∀ i s r, Fl n p i s r → (L.ztzg s r).2 = v → (L.ztzg s r).1 ∈ l.take k
theorem order_topo {n : Network} (hn : NetOk n) {p : Plan} (h : FlowOk n p) : Ok (L.zsgw n p) fun r => Topo n p r ∧ ∀ v : Nat, v < n.Nodes.length → (v : Int) ∈ r := by
 have h1 := hn.nodes; have h2 := hn.segs1; have h4 := h.rl
 let I : List Int × List Bool × Int → Prop := fun st => st.2.1.length = n.Nodes.length ∧ (Topo n p st.1 ∧ ∀ v : Nat, st.2.1[v]? = some true ↔ (v : Int) ∈ st.1) ∧ 0 ≤ st.2.2 ∧ st.2.2 ≤ (n.Nodes.length : Int) ∧ ∀ j : Nat, (j : Int) < st.2.2 → st.2.1[j]? = some false → Blocked n p st.2.1 j
 let R : List Int → Prop := fun r => Topo n p r ∧ ∀ v : Nat, v < n.Nodes.length → (v : Int) ∈ r
 let μ : List Int × List Bool × Int → Nat := fun st => (n.Nodes.length - cnt st.2.1) * 10 + (n.Nodes.length - st.2.2.toNat)
 unfold L.zsgw
 refine .bind' (.mk n.Nodes.length rfl (by omega) ?_)
 refine .bind (Q := R) ?_ fun r hr => .pure hr
 refine .loop I μ ⟨by simp, ⟨⟨by simp, by simp, by simp⟩, fun v => ?_⟩, by simp, by simp, fun j hj => by dsimp only at hj; omega⟩ (by simp only [μ]; rw [cnt_rep]; omega) ?_
 ·simp [List.getElem?_replicate]
 rintro ⟨out, there, k⟩ ⟨i1, ⟨i2, i2'⟩, i3, i4, i5⟩
 dsimp only at i1 i2 i2' i3 i4 i5
 have hc := cnt_le there
 unfold L.zsgw.B2
 refine Ok.iteD (fun h0 => ?_) fun h0 => ?_
 ·dsimp only at h0
  obtain ⟨kk, rfl⟩ := nat_of i3
  have hkl : kk < there.length := by omega
  have hx : there[kk]? = some there[kk] := gq hkl
  have next : Blocked n p there kk ∨ there[kk] = true → Ok (L.zsgw.J3 (out, there, (kk : Int))) (Sum.elim (fun st => I st ∧ μ st < μ (out, there, (kk : Int))) R) := by
   intro hb
   unfold L.zsgw.J3
   dsimp only
   rw [wr_id (by omega)]
   refine .pure ⟨⟨i1, ⟨i2, i2'⟩, by dsimp only; omega, by dsimp only; omega, fun j hj hf => ?_⟩, by simp only [μ]; omega⟩
   dsimp only at hj hf
   by_cases hjk : j = kk
   ·subst hjk
    rcases hb with hb | hb
    ·exact hb
    ·rw [hx, hb] at hf; cases hf
   ·exact i5 j (by omega) hf
  refine .bind' (.eq (ix_nat hx) (Ok.iteB (fun ht => next (.inr ht)) fun ht => ?_))
  dsimp only at ht
  refine .bind' (.forL (fun i _ => ∀ (j : Nat) (s : Segment) (r : Int), j < i → Fl n p j s r → (L.ztzg s r).2 = (kk : Int) → (L.ztzg s r).1 ∈ out) (fun d => d = (out, there, (kk : Int)) ∧ Blocked n p there kk) (fun j s r hj => absurd hj (Nat.not_lt_zero _)) ?_ ?_ ?_)
  ·intro i s _ hs hJ
   have hil := (gs hs).1
   have hr : p.Rates[i]? = some p.Rates[i] := gq (by omega)
   have he := (hn.segs i s hs).ends
   have no : (p.Rates[i] ≠ 0 → (L.ztzg s p.Rates[i]).2 = (kk : Int) → (L.ztzg s p.Rates[i]).1 ∈ out) → Ok (L.zsgw.J6 (out, there, (kk : Int)) false) (Sum.elim (fun _ : Unit => ∀ (j : Nat) (s : Segment) (r : Int), j < i + 1 → Fl n p j s r → (L.ztzg s r).2 = (kk : Int) → (L.ztzg s r).1 ∈ out) fun d => d = (out, there, (kk : Int)) ∧ Blocked n p there kk) := by
    intro hq
    unfold L.zsgw.J6
    refine .pure fun j s' r' hj hf ht => ?_
    by_cases hji : j = i
    ·subst hji
     have e1 := hf.seg; have e2 := hf.rate
     rw [hs] at e1; cases e1
     rw [hr] at e2; cases e2
     exact hq hf.ne ht
    ·exact hJ j s' r' (by omega) hf ht
   unfold L.zsgw.B5
   refine .bind' (.eq (ix_nat hr) (Ok.iteU (fun hr0 => Ok.iteE (fun hto => ?_) fun hto => no fun _ h => absurd h hto) fun hr0 => no fun h => absurd hr0 h))
   dsimp only at hr0 hto ⊢
   have hfr : 0 ≤ (L.ztzg s p.Rates[i]).1 ∧ (L.ztzg s p.Rates[i]).1 < (n.Nodes.length : Int) := by
    unfold L.ztzg
    split <;> dsimp only <;> omega
   refine .bind' (.ix' hfr.1 (by omega) fun f x hf hfx => ?_)
   dsimp only
   cases x with
   | false =>
    unfold L.zsgw.J6
    exact .pure ⟨rfl, i, s, p.Rates[i], f, hs, hr, hr0, hto, hf, hfx⟩
   | true => exact no fun _ _ => by rw [hf]; exact (i2' f).1 hfx
  ·intro _ hJ
   simp only [Sum.elim_inl]
   unfold L.zsgw.J4
   refine .bind' (.app (by
    have : out.length ≤ 6 := by
     have := i2.nodup.length_le_of_subset (l₂ := (List.range n.Nodes.length).map fun v : Nat => (v : Int)) fun v hv => by
      have := i2.rng v hv
      exact List.mem_map.2 ⟨v.toNat, List.mem_range.2 (by omega), by omega⟩
     simp at this; omega
    simp; omega) ?_)
   unfold L.zsgw.J3
   dsimp only
   rw [wr_id (by omega)]
   have hx' : there[kk]? = some false := by rw [hx, ht]
   have hnot : (kk : Int) ∉ out := fun hm => by have := (i2' kk).2 hm; rw [hx'] at this; cases this
   have hcs := cnt_set hx'
   have hcl := cnt_le (there.set kk true)
   simp at hcl
   refine .pure ⟨⟨by simp [i1], ⟨⟨fun v hv => ?_, ?_, fun k v hk i s r hf hto => ?_⟩, fun v => ?_⟩, by simp, by dsimp only; omega, fun j hj => by dsimp only at hj; omega⟩, ?_⟩
   ·dsimp only at hv
    rcases List.mem_append.1 hv with hv | hv
    ·exact i2.rng v hv
    ·simp at hv; omega
   ·dsimp only
    exact List.nodup_append.2 ⟨i2.nodup, by simp, fun a ha b hb he => by simp at hb; subst hb; subst he; exact hnot ha⟩
   ·dsimp only at hk ⊢
    rw [List.getElem?_append] at hk
    split at hk
    ·rename_i hkl
     rw [List.take_append_of_le_length (by omega)]
     exact i2.topo k v hk i s r hf hto
    ·rename_i hkl
     have hl := (gs hk).1
     simp at hl
     have : k = out.length := by omega
     subst this
     simp at hk
     subst hk
     rw [List.take_left]
     exact hJ i s r (gs hf.seg).1 hf hto
   ·dsimp only
    by_cases hv : v = kk
    ·subst hv
     rw [List.getElem?_set_self (by omega)]; simp
    ·rw [List.getElem?_set_ne (by omega), i2' v]
     simp; omega
   ·simp only [μ]
    rw [hcs]; omega
  ·rintro _ ⟨rfl, hb⟩
   exact next (.inl hb)
 ·dsimp only at h0
  have hk : k = (n.Nodes.length : Int) := by omega
  subst hk
  have all := h.acyc there i1 fun j hj => i5 j (by have := (gs hj).1; omega) hj
  refine .pure (by
   simp only [Sum.elim_inr]
   refine ⟨i2, fun v hv => (i2' v).1 ?_⟩
   have hg : there[v]? = some there[v] := gq (by omega)
   cases hb : there[v] with
   | true => rw [hg, hb]
   | false => exact absurd (by rw [hg, hb]) (all v))
structure Mn (C : Bounds → Prop) (k : Bool) (b : Bounds) : Prop where
 kn : k = true ↔ ∃ c, C c
 no : k = false → b = ⟨0, 0⟩
 le : k = true → ∀ c, C c → b.Low ≤ c.Low ∧ b.High ≤ c.High
 lo : k = true → ∃ c, C c ∧ b.Low = c.Low
 hi : k = true → ∃ c, C c ∧ b.High = c.High
theorem Mn.congr {C D : Bounds → Prop} {k : Bool} {b : Bounds} (h : Mn C k b) (hc : ∀ c, D c ↔ C c) : Mn D k b := by
 have : D = C := funext fun c => propext (hc c)
 rw [this]; exact h
def cmb (k : Bool) (b c : Bounds) : Bounds := if k then ⟨min b.Low c.Low, min b.High c.High⟩ else c
theorem Mn.add {C D : Bounds → Prop} {k : Bool} {b c : Bounds} (h : Mn C k b) (hc : ∀ d, D d ↔ C d ∨ d = c) : Mn D true (cmb k b c) := by
 have hD : D = fun d => C d ∨ d = c := funext fun d => propext (hc d)
 subst hD
 cases k with
 | false =>
  have hn : ∀ d, ¬ C d := fun d hd => by have := h.kn.2 ⟨d, hd⟩; cases this
  refine ⟨by simp only [true_iff]; exact ⟨c, .inr rfl⟩, (by intro h; cases h), fun _ d hd => ?_, fun _ => ⟨c, .inr rfl, rfl⟩, fun _ => ⟨c, .inr rfl, rfl⟩⟩
  rcases hd with hd | rfl
  ·exact absurd hd (hn d)
  ·exact ⟨Int.le_refl _, Int.le_refl _⟩
 | true =>
  obtain ⟨d1, h1, e1⟩ := h.lo rfl
  obtain ⟨d2, h2, e2⟩ := h.hi rfl
  refine ⟨by simp only [true_iff]; exact ⟨c, .inr rfl⟩, (by intro h; cases h), fun _ d hd => ?_, fun _ => ?_, fun _ => ?_⟩
  ·simp only [cmb, if_true]
   rcases hd with hd | rfl
   ·have := h.le rfl d hd
    exact ⟨by omega, by omega⟩
   ·exact ⟨by omega, by omega⟩
  ·simp only [cmb, if_true]
   by_cases hl : b.Low ≤ c.Low
   ·exact ⟨d1, .inl h1, by omega⟩
   ·exact ⟨c, .inr rfl, by omega⟩
  ·simp only [cmb, if_true]
   by_cases hl : b.High ≤ c.High
   ·exact ⟨d2, .inl h2, by omega⟩
   ·exact ⟨c, .inr rfl, by omega⟩
def lvEnd (r : Int) (lv : List Level) : Bounds := if 0 < r then ((lv[lv.length - 1]?).map (·.Bounds)).getD ⟨0, 0⟩ else ((lv[0]?).map (·.Bounds)).getD ⟨0, 0⟩
def Come (n : Network) (p : Plan) (S : List (List Level)) (P D : Nat → Prop) (w : Int) (c : Bounds) : Prop :=
 (∃ (i : Nat) (q : Port) (x : Int), P i ∧ n.Ports[i]? = some q ∧ p.Ports[i]? = some x ∧ 0 < x ∧ q.Node = w ∧ c = ⟨q.Pressure, q.Pressure⟩) ∨
 (∃ (i : Nat) (s : Segment) (r : Int) (lv : List Level), D i ∧ Fl n p i s r ∧ (L.ztzg s r).2 = w ∧ S[i]? = some lv ∧ c = lvEnd r lv)
theorem Come.congr {n : Network} {p : Plan} {S : List (List Level)} {P D P' D' : Nat → Prop} {w : Int} {c : Bounds} (hP : ∀ i q, n.Ports[i]? = some q → (P i ↔ P' i)) (hD : ∀ i s r, Fl n p i s r → (D i ↔ D' i)) :
  Come n p S P D w c ↔ Come n p S P' D' w c := by
 unfold Come
 constructor
 ·rintro (⟨i, q, x, h1, h2, h3⟩ | ⟨i, s, r, lv, h1, h2, h3⟩)
  ·exact .inl ⟨i, q, x, (hP i q h2).1 h1, h2, h3⟩
  ·exact .inr ⟨i, s, r, lv, (hD i s r h2).1 h1, h2, h3⟩
 ·rintro (⟨i, q, x, h1, h2, h3⟩ | ⟨i, s, r, lv, h1, h2, h3⟩)
  ·exact .inl ⟨i, q, x, (hP i q h2).2 h1, h2, h3⟩
  ·exact .inr ⟨i, s, r, lv, (hD i s r h2).2 h1, h2, h3⟩
def outW (v : Int) : List Segment → List Int → Int
 | s :: ss, r :: rs => (if (L.ztzg s r).1 = v then max r (-r) else 0) + outW v ss rs
 | _, _ => 0
def outf (n : Network) (p : Plan) (v : Int) : Int := outW v n.Segments p.Rates
def Ent (n : Network) (p : Plan) (v : Int) (b c : Bounds) : Prop :=
 (∃ (j : Nat) (t : Station), n.Stations[j]? = some t ∧ t.Node = v ∧ p.Pumps[j]? = some true ∧ c = ⟨b.Low + boost t (outf n p v), b.High + boost t (outf n p v)⟩) ∨
 ((∀ (j : Nat) (t : Station), n.Stations[j]? = some t → t.Node = v → p.Pumps[j]? ≠ some true) ∧ c = b)
section
variable {n : Network} {b : List Batch} {pr : List Product} {f : List (List Piece)} {p : Plan} {K : List Bool} {N : List Bounds} {S : List (List Level)}
theorem drop_cons {α : Type} {l : List α} {k : Nat} {x : α} (h : l[k]? = some x) : l.drop k = x :: l.drop (k + 1) := by
 obtain ⟨hk, he⟩ := gs h
 rw [List.drop_eq_getElem_cons hk, he]
theorem leaves_eq (hn : NetOk n) (hp : FlowOk n p) (node : Int) :
  L.zcba (mkL n b pr f p K N S) node = some (outf n p node, mkL n b pr f p K N S) ∧ 0 ≤ outf n p node ∧ outf n p node ≤ 32000 := by
 have h1 := hn.segs1; have h2 := hp.rl
 have : Ok (L.zcba (mkL n b pr f p K N S) node) fun r => r = (outf n p node, mkL n b pr f p K N S) ∧ 0 ≤ outf n p node ∧ outf n p node ≤ 32000 := by
  unfold L.zcba
  refine .bind (.forS (fun k (st : Int) => (0 ≤ st ∧ st ≤ 1000 * k) ∧ st + outW node (n.Segments.drop k) (p.Rates.drop k) = outf n p node) ⟨⟨by omega, by omega⟩, by simp [outf]⟩ ?_ fun st h => h) ?_
  ·rintro k s st hs ⟨⟨i1, i2⟩, i3⟩
   have hk := (gs hs).1
   simp only [mkL] at hk hs
   have hr : p.Rates[k]? = some (p.Rates[k]'(by omega)) := gq _
   have hg := hp.rng k _ s hr hs
   rw [drop_cons hs, drop_cons hr] at i3
   simp only [outW] at i3
   unfold L.zcba.B2 L.zcba.J3
   refine .bind' (.eq (ix_nat hr) (Ok.iteE (fun he => .pure ?_) fun he => .pure ⟨⟨i1, by omega⟩, ?_⟩))
   ·dsimp only at he ⊢
    rw [if_pos he] at i3
    rw [wr_id (x := 0 - p.Rates[k]) (by omega), wr_id (by omega)]
    omega
   ·dsimp only at he
    rw [if_neg he] at i3
    omega
  ·rintro st ⟨⟨i1, i2⟩, i3⟩
   unfold L.zcba.J1
   simp only [mkL] at i2 i3
   have hd : outW node (n.Segments.drop n.Segments.length) (p.Rates.drop n.Segments.length) = 0 := by simp [outW]
   rw [hd] at i3
   refine .pure ⟨by rw [← i3]; simp, by omega, by omega⟩
 obtain ⟨r, h, rfl, h3⟩ := this
 exact ⟨h, h3⟩
theorem enters_eq {B node : Int} (hn : NetOk n) (hp : FlowOk n p) (h : Inv n B K N S) (hB : 0 ≤ B ∧ B ≤ 1000000000000000) {v : Nat} {bd : Bounds} (hg : N[v]? = some bd) :
  ∃ c, Ent n p (v : Int) bd c ∧ Bd (B + 2000000) c ∧ L.zrmk (mkL n b pr f p K N S) (v : Int) = some (c, 0, mkL n b pr f p K N S) := by
 have hnl := h.nl; have h1 := hn.sts1; have h2 := hp.ml; have h3 := hn.nodes
 have hbd := h.nb _ (mg hg)
 have : Ok (L.zrmk (mkL n b pr f p K N S) (v : Int)) fun r => ∃ c, Ent n p (v : Int) bd c ∧ Bd (B + 2000000) c ∧ r = (c, 0, mkL n b pr f p K N S) := by
  unfold L.zrmk
  refine .bind' (.eq (ix_nat (l := (mkL n b pr f p K N S).x.Nodes) hg) ?_)
  refine .bind (Q := Sum.elim (fun _ : Unit => ∀ (j : Nat) (t : Station), n.Stations[j]? = some t → t.Node = (v : Int) → p.Pumps[j]? ≠ some true) fun d : Bounds × Int × steady_line => ∃ c, Ent n p (v : Int) bd c ∧ Bd (B + 2000000) c ∧ d = (c, 0, mkL n b pr f p K N S))
   (.forL (fun k _ => ∀ (j : Nat) (t : Station), j < k → n.Stations[j]? = some t → t.Node = (v : Int) → p.Pumps[j]? ≠ some true) (fun d => ∃ c, Ent n p (v : Int) bd c ∧ Bd (B + 2000000) c ∧ d = (c, 0, mkL n b pr f p K N S)) (fun j t hj => absurd hj (Nat.not_lt_zero _)) ?_ ?_ fun _ h => h) ?_
  ·intro k s _ hs hJ
   simp only [mkL] at hs
   have hk := (gs hs).1
   have hq : p.Pumps[k]? = some (p.Pumps[k]'(by omega)) := gq _
   have no : (s.Node = (v : Int) → p.Pumps[k]'(by omega) = false) → Ok (L.zrmk.J3 (mkL n b pr f p K N S) (v : Int) (v, bd) s false) (Sum.elim (fun _ : Unit => ∀ (j : Nat) (t : Station), j < k + 1 → n.Stations[j]? = some t → t.Node = (v : Int) → p.Pumps[j]? ≠ some true) fun d : Bounds × Int × steady_line => ∃ c, Ent n p (v : Int) bd c ∧ Bd (B + 2000000) c ∧ d = (c, 0, mkL n b pr f p K N S)) := by
    intro hno
    unfold L.zrmk.J3
    refine Ok.iteB (fun h => by cases h) fun _ => .pure fun j t hj ht htn => ?_
    by_cases hjk : j = k
    ·subst hjk
     rw [hs] at ht; cases ht
     rw [hq, hno htn]; simp
    ·exact hJ j t (by omega) ht htn
   unfold L.zrmk.B2
   refine Ok.iteE (fun hnode => .bind' (.eq (ix_nat (l := (mkL n b pr f p K N S).p.Pumps) hq) ?_)) fun hnode => no fun h => absurd h hnode
   dsimp only
   cases hpk : p.Pumps[k]'(by omega) with
   | false => exact no fun _ => hpk
   | true =>
    obtain ⟨e0, e1, e2⟩ := leaves_eq (b := b) (pr := pr) (f := f) (K := K) (N := N) (S := S) hn hp (v : Int)
    unfold L.zrmk.J3
    refine Ok.iteB (fun _ => .bind' (.eq e0 ?_)) fun h => by cases h
    dsimp only
    obtain ⟨e3, e4⟩ := raise_eq (hn.sts k s hs) (by omega) (by omega) hB hbd ⟨e1, e2⟩
    exact .bind' (.eq e3 (.pure ⟨_, .inl ⟨k, s, hs, hnode, by rw [hq, hpk], rfl⟩, e4, rfl⟩))
  ·intro _ hJ
   simp only [Sum.elim_inl]
   exact fun j t ht => hJ j t (gs ht).1 ht
  ·rintro (_ | d) hd
   ·unfold L.zrmk.J1
    exact .pure ⟨bd, .inr ⟨hd, rfl⟩, hbd.mono (by omega), rfl⟩
   ·exact .pure hd
 obtain ⟨r, h, c, h1, h2, rfl⟩ := this
 exact ⟨c, h1, h2, h⟩
theorem comes_eq {v : Nat} {k : Bool} {bd c : Bounds} (hk : K[v]? = some k) (hb : N[v]? = some bd) :
  L.zkto (mkL n b pr f p K N S) (v : Int) c = some (mkL n b pr f p (K.set v true) (N.set v (cmb k bd c)) S) := by
 unfold L.zkto L.zkto.J1
 simp only [mkL, ix_nat hk, ix_nat hb, Option.bind_some]
 cases k <;> simp [cmb]
theorem comes_inv {B : Int} {v : Nat} {k : Bool} {bd c : Bounds} (h : Inv n B K N S) (hk : K[v]? = some k) (hb : N[v]? = some bd) (hv : v < n.Nodes.length) (hc : Bd B c) : Inv n B (K.set v true) (N.set v (cmb k bd c)) S := by
 obtain ⟨l, h1, K', N', rfl, h2⟩ := comes_ok (n := n) (b := []) (pr := []) (f := []) (p := ⟨[], [], []⟩) (node := (v : Int)) h ⟨by omega, by omega⟩ hc
 rw [comes_eq hk hb] at h1
 have := Option.some.inj h1
 simp only [mkL, steady_line.mk.injEq, Pressures.mk.injEq, true_and, and_true] at this
 obtain ⟨rfl, rfl⟩ := this
 exact h2
theorem dot_nonpos : ∀ {w x : List Int}, (∀ (i : Nat) (a c : Int), w[i]? = some a → x[i]? = some c → a * c ≤ 0) → dot w x ≤ 0
 | [], _, _ => by simp [dot]
 | _ :: _, [], _ => by simp [dot]
 | a :: w, c :: x, h => by
  have h0 := h 0 a c rfl rfl
  have := dot_nonpos (w := w) (x := x) fun i a c h1 h2 => h (i + 1) a c (by simpa using h1) (by simpa using h2)
  simp only [dot]; omega
theorem dot_neg : ∀ {w x : List Int}, (∀ (i : Nat) (a c : Int), w[i]? = some a → x[i]? = some c → a * c ≤ 0) → (∃ (i : Nat) (a c : Int), w[i]? = some a ∧ x[i]? = some c ∧ a * c < 0) → dot w x < 0
 | [], _, _, ⟨i, a, c, h1, _⟩ => by simp at h1
 | _ :: _, [], _, ⟨i, a, c, _, h2, _⟩ => by simp at h2
 | a :: w, c :: x, h, ⟨0, a', c', h1, h2, h3⟩ => by
  simp at h1 h2
  subst h1 h2
  have := dot_nonpos (w := w) (x := x) fun i a c h1 h2 => h (i + 1) a c (by simpa using h1) (by simpa using h2)
  simp only [dot]; omega
 | a :: w, c :: x, h, ⟨i + 1, a', c', h1, h2, h3⟩ => by
  have h0 := h 0 a c rfl rfl
  have := dot_neg (w := w) (x := x) (fun i a c h1 h2 => h (i + 1) a c (by simpa using h1) (by simpa using h2)) ⟨i, a', c', by simpa using h1, by simpa using h2, h3⟩
  simp only [dot]; omega
theorem in_of_out (hn : NetOk n) (hp : FlowOk n p) {i : Nat} {s : Segment} {r : Int} {v : Nat} (hf : Fl n p i s r) (ho : (L.ztzg s r).1 = (v : Int)) :
  (∃ (k : Nat) (q : Port) (x : Int), n.Ports[k]? = some q ∧ p.Ports[k]? = some x ∧ 0 < x ∧ q.Node = (v : Int)) ∨ (∃ j s' r', Fl n p j s' r' ∧ (L.ztzg s' r').2 = (v : Int)) := by
 refine Classical.byContradiction fun hcon => ?_
 rw [not_or] at hcon
 obtain ⟨c1, c2⟩ := hcon
 have hse := (hn.segs i s hf.seg).ends
 have hv : v < 24 := by
  have := hn.nodes
  rcases endsOf (s := s) hf.ne with ⟨he, _⟩ | ⟨he, _⟩ <;> rw [he] at ho <;> dsimp only at ho <;> omega
 have hb := hp.bal v hv
 have t1 : ∀ (i : Nat) (a c : Int), (wt n (v : Int))[i]? = some a → p.Rates[i]? = some c → a * c ≤ 0 := by
  intro i a c h1 h2
  simp only [wt, List.getElem?_map, Option.map_eq_some_iff] at h1
  obtain ⟨s', hs', rfl⟩ := h1
  by_cases hc0 : c = 0
  ·subst hc0; simp
  have hto : (L.ztzg s' c).2 ≠ (v : Int) := fun h => c2 ⟨i, s', c, ⟨hs', h2, hc0⟩, h⟩
  rcases endsOf (s := s') hc0 with ⟨he, hc⟩ | ⟨he, hc⟩ <;> rw [he] at hto <;> dsimp only at hto
  ·have : ind s'.From (v : Int) = 0 := by unfold ind; rw [if_neg hto]
   rw [this]
   unfold ind; split <;> omega
  ·have : ind s'.To (v : Int) = 0 := by unfold ind; rw [if_neg hto]
   rw [this]
   unfold ind; split <;> omega
 have t2 : ∃ (i : Nat) (a c : Int), (wt n (v : Int))[i]? = some a ∧ p.Rates[i]? = some c ∧ a * c < 0 := by
  refine ⟨i, ind s.To (v : Int) - ind s.From (v : Int), r, by simp only [wt, List.getElem?_map, hf.seg, Option.map_some], hf.rate, ?_⟩
  have hto : (L.ztzg s r).2 ≠ (v : Int) := fun h => c2 ⟨i, s, r, hf, h⟩
  rcases endsOf (s := s) hf.ne with ⟨he, hc⟩ | ⟨he, hc⟩ <;> rw [he] at hto ho <;> dsimp only at hto ho
  ·have e1 : ind s.From (v : Int) = 0 := by unfold ind; rw [if_neg hto]
   have e2 : ind s.To (v : Int) = 1 := by unfold ind; rw [if_pos ho]
   rw [e1, e2]; omega
  ·have e1 : ind s.To (v : Int) = 0 := by unfold ind; rw [if_neg hto]
   have e2 : ind s.From (v : Int) = 1 := by unfold ind; rw [if_pos ho]
   rw [e1, e2]; omega
 have t3 : ∀ (i : Nat) (a c : Int), (wp n (v : Int))[i]? = some a → p.Ports[i]? = some c → a * c ≤ 0 := by
  intro i a c h1 h2
  simp only [wp, List.getElem?_map, Option.map_eq_some_iff] at h1
  obtain ⟨q, hq, rfl⟩ := h1
  by_cases hqv : q.Node = (v : Int)
  ·have : ¬ 0 < c := fun h => c1 ⟨i, q, c, hq, h2, h, hqv⟩
   unfold ind; rw [if_pos hqv]; omega
  ·unfold ind; rw [if_neg hqv]; omega
 have := dot_neg t1 t2
 have := dot_nonpos t3
 omega
end
def SegOf (n : Network) (b : List Batch) (pr : List Product) (f : List (List Piece)) (p : Plan) (K : List Bool) (N : List Bounds) (i : Nat) (s : Segment) (r : Int) (lv : List Level) : Prop :=
 ∃ (v : Nat) (bd c : Bounds) (fi : List Piece), (L.ztzg s r).1 = (v : Int) ∧ K[v]? = some true ∧ N[v]? = some bd ∧ Ent n p (v : Int) bd c ∧ f[i]? = some fi ∧ L.zuct s fi b pr r c = some (lv, 0)
structure JJ (n : Network) (b : List Batch) (pr : List Product) (f : List (List Piece)) (p : Plan) (P D : Nat → Prop) (K : List Bool) (N : List Bounds) (S : List (List Level)) : Prop where
 nodes : ∀ w : Nat, w < n.Nodes.length → ∃ k c, K[w]? = some k ∧ N[w]? = some c ∧ Mn (Come n p S P D (w : Int)) k c
 segs : ∀ i s r, Fl n p i s r → D i → ∃ lv, S[i]? = some lv ∧ 2 ≤ lv.length ∧ SegOf n b pr f p K N i s r lv
 segs0 : ∀ i lv, (∀ s r, Fl n p i s r → ¬ D i) → S[i]? = some lv → lv = []
theorem JJ.congr {n : Network} {b : List Batch} {pr : List Product} {f : List (List Piece)} {p : Plan} {P D P' D' : Nat → Prop} {K : List Bool} {N : List Bounds} {S : List (List Level)} (h : JJ n b pr f p P D K N S)
  (hP : ∀ i q, n.Ports[i]? = some q → (P i ↔ P' i)) (hD : ∀ i s r, Fl n p i s r → (D i ↔ D' i)) : JJ n b pr f p P' D' K N S := by
 refine ⟨fun w hw => ?_, fun i s r hf hd => h.segs i s r hf ((hD i s r hf).2 hd), fun i lv hn hl => h.segs0 i lv (fun s r hf hd => hn s r hf ((hD i s r hf).1 hd)) hl⟩
 obtain ⟨k, c, h1, h2, h3⟩ := h.nodes w hw
 exact ⟨k, c, h1, h2, h3.congr fun d => (Come.congr hP hD).symm⟩
section
variable {n : Network} {b : List Batch} {pr : List Product} {f : List (List Piece)} {p : Plan} {K : List Bool} {N : List Bounds} {S : List (List Level)}
theorem set_get {α : Type} {l : List α} {v w : Nat} {x y : α} (h : l[w]? = some y) : (l.set v x)[w]? = some (if v = w then x else y) := by
 have hw := (gs h).1
 by_cases e : v = w
 ·subst e; rw [List.getElem?_set_self hw, if_pos rfl]
 ·rw [List.getElem?_set_ne e, h, if_neg e]
theorem nodes_come {C C' : Nat → Bounds → Prop} {v : Nat} {k : Bool} {bd c : Bounds} {m : Nat} (h : ∀ w : Nat, w < m → ∃ k c, K[w]? = some k ∧ N[w]? = some c ∧ Mn (C w) k c) (hk : K[v]? = some k) (hb : N[v]? = some bd)
  (hC : ∀ w d, C' w d ↔ C w d ∨ (w = v ∧ d = c)) : ∀ w : Nat, w < m → ∃ k' c', (K.set v true)[w]? = some k' ∧ (N.set v (cmb k bd c))[w]? = some c' ∧ Mn (C' w) k' c' := by
 intro w hw
 obtain ⟨k1, c1, h1, h2, h3⟩ := h w hw
 refine ⟨_, _, set_get h1, set_get h2, ?_⟩
 by_cases e : v = w
 ·subst e
  rw [hk] at h1; rw [hb] at h2
  cases h1; cases h2
  simp only [if_pos]
  exact h3.add fun d => by rw [hC]; simp
 ·simp only [if_neg e]
  exact h3.congr fun d => by rw [hC]; simp; intro h; exact absurd h.symm e
theorem port_step {P D : Nat → Prop} {v : Int} {k : Nat} {q : Port} {x : Int} (hq : n.Ports[k]? = some q) (hx : p.Ports[k]? = some x) (w : Int) (d : Bounds) :
  Come n p S (fun i => P i ∨ (i < k + 1 ∧ ∃ q : Port, n.Ports[i]? = some q ∧ q.Node = v)) D w d ↔
   Come n p S (fun i => P i ∨ (i < k ∧ ∃ q : Port, n.Ports[i]? = some q ∧ q.Node = v)) D w d ∨ (q.Node = v ∧ 0 < x ∧ w = v ∧ d = ⟨q.Pressure, q.Pressure⟩) := by
 unfold Come
 constructor
 ·rintro (⟨i, q1, x1, h1, h2, h3, h4, h5, h6⟩ | h)
  ·rcases h1 with h1 | ⟨h1, q2, hq2, h1'⟩
   ·exact .inl (.inl ⟨i, q1, x1, .inl h1, h2, h3, h4, h5, h6⟩)
   ·by_cases hik : i = k
    ·subst hik
     rw [hq] at h2 hq2; cases h2; cases hq2
     rw [hx] at h3; cases h3
     exact .inr ⟨h1', h4, by rw [← h5, h1'], h6⟩
    ·exact .inl (.inl ⟨i, q1, x1, .inr ⟨by omega, q2, hq2, h1'⟩, h2, h3, h4, h5, h6⟩)
  ·exact .inl (.inr h)
 ·rintro ((⟨i, q1, x1, h1, h2⟩ | h) | ⟨h1, h2, h3, h4⟩)
  ·refine .inl ⟨i, q1, x1, ?_, h2⟩
   rcases h1 with h1 | ⟨h1, h1'⟩
   ·exact .inl h1
   ·exact .inr ⟨by omega, h1'⟩
  ·exact .inr h
  ·exact .inl ⟨k, q, x, .inr ⟨by omega, q, hq, h1⟩, hq, hx, h2, by rw [h1, h3], h4⟩
theorem seg_step {P D : Nat → Prop} {k : Nat} {s : Segment} {r : Int} {lv : List Level} (hf : Fl n p k s r) (hD : ¬ D k) (hk : k < S.length) (w : Int) (d : Bounds) :
  Come n p (S.set k lv) P (fun i => D i ∨ i = k) w d ↔ Come n p S P D w d ∨ (w = (L.ztzg s r).2 ∧ d = lvEnd r lv) := by
 unfold Come
 constructor
 ·rintro (h | ⟨i, s1, r1, lv1, h1, h2, h3, h4, h5⟩)
  ·exact .inl (.inl h)
  ·by_cases hik : i = k
   ·subst hik
    have e1 := h2.seg; have e2 := h2.rate
    rw [hf.seg] at e1; cases e1
    rw [hf.rate] at e2; cases e2
    rw [List.getElem?_set_self hk] at h4; cases h4
    exact .inr ⟨h3.symm, h5⟩
   ·rw [List.getElem?_set_ne (fun h => hik h.symm)] at h4
    rcases h1 with h1 | h1
    ·exact .inl (.inr ⟨i, s1, r1, lv1, h1, h2, h3, h4, h5⟩)
    ·exact absurd h1 hik
 ·rintro ((h | ⟨i, s1, r1, lv1, h1, h2, h3, h4, h5⟩) | ⟨h1, h2⟩)
  ·exact .inl h
  ·have hik : i ≠ k := fun h => hD (h ▸ h1)
   exact .inr ⟨i, s1, r1, lv1, .inl h1, h2, h3, by rw [List.getElem?_set_ne (fun h => hik h.symm)]; exact h4, h5⟩
  ·exact .inr ⟨k, s, r, lv, .inr rfl, hf, h1.symm, List.getElem?_set_self hk, h2⟩
def PD (n : Network) (done : List Int) (i : Nat) : Prop := ∃ q : Port, n.Ports[i]? = some q ∧ q.Node ∈ done
def DD (n : Network) (p : Plan) (done : List Int) (i : Nat) : Prop := ∃ s r, Fl n p i s r ∧ (L.ztzg s r).1 ∈ done
theorem ends_node (hn : NetOk n) {i : Nat} {s : Segment} {r : Int} (hf : Fl n p i s r) : ∃ a c : Nat, (L.ztzg s r).1 = (a : Int) ∧ (L.ztzg s r).2 = (c : Int) ∧ a < n.Nodes.length ∧ c < n.Nodes.length ∧ a ≠ c := by
 have he := (hn.segs i s hf.seg).ends
 rcases endsOf (s := s) hf.ne with ⟨h, _⟩ | ⟨h, _⟩ <;> rw [h] <;> dsimp only
 ·exact ⟨s.To.toNat, s.From.toNat, by omega, by omega, by omega, by omega, by omega⟩
 ·exact ⟨s.From.toNat, s.To.toNat, by omega, by omega, by omega, by omega, by omega⟩
theorem node_spec {B : Int} {v : Nat} {done : List Int} (hw : W21 n b pr f) (hp : FlowOk n p) (h : Inv n B K N S) (hB : 100000000 ≤ B ∧ B ≤ 900000000000000) (hv : v < n.Nodes.length)
  (hj : JJ n b pr f p (PD n done) (DD n p done) K N S) (hnd : (v : Int) ∉ done)
  (hin : ∀ i s r, Fl n p i s r → (L.ztzg s r).2 = (v : Int) → (L.ztzg s r).1 ∈ done)
  (hout : ∀ i s r, Fl n p i s r → (L.ztzg s r).1 = (v : Int) → (L.ztzg s r).2 ∉ done) :
  Ok (L.zqta (mkL n b pr f p K N S) (v : Int)) fun r => r.1 = 0 ∧ ∃ K' N' S', r.2 = mkL n b pr f p K' N' S' ∧ Inv n (B + 50000000000) K' N' S' ∧ JJ n b pr f p (PD n (done ++ [(v : Int)])) (DD n p (done ++ [(v : Int)])) K' N' S' := by
 have hn := hw.net
 have hs1 := hn.segs1; have hrl := hp.rl; have hpl := hp.pl; have hps := hn.ports1; have hfl := hw.fills.len
 let P := PD n done
 let AV : Nat → Prop := fun i => ∃ q : Port, n.Ports[i]? = some q ∧ q.Node = (v : Int)
 have hP' : ∀ i q, n.Ports[i]? = some q → (PD n (done ++ [(v : Int)]) i ↔ P i ∨ AV i) := by
  intro i q hq
  simp only [PD, P, AV, List.mem_append, List.mem_singleton]
  constructor
  ·rintro ⟨q', h1, h2 | h2⟩
   ·exact .inl ⟨q', h1, h2⟩
   ·exact .inr ⟨q', h1, h2⟩
  ·rintro (⟨q', h1, h2⟩ | ⟨q', h1, h2⟩)
   ·exact ⟨q', h1, .inl h2⟩
   ·exact ⟨q', h1, .inr h2⟩
 have keepP : ∀ K N, JJ n b pr f p (fun i => P i ∨ (i < 0 ∧ AV i)) (DD n p done) K N S → True := fun _ _ _ => trivial
 unfold L.zqta
 refine .bind (Q := fun st : ST => ∃ K' N', st = pk n b pr f p K' N' S ∧ Inv n B K' N' S ∧ JJ n b pr f p (PD n (done ++ [(v : Int)])) (DD n p done) K' N' S)
  (.forS (fun k (st : ST) => ∃ K' N', st = pk n b pr f p K' N' S ∧ Inv n B K' N' S ∧ JJ n b pr f p (fun i => P i ∨ (i < k ∧ AV i)) (DD n p done) K' N' S) ⟨K, N, rfl, h, hj.congr (fun i q hq => by simp [P]) (fun _ _ _ _ => Iff.rfl)⟩ ?_ ?_) ?_
 ·rintro k q _ hq ⟨K, N, rfl, hI, hJ⟩
  simp only [mkL] at hq
  have hk := (gs hq).1
  have hpo := hn.ports k q hq
  have hx : p.Ports[k]? = some (p.Ports[k]'(by omega)) := gq _
  have hstep := fun S w d => port_step (n := n) (p := p) (S := S) (P := P) (D := DD n p done) (v := (v : Int)) hq hx w d
  have no : (¬ (q.Node = (v : Int) ∧ 0 < p.Ports[k]'(by omega))) → Ok (L.zqta.J8 (v : Int) q (pk n b pr f p K N S) false) fun st : ST => ∃ K' N', st = pk n b pr f p K' N' S ∧ Inv n B K' N' S ∧ JJ n b pr f p (fun i => P i ∨ (i < k + 1 ∧ AV i)) (DD n p done) K' N' S := by
   intro hnn
   unfold L.zqta.J8 L.zqta.J7
   refine Ok.iteB (fun h => by cases h) fun _ => .pure ⟨K, N, rfl, hI, fun w hw => ?_, hJ.segs, hJ.segs0⟩
   obtain ⟨k1, c1, h1, h2, h3⟩ := hJ.nodes w hw
   exact ⟨k1, c1, h1, h2, h3.congr fun d => by rw [hstep]; exact ⟨fun h => h.elim id fun h => absurd ⟨h.1, h.2.1⟩ hnn, .inl⟩⟩
  unfold L.zqta.B6
  refine Ok.iteE (fun hnode => .bind' (.eq (ix_nat (l := (mkL n b pr f p K N S).p.Ports) hx) ?_)) fun hnode => no fun h => hnode h.1
  dsimp only at hnode ⊢
  cases hd : decide (p.Ports[k]'(by omega) > 0) with
  | false => exact no fun h => by have := of_decide_eq_false hd; omega
  | true =>
   have hpos : 0 < p.Ports[k]'(by omega) := of_decide_eq_true hd
   obtain ⟨kb, bd, hkb, hbd, hM⟩ := hJ.nodes v hv
   have hcb : Bd B ⟨q.Pressure, q.Pressure⟩ := by
    have := hpo.pressure
    exact ⟨Int.le_refl _, by dsimp only; omega, by dsimp only; omega⟩
   unfold L.zqta.J8
   refine Ok.iteB (fun _ => .bind' (.eq (comes_eq (n := n) (b := b) (pr := pr) (f := f) (p := p) (K := K) (N := N) (S := S) (c := ⟨q.Pressure, q.Pressure⟩) hkb hbd) ?_)) fun h => by cases h
   unfold L.zqta.J7
   refine .pure ⟨K.set v true, N.set v (cmb kb bd ⟨q.Pressure, q.Pressure⟩), rfl, comes_inv hI hkb hbd hv hcb, nodes_come hJ.nodes hkb hbd fun w d => ?_, ?_, hJ.segs0⟩
   ·rw [hstep]
    constructor
    ·rintro (h | ⟨_, _, h, h'⟩)
     ·exact .inl h
     ·exact .inr ⟨by omega, h'⟩
    ·rintro (h | ⟨rfl, h'⟩)
     ·exact .inl h
     ·exact .inr ⟨hnode, hpos, rfl, h'⟩
   ·intro i s r hf hdd
    obtain ⟨lv, h1, h2, a, bd', c', fi, e1, e2, e3, e4⟩ := hJ.segs i s r hf hdd
    have hav : a ≠ v := fun h => by
     subst h
     obtain ⟨s', r', hf', hd'⟩ := hdd
     have g1 := hf'.seg; have g2 := hf'.rate
     rw [hf.seg] at g1; cases g1
     rw [hf.rate] at g2; cases g2
     rw [e1] at hd'; exact hnd hd'
    exact ⟨lv, h1, h2, a, bd', c', fi, e1, by rw [List.getElem?_set_ne (fun h => hav h.symm)]; exact e2, by rw [List.getElem?_set_ne (fun h => hav h.symm)]; exact e3, e4⟩
 ·rintro _ ⟨K, N, rfl, hI, hJ⟩
  refine ⟨K, N, rfl, hI, hJ.congr (fun i q hq => ?_) fun _ _ _ _ => Iff.rfl⟩
  rw [hP' i q hq]
  have := (gs hq).1
  simp only [mkL]
  simp [this]
 ·rintro _ ⟨K, N, rfl, hI, hJ⟩
  obtain ⟨kb, bd, hkb, hbd, hM⟩ := hJ.nodes v hv
  unfold L.zqta.J1
  refine .bind' (.eq (ix_nat (l := (mkL n b pr f p K N S).x.Known) hkb) ?_)
  let A : Nat → Prop := fun i => ∃ s r, Fl n p i s r ∧ (L.ztzg s r).1 = (v : Int)
  have hD' : ∀ i s r, Fl n p i s r → (DD n p (done ++ [(v : Int)]) i ↔ DD n p done i ∨ A i) := by
   intro i s r hf
   simp only [DD, A, List.mem_append, List.mem_singleton]
   constructor
   ·rintro ⟨s', r', h1, h2 | h2⟩
    ·exact .inl ⟨s', r', h1, h2⟩
    ·exact .inr ⟨s', r', h1, h2⟩
   ·rintro (⟨s', r', h1, h2⟩ | ⟨s', r', h1, h2⟩)
    ·exact ⟨s', r', h1, .inl h2⟩
    ·exact ⟨s', r', h1, .inr h2⟩
  cases kb with
  | false =>
   refine Ok.iteN (fun _ => .pure ⟨rfl, K, N, S, rfl, hI.mono (by omega), hJ.congr (fun _ _ _ => Iff.rfl) fun i s r hf => ?_⟩) fun h => by cases h
   rw [hD' i s r hf]
   refine ⟨.inl, fun h => h.elim id fun ⟨s', r', hf', ho⟩ => ?_⟩
   have hnone : ¬ ∃ c, Come n p S (PD n (done ++ [(v : Int)])) (DD n p done) (v : Int) c := fun h => by have := hM.kn.2 h; cases this
   refine absurd ?_ hnone
   rcases in_of_out hn hp hf' ho with ⟨k, q, x, g1, g2, g3, g4⟩ | ⟨j, s2, r2, g1, g2⟩
   ·exact ⟨_, .inl ⟨k, q, x, ⟨q, g1, by simp [g4]⟩, g1, g2, g3, g4, rfl⟩⟩
   ·have hd : DD n p done j := ⟨s2, r2, g1, hin j s2 r2 g1 g2⟩
    obtain ⟨lv, h1, _⟩ := hJ.segs j s2 r2 g1 hd
    exact ⟨_, .inr ⟨j, s2, r2, lv, hd, g1, g2, h1, rfl⟩⟩
  | true =>
  refine Ok.iteN (fun h => by cases h) fun _ => ?_
  obtain ⟨c, hc1, hc, hce⟩ := enters_eq (b := b) (pr := pr) (f := f) (node := (v : Int)) hn hp hI ⟨by omega, by omega⟩ hbd
  refine .bind' (.eq hce ?_)
  dsimp only
  refine Ok.iteU (fun h => absurd rfl h) fun _ => ?_
  refine .bind' (.forL (fun k (st : ST) => ∃ K' N' S', st = pk n b pr f p K' N' S' ∧ Inv n (B + 50000000000) K' N' S' ∧ K'[v]? = some true ∧ N'[v]? = some bd ∧ JJ n b pr f p (PD n (done ++ [(v : Int)])) (fun i => DD n p done i ∨ (i < k ∧ A i)) K' N' S') (fun _ => False) ⟨K, N, S, rfl, hI.mono (by omega), hkb, hbd, hJ.congr (fun _ _ _ => Iff.rfl) fun i s r hf => by simp⟩ ?_ ?_ fun _ h => h.elim)
  ·rintro k s _ hs ⟨K, N, S, rfl, hI, hKv, hNv, hJ⟩
   simp only [mkL] at hs
   have hk := (gs hs).1
   have hr : p.Rates[k]? = some (p.Rates[k]'(by omega)) := gq _
   have hrg := hp.rng k _ s hr hs
   have hse := hn.segs k s hs
   have hfk : f[k]? = some (f[k]'(by omega)) := gq _
   have hfo := hw.fills.all k _ s hfk hs
   have skip : ¬ A k → JJ n b pr f p (PD n (done ++ [(v : Int)])) (fun i => DD n p done i ∨ (i < k + 1 ∧ A i)) K N S := fun hA => hJ.congr (fun _ _ _ => Iff.rfl) fun i s r hf => by
    constructor
    ·rintro (h | ⟨h, h'⟩)
     ·exact .inl h
     ·exact .inr ⟨by omega, h'⟩
    ·rintro (h | ⟨h, h'⟩)
     ·exact .inl h
     ·by_cases hik : i = k
      ·subst hik; exact absurd h' hA
      ·exact .inr ⟨by omega, h'⟩
   unfold L.zqta.B3
   refine .bind' (.eq (ix_nat (l := (mkL n b pr f p K N S).p.Rates) hr) ?_)
   refine Ok.iteB (fun hc0 => ?_) fun hc0 => ?_
   ·unfold L.zqta.J4
    refine .pure ⟨K, N, S, rfl, hI, hKv, hNv, skip ?_⟩
    rintro ⟨s', r', hf', ho⟩
    have g1 := hf'.seg; have g2 := hf'.rate
    rw [hs] at g1; cases g1
    rw [hr] at g2; cases g2
    have := hf'.ne
    simp [this] at hc0
    exact hc0 ho
   ·have hr0 : p.Rates[k]'(by omega) ≠ 0 := fun h => by simp [h] at hc0
    have hfl' : Fl n p k s (p.Rates[k]'(by omega)) := ⟨hs, hr, hr0⟩
    have hfrom : (L.ztzg s (p.Rates[k]'(by omega))).1 = (v : Int) := by simp [hr0] at hc0; exact hc0
    obtain ⟨a, t, ha, ht, hal, htl, hat⟩ := ends_node hn hfl'
    have hav : a = v := by omega
    have htv : t ≠ v := by omega
    have hnDk : ¬ (DD n p done k ∨ (k < k ∧ A k)) := by
     rintro (⟨s', r', hf', hd'⟩ | ⟨h, _⟩)
     ·have g1 := hf'.seg; have g2 := hf'.rate
      rw [hs] at g1; cases g1
      rw [hr] at g2; cases g2
      rw [hfrom] at hd'; exact hnd hd'
     ·omega
    obtain ⟨x, hx1, hx2, hx3, hx4⟩ := along_in (r := p.Rates[k]'(by omega)) (B := B + 2000000) (b := c) (hse.g (by omega)) hfo hw.prods hw.bats ⟨hr0, hrg.1, hrg.2.1⟩ ⟨by omega, by omega⟩ hc
    refine .bind' (.eq (ix_nat (l := (mkL n b pr f p K N S).fills) hfk) (.bind' (.eq hx1 (Ok.iteU (fun h => absurd rfl h) fun _ => ?_))))
    have hsl := hI.sl
    obtain ⟨kt, bt, hkt, hbt, hMt⟩ := hJ.nodes t htl
    have j5 : ∀ y : Level, y ∈ x → lvEnd (p.Rates[k]'(by omega)) x = y.Bounds → Ok (L.zqta.J5 k s (pk n b pr f p K N S) (k, p.Rates[k]'(by omega)) (x, 0) (y.At, y.Bounds.Low, y.Bounds.High)) (Sum.elim (fun st : ST => ∃ K' N' S', st = pk n b pr f p K' N' S' ∧ Inv n (B + 50000000000) K' N' S' ∧ K'[v]? = some true ∧ N'[v]? = some bd ∧ JJ n b pr f p (PD n (done ++ [(v : Int)])) (fun i => DD n p done i ∨ (i < k + 1 ∧ A i)) K' N' S') fun _ : Int × steady_line => False) := by
     intro y hy hye
     have hyb := (hx4 y hy).1
     unfold L.zqta.J5
     refine .bind' (.ix k rfl (by simp only [mkL]; omega) ?_)
     have hI2 : Inv n (B + 50000000000) K N (S.set k x) := by
      refine ⟨hI.kl, hI.nl, by simp [hsl], hI.nb, fun i lv s1 hi hs1' => ?_⟩
      by_cases hik : i = k
      ·subst hik
       rw [List.getElem?_set_self (by omega)] at hi
       cases hi
       rw [hs] at hs1'; cases hs1'
       exact ⟨hx3, fun z hz => ⟨(hx4 z hz).1.mono (by omega), (hx4 z hz).2⟩⟩
      ·rw [List.getElem?_set_ne (by omega)] at hi
       exact hI.sb i lv s1 hi hs1'
     dsimp only
     rw [ht]
     refine .bind' (.eq (comes_eq (n := n) (b := b) (pr := pr) (f := f) (p := p) (K := K) (N := N) (S := S.set k x) (c := ⟨y.Bounds.Low, y.Bounds.High⟩) hkt hbt) ?_)
     unfold L.zqta.J4
     refine .pure ⟨K.set t true, N.set t (cmb kt bt ⟨y.Bounds.Low, y.Bounds.High⟩), S.set k x, rfl, comes_inv hI2 hkt hbt htl (hyb.mono (by omega)), by rw [List.getElem?_set_ne htv]; exact hKv, by rw [List.getElem?_set_ne htv]; exact hNv, ?_⟩
     have hDk : ∀ i s r, Fl n p i s r → (((DD n p done i ∨ (i < k ∧ A i)) ∨ i = k) ↔ (DD n p done i ∨ (i < k + 1 ∧ A i))) := by
      intro i s' r' hf'
      constructor
      ·rintro ((h | ⟨h, h'⟩) | rfl)
       ·exact .inl h
       ·exact .inr ⟨by omega, h'⟩
       ·exact .inr ⟨by omega, _, _, hfl', hfrom⟩
      ·rintro (h | ⟨h, h'⟩)
       ·exact .inl (.inl h)
       ·by_cases hik : i = k
        ·exact .inr hik
        ·exact .inl (.inr ⟨by omega, h'⟩)
     refine JJ.congr (P := PD n (done ++ [(v : Int)])) (D := fun i => (DD n p done i ∨ (i < k ∧ A i)) ∨ i = k) ⟨?_, ?_, ?_⟩ (fun _ _ _ => Iff.rfl) hDk
     ·refine nodes_come hJ.nodes hkt hbt fun w d => ?_
      rw [seg_step hfl' hnDk (by omega), ht, hye]
      constructor
      ·rintro (h | ⟨h, h'⟩)
       ·exact .inl h
       ·exact .inr ⟨by omega, h'⟩
      ·rintro (h | ⟨h, h'⟩)
       ·exact .inl h
       ·exact .inr ⟨by omega, h'⟩
     ·intro i s' r' hf' hd'
      by_cases hik : i = k
      ·subst hik
       have g1 := hf'.seg; have g2 := hf'.rate
       rw [hs] at g1; cases g1
       rw [hr] at g2; cases g2
       exact ⟨x, List.getElem?_set_self (by omega), hx2, v, bd, c, _, hfrom, by rw [List.getElem?_set_ne htv]; exact hKv, by rw [List.getElem?_set_ne htv]; exact hNv, hc1, hfk, hx1⟩
      ·have hd2 : DD n p done i ∨ (i < k ∧ A i) := hd'.elim id fun h => absurd h hik
       obtain ⟨lv, h1, h2, a', bd', c', fi, e1, e2, e3, e4⟩ := hJ.segs i s' r' hf' hd2
       have hta : t ≠ a' := by
        rintro rfl
        have hto : (L.ztzg s (p.Rates[k]'(by omega))).2 ∉ done := hout k s _ hfl' hfrom
        rcases hd2 with ⟨s2, r2, hf2, hd3⟩ | ⟨_, s2, r2, hf2, hd3⟩
        ·have g1 := hf2.seg; have g2 := hf2.rate
         rw [hf'.seg] at g1; cases g1
         rw [hf'.rate] at g2; cases g2
         rw [e1, ← ht] at hd3; exact hto hd3
        ·have g1 := hf2.seg; have g2 := hf2.rate
         rw [hf'.seg] at g1; cases g1
         rw [hf'.rate] at g2; cases g2
         rw [e1] at hd3; omega
       exact ⟨lv, by rw [List.getElem?_set_ne (fun h => hik h.symm)]; exact h1, h2, a', bd', c', fi, e1, by rw [List.getElem?_set_ne hta]; exact e2, by rw [List.getElem?_set_ne hta]; exact e3, e4⟩
     ·intro i lv hn' hl
      have hik : i ≠ k := by
       rintro rfl
       exact hn' s _ hfl' (.inr rfl)
      rw [List.getElem?_set_ne (fun h => hik h.symm)] at hl
      exact hJ.segs0 i lv (fun s' r' hf' hd' => hn' s' r' hf' (.inl hd')) hl
    have h0 : x[0]? = some (x[0]'(by omega)) := gq _
    have hl : x[x.length - 1]? = some (x[x.length - 1]'(by omega)) := gq _
    have h0' : ix x 0 = some (0, x[0]'(by omega)) := ix_nat h0
    dsimp only
    rw [h0']
    refine .bind' (.pure (Ok.iteD (fun hpos => ?_) fun hneg => j5 _ (mg h0) (by unfold lvEnd; rw [if_neg (by omega), h0]; rfl)))
    rw [wr_id (by omega), show (x.length : Int) - 1 = ((x.length - 1 : Nat) : Int) by omega, ix_nat hl]
    exact .bind' (.pure (j5 _ (mg hl) (by unfold lvEnd; rw [if_pos (by omega), hl]; rfl)))
  ·rintro _ ⟨K', N', S', rfl, hI', _, _, hJ'⟩
   simp only [Sum.elim_inl]
   unfold L.zqta.J2
   refine .pure ⟨rfl, K', N', S', rfl, hI', hJ'.congr (fun _ _ _ => Iff.rfl) fun i s r hf => ?_⟩
   rw [hD' i s r hf]
   have hil := (gs hf.seg).1
   exact ⟨fun h => h.imp id fun h => h.2, fun h => h.imp id fun h => ⟨hil, h⟩⟩
end
structure Sol (n : Network) (b : List Batch) (pr : List Product) (f : List (List Piece)) (p : Plan) (x : Pressures) : Prop where
 inv : Inv n 400000000000 x.Known x.Nodes x.Segments
 nodes : ∀ w : Nat, w < n.Nodes.length → ∃ k c, x.Known[w]? = some k ∧ x.Nodes[w]? = some c ∧ Mn (Come n p x.Segments (fun _ => True) (fun _ => True) (w : Int)) k c
 segs : ∀ i s r, Fl n p i s r → ∃ lv, x.Segments[i]? = some lv ∧ 2 ≤ lv.length ∧ SegOf n b pr f p x.Known x.Nodes i s r lv
 segs0 : ∀ (i : Nat) (lv : List Level), p.Rates[i]? = some 0 → x.Segments[i]? = some lv → lv = []
theorem solve_spec {n : Network} {b : List Batch} {pr : List Product} {f : List (List Piece)} {p : Plan} (hw : W21 n b pr f) (hp : FlowOk n p) :
  ∃ x, L.zonc n b pr f p = some (x, 0) ∧ Sol n b pr f p x := by
 have hn := hw.net
 have hn1 := hn.nodes; have hs1 := hn.segs1
 have : Ok (L.zonc n b pr f p) fun r => r.2 = 0 ∧ Sol n b pr f p r.1 := by
  obtain ⟨ord, ho, hT, hfull⟩ := order_topo hn hp
  have eo : L.zyyp n p = some (ord, 0) := by
   unfold L.zyyp
   rw [flowCheckF hn hp, ho]; rfl
  have hol : ord.length ≤ 6 := by
   have := hT.nodup.length_le_of_subset (l₂ := (List.range n.Nodes.length).map fun v : Nat => (v : Int)) fun v hv => by
    have := hT.rng v hv
    exact List.mem_map.2 ⟨v.toNat, List.mem_range.2 (by omega), by omega⟩
   simp at this; omega
  unfold L.zonc
  refine .bind' (.eq eo (Ok.iteU (fun h => absurd rfl h) fun _ => .bind' (.eq (advCheck hw) (Ok.iteU (fun h => absurd rfl h) fun _ => .bind' (.eq (productsCheck hw.prods) (Ok.iteU (fun h => absurd rfl h) fun _ => ?_))))))
  refine .bind' (.forL (fun _ _ => True) (fun _ => False) trivial ?_ ?_ fun _ h => h.elim)
  ·intro k x _ hx _
   have hk := (gs hx).1
   have hs : n.Segments[k]? = some (n.Segments[k]'(by have := hw.fills.len; omega)) := gq _
   have hf := hw.fills.all k x _ hx hs
   unfold L.zonc.B5
   rw [none_api_Piece_api_Piece (fun j y hy => by
    unfold L.zsma
    rw [known_ok hw.bats (hf.bat y (mg hy))]; rfl)]
   exact .bind' (.pure (Ok.iteB (fun h => by cases h) fun _ => .pure trivial))
  ·intro _ _
   simp only [Sum.elim_inl]
   unfold L.zonc.J1
   refine .bind' (.mk n.Nodes.length rfl (by omega) (.bind' (.mk n.Nodes.length rfl (by omega) (.bind' (.mk n.Segments.length rfl (by omega) ?_)))))
   unfold L.zonc.J2
   refine .bind' (.forI (fun k (st : ST) => ∃ K N S, st = pk n b pr f p K N S ∧ Inv n (100000000 + 50000000000 * (k : Int)) K N S ∧ JJ n b pr f p (PD n (ord.take k)) (DD n p (ord.take k)) K N S) (fun _ => False) ⟨_, _, _, rfl, ?_, ?_⟩ ?_ ?_ fun _ h => h.elim)
   ·refine ⟨by simp, by simp, by simp, fun c hc => ?_, fun i lv s hi hs => ?_⟩
    ·have := List.eq_of_mem_replicate hc
     subst this
     exact ⟨Int.le_refl _, by dsimp only; omega, by dsimp only; omega⟩
    ·rw [List.getElem?_replicate] at hi
     split at hi
     ·cases hi; exact ⟨by simp, by simp⟩
     ·cases hi
   ·refine ⟨fun w hw => ⟨false, ⟨0, 0⟩, by simp [hw], by simp [hw], ⟨?_, fun _ => rfl, (fun h => by cases h), (fun h => by cases h), (fun h => by cases h)⟩⟩, ?_, fun i lv _ hl => ?_⟩
    ·simp [Come, PD, DD]
    ·rintro i s r _ ⟨s', r', _, h⟩
     simp at h
    ·rw [List.getElem?_replicate] at hl
     split at hl
     ·cases hl; rfl
     ·cases hl
   ·rintro k _ hk ⟨K, N, S, rfl, hI, hJ⟩
    dsimp only at hk
    have hg : ord[k]? = some (ord[k]'hk) := gq _
    have hv := hT.rng _ (mg hg)
    obtain ⟨v, hve⟩ := nat_of hv.1
    rw [hve] at hg hv
    have hnd : (v : Int) ∉ ord.take k := fun hm => by
     obtain ⟨j, hj⟩ := List.getElem?_of_mem hm
     rw [List.getElem?_take] at hj
     split at hj
     ·rename_i hjk
      have hjl := (gs hj).1
      have := (List.getElem?_inj hjl hT.nodup).1 (hj.trans hg.symm)
      omega
     ·cases hj
    have hin : ∀ i s r, Fl n p i s r → (L.ztzg s r).2 = (v : Int) → (L.ztzg s r).1 ∈ ord.take k := hT.topo k _ hg
    have hout : ∀ i s r, Fl n p i s r → (L.ztzg s r).1 = (v : Int) → (L.ztzg s r).2 ∉ ord.take k := by
     intro i s r hf ho hm
     obtain ⟨j, hj⟩ := List.getElem?_of_mem hm
     rw [List.getElem?_take] at hj
     split at hj
     ·rename_i hjk
      have := hT.topo j _ hj i s r hf rfl
      rw [ho] at this
      exact hnd ((List.take_subset_take_left ord (by omega)) this)
     ·cases hj
    unfold L.zonc.B4
    refine .bind' (.eq (ix_nat (l := (ord, (0 : Int)).1) hg) (.bind (node_spec (n := n) (b := b) (pr := pr) (f := f) (p := p) (K := K) (N := N) (S := S) hw hp hI (by omega) (by omega) hJ hnd hin hout) ?_))
    rintro ⟨e, l'⟩ ⟨he, K', N', S', hl', hI', hJ'⟩
    dsimp only at he hl'
    subst he hl'
    refine Ok.iteU (fun h => absurd rfl h) fun _ => .pure ⟨K', N', S', rfl, hI'.mono (by omega), ?_⟩
    rw [List.take_add_one, hg]; exact hJ'
   ·rintro _ ⟨K, N, S, rfl, hI, hJ⟩
    simp only [Sum.elim_inl]
    unfold L.zonc.J3
    have hall : ∀ w, 0 ≤ w → w < (n.Nodes.length : Int) → w ∈ ord.take ord.length := fun w h0 h1 => by
     rw [List.take_length]
     have := hfull w.toNat (by omega)
     rwa [show ((w.toNat : Nat) : Int) = w by omega] at this
    have hD : ∀ i s r, Fl n p i s r → DD n p (ord.take ord.length) i := fun i s r hf => by
     obtain ⟨a, c, h1, h2, h3, h4, _⟩ := ends_node hn hf
     exact ⟨s, r, hf, hall _ (by omega) (by omega)⟩
    have hJ2 : JJ n b pr f p (fun _ => True) (fun _ => True) K N S := hJ.congr (fun i q hq => by
     have := (hn.ports i q hq).node
     simp only [iff_true]
     exact ⟨q, hq, hall _ (by omega) (by omega)⟩) fun i s r hf => by simp only [iff_true]; exact hD i s r hf
    refine .pure ⟨rfl, hI.mono (by dsimp only; omega), hJ2.nodes, fun i s r hf => hJ2.segs i s r hf trivial, fun i lv h0 hl => hJ2.segs0 i lv (fun s r hf => ?_) hl⟩
    have := hf.rate
    rw [h0] at this
    exact absurd (Option.some.inj this).symm hf.ne
 obtain ⟨⟨x, e⟩, h, h1, h2⟩ := this
 dsimp only at h1 h2
 subst h1
 exact ⟨x, h, h2⟩
theorem Inv.ent {n : Network} {b : List Batch} {p : Plan} {K : List Bool} {N : List Bounds} {S : List (List Level)} {B : Int} (hn : NetOk n) (hp : FlowOk n p) (h : Inv n B K N S) (hB : 0 ≤ B ∧ B ≤ 1000000000000000) {v : Nat} {bd c : Bounds} (hg : N[v]? = some bd) (he : Ent n p (v : Int) bd c) : Bd (B + 2000000) c := by
 have h1 := hn.sts1; have h3 := hn.nodes
 have hbd := h.nb _ (mg hg)
 rcases he with ⟨j, t, ht, htn, _, rfl⟩ | ⟨_, rfl⟩
 ·have hj := (gs ht).1
  obtain ⟨_, o1, o2⟩ := leaves_eq (b := b) (pr := []) (f := []) (K := K) (N := N) (S := S) hn hp (v : Int)
  exact (raise_eq (hn.sts j t ht) (by omega) (by omega) hB hbd ⟨o1, o2⟩).2
 ·exact hbd.mono (by omega)
theorem sumV_mono {f : List Piece} (h : ∀ p, p ∈ f → 1 ≤ p.Volume) {i j : Nat} (hij : i ≤ j) : sumV (f.take i) ≤ sumV (f.take j) := by
 have := (sumV_le_take (l := f.take j) (fun p hp => h p (List.mem_of_mem_take hp)) i).2
 rwa [List.take_take, Nat.min_eq_left hij] at this
theorem ref14Valid {cap : Int} {f : List Piece} (h : FillOk cap f) (hc : 1 ≤ cap ∧ cap ≤ 1000) : L.zmux f = some true := by
 have hl := h.len; have hs := h.sum
 have : Ok (L.zmux f) fun r => r = true := by
  unfold L.zmux
  refine Ok.iteD (fun h => by omega) fun _ => .bind' (.forL (fun k st => st = sumV (f.take k)) (fun _ => False) (by simp [sumV]) ?_ ?_ fun _ h => h.elim)
  ·rintro k x _ hx rfl
   have hm := mg hx
   have h1 := h.vol x hm; have h2 := h.bat x hm; have h3 := pieces_le h hm
   have h4 := sumV_le_take h.vol (k + 1)
   have h5 := sumV_take hx
   have no : Ok (L.zmux.J3 x (sumV (f.take k)) false) (Sum.elim (fun st : Int => st = sumV (f.take (k + 1))) fun _ : Bool => False) := by
    unfold L.zmux.J3; exact .pure (by simp only [Sum.elim_inl]; rw [wr_id (by omega)]; omega)
   unfold L.zmux.B2
   refine Ok.iteN (fun hh => ?_) fun _ => Ok.iteD (fun hh => by omega) fun _ => Ok.iteD (fun h0 => by omega) fun _ => Ok.iteD (fun h0 => ?_) fun _ => no
   ·simp [L.zcjy] at hh; omega
   ·have hkl := (gs hx).1
    have hj : f[k - 1]? = some (f[k - 1]'(by omega)) := gq _
    have hne := h.next (k - 1) _ x hj (by rw [show k - 1 + 1 = k by omega]; exact hx)
    rw [show wr ((k : Int) - 1) = ((k - 1 : Nat) : Int) by rw [wr_id (by omega)]; omega]
    refine .bind' (.eq (ix_nat hj) ?_)
    dsimp only
    rw [show (x.Batch == f[k - 1].Batch) = false by simpa using fun e => hne e.symm]
    exact no
  ·rintro _ rfl
   simp only [Sum.elim_inl]
   unfold L.zmux.J1
   rw [List.take_of_length_le (Nat.le_refl _)]
   exact .pure (by simp; omega)
 obtain ⟨r, h, rfl⟩ := this
 exact h
theorem ref14Sum {f : List Piece} (h1 : ∀ p, p ∈ f → 1 ≤ p.Volume) (h3 : sumV f ≤ 1000000) : L.zwqi f = some (sumV f) := by
 have : Ok (L.zwqi f) fun r => r = sumV f := by
  unfold L.zwqi
  refine .bind (.forS (fun k st => st = sumV (f.take k)) (by simp [sumV]) ?_ fun st h => h) ?_
  ·rintro k x _ hx rfl
   unfold L.zwqi.B2
   have := sumV_le_take h1 (k + 1)
   rw [sumV_take hx] at this ⊢
   exact .pure (by rw [wr_id (by omega)])
  ·rintro _ rfl
   unfold L.zwqi.J1
   exact .pure (by rw [List.take_of_length_le (Nat.le_refl _)])
 obtain ⟨r, h, rfl⟩ := this
 exact h
theorem names12V {n : Network} (h1 : n.Segments.length ≤ 1000) (h2 : n.Ports.length ≤ 1000) (h3 : n.Stations.length ≤ 1000) :
  Ok (L.zghg n) fun r => r.l = [n.Nodes, n.Segments.map (·.Name), n.Ports.map (·.Name), n.Stations.map (·.Name)] := by
 unfold L.zghg
 refine .bind (maps_ok (g := (·.Name)) (fun _ _ _ => rfl) h1) ?_
 rintro _ rfl
 unfold L.zghg.J1
 refine .bind (maps_ok (g := (·.Name)) (fun _ _ _ => rfl) h2) ?_
 rintro _ rfl
 unfold L.zghg.J2
 refine .bind (maps_ok (g := (·.Name)) (fun _ _ _ => rfl) h3) ?_
 rintro _ rfl
 unfold L.zghg.J3
 exact .pure rfl
theorem twice12V {l : List ByteArray} (hl : l.length ≤ 1000) (hd : ∀ (i j : Nat) (x y : ByteArray), l[i]? = some x → l[j]? = some y → sEq x y = true → i = j) : L.zaag l = some false := by
 have : Ok (L.zaag l) fun r => r = false := by
  unfold L.zaag
  refine .bind' (.forL (fun _ _ => True) (fun _ => False) trivial ?_ (fun _ _ => .pure rfl) fun _ h => h.elim)
  intro k x _ hx _
  have hkl := (gs hx).1
  unfold L.zaag.B2
  refine .bind (Q := fun d : Bool ⊕ Unit => d = .inr ()) ?_ ?_
  ·refine .loop (fun st : Int => 0 ≤ st ∧ st ≤ (k : Int)) (fun st => k - st.toNat) ⟨by omega, by omega⟩ (by omega) ?_
   rintro st ⟨h0, h3⟩
   unfold L.zaag.B4
   refine Ok.iteD (fun hlt => .bind' (.ix' h0 (by omega) fun j y hj hy => Ok.iteB (fun he => ?_) fun _ => .pure ?_)) fun _ => .pure rfl
   ·have := hd k j x y hx hy he
    omega
   ·rw [wr_id (by omega)]
    exact ⟨⟨by omega, by omega⟩, by omega⟩
  ·rintro _ rfl
   exact .pure trivial
 obtain ⟨r, h, rfl⟩ := this
 exact h
theorem proper12V {nodes k : Nat} {s : Segment} (h : SegOk nodes k s) : L.zimi s = some true := by
 have : Ok (L.zimi s) fun r => r = true := by
  have hp := h.points
  have h1 := h.ends; have h2 := h.cap; have h3 := h.resist; have h4 := h.wave; have h5 := hp.len
  have e0 : s.Points[0]? = some s.Points[0] := gq (by omega)
  have el : s.Points[s.Points.length - 1]? = some s.Points[s.Points.length - 1] := gq (by omega)
  have q0 := hp.first _ e0; have ql := hp.last _ el
  unfold L.zimi
  refine Ok.iteE (fun h => by omega) fun _ => Ok.iteN (fun hb => by simp [L.zmae] at hb; omega) fun _ => Ok.iteN (fun hb => by simp [L.zmae] at hb; omega) fun _ => Ok.iteN (fun hb => by simp [L.zmae] at hb; omega) fun _ => ?_
  refine .bind' (.ix 0 rfl (by omega) (Ok.iteU (fun h => absurd q0 h) fun _ => ?_))
  rw [wr_id (by omega)]
  refine .bind' (.ix (s.Points.length - 1) (by omega) (by omega) ?_)
  dsimp only
  rw [ql]
  unfold L.zimi.J1
  refine Ok.iteB (fun h => by simp at h) fun _ => .bind' (.forL (fun _ _ => True) (fun _ => False) trivial ?_ (fun _ _ => .pure rfl) fun _ h => h.elim)
  intro i p _ hi _
  have hm := mg hi
  have g1 := hp.height p hm; have g2 := hp.limit p hm
  have no : Ok (L.zimi.J4 (!(L.zmae p.Limit 0 100000000))) (Sum.elim (fun _ : Unit => True) fun _ : Bool => False) := by
   unfold L.zimi.J4
   refine Ok.iteN (fun hb => by simp [L.zmae] at hb; omega) fun _ => .pure trivial
  unfold L.zimi.B3
  refine Ok.iteD (fun h0 => ?_) fun h0 => Ok.iteN (fun hb => by simp [L.zmae] at hb; omega) fun _ => no
  rw [wr_id (by have := (gs hi).1; omega)]
  obtain ⟨j, rfl⟩ : ∃ j, i = j + 1 := ⟨i - 1, by omega⟩
  have hjl : j < s.Points.length := by have := (gs hi).1; omega
  have hj : s.Points[j]? = some s.Points[j] := gq hjl
  have hup := hp.up j _ p hj hi
  refine .bind' (.ix j (by omega) hjl (Ok.iteD (fun h => by dsimp only at h; omega) fun _ => Ok.iteN (fun hb => by simp [L.zmae] at hb; omega) fun _ => no))
 obtain ⟨r, h, rfl⟩ := this
 exact h
theorem check12V {n : Network} (h : NetV n) (h03 : ∀ l, l ∈ [n.Nodes, n.Segments.map (·.Name), n.Ports.map (·.Name), n.Stations.map (·.Name)] → ∀ (k : Nat) x, l[k]? = some x → L.zgmr x = some true) : L.zgcl n = some 0 := by
 have : Ok (L.zgcl n) fun r => r = 0 := by
  have h1 := h.nodes; have h2 := h.segs1; have h3 := h.ports1; have h4 := h.sts1; have h5 := h.vapour; have h6 := h.settle
  have T : ∀ {α β : Type} {l : List α} {f : Nat → α → Unit → Option (Unit ⊕ β)} {K : Unit ⊕ β → Option β} {P : β → Prop}, (∀ k x, l[k]? = some x → f k x () = some (.inl ())) → Ok (K (.inl ())) P → Ok ((forL f 0 l ()).bind K) P := by
   intro α β l f K P hf hK
   refine .bind' (.forL (fun _ _ => True) (fun _ => False) trivial (fun k x st hx _ => ?_) (fun _ _ => hK) fun _ h => h.elim)
   exact ⟨_, hf k x hx, trivial⟩
  unfold L.zgcl
  refine Ok.iteB (fun hb => by simp [L.zmae] at hb; omega) fun _ => T (fun k x hx => ?_) ?_
  ·have := (h.segs k x hx).choose_spec.points.len
   unfold L.zgcl.B24; rw [if_neg (by simp [L.zmae]; omega)]
  simp only [Sum.elim_inl]
  unfold L.zgcl.J1
  refine .bind (names12V (by omega) (by omega) (by omega)) fun r hr => ?_
  have hnm : ∀ (k : Nat) (hk : k < 4), r.l[k]'(by rw [hr]; exact hk) = ([n.Nodes, n.Segments.map (·.Name), n.Ports.map (·.Name), n.Stations.map (·.Name)])[k]'hk := fun k hk => by simp only [hr]
  refine .bind' (.forI (fun _ _ => True) (fun _ => False) trivial ?_ ?_ fun _ h => h.elim)
  ·intro k _ hk _
   have hl := h03 _ (List.getElem_mem (l := [n.Nodes, n.Segments.map (·.Name), n.Ports.map (·.Name), n.Stations.map (·.Name)]) (n := k) hk)
   unfold L.zgcl.B21
   refine .bind' (.ix k rfl (by rw [hr]; exact hk) ?_)
   dsimp only
   rw [hnm k hk]
   refine .bind' (.forL (fun _ _ => True) (fun _ => False) trivial ?_ (fun _ _ => .pure trivial) fun _ h => h.elim)
   intro j x _ hx _
   unfold L.zgcl.B23
   rw [hl j x hx]
   exact .bind' (.pure (Ok.iteN (fun h => by cases h) fun _ => .pure trivial))
  intro _ _
  simp only [Sum.elim_inl]
  unfold L.zgcl.J2
  refine .bind' (.forI (fun _ _ => True) (fun _ => False) trivial ?_ ?_ fun _ h => h.elim)
  ·intro k _ hk _
   have hl := h.named _ (List.getElem_mem (l := [n.Nodes, n.Segments.map (·.Name), n.Ports.map (·.Name), n.Stations.map (·.Name)]) (n := k) hk)
   unfold L.zgcl.B20
   refine .bind' (.ix k rfl (by rw [hr]; exact hk) ?_)
   dsimp only
   rw [hnm k hk, twice12V (by have := hl.1; omega) hl.2.2]
   exact .bind' (.pure (Ok.iteB (fun h => by cases h) fun _ => .pure trivial))
  intro _ _
  simp only [Sum.elim_inl]
  unfold L.zgcl.J3
  refine .bind' (.forL (fun _ _ => True) (fun _ => False) trivial ?_ ?_ fun _ h => h.elim)
  ·intro k x _ hx _
   have hkl := (gs hx).1
   unfold L.zgcl.B17
   refine .bind (Q := fun d : Int ⊕ Unit => d = .inr ()) ?_ ?_
   ·refine .loop (fun st : Int => 0 ≤ st ∧ st ≤ (k : Int)) (fun st => k - st.toNat) ⟨by omega, by omega⟩ (by omega) ?_
    rintro st ⟨h0, h1⟩
    unfold L.zgcl.B19
    refine Ok.iteD (fun hlt => .bind' (.ix' h0 (by omega) fun j y hj hy => Ok.iteE (fun he => ?_) fun _ => .pure ?_)) fun _ => .pure rfl
    ·have := h.stsUp j k y x (by omega) hy hx
     dsimp only at he; omega
    ·rw [wr_id (by omega)]
     exact ⟨⟨by omega, by omega⟩, by omega⟩
   ·rintro _ rfl
    exact .pure trivial
  intro _ _
  simp only [Sum.elim_inl]
  unfold L.zgcl.J4
  refine T (fun k x hx => ?_) ?_
  ·have := (h.segs k x hx).choose_spec.ends
   unfold L.zgcl.B16; rw [wr_id (by omega), if_neg (by simp [L.zmae]; omega)]
  simp only [Sum.elim_inl]
  unfold L.zgcl.J5
  refine T (fun k x hx => ?_) ?_
  ·have := (h.ports k x hx).node
   unfold L.zgcl.B15; rw [wr_id (by omega), if_neg (by simp [L.zmae]; omega)]
  simp only [Sum.elim_inl]
  unfold L.zgcl.J6
  refine T (fun k x hx => ?_) ?_
  ·have := (h.sts k x hx).node
   unfold L.zgcl.B14; rw [wr_id (by omega), if_neg (by simp [L.zmae]; omega)]
  simp only [Sum.elim_inl]
  unfold L.zgcl.J7
  refine T (fun k x hx => ?_) ?_
  ·unfold L.zgcl.B13; rw [proper12V (h.segs k x hx).choose_spec]; rfl
  simp only [Sum.elim_inl]
  unfold L.zgcl.J8
  refine T (fun k x hx => ?_) ?_
  ·have := (h.ports k x hx).pressure
   unfold L.zgcl.B12; rw [if_neg (by simp [L.zmae]; omega)]
  simp only [Sum.elim_inl]
  unfold L.zgcl.J9
  refine T (fun k x hx => ?_) ?_
  ·have a1 := (h.sts k x hx).head; have a2 := (h.sts k x hx).fall; have a3 := (h.sts k x hx).suction
   unfold L.zgcl.B11; rw [if_neg (by simp [L.zmae]; omega)]
  simp only [Sum.elim_inl]
  unfold L.zgcl.J10
  exact Ok.iteB (fun hb => by simp [L.zmae] at hb; omega) fun _ => .pure rfl
 obtain ⟨r, h, rfl⟩ := this
 exact h
theorem nameOk03V {c : UInt8} (hc : c = 103 ∨ c = 112) {k : Nat} (hk : k < 26) : L.zgmr (nm c k) = some true := by
 rcases hc with rfl | rfl <;>
  rcases lt26 hk with rfl | rfl | rfl | rfl | rfl | rfl | rfl | rfl | rfl | rfl | rfl | rfl | rfl | rfl | rfl | rfl | rfl | rfl | rfl | rfl | rfl | rfl | rfl | rfl | rfl | rfl <;> kernel_rfl
theorem ref19Valid {s : Segment} (h : SegG s) : L.zaic s = some true := by
 have := check12V (segNetV h) (by
  unfold segNet
  intro l hl k x hx
  simp only [List.map_cons, List.map_nil, List.mem_cons, List.not_mem_nil, or_false] at hl
  rcases hl with rfl | rfl | rfl | rfl
  ·match k, hx with
   | 0, hx => simp at hx; subst hx; exact (by kernel_rfl : L.zgmr _ = some true)
   | 1, hx => simp at hx; subst hx; exact (by kernel_rfl : L.zgmr _ = some true)
   | k + 2, hx => simp at hx
  ·match k, hx with
   | 0, hx => simp at hx; subst hx; obtain ⟨j, hj, hn⟩ := h.name; rw [hn]; exact nameOk03V (.inl rfl) hj
   | k + 1, hx => simp at hx
  ·simp at hx
  ·simp at hx)
 unfold segNet at this
 unfold L.zaic
 rw [this]; rfl
theorem ref19Fits {s : Segment} {f : List Piece} (hs : SegG s) (hf : FillOk s.Capacity f) : L.zjiy s f = some 0 := by
 have hc := hs.cap
 unfold L.zjiy L.zjiy.J1
 rw [ref19Valid hs, ref14Valid hf hc, ref14Sum hf.vol (by have := hf.sum; omega)]
 simp [hf.sum]
theorem ref04Check {l : List Product} (h : ProdsOk l) : L.zjqp l = some 0 := by
 have hl := h.len
 have : Ok (L.zjqp l) fun r => r = 0 := by
  unfold L.zjqp
  refine Ok.iteD (fun h => by omega) fun _ => .bind' (.forL (fun _ _ => True) (fun _ => False) trivial ?_ ?_ fun _ h => h.elim)
  ·intro k x _ hx _
   have hk := (gs hx).1
   have hp := h.all k x hx
   have d1 := hp.density; have d2 := hp.expansion; have d3 := hp.compress; have d4 := hp.friction
   unfold L.zjqp.B4
   refine .bind (Q := fun r => r = true) ?_ ?_
   ·unfold L.ztca L.ztca.J1
    rw [hp.name, nameOk03V (.inr rfl) (by omega)]
    exact .bind' (.pure (Ok.iteB (fun _ => Ok.iteD (fun _ => Ok.iteD (fun _ => Ok.iteD (fun _ => Ok.iteD (fun _ => Ok.iteD (fun _ => Ok.iteD (fun _ => Ok.iteD (fun _ => .pure (by simp; omega)) fun h => by omega) fun h => by omega) fun h => by omega) fun h => by omega) fun h => by omega) fun h => by omega) fun h => by omega) fun h => by cases h))
   ·rintro _ rfl
    exact Ok.iteN (fun h => by cases h) fun _ => .pure trivial
  ·intro _ _
   simp only [Sum.elim_inl]
   unfold L.zjqp.J1
   refine .bind' (.forL (fun _ _ => True) (fun _ => False) trivial ?_ (fun _ _ => .pure rfl) fun _ h => h.elim)
   intro k x _ hx _
   have hk := (gs hx).1
   have hp := h.all k x hx
   unfold L.zjqp.B3
   refine .bind (Q := fun r => r = (k : Int)) ?_ ?_
   ·unfold L.zdld
    refine .bind (Q := Sum.elim (fun _ : Unit => False) fun r : Int => r = (k : Int)) (.forL (fun j _ => j ≤ k) (fun r => r = (k : Int)) (Nat.zero_le _) ?_ (fun _ hh => by omega) fun _ h => h) ?_
    ·intro j y _ hy hj
     have hjl := (gs hy).1
     unfold L.zdld.B2
     refine Ok.iteB (fun he => .pure ?_) fun he => .pure ?_
     ·rw [(h.all j y hy).name, hp.name] at he
      have := nm_inj (by omega) (by omega) he
      simp only [Sum.elim_inr]; omega
     ·have : j ≠ k := by
       rintro rfl
       rw [hx] at hy; cases hy
       rw [sEq_refl] at he; cases he
      simp only [Sum.elim_inl]; omega
    ·rintro (_ | r) hr
     ·exact hr.elim
     ·exact .pure hr
   ·rintro _ rfl
    exact Ok.iteU (fun h => absurd rfl h) fun _ => .pure trivial
 obtain ⟨r, h, rfl⟩ := this
 exact h
theorem ref19Known {f : List Piece} {b : List Batch} {p : List Product} {cap : Int} (hf : FillOk cap f) (hb : BatsOk p.length b) : L.zkip f b p = some true := by
 have : Ok (L.zkip f b p) fun r => r = true := by
  have hbl := hb.len
  unfold L.zkip
  refine .bind' (.forL (fun _ _ => True) (fun _ => False) trivial ?_ (fun _ _ => .pure rfl) fun _ h => h.elim)
  intro k x _ hx _
  have hbx := hf.bat x (mg hx)
  have no : Ok (L.zkip.J3 false) (Sum.elim (fun _ : Unit => True) fun _ : Bool => False) := by unfold L.zkip.J3; exact .pure trivial
  unfold L.zkip.B2
  refine Ok.iteD (fun h => by omega) fun _ => .bind' (.ix' hbx.1 (by omega) fun j y hj hy => ?_)
  have hy2 := hb.all y (mg hy)
  refine Ok.iteD (fun h => by dsimp only at h; omega) fun _ => ?_
  dsimp only
  rw [show decide (y.Product ≥ (p.length : Int)) = false by simp; omega]
  exact no
 obtain ⟨r, h, rfl⟩ := this
 exact h
theorem up_uniq : ∀ {l m : List Int}, l.Pairwise (· < ·) → m.Pairwise (· < ·) → (∀ x, x ∈ l ↔ x ∈ m) → l = m
 | [], [], _, _, _ => rfl
 | [], b :: m, _, _, h => by have := (h b).2 (by simp); simp at this
 | a :: l, [], _, _, h => by have := (h a).1 (by simp); simp at this
 | a :: l, b :: m, hl, hm, h => by
  have la := (List.pairwise_cons.1 hl).1
  have mb := (List.pairwise_cons.1 hm).1
  have hab : a = b := by
   have h1 := (h a).1 (by simp)
   have h2 := (h b).2 (by simp)
   rcases List.mem_cons.1 h1 with h1 | h1
   ·exact h1
   ·rcases List.mem_cons.1 h2 with h2 | h2
    ·exact h2.symm
    ·have := mb a h1; have := la b h2; omega
  subst hab
  rw [up_uniq (List.pairwise_cons.1 hl).2 (List.pairwise_cons.1 hm).2 fun x => ?_]
  constructor
  ·intro hx
   have := la x hx
   rcases List.mem_cons.1 ((h x).1 (by simp [hx])) with e | e
   ·omega
   ·exact e
  ·intro hx
   have := mb x hx
   rcases List.mem_cons.1 ((h x).2 (by simp [hx])) with e | e
   ·omega
   ·exact e
end Go.Proofs.YtehbcbedipkifaaGreatDoor
