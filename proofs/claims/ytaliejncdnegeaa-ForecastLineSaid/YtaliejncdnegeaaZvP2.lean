/- Plain proofs. No condition. -/
import Derived.Test.YtaliejncdnegeaaZvP1
import Derived.Test.YtaliejncdnegeaaZvD
import Derived.Test.YtaliejncdnegeaaZvB1
import Derived.ProofKit
import Derived.SizedLaws
import Derived.Carry
set_option maxRecDepth 100000
namespace Go.Proofs.Ytaliejncdnegeaa
set_option linter.unusedVariables false
set_option linter.unusedSimpArgs false
open Go.Aw
theorem litres_eq {f : List Piece} (hf : ∀ p, p ∈ f → 0 ≤ p.Volume) (hl : vol f ≤ 1000000000) : L.zeou f = some (vol f) := by
 unfold L.zeou L.zmsr
 rw [sum_loop (B := L.zmsr.B2 _) (fun _ _ _ => rfl) hf hl]; rfl
def ahead (b : Int) (L : List Int) : Int × Bool := if b ∈ L then ((L.idxOf b : Int), true) else (0, false)
theorem idx_l {b : Int} {A B : List Int} (h : b ∈ A) : (A ++ B).idxOf b = A.idxOf b := by rw [List.idxOf_append, if_pos h]
theorem idx_r {b : Int} {A B : List Int} (h : b ∉ A) : (A ++ B).idxOf b = A.length + B.idxOf b := by rw [List.idxOf_append, if_neg h, Nat.add_comm]
theorem idx_here {b : Int} {A B : List Int} (h : b ∉ A) (hB : B.head? = some b) : (A ++ B).idxOf b = A.length := by
 cases B with
 | nil => simp at hB
 | cons x B =>
  simp at hB; subst hB
  rw [idx_r h]; simp
theorem front_back {f : List Piece} (hv : Vd f) (b : Int) : L.zcpc f b true = some (ahead b (lit f)) := by
 have hvol := hv.vol
 have : Ok (L.zcpc f b true) fun r => r = ahead b (lit f) := by
  unfold L.zcpc
  rw [if_pos rfl]
  refine .bind' (.forL (fun k _ => b ∉ lit (f.take k)) (fun r => r = ahead b (lit f)) (by simp [lit_nil]) ?_ ?_ fun r h => .pure h)
  ·intro k x _ hx hn
   have hk := (gs hx).1
   have hp := hv.piece (mg hx)
   unfold L.zcpc.B5
   refine Ok.iteE (fun hb => ?_) fun hb => .pure ?_
   ·refine .bind' (.sub 0 k rfl rfl (by omega) (by omega) ?_)
    rw [List.drop_zero, Nat.sub_zero]
    have h4 : ∀ p, p ∈ f.take k → 0 ≤ p.Volume := fun p hp => hv.nn p (List.mem_of_mem_take hp)
    have h1 := lit_len h4
    have h2 : vol f = vol (f.take k) + vol (f.drop k) := by rw [← vol_app, List.take_append_drop]
    have h3 := vol_pos (f := f.drop k) fun p hp => hv.nn p (List.mem_of_mem_drop hp)
    refine .bind' (.eq (litres_eq h4 (by omega)) (.pure ?_))
    show (vol (f.take k), true) = ahead b (lit f)
    have e : lit f = lit (f.take k) ++ lit (f.drop k) := by rw [← lit_app, List.take_append_drop]
    have e2 : (lit (f.drop k)).head? = some b := by
     rw [List.drop_eq_getElem_cons hk, (gs hx).2, lit_cons]
     obtain ⟨v, hv'⟩ : ∃ v, x.Volume.toNat = v + 1 := ⟨x.Volume.toNat - 1, by omega⟩
     rw [hv', List.replicate_succ, hb]; rfl
    unfold ahead
    have hm : b ∈ lit f := by rw [e]; exact List.mem_append.2 (.inr (List.mem_of_head? e2))
    rw [if_pos hm, e, idx_here hn e2, h1]
   ·show b ∉ lit (f.take (k + 1))
    rw [List.take_add_one, hx]
    simp [lit_app, lit_one, hn]
    intro _ h; exact hb h.symm
  ·intro _ hn
   rw [List.take_length] at hn
   unfold ahead
   rw [if_neg hn]; exact .pure rfl
 obtain ⟨r, h1, rfl⟩ := this
 exact h1
theorem front_fore {f : List Piece} (hv : Vd f) (b : Int) : L.zcpc f b false = some (ahead b (lit f).reverse) := by
 have hvol := hv.vol; have hlen := hv.len
 have : Ok (L.zcpc f b false) fun r => r = ahead b (lit f).reverse := by
  unfold L.zcpc
  rw [if_neg (by simp)]
  unfold L.zcpc.J1
  rw [wr_id (by omega)]
  refine .bind (Q := Sum.elim (fun r : Int × Bool => r = ahead b (lit f).reverse) fun _ : Unit => b ∉ lit f) (.loop (fun st => ∃ k : Nat, k ≤ f.length ∧ st = (k : Int) - 1 ∧ b ∉ lit (f.drop k)) (fun st => (st + 1).toNat) ⟨f.length, by omega, rfl, by simp [lit_nil]⟩ (by omega) ?_) ?_
  ·rintro _ ⟨k, hk, rfl, hn⟩
   unfold L.zcpc.B3
   refine Ok.iteD (fun h => ?_) fun h => .pure ?_
   ·obtain ⟨j, rfl⟩ : ∃ j, k = j + 1 := ⟨k - 1, by omega⟩
    rw [show ((j + 1 : Nat) : Int) - 1 = (j : Int) by omega]
    obtain ⟨x, hx⟩ := get_of (l := f) (k := j) (by omega)
    have hj := (gs hx).1
    have hp := hv.piece (mg hx)
    have ed : f.drop j = x :: f.drop (j + 1) := by rw [List.drop_eq_getElem_cons hj, (gs hx).2]
    refine .bind' (.eq (ix_nat hx) (Ok.iteE (fun hb => ?_) fun hb => .pure ⟨⟨j, by omega, ?_, ?_⟩, ?_⟩))
    ·dsimp only at hb
     rw [wr_id (by omega)]
     refine .bind' (.sub (j + 1) f.length (by omega) rfl (by omega) (by omega) ?_)
     have e0 : (f.drop (j + 1)).take (f.length - (j + 1)) = f.drop (j + 1) := List.take_of_length_le (by simp)
     rw [e0]
     have h4 : ∀ p, p ∈ f.drop (j + 1) → 0 ≤ p.Volume := fun p hp => hv.nn p (List.mem_of_mem_drop hp)
     have h1 := lit_len h4
     have h2 : vol f = vol (f.take (j + 1)) + vol (f.drop (j + 1)) := by rw [← vol_app, List.take_append_drop]
     have h3 := vol_pos (f := f.take (j + 1)) fun p hp => hv.nn p (List.mem_of_mem_take hp)
     refine .bind' (.eq (litres_eq h4 (by omega)) (.pure ?_))
     show (vol (f.drop (j + 1)), true) = ahead b (lit f).reverse
     have e : (lit f).reverse = (lit (f.drop (j + 1))).reverse ++ (lit (f.take (j + 1))).reverse := by rw [← List.reverse_append, ← lit_app, List.take_append_drop]
     have e2 : ((lit (f.take (j + 1))).reverse).head? = some b := by
      rw [List.take_add_one, hx, lit_app, List.reverse_append, Option.toList_some, lit_one, List.reverse_replicate]
      obtain ⟨v, hv'⟩ : ∃ v, x.Volume.toNat = v + 1 := ⟨x.Volume.toNat - 1, by omega⟩
      rw [hv', List.replicate_succ, hb]; rfl
     unfold ahead
     have hm : b ∈ (lit f).reverse := by rw [e]; exact List.mem_append.2 (.inr (List.mem_of_head? e2))
     rw [if_pos hm, e, idx_here (by simpa using hn) e2, List.length_reverse, h1]
    ·rw [wr_id (by omega)]
    ·rw [ed, lit_cons]
     simp [hn]
     intro _ h; exact hb h.symm
    ·rw [wr_id (by omega)]; omega
   ·obtain rfl : k = 0 := by omega
    rw [List.drop_zero] at hn; exact hn
  ·rintro (r | _) h
   ·exact .pure h
   ·unfold ahead
    rw [if_neg (by simpa using h)]; exact .pure rfl
 obtain ⟨r, h1, rfl⟩ := this
 exact h1
theorem ticks_eq {d r : Int} (hd : 0 ≤ d ∧ d ≤ 1000000) (hr : 1 ≤ r ∧ r ≤ 1000) : L.zdws d r = some (d / r, 0) := by
 unfold L.zdws
 rw [if_neg (by simp; omega)]
 have h1 := Int.ediv_nonneg hd.1 (by omega : 0 ≤ r)
 have h2 := Int.ediv_le_self r hd.1
 unfold quo?
 rw [if_pos (by omega), Option.bind_some, Int.tdiv_eq_ediv_of_nonneg hd.1, wr_id (by omega)]
section
variable {n : Network} {m : Nat} {fs : List (List Piece)} {F : Nat → List Int} {way : List Hop}
structure Hops (n : Network) (m : Nat) (way : List Hop) : Prop where
 len : way.length = m
 hop : ∀ (i : Nat) (s : Segment), n.Segments[i]? = some s → way[i]? = some (⟨(i : Int), decide (s.From > s.To)⟩ : Hop)
def wq (n : Network) (F : Nat → List Int) (j : Nat) : List Int := match n.Segments[j]? with | some s => if s.From > s.To then F j else (F j).reverse | none => []
theorem leads_ok (hc : Chain n m) (hw : Hops n m way) : L.zacw n way = some true := by
 have hns := hc.ns; have hm := hc.m1
 have : Ok (L.zacw n way) fun r => r = true := by
  unfold L.zacw
  refine .bind' (.forL (fun k st => (k = 0 ∧ st = -1) ∨ st = (k : Int)) (fun _ => False) (.inl ⟨rfl, rfl⟩) ?_ ?_ fun _ h => h.elim)
  ·intro k x st hx hst
   have hk := (gs hx).1
   rw [hw.len] at hk
   obtain ⟨s, hs⟩ := get_of (l := n.Segments) (k := k) (by omega)
   have e := hw.hop k s hs
   rw [hx] at e
   cases e
   have he := hc.ends k s hs
   have fin : Ok (L.zacw.J3 st ((k : Int), (k : Int) + 1)) (Sum.elim (fun st => (k + 1 = 0 ∧ st = -1) ∨ st = ((k + 1 : Nat) : Int)) fun _ : Bool => False) := by
    unfold L.zacw.J3
    rw [if_neg (by simp; omega)]
    exact .pure (.inr (by dsimp only; omega))
   unfold L.zacw.B2
   rw [if_neg (by simp; omega)]
   refine .bind' (.eq (ix_nat hs) ?_)
   dsimp only
   refine Ok.iteD (fun hb => ?_) fun hb => ?_
   ·rw [show s.To = (k : Int) by omega, show s.From = (k : Int) + 1 by omega]; exact fin
   ·rw [show s.From = (k : Int) by omega, show s.To = (k : Int) + 1 by omega]; exact fin
  ·intro _ _
   unfold L.zacw.J1
   exact .pure (by rw [hw.len]; simp; omega)
 obtain ⟨r, h1, rfl⟩ := this
 exact h1
theorem wq_of {j : Nat} {s : Segment} (hs : n.Segments[j]? = some s) : wq n F j = if s.From > s.To then F j else (F j).reverse := by simp only [wq, hs]
theorem front_ok (hf : Fil n fs F) {j : Nat} {s : Segment} (hs : n.Segments[j]? = some s) (b : Int) : L.zcpc (rle (F j)) b (decide (s.From > s.To)) = some (ahead b (wq n F j)) := by
 have hv := hf.vd j (gs hs).1
 rw [wq_of hs]
 by_cases h : s.From > s.To
 ·rw [if_pos h, show decide (s.From > s.To) = true by simp [h], front_back hv, lit_rle]
 ·rw [if_neg h, show decide (s.From > s.To) = false by simp [h], front_fore hv, lit_rle]
theorem cat_wq_len (hc : Chain n m) (hf : Fil n fs F) : ∀ k, k ≤ m → (cat (wq n F) k).length ≤ 1000 * k
 | 0, _ => by simp [cat]
 | k + 1, h => by
  obtain ⟨s, hs⟩ := get_of (l := n.Segments) (k := k) (by have := hc.ns; omega)
  have h1 := hf.cap k s hs; have h2 := (hc.net.segs k s hs).cap
  have h3 := cat_wq_len hc hf k (by omega)
  simp only [cat]
  rw [List.length_append, wq_of hs]
  split
  ·omega
  ·rw [List.length_reverse]; omega
theorem dist_ok (hc : Chain n m) (hf : Fil n fs F) (hw : Hops n m way) (b : Int) : L.zeyd n fs way b = some ((ahead b (cat (wq n F) m)).1, (ahead b (cat (wq n F) m)).2, 0) := by
 have hns := hc.ns; have hm := hc.m1
 have hlen := cat_wq_len hc hf m (Nat.le_refl _)
 have : Ok (L.zeyd n fs way b) fun r => r = ((ahead b (cat (wq n F) m)).1, (ahead b (cat (wq n F) m)).2, 0) := by
  unfold L.zeyd
  refine .bind' (.eq hc.net.check ?_)
  rw [if_neg (by simp)]
  refine .bind' (.eq (check_ok hc.net hf) ?_)
  rw [if_neg (by simp)]
  refine .bind' (.eq (leads_ok hc hw) ?_)
  rw [if_neg (by simp), hw.len, wr_id (by omega)]
  refine .bind (Q := Sum.elim (fun r : Int × Bool × Int => r = ((ahead b (cat (wq n F) m)).1, (ahead b (cat (wq n F) m)).2, 0)) fun _ : Unit => b ∉ cat (wq n F) m)
   (.loop (fun st => ∃ (k : Nat) (A : List Int), k ≤ m ∧ st.2 = (k : Int) - 1 ∧ cat (wq n F) m = A ++ cat (wq n F) k ∧ st.1 = (A.length : Int) ∧ b ∉ A) (fun st => (st.2 + 1).toNat) ⟨m, [], by omega, rfl, rfl, rfl, by simp⟩ (by dsimp only; omega) ?_) ?_
  ·rintro ⟨_, _⟩ ⟨k, A, hk, rfl, hA, rfl, hb⟩
   unfold L.zeyd.B2
   refine Ok.iteD (fun h => ?_) fun h => .pure ?_
   ·dsimp only at h ⊢
    obtain ⟨j, rfl⟩ : ∃ j, k = j + 1 := ⟨k - 1, by omega⟩
    rw [show ((j + 1 : Nat) : Int) - 1 = (j : Int) by omega]
    obtain ⟨s, hs⟩ := get_of (l := n.Segments) (k := j) (by omega)
    have hq : (wq n F j).length = (F j).length := by rw [wq_of hs]; split <;> simp
    have hcap := hf.cap j s hs; have hcp := (hc.net.segs j s hs).cap
    have hAl : A.length ≤ 1000 * m := by have := congrArg List.length hA; rw [List.length_append] at this; omega
    simp only [cat] at hA
    rw [← List.append_assoc] at hA
    refine .bind' (.eq (ix_nat (hw.hop j s hs)) (.bind' (.eq (ix_nat (hf.rp.get j (by omega))) (.bind' (.eq (front_ok hf hs b) ?_)))))
    dsimp only
    by_cases hm2 : b ∈ wq n F j
    ·have ea : ahead b (wq n F j) = (((wq n F j).idxOf b : Int), true) := if_pos hm2
     have hmt : b ∈ cat (wq n F) m := by rw [hA]; simp [hm2]
     have et : ahead b (cat (wq n F) m) = (((cat (wq n F) m).idxOf b : Int), true) := if_pos hmt
     have hi := List.idxOf_lt_length_of_mem hm2
     rw [ea, if_pos rfl, et]
     refine .pure ?_
     show (wr ((A.length : Int) + ((wq n F j).idxOf b : Int)), true, (0 : Int)) = _
     rw [wr_id (by omega), hA, idx_l (by simp [hm2]), idx_r hb]
     simp
    ·have ea : ahead b (wq n F j) = (0, false) := if_neg hm2
     rw [ea, if_neg (by simp)]
     refine .bind' (.eq (ix_nat hs) (.pure ⟨⟨j, A ++ wq n F j, by omega, ?_, hA, ?_, by simp [hb, hm2]⟩, ?_⟩))
     ·dsimp only; rw [wr_id (by omega)]
     ·dsimp only; rw [wr_id (by omega), List.length_append]; omega
     ·dsimp only; rw [wr_id (by omega)]; omega
   ·dsimp only at h
    obtain rfl : k = 0 := by omega
    rw [hA]; simpa [cat] using hb
  ·rintro (r | _) h
   ·exact .pure h
   ·have ea : ahead b (cat (wq n F) m) = (0, false) := if_neg h
    rw [ea]; exact .pure rfl
 obtain ⟨r, h1, rfl⟩ := this
 exact h1
theorem que_wq (hc : Chain n m) {a : Int} {p : Plan} (hp : Wpl n a p) (ha : 1 ≤ a) : ∀ j, j < m → que p (fun j => j) F j = wq n F j := fun j hj => by
 obtain ⟨s, hs⟩ := get_of (l := n.Segments) (k := j) (by have := hc.ns; omega)
 obtain ⟨x, hx⟩ := get_of (l := p.Rates) (k := j) (by have := hp.rl; have := hc.ns; omega)
 have h1 := hp.rate j s x hs hx
 have h2 := hc.ends j s hs
 rw [wq_of hs]
 unfold que qu
 rw [List.getD_eq_getElem?_getD, hx]
 dsimp only [Option.getD]
 by_cases h : s.From > s.To
 ·rw [if_neg (by omega)] at h1
  rw [if_pos h, if_pos (by omega)]
 ·rw [if_pos (by omega)] at h1
  rw [if_neg h, if_neg (by omega)]
theorem arrive_ok (hc : Chain n m) {a : Int} {p : Plan} (hp : Wpl n a p) (ha : 1 ≤ a) {g : List Int} (hL : Ln n p g) (hf : Fil n fs F) {T : List Int} (hT : T = cat (wq n F) m) {N : Nat} (hN : N ≤ 400) (hb : (rle T).length ≤ 199) (b : Int) :
  Ok (L.zlie n fs p g 1 b (N : Int)) fun r => ∃ A Z, A ++ Z = T ++ List.replicate (N * a.toNat) (g.getD 0 0) ∧ A.length = N * a.toNat ∧ r.2.2 = 0 ∧ r.2.1 = (ahead b A).2 ∧ (r.2.1 = true → r.1 = (ahead b A).1 / a) := by
 have hns := hc.ns; have hm := hc.m1; have hnp := hc.np
 have hway := hp.way hc ha
 unfold L.zlie L.zpyk
 refine .bind' (.bind' (.eq hc.net.check ?_))
 rw [if_neg (by simp)]
 refine .bind' (.eq (check_ok hc.net hf) ?_)
 rw [if_neg (by simp), if_neg (by simp; omega), if_neg (by simp; omega)]
 refine .pure ?_
 rw [if_neg (by simp)]
 refine .bind' (.chk (by omega) ?_)
 rw [show ((N : Int).toNat) = N by omega]
 refine .bind' (.forI (fun k st => ∃ F' A, Fil n st.1 F' ∧ A ++ cat (wq n F') m = T ++ List.replicate (k * a.toNat) (g.getD 0 0) ∧ A.length = k * a.toNat ∧ st.2.2 = (ahead b A).2 ∧ (st.2.2 = true → st.2.1 = (ahead b A).1 / a)) (fun _ => False)
  ⟨F, [], hf, by simp [hT], by simp, by simp [ahead], by simp⟩ ?_ ?_ fun _ h => h.elim)
 ·rintro k ⟨now, first, ok⟩ hk ⟨F', A, h1, h2, h3, h4, h5⟩
  dsimp only at h1 h4 h5
  have ek : (k + 1) * a.toNat = k * a.toNat + a.toNat := by rw [Nat.add_mul, Nat.one_mul]
  have eq' : cat (que p (fun j => j) F') m = cat (wq n F') m := cat_congr (que_wq hc hp ha)
  have hbd : (rle (cat (que p (fun j => j) F') m ++ List.replicate a.toNat (g.getD 0 0))).length ≤ 200 := by
   rw [eq']
   have e1 := rle_suf A (cat (wq n F') m ++ List.replicate a.toNat (g.getD 0 0))
   rw [← List.append_assoc, h2, List.append_assoc, List.replicate_append_replicate] at e1
   have e2 := rle_add T (List.replicate (k * a.toNat + a.toNat) (g.getD 0 0))
   have e3 := rle_replicate (k * a.toNat + a.toNat) (g.getD 0 0)
   omega
  obtain ⟨⟨f2, o2, e2⟩, ht, he, F2, O, hf2, ho, hc2, hl2⟩ := way_go hL hway h1 hbd
  dsimp only at he hf2 ho
  subst he
  rw [eq', cat_congr (que_wq hc hp ha)] at hc2
  unfold L.zlie.B2
  refine .bind' (.eq ht ?_)
  rw [if_neg (by simp)]
  refine .bind' (.eq (ix_nat (k := 1) (ho.get 1 (by omega))) ?_)
  dsimp only
  refine .bind (Q := fun r : Int × Bool => r = if ok = true then (first, true) else if b ∈ O 1 then ((k : Int), true) else (first, false)) (.forS (fun j r => r = if ok = true then (first, true) else if b ∈ lit ((rle (O 1)).take j) then ((k : Int), true) else (first, false)) ?_ ?_ ?_) ?_
  ·cases ok <;> simp [lit_nil]
  ·rintro j x _ hx rfl
   have hx1 := (rle_can (O 1)).pos x (mg hx)
   have el : lit ((rle (O 1)).take (j + 1)) = lit ((rle (O 1)).take j) ++ List.replicate x.Volume.toNat x.Batch := by
    rw [List.take_add_one, hx]; simp [lit_app, lit_one]
   have em : b ∈ List.replicate x.Volume.toNat x.Batch ↔ x.Batch = b := by
    rw [List.mem_replicate]
    constructor
    ·rintro ⟨_, h⟩; exact h.symm
    ·rintro h; exact ⟨by omega, h.symm⟩
   unfold L.zlie.B5 L.zlie.J6
   rw [el]
   cases ok with
   | true => simp; exact .pure rfl
   | false =>
    by_cases hm1 : b ∈ lit ((rle (O 1)).take j)
    ·have : b ∈ lit ((rle (O 1)).take j) ++ List.replicate x.Volume.toNat x.Batch := by simp [hm1]
     simp only [hm1, this, if_true, if_false, Bool.false_eq_true, Bool.not_true, Bool.false_and]
     exact .pure rfl
    ·by_cases hbx : x.Batch = b
     ·have : b ∈ lit ((rle (O 1)).take j) ++ List.replicate x.Volume.toNat x.Batch := List.mem_append.2 (.inr (em.2 hbx))
      simp only [hm1, this, if_true, if_false, Bool.false_eq_true, Bool.not_false, Bool.true_and]
      rw [if_pos (by simp [hbx]; omega)]
      exact .pure rfl
     ·have : ¬ b ∈ lit ((rle (O 1)).take j) ++ List.replicate x.Volume.toNat x.Batch := fun h => by
       rcases List.mem_append.1 h with h | h
       ·exact hm1 h
       ·exact hbx (em.1 h)
      simp only [hm1, this, if_false, Bool.false_eq_true, Bool.not_false, Bool.true_and]
      rw [if_neg (by simp [hbx])]
      exact .pure rfl
  ·rintro _ rfl
   rw [List.take_length, lit_rle]
  ·rintro _ rfl
   unfold L.zlie.J4 L.zlie.J3
   refine .pure ⟨F2, A ++ O 1, hf2, ?_, by rw [List.length_append, h3, hl2, ek], ?_⟩
   ·rw [List.append_assoc, hc2, ← List.append_assoc, h2, List.append_assoc, List.replicate_append_replicate, ek]
   ·dsimp only
    by_cases hA : b ∈ A
    ·have e1 : ahead b A = ((A.idxOf b : Int), true) := if_pos hA
     have e2 : ahead b (A ++ O 1) = (((A ++ O 1).idxOf b : Int), true) := if_pos (by simp [hA])
     rw [e1] at h4 h5
     dsimp only at h4 h5
     subst h4
     rw [e2, if_pos rfl, idx_l hA]
     exact ⟨rfl, fun _ => h5 rfl⟩
    ·have e1 : ahead b A = (0, false) := if_neg hA
     rw [e1] at h4
     dsimp only at h4
     subst h4
     rw [if_neg (by simp)]
     by_cases hO : b ∈ O 1
     ·have e2 : ahead b (A ++ O 1) = (((A ++ O 1).idxOf b : Int), true) := if_pos (by simp [hO])
      rw [e2, if_pos hO, idx_r hA]
      refine ⟨rfl, fun _ => ?_⟩
      have hi := List.idxOf_lt_length_of_mem hO
      rw [hl2] at hi
      dsimp only
      have hka : ((k * a.toNat : Nat) : Int) = (k : Int) * a := by rw [Int.natCast_mul, Int.toNat_of_nonneg (by omega)]
      rw [h3, Int.natCast_add, hka, Int.add_comm, Int.add_mul_ediv_right _ _ (by omega), Int.ediv_eq_zero_of_lt (by omega) (by omega)]; omega
     ·have e2 : ahead b (A ++ O 1) = (0, false) := if_neg (by simp [hA, hO])
      rw [e2, if_neg hO]
      exact ⟨rfl, fun h => absurd h (by simp)⟩
 ·rintro ⟨now, first, ok⟩ ⟨F', A, h1, h2, h3, h4, h5⟩
  exact .pure ⟨A, _, h2, h3, rfl, h4, h5⟩
end
theorem awake30 : L.zuro = some true := by kernel_rfl
def nz (c : UInt8) (k : Nat) : ByteArray := ⟨#[c, 48 + UInt8.ofNat k]⟩
theorem lt5 {k : Nat} (h : k < 5) : k = 0 ∨ k = 1 ∨ k = 2 ∨ k = 3 ∨ k = 4 := by omega
theorem nz_name {c : UInt8} (hc : c = 110 ∨ c = 103) {k : Nat} (h : k < 5) : L.zcvq (nz c k) = some true := by
 rcases hc with rfl | rfl <;> rcases lt5 h with rfl | rfl | rfl | rfl | rfl <;> rfl
theorem nz_inj {c : UInt8} (hc : c = 110 ∨ c = 103) {i j : Nat} (hi : i < 5) (hj : j < 5) (h : sEq (nz c i) (nz c j) = true) : i = j := by
 rcases hc with rfl | rfl <;> rcases lt5 hi with rfl | rfl | rfl | rfl | rfl <;> rcases lt5 hj with rfl | rfl | rfl | rfl | rfl <;> first | rfl | (revert h; decide +kernel)
theorem nz_make {c : UInt8} (hc : c = 110 ∨ c = 103) {k : Nat} (h : k < 5) : ∃ x, bytes? ([IntKind.u8.wrap (wr (48 + (k : Int)))] : List Int) = some x ∧ cat? (⟨#[c]⟩ : ByteArray) x = some (nz c k) := by
 rcases hc with rfl | rfl <;> rcases lt5 h with rfl | rfl | rfl | rfl | rfl <;> exact ⟨_, rfl, rfl⟩
theorem nz_list {c : UInt8} (hc : c = 110 ∨ c = 103) {l : List ByteArray} {o : Nat} (hl : l.length + o ≤ 5) (h : ∀ (k : Nat) (x : ByteArray), l[k]? = some x → x = nz c (k + o)) : Nmd l := by
 refine ⟨by omega, fun k x hx => ?_, fun i j x y hx hy he => ?_⟩
 ·have hk := (gs hx).1
  rw [h k x hx]; exact nz_name hc (by omega)
 ·have hi := (gs hx).1
  have hj := (gs hy).1
  rw [h i x hx, h j y hy] at he
  have := nz_inj hc (by omega) (by omega) he
  omega
structure LSeg (k : Nat) (s : Segment) (h : Hop) : Prop where
 name : s.Name = nz 103 (k + 1)
 ends : s.From = (k : Int) ∧ s.To = (k : Int) + 1 ∨ s.From = (k : Int) + 1 ∧ s.To = (k : Int)
 cap : 10 ≤ s.Capacity ∧ s.Capacity ≤ 60
 rest : s.Resist = 0 ∧ s.Wave = 0
 points : s.Points = [⟨0, 0, 1000⟩, ⟨s.Capacity, 0, 1000⟩]
 hop : h = ⟨(k : Int), decide (s.From > s.To)⟩
theorem LSeg.b {k m : Nat} {s : Segment} {h : Hop} (hs : LSeg k s h) (hk : k < m) : SegB (m + 1) s := by
 have h1 := hs.ends; have h2 := hs.cap; have h3 := hs.rest
 refine ⟨by omega, by omega, by omega, by omega, ?_⟩
 rw [hs.points]
 refine ⟨by simp, by simp, by simp, fun i p q hp hq => ?_, by simp, by simp⟩
 rcases i with _ | i
 ·simp at hp hq; subst hp; subst hq; dsimp only; omega
 ·simp at hq
theorem lchain {nodes : List ByteArray} {segs : List Segment} {way : List Hop} {m : Nat} (hm : 1 ≤ m ∧ m ≤ 4) (h1 : nodes.length = m + 1) (h2 : segs.length = m) (h3 : way.length = m) (h4 : ∀ (k : Nat) (x : ByteArray), nodes[k]? = some x → x = nz 110 k)
  (h5 : ∀ (k : Nat) (s : Segment) (h : Hop), segs[k]? = some s → way[k]? = some h → LSeg k s h) :
  Chain ⟨nodes, segs, [⟨(⟨#[112]⟩ : ByteArray), 0, 0⟩, ⟨(⟨#[113]⟩ : ByteArray), (m : Int), 0⟩], [], 0, 0⟩ m ∧ Hops ⟨nodes, segs, [⟨(⟨#[112]⟩ : ByteArray), 0, 0⟩, ⟨(⟨#[113]⟩ : ByteArray), (m : Int), 0⟩], [], 0, 0⟩ m way := by
 have hseg : ∀ (k : Nat) (s : Segment), segs[k]? = some s → ∃ h, way[k]? = some h ∧ LSeg k s h ∧ k < m := fun k s hs => by
  have hk := (gs hs).1
  obtain ⟨h, hh⟩ := get_of (l := way) (k := k) (by omega)
  exact ⟨h, hh, h5 k s h hs hh, by omega⟩
 have port : ∀ (k : Nat) (q : Port), ([(⟨(⟨#[112]⟩ : ByteArray), 0, 0⟩ : Port), (⟨(⟨#[113]⟩ : ByteArray), (m : Int), 0⟩ : Port)] : List Port)[k]? = some q → k = 0 ∧ q = ⟨(⟨#[112]⟩ : ByteArray), 0, 0⟩ ∨ k = 1 ∧ q = ⟨(⟨#[113]⟩ : ByteArray), (m : Int), 0⟩ := by
  intro k q hq
  rcases k with _ | _ | k
  ·exact .inl ⟨rfl, by simpa using hq.symm⟩
  ·exact .inr ⟨rfl, by simpa using hq.symm⟩
  ·simp at hq
 have hW : NetW ⟨nodes, segs, [⟨(⟨#[112]⟩ : ByteArray), 0, 0⟩, ⟨(⟨#[113]⟩ : ByteArray), (m : Int), 0⟩], [], 0, 0⟩ := by
  refine ⟨by dsimp only; omega, by dsimp only; omega, fun k s hs => ?_, by simp, fun k q hq => ?_, by simp, by simp, by simp, by dsimp only; omega, by dsimp only; omega, fun l hl => ?_⟩
  ·obtain ⟨h, _, hs', hk⟩ := hseg k s hs
   rw [h1]; exact hs'.b hk
  ·rcases port k q hq with ⟨rfl, rfl⟩ | ⟨rfl, rfl⟩ <;> dsimp only <;> omega
  ·simp only [List.mem_cons, List.not_mem_nil, or_false] at hl
   rcases hl with rfl | rfl | rfl | rfl
   ·exact nz_list (o := 0) (.inl rfl) (by omega) (fun k x hx => h4 k x hx)
   ·refine nz_list (c := 103) (o := 1) (.inr rfl) (by simp; omega) (fun k x hx => ?_)
    rw [List.getElem?_map] at hx
    cases hs : segs[k]? with
    | none => rw [hs] at hx; cases hx
    | some s => rw [hs] at hx; cases hx; obtain ⟨h, _, hs', _⟩ := hseg k s hs; exact hs'.name
   ·refine ⟨by simp, fun k x hx => ?_, fun i j x y hx hy he => ?_⟩
    ·rcases k with _ | _ | k
     ·simp at hx; subst hx; rfl
     ·simp at hx; subst hx; rfl
     ·simp at hx
    ·rcases i with _ | _ | i <;> rcases j with _ | _ | j <;> simp at hx hy <;> first | rfl | (subst hx; subst hy; revert he; decide +kernel)
   ·exact ⟨by simp, by simp, by simp⟩
 refine ⟨⟨hW.g (by dsimp only; omega) (by simp), by omega, h1, h2, rfl, ⟨_, rfl, rfl⟩, ⟨_, rfl, rfl⟩, rfl, fun i s hs => ?_⟩, h3, fun i s hs => ?_⟩
 ·obtain ⟨h, _, hs', _⟩ := hseg i s hs; exact hs'.ends
 ·obtain ⟨h, hh, hs', _⟩ := hseg i s hs; rw [hh, hs'.hop]
theorem few_wake : Ok (Option.bind L.zuro fun r => some r) fun r => r = true := by rw [awake30]; exact .pure rfl
theorem out_of {T A Z : List Int} {k c : Nat} {b : Int} (h : A ++ Z = T ++ List.replicate k b) (hA : A.length = k) (hk : T.length + c ≤ k) : A = T ++ List.replicate (k - T.length) b := by
 have : A = (A ++ Z).take k := by rw [← hA, List.take_left]
 rw [this, h, List.take_append, List.take_of_length_le (by omega), List.take_replicate]
 congr 2; omega
theorem forecastLine (l : List Int) (w : Int) (hw : 0 ≤ w ∧ w ≤ 255) : L.zkdd l w = some true := by
 have : Ok (L.zkdd l w) fun r => r = true := by
  unfold L.zkdd
  refine Ok.iteB (fun _ => few_wake) fun _ => ?_
  refine .bind (new_ok l) fun d0 hd0 => .bind (n_ok hd0 (n := 4) (by omega) (by omega)) ?_
  rintro ⟨c0, d1⟩ ⟨hd1, c1, c2⟩
  dsimp only at hd1 c1 c2 ⊢
  rw [wr_id (by omega)]
  obtain ⟨m, hm⟩ := nat_of (show 0 ≤ 1 + c0 by omega)
  rw [hm]
  obtain ⟨r, hr⟩ : ∃ r, r = 1 + w.tmod 10 := ⟨_, rfl⟩
  have hr1 : 1 ≤ r ∧ r ≤ 10 := by
   rw [hr, Int.tmod_eq_emod_of_nonneg hw.1]
   have h1 := Int.emod_nonneg w (by omega : (10 : Int) ≠ 0)
   have h2 := Int.emod_lt_of_pos w (by omega : (0 : Int) < 10)
   omega
  have er : wr (1 + ((wr w).tmod 10)) = r := by rw [wr_id (by omega : _ ≤ w ∧ _), ← hr, wr_id (by omega)]
  have er2 : wr (0 - r) = -r := by rw [wr_id (by omega)]; omega
  let P : List Int × Int × List ByteArray × List Segment × List Hop × Int → Prop := fun st => SrcOk ⟨st.1, st.2.1⟩ ∧ st.2.2.1.length = m + 1 ∧ st.2.2.2.1.length = m ∧ st.2.2.2.2.1.length = m ∧ (∀ (k : Nat) (x : ByteArray), st.2.2.1[k]? = some x → x = nz 110 k) ∧
   (∀ (k : Nat) (s : Segment) (h : Hop), st.2.2.2.1[k]? = some s → st.2.2.2.2.1[k]? = some h → LSeg k s h) ∧ st.2.2.2.2.2 = (st.2.2.2.1.map (·.Capacity)).sum ∧ 0 ≤ st.2.2.2.2.2 ∧ st.2.2.2.2.2 ≤ 240
  refine .bind (Q := P) (.loop (fun st => SrcOk ⟨st.1, st.2.1⟩ ∧ st.2.2.1.length = st.2.2.2.1.length + 1 ∧ st.2.2.2.2.1.length = st.2.2.2.1.length ∧ (st.2.2.2.1.length : Int) + st.2.2.2.2.2.2 = m ∧ 0 ≤ st.2.2.2.2.2.2 ∧ (∀ (k : Nat) (x : ByteArray), st.2.2.1[k]? = some x → x = nz 110 k) ∧
   (∀ (k : Nat) (s : Segment) (h : Hop), st.2.2.2.1[k]? = some s → st.2.2.2.2.1[k]? = some h → LSeg k s h) ∧ st.2.2.2.2.2.1 = (st.2.2.2.1.map (·.Capacity)).sum ∧ 0 ≤ st.2.2.2.2.2.1 ∧ st.2.2.2.2.2.1 ≤ 60 * st.2.2.2.1.length) (fun st => st.2.2.2.2.2.2.toNat)
   ⟨hd1, rfl, rfl, by simp, by dsimp only; omega, fun k x hx => ?_, by simp, rfl, by dsimp only; omega, by simp⟩ (by dsimp only; omega) ?_) ?_
  ·have hk := (gs hx).1
   simp at hk
   subst hk
   simp at hx; subst hx; rfl
  ·rintro ⟨L0, At0, nodes, segs, way, tot, i⟩ ⟨i1, i2, i3, i4, i5, i6, i7, i8, i9, i10⟩
   dsimp only at i1 i2 i3 i4 i5 i6 i7 i8 i9 i10
   unfold L.zkdd.B8
   refine Ok.iteD (fun h => ?_) fun h => .pure ⟨i1, by dsimp only at h ⊢; omega, by dsimp only at h ⊢; omega, by dsimp only at h ⊢; omega, i6, i7, i8, i9, by dsimp only at h ⊢; omega⟩
   dsimp only at h ⊢
   obtain ⟨k, hk⟩ : ∃ k, k = segs.length := ⟨_, rfl⟩
   have hnl : nodes.length = k + 1 := by omega
   rw [hnl]
   obtain ⟨x1, x2, x3⟩ := nz_make (c := 103) (.inr rfl) (k := k + 1) (by omega)
   obtain ⟨y1, y2, y3⟩ := nz_make (c := 110) (.inl rfl) (k := k + 1) (by omega)
   refine .bind' (.eq x2 (.bind' (.eq x3 (.bind (range_ok i1 (lo := 10) (hi := 60) (by omega) (by omega) (by omega)) ?_))))
   rintro ⟨cap, d2⟩ ⟨hd2, p1, p2⟩
   dsimp only at hd2 p1 p2
   unfold L.zkdd.J9
   dsimp only
   refine .bind (n_ok hd2 (n := 3) (by omega) (by omega)) ?_
   rintro ⟨z, d3⟩ ⟨hd3, _, _⟩
   dsimp only at hd3 ⊢
   rw [hnl, wr_id (by omega : _ ≤ ((k + 1 : Nat) : Int) - 1 ∧ _), show ((k + 1 : Nat) : Int) - 1 = (k : Int) by omega]
   have step : ∀ (f t : Int) (bk : Bool), (f = (k : Int) ∧ t = (k : Int) + 1 ∨ f = (k : Int) + 1 ∧ t = (k : Int)) → bk = decide (f > t) →
     Ok (L.zkdd.J10 (L0, At0, nodes, segs, way, tot, i) (d2.L_, d2.At, nz 103 (k + 1), cap) (d3.L_, d3.At, f, t, bk)) (Sum.elim (fun st => (SrcOk ⟨st.1, st.2.1⟩ ∧ st.2.2.1.length = st.2.2.2.1.length + 1 ∧ st.2.2.2.2.1.length = st.2.2.2.1.length ∧ (st.2.2.2.1.length : Int) + st.2.2.2.2.2.2 = m ∧ 0 ≤ st.2.2.2.2.2.2 ∧ (∀ (k : Nat) (x : ByteArray), st.2.2.1[k]? = some x → x = nz 110 k) ∧
   (∀ (k : Nat) (s : Segment) (h : Hop), st.2.2.2.1[k]? = some s → st.2.2.2.2.1[k]? = some h → LSeg k s h) ∧ st.2.2.2.2.2.1 = (st.2.2.2.1.map (·.Capacity)).sum ∧ 0 ≤ st.2.2.2.2.2.1 ∧ st.2.2.2.2.2.1 ≤ 60 * st.2.2.2.1.length) ∧ st.2.2.2.2.2.2.toNat < i.toNat) P) := by
    intro f t bk hft hbk
    unfold L.zkdd.J10
    dsimp only
    rw [hnl]
    refine .bind' (.eq y2 (.bind' (.eq y3 (.bind' (.app (by simp; omega) (.bind' (.app (by simp; omega) (.bind' (.app (by simp; omega) (.pure ?_))))))))))
    rw [wr_id (by omega : _ ≤ ((k + 1 : Nat) : Int) - 1 ∧ _), show ((k + 1 : Nat) : Int) - 1 = (k : Int) by omega, wr_id (by omega : _ ≤ tot + cap ∧ _), wr_id (by omega : _ ≤ i - 1 ∧ _)]
    refine ⟨⟨hd3, by simp; omega, by simp; omega, by simp; omega, by dsimp only; omega, ?_, ?_, by dsimp only; rw [i8]; simp, by dsimp only; omega, by simp; omega⟩, by dsimp only; omega⟩
    ·exact app_all (P := fun k x => x = nz 110 k) i6 (by rw [hnl])
    ·intro j s hp hs hh
     dsimp only at hs hh
     rw [List.getElem?_append] at hs hh
     split at hs
     ·rw [if_pos (by omega)] at hh
      exact i7 j s hp hs hh
     ·have hj := (gs hs).1
      simp at hj
      obtain rfl : j = k := by omega
      rw [if_neg (by omega)] at hh
      simp [← hk] at hs
      rw [show j - way.length = 0 by omega] at hh
      simp at hh
      subst hs; subst hh
      exact ⟨rfl, hft, ⟨p1, p2⟩, ⟨rfl, rfl⟩, rfl, by rw [hbk]⟩
   exact Ok.iteE (fun _ => step _ _ true (.inr ⟨by omega, rfl⟩) (by simp; omega)) fun _ => step _ _ false (.inl ⟨rfl, by omega⟩) (by simp; omega)
  rintro ⟨L0, At0, nodes, segs, way, tot⟩ ⟨i1, i2, i3, i4, i5, i6, i7, i8, i9⟩
  dsimp only at i1 i2 i3 i4 i5 i6 i7 i8 i9
  have hmm : 1 ≤ m ∧ m ≤ 4 := by omega
  obtain ⟨hc, hH⟩ := lchain hmm i2 i3 i4 i5 i6
  obtain ⟨n, hn⟩ : ∃ n : Network, n = ⟨nodes, segs, [⟨(⟨#[112]⟩ : ByteArray), 0, 0⟩, ⟨(⟨#[113]⟩ : ByteArray), (m : Int), 0⟩], [], 0, 0⟩ := ⟨_, rfl⟩
  rw [← hn] at hc hH
  have hseg : n.Segments = segs := by rw [hn]
  have ewr : wr ((nodes.length : Int) - 1) = (m : Int) := by rw [i2, wr_id (by omega)]; omega
  have hns := hc.ns
  have hcp : ∀ (i : Nat) (s : Segment), n.Segments[i]? = some s → 10 ≤ s.Capacity := fun i s hs => by
   rw [hseg] at hs
   obtain ⟨h, hh⟩ := get_of (l := way) (k := i) (by have := (gs hs).1; omega)
   exact (i6 i s h hs hh).cap.1
  unfold L.zkdd.J1
  refine .bind (Q := fun rs : List Int => Wpl n r ⟨rs, [r, -r], []⟩) (.loop (fun st => (st.1.length : Int) = st.2 ∧ st.1.length ≤ m ∧ ∀ (i : Nat) (s : Segment) (x : Int), n.Segments[i]? = some s → st.1[i]? = some x → x = if s.From < s.To then r else -r) (fun st => m - st.1.length) ⟨rfl, by simp, by simp⟩ (by dsimp only; omega) ?_) ?_
  ·rintro ⟨rs, j⟩ ⟨j1, j2, j3⟩
   dsimp only at j1 j2 j3
   subst j1
   unfold L.zkdd.B6
   dsimp only
   rw [i4]
   have full : ¬ (rs.length : Int) < (m : Int) → rs.length = n.Segments.length := fun h => by omega
   refine Ok.iteD (fun h => ?_) fun h => .pure ⟨full h, j3, rfl, rfl⟩
   obtain ⟨s, hs⟩ := get_of (l := n.Segments) (k := rs.length) (by omega)
   have hh := hH.hop _ s hs
   have he := hc.ends _ s hs
   have fin : ∀ x, x = (if s.From < s.To then r else -r) → Ok (L.zkdd.J7 (rs, (rs.length : Int)) (rs ++ [x])) (Sum.elim (fun st => ((st.1.length : Int) = st.2 ∧ st.1.length ≤ m ∧ ∀ (i : Nat) (s : Segment) (x : Int), n.Segments[i]? = some s → st.1[i]? = some x → x = if s.From < s.To then r else -r) ∧ m - st.1.length < m - rs.length) fun rs : List Int => Wpl n r ⟨rs, [r, -r], []⟩) := by
    rintro _ rfl
    unfold L.zkdd.J7
    dsimp only
    rw [wr_id (by omega)]
    refine .pure ⟨⟨by simp, by simp; omega, fun i s' x hs' hx => ?_⟩, by simp; omega⟩
    dsimp only at hx
    rw [List.getElem?_append] at hx
    split at hx
    ·exact j3 i s' x hs' hx
    ·have hj := (gs hx).1
     simp at hj
     obtain rfl : i = rs.length := by omega
     rw [hs] at hs'; cases hs'
     simp at hx; exact hx.symm
   refine .bind' (.eq (ix_nat hh) ?_)
   dsimp only
   rw [er, er2]
   refine Ok.iteD (fun hb => .bind' (.app (by simp; omega) (fin (-r) (by rw [if_neg (by omega)])))) fun hb => .bind' (.app (by simp; omega) (fin r (by rw [if_pos (by omega)])))
  intro rs hp
  have hL : Ln n ⟨rs, [r, -r], []⟩ [7, 0] := ⟨hc.net, (hp.planOk hc (by omega) fun i s hs => by have := hcp i s hs; omega).flow, by rw [hc.np]; rfl, by simp⟩
  unfold L.zkdd.J2
  dsimp only
  rw [ewr, ← hn]
  refine .bind (fills_ok hc.net i1 (m := 5) (by omega)) ?_
  rintro ⟨fs, d5⟩ ⟨hd5, F, hf, hF⟩
  dsimp only at hf
  obtain ⟨T, hT⟩ : ∃ T, T = cat (wq n F) m := ⟨_, rfl⟩
  have hTl : (T.length : Int) = tot := by
   rw [hT, cat_len (c := fun j => (segs.map (·.Capacity)).getD j 0) fun j hj => ?_, i7, sumN_list, List.length_map, i3]
   obtain ⟨s, hs⟩ := get_of (l := n.Segments) (k := j) (by omega)
   have h1 := hf.cap j s hs
   have h2 : (segs.map (·.Capacity)).getD j 0 = s.Capacity := by rw [← hseg, List.getD_eq_getElem?_getD, List.getElem?_map, hs]; rfl
   rw [h2, wq_of hs]
   split
   ·exact h1
   ·rw [List.length_reverse]; exact h1
  have hTb : ∀ b, b ∈ T → 0 ≤ b ∧ b < 5 := fun b hb => by
   rw [hT] at hb
   have cm : ∀ k, k ≤ m → b ∈ cat (wq n F) k → 0 ≤ b ∧ b < 5 := fun k => by
    induction k with
    | zero => intro _ h; simp [cat] at h
    | succ k ih =>
     intro hk h
     simp only [cat] at h
     rcases List.mem_append.1 h with h | h
     ·obtain ⟨s, hs⟩ := get_of (l := n.Segments) (k := k) (by omega)
      rw [wq_of hs] at h
      refine (hF k (by omega)).1 b ?_
      split at h
      ·exact h
      ·simpa using h
     ·exact ih (by omega) h
   exact cm m (Nat.le_refl _) hb
  have hTr : (rle T).length ≤ 199 := by
   have : (rle T).length ≤ 12 * m := by
    rw [hT]
    refine rle_cat fun j hj => ?_
    obtain ⟨s, hs⟩ := get_of (l := n.Segments) (k := j) (by omega)
    have := (hF j (by omega)).2
    rw [wq_of hs]
    split
    ·exact this
    ·rw [rle_revl]; exact this
   omega
  have hdiv : 0 ≤ tot / r ∧ tot / r ≤ tot := ⟨Int.ediv_nonneg (by omega) (by omega), Int.ediv_le_self _ (by omega)⟩
  have hquo : quo? tot r = some (tot / r) := by
   unfold quo?
   rw [if_pos (by omega), Int.tdiv_eq_ediv_of_nonneg (by omega), wr_id (by omega)]
  obtain ⟨N, hN⟩ := nat_of (show 0 ≤ tot / r + 2 by omega)
  have hNr : T.length + 1 ≤ N * r.toNat := by
   have h1 : tot < (tot / r + 1) * r := by
    have := Int.lt_ediv_add_one_mul_self tot (by omega : 0 < r); exact this
   have h2 : ((N * r.toNat : Nat) : Int) = (tot / r + 2) * r := by rw [Int.natCast_mul, Int.toNat_of_nonneg (by omega), ← hN]
   have h3 : (tot / r + 2) * r = (tot / r + 1) * r + r := by rw [show tot / r + 2 = (tot / r + 1) + 1 by omega, Int.add_mul (tot / r + 1)]; omega
   omega
  have arr : ∀ b, Ok (L.zlie n fs ⟨rs, [r, -r], []⟩ [7, 0] 1 b (wr (tot / r + 2))) fun q => q.2.2 = 0 ∧ q.2.1 = (ahead b (T ++ List.replicate (N * r.toNat - T.length) 7)).2 ∧ (q.2.1 = true → q.1 = (ahead b (T ++ List.replicate (N * r.toNat - T.length) 7)).1 / r) := by
   intro b
   rw [wr_id (by omega), hN]
   refine (arrive_ok hc hp hr1.1 hL hf hT (N := N) (by omega) hTr b).mono ?_
   rintro q ⟨A, Z, h1, h2, h3, h4, h5⟩
   have := out_of (c := 1) h1 h2 (by omega)
   rw [show ([7, 0] : List Int).getD 0 0 = 7 from rfl] at this
   rw [← this]
   exact ⟨h3, h4, h5⟩
  refine .bind (Q := Sum.elim (fun _ : Bool => False) fun _ : Unit => True) (.loop (fun b => 0 ≤ b ∧ b ≤ 5) (fun b => 5 - b.toNat) ⟨by omega, by omega⟩ (by omega) ?_) ?_
  ·rintro b ⟨b0, b5⟩
   unfold L.zkdd.B5
   dsimp only
   rw [ewr, ← hn, er, er2]
   refine Ok.iteD (fun hb => ?_) fun _ => .pure trivial
   refine .bind' (.eq (dist_ok hc hf hH b) ?_)
   rw [← hT]
   have hab : 0 ≤ (ahead b T).1 ∧ (ahead b T).1 ≤ 240 := by
    unfold ahead
    split
    ·rename_i h
     have := List.idxOf_lt_length_of_mem h
     dsimp only; omega
    ·dsimp only; omega
   refine .bind' (.eq (ticks_eq (by dsimp only; omega) (by omega)) (.bind' (.eq hquo (.bind (arr b) ?_))))
   rintro ⟨q1, q2, q3⟩ ⟨e1, e2, e3⟩
   dsimp only at e1 e2 e3 ⊢
   subst e1
   have e4 : (ahead b (T ++ List.replicate (N * r.toNat - T.length) 7)).2 = (ahead b T).2 ∧ ((ahead b T).2 = true → (ahead b (T ++ List.replicate (N * r.toNat - T.length) 7)).1 = (ahead b T).1) := by
    by_cases h : b ∈ T
    ·have h1 : ahead b T = ((T.idxOf b : Int), true) := if_pos h
     have h2 : ahead b (T ++ List.replicate (N * r.toNat - T.length) 7) = (((T ++ List.replicate (N * r.toNat - T.length) 7).idxOf b : Int), true) := if_pos (by simp [h])
     rw [h1, h2, idx_l h]; exact ⟨rfl, fun _ => rfl⟩
    ·have h1 : ahead b T = (0, false) := if_neg h
     have h2 : ahead b (T ++ List.replicate (N * r.toNat - T.length) 7) = (0, false) := if_neg (fun h' => by
      rcases List.mem_append.1 h' with h' | h'
      ·exact h h'
      ·obtain ⟨_, h'⟩ := List.mem_replicate.1 h'; omega)
     rw [h1, h2]; exact ⟨rfl, fun h => absurd h (by simp)⟩
   rw [e4.1] at e2
   rw [if_neg]
   ·refine .pure ⟨⟨?_, ?_⟩, ?_⟩ <;> rw [wr_id (by omega)] <;> omega
   ·rw [e2]
    cases hab2 : (ahead b T).2 with
    | false => simp
    | true =>
     rw [hab2] at e2
     have := e3 e2
     rw [e4.2 hab2] at this
     simp [this]
  ·rintro (_ | _) hd
   ·exact hd.elim
   ·show Ok (L.zkdd.J3 w (L0, At0, nodes, segs, way, tot) rs (fs, d5) ()) _
    unfold L.zkdd.J3
    dsimp only
    rw [ewr, ← hn, er, er2]
    refine .bind' (.eq hquo (.bind (arr 7) ?_))
    rintro ⟨q1, q2, q3⟩ ⟨e1, e2, e3⟩
    dsimp only at e1 e2 e3 ⊢
    subst e1
    have h7 : (7 : Int) ∉ T := fun h => by have := hTb 7 h; omega
    obtain ⟨v, hv⟩ : ∃ v, N * r.toNat - T.length = v + 1 := ⟨N * r.toNat - T.length - 1, by omega⟩
    have ha : ahead 7 (T ++ List.replicate (N * r.toNat - T.length) 7) = ((T.length : Int), true) := by
     unfold ahead
     rw [if_pos (by rw [hv]; simp), idx_here h7 (by rw [hv]; rfl)]
    rw [ha] at e2 e3
    dsimp only at e2 e3
    refine .bind' (.eq (ticks_eq (by omega) (by omega)) ?_)
    rw [if_pos (by simp), if_pos (by simp), if_pos e2, e3 e2, hTl, if_pos (by simp), awake30]
    exact .pure rfl
 obtain ⟨r, h1, rfl⟩ := this
 exact h1
end Go.Proofs.Ytaliejncdnegeaa
namespace Go.Aw
set_option linter.unusedVariables false
set_option linter.unusedSimpArgs false
open Go.ChangeShapes Go.WideShapes Go.ChangeAt Go.RowKit
section
variable {H : Type} {enc : TypeId × Value → H} {P : Program}
theorem trodAll_below (hl : laidOutB P = true) {W W' : World} (hb : Below W.heap.size W W') : ∀ {ts : List TypeId} {vs : List Value} {ds : List (DataW H)} {ps : List MemPlace},
  (∀ t, t ∈ ts → P.readableRec t = true ∧ t < P.types.size) → (∀ x, x ∈ ps → x.block < W.heap.size) → DataW.TrodAll enc P W 0 (fun _ => true) true ts vs ds ps →
  DataW.TrodAll enc P W' 0 (fun b => decide (b < W.heap.size)) true ts vs ds ps
 | [], vs, ds, ps, _, _, h => by
  cases vs <;> cases ds <;> simp [DataW.TrodAll] at h ⊢
  exact h
 | t :: ts, vs, ds, ps, ht, hlt, h => by
  obtain ⟨v, vs', d, ds', p, q, rfl, rfl, rfl, h1, h2⟩ := trodAll_cons h
  have hr := ht t (by simp)
  exact ⟨p, q, Below.trod hl hr.1 hr.2 h1 hb (fun x hx => hlt x (by simp [hx])), trodAll_below hl hb (fun t ht' => ht t (by simp [ht'])) (fun x hx => hlt x (by simp [hx])) h2, rfl⟩
theorem law_post {f : Func} {s : ChangeSpec} {W W' : World} {args : Array Value} {ds : List (DataW H)} {p : List MemPlace} {t : TypeId} (hW : DataW.Whole enc P f.params.toList s.vars false W args.toList ds [] (p ++ []))
  (hA : DataW.TrodAll enc P W 0 (fun _ => true) true f.params.toList args.toList ds p)
  (hres : (s.fn H (ds ++ [])).results = [.lit (.bool true)]) (hargs : (s.fn H (ds ++ [])).args = ds) (hv : (s.fn H (ds ++ [])).vars = []) (hsv : s.vars = [])
  (hrt : f.resultTypes.toList = [t]) (hu : P.underlying t = some .bool) (hl : laidOutB P = true) (hall : ∀ t, t ∈ f.params.toList → P.readableRec t = true ∧ t < P.types.size)
  (hb : Below W.heap.size W W') : s.post enc P f false true false false W args (.bool true) W' := by
 have hlt : ∀ x, x ∈ p → x.block < W.heap.size := fun x hx => hW.lt x (by simp [hx])
 have hsz : f.resultTypes.size = 1 := by rw [← Array.length_toList, hrt]; rfl
 refine ⟨ds, [], p ++ [], [], p, [], hW, ?_, ?_, ?_, hb.frame _, fun h => by cases h⟩
 ·rw [hres, hrt, hsz]
  exact trodAll_mk1 (shut_bool hu true)
 ·rw [hargs]
  exact trodAll_below hl hb hall hlt hA
 ·rw [hv, hsv]; rfl
def encK (k : IntKind) (l : List Int) : T := .list 1 (l.map fun n => [.v (.int k n)])
theorem open_list {t e : TypeId} {k : IntKind} {W : World} {base : Nat} {r : Reach} {v : Value} {d : DataW H} {ps : List MemPlace} (ht : P.underlying t = some (.slice e)) (he : P.underlying e = some (.int k)) (hc : P.cellsOf e = 1)
  (hval : Value.okWide P W r base t v) (h : DataW.Trod enc P W 0 (fun _ => true) true t v d ps) :
  ∃ l : List Int, (l.length ≤ maxL → VR (fun b => W.heap[b]?) v (encK k l)) ∧ (∀ n, n ∈ l → (Lit.int k n).wf = true) ∧ (l = [] ∨ ∃ elems spare, d = .slice elems spare ∧ l.length = elems.length) := by
 obtain ⟨a0, len, cap, rfl⟩ := okWide_slice ht hval
 obtain ⟨fuel, hf⟩ := h
 rcases open_ints ht he hc hf with ⟨hcs, hx⟩ | ⟨a, len', cap', zs, hcs, _, hl, hm, hz, hx, hcell, hwz⟩
 ·simp [Value.cells] at hcs
  obtain ⟨rfl, rfl, rfl⟩ := hcs
  exact ⟨[], fun _ => .empty _ _ _, by simp, .inl rfl⟩
 ·simp [Value.cells] at hcs
  obtain ⟨rfl, rfl, rfl⟩ := hcs
  simp only [Prod.mk.injEq] at hx
  obtain ⟨rfl, rfl⟩ := hx
  simp only [if_true] at hz
  have hlt : (zs.take len).length = len := by simp; omega
  refine ⟨zs.take len, fun hmax => ?_, fun n hn => hwz n (List.mem_of_mem_take hn), .inr ⟨_, _, rfl, by simp [lits]⟩⟩
  by_cases hl0 : len = 0
  ·subst hl0; simp only [List.take_zero, encK, List.map_nil]; exact .empty _ _ _
  ·obtain ⟨b, off, spot⟩ := a
   have hspot : spot = none := by simpa [Addr.add] using World.cell?_spot (hcell 0 (by omega))
   subst hspot
   have hcell' : ∀ i, i < zs.length → W.cell? ⟨b, off + i, none⟩ = some (.int k (zs.getD i 0)) := fun i hi => by rw [← Addr.add_mk]; exact hcell i hi
   have hc0 := hcell' 0 (by omega)
   have hcs : ∃ cs ty fr, W.heap[b]? = some (.cells cs ty fr) := by
    unfold World.cell? at hc0
    split at hc0
    ·rename_i c ty fr hh; exact ⟨_, _, _, hh⟩
    ·cases hc0
   obtain ⟨cs, ty, fr, hh⟩ := hcs
   have hcs' : ∀ i, i < zs.length → cs[off + i]? = some (.int k (zs.getD i 0)) := fun i hi => by
    have := hcell' i hi
    simpa [World.cell?, hh] using this
   have hlen : ((zs.take len).map fun n => [T.v (.int k n)]).length = len := by rw [List.length_map, hlt]
   have hbig : off + len ≤ cs.size := by
    have := (Array.getElem?_eq_some_iff.1 (hcs' (len - 1) (by omega))).1
    omega
   have hgd : ∀ i e, ((zs.take len).map fun n => [T.v (.int k n)])[i]? = some e → ∀ (j : Nat) (x : T), e[j]? = some x → j = 0 ∧ x = .v (.int k (zs.getD i 0)) ∧ cs.getD (off + i * 1 + j) undef = .int k (zs.getD i 0) := by
    intro i e he j x hx
    simp only [List.getElem?_map, Option.map_eq_some_iff] at he
    obtain ⟨n, hn, rfl⟩ := he
    have hil := (List.getElem?_eq_some_iff.1 hn).1
    rw [hlt] at hil
    rw [List.getElem?_take_of_lt hil] at hn
    have hj : j = 0 := by have := (List.getElem?_eq_some_iff.1 hx).1; simp at this; exact this
    subst hj
    simp at hx
    have hzi : zs.getD i 0 = n := by simp [List.getD, hn]
    refine ⟨rfl, by rw [hzi]; exact hx.symm, ?_⟩
    rw [Array.getD_eq_getD_getElem?, show off + i * 1 + 0 = off + i by omega, hcs' i (by omega)]; rfl
   have := VR.list (H := fun b => W.heap[b]?) b off cap 1 ((zs.take len).map fun n => [T.v (.int k n)]) cs ty fr hh (by rw [hlen]; exact hl) (by rw [List.length_map]; exact hmax) (by rw [hlen]; omega)
    (fun i e he => by simp only [List.getElem?_map, Option.map_eq_some_iff] at he; obtain ⟨n, _, rfl⟩ := he; rfl)
    (fun i e he j x hx => by rw [(hgd i e he j x hx).2.2]; rfl) (fun i e he j x hx => by rw [(hgd i e he j x hx).2.2, (hgd i e he j x hx).2.1]; exact .v _)
   rw [hlen] at this
   exact this
end
theorem wf_u8 {n : Int} (h : (Lit.int .u8 n).wf = true) : 0 ≤ n ∧ n ≤ 255 := by
 have h1 : IntKind.u8.min = 0 := rfl
 have h2 : IntKind.u8.max = 255 := rfl
 simp only [Lit.wf, Bool.and_eq_true, decide_eq_true_eq] at h
 omega
theorem law_calls {E : Env} {f : FuncId} {xs : List T} {W : World} {args : Array Value} (hgl : Held fun b => W.heap[b]?) (hc : ACalls E f xs [] fun x _ => x = .v (.bool true)) (hsz : args.size = xs.length)
  (hv : ∀ (i : Nat) (x : T), xs[i]? = some x → VR (fun b => W.heap[b]?) (args.getD i undef) x) : Calls E.P f args W fun e W' => e = .returned (.bool true) ∧ Below W.heap.size W W' := by
 refine (hc.2 (fun b => W.heap[b]?) W args hsz hv ⟨fun _ _ h => h, hgl⟩ (by simp) (by simp)).mono ?_
 rintro e w' ⟨v, x, fp', H', rfl, rfl, hvr, _, _, _, _, hs, ⟨e1, e2, e3⟩, hfr⟩
 refine ⟨by rw [hvr.v_eq], ⟨e1, e2, e3, hs, fun k hk => (hfr k hk (by simp)).1⟩⟩
end Go.Aw
