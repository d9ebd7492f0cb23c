/- Plain proofs. No condition. -/
import Derived.Test.YtaliejncdnegeaaGreatZwP1
import Derived.Test.YtaliejncdnegeaaGreatZwD
import Derived.Test.YtaliejncdnegeaaGreatZwP0
import Derived.KernelRfl
import Derived.Test.YtaliejncdnegeaaGreatZwB1
import Derived.ProofKit
import Derived.SizedLaws
import Derived.Carry
set_option maxRecDepth 100000
namespace Go.Proofs.YtaliejncdnegeaaGreat
set_option linter.unusedVariables false
set_option linter.unusedSimpArgs false
open Go.Aw
theorem litres_eq {f : List Piece} (hf : ∀ p, p ∈ f → 0 ≤ p.Volume) (hl : vol f ≤ 1000000000) : L.zeou f = some (vol f) := by
 unfold L.zeou L.zmsr
 rw [sum_loop (B := L.zmsr.B2 _) (fun _ _ _ => rfl) hf hl]; rfl
def ahead (b : Int) (L : List Int) : Int × Bool := if b ∈ L then ((L.idxOf b : Int), true) else (0, false)
theorem idx_l {b : Int} {A B : List Int} (h : b ∈ A) : (A ++ B).idxOf b = A.idxOf b := by rw [List.idxOf_append, if_pos h]
theorem idx_r {b : Int} {A B : List Int} (h : b ∉ A) : (A ++ B).idxOf b = A.length + B.idxOf b := by rw [List.idxOf_append, if_neg h, Nat.add_comm]
theorem idx_here {b : Int} {A B : List Int} (h : b ∉ A) (hB : B.head? = some b) : (A ++ B).idxOf b = A.length := by
 cases B with
 | nil => simp at hB
 | cons x B =>
  simp at hB; subst hB
  rw [idx_r h]; simp
theorem front_back {f : List Piece} (hv : Vd f) (b : Int) : L.zcpc f b true = some (ahead b (lit f)) := by
 have hvol := hv.vol
 have : Ok (L.zcpc f b true) fun r => r = ahead b (lit f) := by
  unfold L.zcpc
  rw [if_pos rfl]
  refine .bind' (.forL (fun k _ => b ∉ lit (f.take k)) (fun r => r = ahead b (lit f)) (by simp [lit_nil]) ?_ ?_ fun r h => .pure h)
  ·intro k x _ hx hn
   have hk := (gs hx).1
   have hp := hv.piece (mg hx)
   unfold L.zcpc.B5
   refine Ok.iteE (fun hb => ?_) fun hb => .pure ?_
   ·refine .bind' (.sub 0 k rfl rfl (by omega) (by omega) ?_)
    rw [List.drop_zero, Nat.sub_zero]
    have h4 : ∀ p, p ∈ f.take k → 0 ≤ p.Volume := fun p hp => hv.nn p (List.mem_of_mem_take hp)
    have h1 := lit_len h4
    have h2 : vol f = vol (f.take k) + vol (f.drop k) := by rw [← vol_app, List.take_append_drop]
    have h3 := vol_pos (f := f.drop k) fun p hp => hv.nn p (List.mem_of_mem_drop hp)
    refine .bind' (.eq (litres_eq h4 (by omega)) (.pure ?_))
    show (vol (f.take k), true) = ahead b (lit f)
    have e : lit f = lit (f.take k) ++ lit (f.drop k) := by rw [← lit_app, List.take_append_drop]
    have e2 : (lit (f.drop k)).head? = some b := by
     rw [List.drop_eq_getElem_cons hk, (gs hx).2, lit_cons]
     obtain ⟨v, hv'⟩ : ∃ v, x.Volume.toNat = v + 1 := ⟨x.Volume.toNat - 1, by omega⟩
     rw [hv', List.replicate_succ, hb]; rfl
    unfold ahead
    have hm : b ∈ lit f := by rw [e]; exact List.mem_append.2 (.inr (List.mem_of_head? e2))
    rw [if_pos hm, e, idx_here hn e2, h1]
   ·show b ∉ lit (f.take (k + 1))
    rw [List.take_add_one, hx]
    simp [lit_app, lit_one, hn]
    intro _ h; exact hb h.symm
  ·intro _ hn
   rw [List.take_length] at hn
   unfold ahead
   rw [if_neg hn]; exact .pure rfl
 obtain ⟨r, h1, rfl⟩ := this
 exact h1
theorem front_fore {f : List Piece} (hv : Vd f) (b : Int) : L.zcpc f b false = some (ahead b (lit f).reverse) := by
 have hvol := hv.vol; have hlen := hv.len
 have : Ok (L.zcpc f b false) fun r => r = ahead b (lit f).reverse := by
  unfold L.zcpc
  rw [if_neg (by simp)]
  unfold L.zcpc.J1
  rw [wr_id (by omega)]
  refine .bind (Q := Sum.elim (fun r : Int × Bool => r = ahead b (lit f).reverse) fun _ : Unit => b ∉ lit f) (.loop (fun st => ∃ k : Nat, k ≤ f.length ∧ st = (k : Int) - 1 ∧ b ∉ lit (f.drop k)) (fun st => (st + 1).toNat) ⟨f.length, by omega, rfl, by simp [lit_nil]⟩ (by omega) ?_) ?_
  ·rintro _ ⟨k, hk, rfl, hn⟩
   unfold L.zcpc.B3
   refine Ok.iteD (fun h => ?_) fun h => .pure ?_
   ·obtain ⟨j, rfl⟩ : ∃ j, k = j + 1 := ⟨k - 1, by omega⟩
    rw [show ((j + 1 : Nat) : Int) - 1 = (j : Int) by omega]
    obtain ⟨x, hx⟩ := get_of (l := f) (k := j) (by omega)
    have hj := (gs hx).1
    have hp := hv.piece (mg hx)
    have ed : f.drop j = x :: f.drop (j + 1) := by rw [List.drop_eq_getElem_cons hj, (gs hx).2]
    refine .bind' (.eq (ix_nat hx) (Ok.iteE (fun hb => ?_) fun hb => .pure ⟨⟨j, by omega, ?_, ?_⟩, ?_⟩))
    ·dsimp only at hb
     rw [wr_id (by omega)]
     refine .bind' (.sub (j + 1) f.length (by omega) rfl (by omega) (by omega) ?_)
     have e0 : (f.drop (j + 1)).take (f.length - (j + 1)) = f.drop (j + 1) := List.take_of_length_le (by simp)
     rw [e0]
     have h4 : ∀ p, p ∈ f.drop (j + 1) → 0 ≤ p.Volume := fun p hp => hv.nn p (List.mem_of_mem_drop hp)
     have h1 := lit_len h4
     have h2 : vol f = vol (f.take (j + 1)) + vol (f.drop (j + 1)) := by rw [← vol_app, List.take_append_drop]
     have h3 := vol_pos (f := f.take (j + 1)) fun p hp => hv.nn p (List.mem_of_mem_take hp)
     refine .bind' (.eq (litres_eq h4 (by omega)) (.pure ?_))
     show (vol (f.drop (j + 1)), true) = ahead b (lit f).reverse
     have e : (lit f).reverse = (lit (f.drop (j + 1))).reverse ++ (lit (f.take (j + 1))).reverse := by rw [← List.reverse_append, ← lit_app, List.take_append_drop]
     have e2 : ((lit (f.take (j + 1))).reverse).head? = some b := by
      rw [List.take_add_one, hx, lit_app, List.reverse_append, Option.toList_some, lit_one, List.reverse_replicate]
      obtain ⟨v, hv'⟩ : ∃ v, x.Volume.toNat = v + 1 := ⟨x.Volume.toNat - 1, by omega⟩
      rw [hv', List.replicate_succ, hb]; rfl
     unfold ahead
     have hm : b ∈ (lit f).reverse := by rw [e]; exact List.mem_append.2 (.inr (List.mem_of_head? e2))
     rw [if_pos hm, e, idx_here (by simpa using hn) e2, List.length_reverse, h1]
    ·rw [wr_id (by omega)]
    ·rw [ed, lit_cons]
     simp [hn]
     intro _ h; exact hb h.symm
    ·rw [wr_id (by omega)]; omega
   ·obtain rfl : k = 0 := by omega
    rw [List.drop_zero] at hn; exact hn
  ·rintro (r | _) h
   ·exact .pure h
   ·unfold ahead
    rw [if_neg (by simpa using h)]; exact .pure rfl
 obtain ⟨r, h1, rfl⟩ := this
 exact h1
theorem ticks_eq {d r : Int} (hd : 0 ≤ d ∧ d ≤ 1000000) (hr : 1 ≤ r ∧ r ≤ 1000) : L.zdws d r = some (d / r, 0) := by
 unfold L.zdws
 rw [if_neg (by simp; omega)]
 have h1 := Int.ediv_nonneg hd.1 (by omega : 0 ≤ r)
 have h2 := Int.ediv_le_self r hd.1
 unfold quo?
 rw [if_pos (by omega), Option.bind_some, Int.tdiv_eq_ediv_of_nonneg hd.1, wr_id (by omega)]
section
variable {n : Network} {m : Nat} {fs : List (List Piece)} {F : Nat → List Int} {way : List Hop}
structure Hops (n : Network) (m : Nat) (way : List Hop) : Prop where
 len : way.length = m
 hop : ∀ (i : Nat) (s : Segment), n.Segments[i]? = some s → way[i]? = some (⟨(i : Int), decide (s.From > s.To)⟩ : Hop)
def wq (n : Network) (F : Nat → List Int) (j : Nat) : List Int := match n.Segments[j]? with | some s => if s.From > s.To then F j else (F j).reverse | none => []
theorem leads_ok (hc : Chain n m) (hw : Hops n m way) : L.zacw n way = some true := by
 have hns := hc.ns; have hm := hc.m1
 have : Ok (L.zacw n way) fun r => r = true := by
  unfold L.zacw
  refine .bind' (.forL (fun k st => (k = 0 ∧ st = -1) ∨ st = (k : Int)) (fun _ => False) (.inl ⟨rfl, rfl⟩) ?_ ?_ fun _ h => h.elim)
  ·intro k x st hx hst
   have hk := (gs hx).1
   rw [hw.len] at hk
   obtain ⟨s, hs⟩ := get_of (l := n.Segments) (k := k) (by omega)
   have e := hw.hop k s hs
   rw [hx] at e
   cases e
   have he := hc.ends k s hs
   have fin : Ok (L.zacw.J3 st ((k : Int), (k : Int) + 1)) (Sum.elim (fun st => (k + 1 = 0 ∧ st = -1) ∨ st = ((k + 1 : Nat) : Int)) fun _ : Bool => False) := by
    unfold L.zacw.J3
    rw [if_neg (by simp; omega)]
    exact .pure (.inr (by dsimp only; omega))
   unfold L.zacw.B2
   rw [if_neg (by simp; omega)]
   refine .bind' (.eq (ix_nat hs) ?_)
   dsimp only
   refine Ok.iteD (fun hb => ?_) fun hb => ?_
   ·rw [show s.To = (k : Int) by omega, show s.From = (k : Int) + 1 by omega]; exact fin
   ·rw [show s.From = (k : Int) by omega, show s.To = (k : Int) + 1 by omega]; exact fin
  ·intro _ _
   unfold L.zacw.J1
   exact .pure (by rw [hw.len]; simp; omega)
 obtain ⟨r, h1, rfl⟩ := this
 exact h1
theorem wq_of {j : Nat} {s : Segment} (hs : n.Segments[j]? = some s) : wq n F j = if s.From > s.To then F j else (F j).reverse := by simp only [wq, hs]
theorem front_ok (hf : Fil n fs F) {j : Nat} {s : Segment} (hs : n.Segments[j]? = some s) (b : Int) : L.zcpc (rle (F j)) b (decide (s.From > s.To)) = some (ahead b (wq n F j)) := by
 have hv := hf.vd j (gs hs).1
 rw [wq_of hs]
 by_cases h : s.From > s.To
 ·rw [if_pos h, show decide (s.From > s.To) = true by simp [h], front_back hv, lit_rle]
 ·rw [if_neg h, show decide (s.From > s.To) = false by simp [h], front_fore hv, lit_rle]
theorem cat_wq_len (hc : Chain n m) (hf : Fil n fs F) : ∀ k, k ≤ m → (cat (wq n F) k).length ≤ 1000 * k
 | 0, _ => by simp [cat]
 | k + 1, h => by
  obtain ⟨s, hs⟩ := get_of (l := n.Segments) (k := k) (by have := hc.ns; omega)
  have h1 := hf.cap k s hs; have h2 := (hc.net.segs k s hs).cap
  have h3 := cat_wq_len hc hf k (by omega)
  simp only [cat]
  rw [List.length_append, wq_of hs]
  split
  ·omega
  ·rw [List.length_reverse]; omega
theorem dist_ok (hc : Chain n m) (hf : Fil n fs F) (hw : Hops n m way) (b : Int) : L.zeyd n fs way b = some ((ahead b (cat (wq n F) m)).1, (ahead b (cat (wq n F) m)).2, 0) := by
 have hns := hc.ns; have hm := hc.m1
 have hlen := cat_wq_len hc hf m (Nat.le_refl _)
 have : Ok (L.zeyd n fs way b) fun r => r = ((ahead b (cat (wq n F) m)).1, (ahead b (cat (wq n F) m)).2, 0) := by
  unfold L.zeyd
  refine .bind' (.eq hc.net.check ?_)
  rw [if_neg (by simp)]
  refine .bind' (.eq (check_ok hc.net hf) ?_)
  rw [if_neg (by simp)]
  refine .bind' (.eq (leads_ok hc hw) ?_)
  rw [if_neg (by simp), hw.len, wr_id (by omega)]
  refine .bind (Q := Sum.elim (fun r : Int × Bool × Int => r = ((ahead b (cat (wq n F) m)).1, (ahead b (cat (wq n F) m)).2, 0)) fun _ : Unit => b ∉ cat (wq n F) m)
   (.loop (fun st => ∃ (k : Nat) (A : List Int), k ≤ m ∧ st.2 = (k : Int) - 1 ∧ cat (wq n F) m = A ++ cat (wq n F) k ∧ st.1 = (A.length : Int) ∧ b ∉ A) (fun st => (st.2 + 1).toNat) ⟨m, [], by omega, rfl, rfl, rfl, by simp⟩ (by dsimp only; omega) ?_) ?_
  ·rintro ⟨_, _⟩ ⟨k, A, hk, rfl, hA, rfl, hb⟩
   unfold L.zeyd.B2
   refine Ok.iteD (fun h => ?_) fun h => .pure ?_
   ·dsimp only at h ⊢
    obtain ⟨j, rfl⟩ : ∃ j, k = j + 1 := ⟨k - 1, by omega⟩
    rw [show ((j + 1 : Nat) : Int) - 1 = (j : Int) by omega]
    obtain ⟨s, hs⟩ := get_of (l := n.Segments) (k := j) (by omega)
    have hq : (wq n F j).length = (F j).length := by rw [wq_of hs]; split <;> simp
    have hcap := hf.cap j s hs; have hcp := (hc.net.segs j s hs).cap
    have hAl : A.length ≤ 1000 * m := by have := congrArg List.length hA; rw [List.length_append] at this; omega
    simp only [cat] at hA
    rw [← List.append_assoc] at hA
    refine .bind' (.eq (ix_nat (hw.hop j s hs)) (.bind' (.eq (ix_nat (hf.rp.get j (by omega))) (.bind' (.eq (front_ok hf hs b) ?_)))))
    dsimp only
    by_cases hm2 : b ∈ wq n F j
    ·have ea : ahead b (wq n F j) = (((wq n F j).idxOf b : Int), true) := if_pos hm2
     have hmt : b ∈ cat (wq n F) m := by rw [hA]; simp [hm2]
     have et : ahead b (cat (wq n F) m) = (((cat (wq n F) m).idxOf b : Int), true) := if_pos hmt
     have hi := List.idxOf_lt_length_of_mem hm2
     rw [ea, if_pos rfl, et]
     refine .pure ?_
     show (wr ((A.length : Int) + ((wq n F j).idxOf b : Int)), true, (0 : Int)) = _
     rw [wr_id (by omega), hA, idx_l (by simp [hm2]), idx_r hb]
     simp
    ·have ea : ahead b (wq n F j) = (0, false) := if_neg hm2
     rw [ea, if_neg (by simp)]
     refine .bind' (.eq (ix_nat hs) (.pure ⟨⟨j, A ++ wq n F j, by omega, ?_, hA, ?_, by simp [hb, hm2]⟩, ?_⟩))
     ·dsimp only; rw [wr_id (by omega)]
     ·dsimp only; rw [wr_id (by omega), List.length_append]; omega
     ·dsimp only; rw [wr_id (by omega)]; omega
   ·dsimp only at h
    obtain rfl : k = 0 := by omega
    rw [hA]; simpa [cat] using hb
  ·rintro (r | _) h
   ·exact .pure h
   ·have ea : ahead b (cat (wq n F) m) = (0, false) := if_neg h
    rw [ea]; exact .pure rfl
 obtain ⟨r, h1, rfl⟩ := this
 exact h1
end
theorem awake30 : L.zuro = some true := by kernel_rfl
def nz (c : UInt8) (k : Nat) : ByteArray := ⟨#[c, 48 + UInt8.ofNat k]⟩
structure LSeg (k : Nat) (s : Segment) (h : Hop) : Prop where
 name : s.Name = nz 103 (k + 1)
 ends : s.From = (k : Int) ∧ s.To = (k : Int) + 1 ∨ s.From = (k : Int) + 1 ∧ s.To = (k : Int)
 cap : 10 ≤ s.Capacity ∧ s.Capacity ≤ 60
 rest : s.Resist = 0 ∧ s.Wave = 0
 points : s.Points = [⟨0, 0, 1000⟩, ⟨s.Capacity, 0, 1000⟩]
 hop : h = ⟨(k : Int), decide (s.From > s.To)⟩
theorem LSeg.b {k m : Nat} {s : Segment} {h : Hop} (hs : LSeg k s h) (hk : k < m) : SegB (m + 1) s := by
 have h1 := hs.ends; have h2 := hs.cap; have h3 := hs.rest
 refine ⟨by omega, by omega, by omega, by omega, ?_⟩
 rw [hs.points]
 refine ⟨by simp, by simp, by simp, fun i p q hp hq => ?_, by simp, by simp⟩
 rcases i with _ | i
 ·simp at hp hq; subst hp; subst hq; dsimp only; omega
 ·simp at hq
theorem Ok.ixs {s : ByteArray} {i : Int} {P : Nat × Int → Prop} (h0 : 0 ≤ i) (h1 : i < (s.size : Int)) (h : ∀ (k : Nat) (x : Int), i = (k : Int) → 0 ≤ x ∧ x ≤ 255 → P (k, x)) : Ok (ixs s i) P := by
 unfold Aw.ixs
 refine ⟨_, if_pos ⟨h0, h1⟩, h _ _ (by omega) ?_⟩
 have := (s.data.getD i.toNat 0).toNat_lt
 omega
theorem abs16 {x : Int} (h : -1000000 ≤ x ∧ x ≤ 1000000) : L.zuap x = max x (-x) := by
 unfold L.zuap
 rw [wr_id (by omega), Int.zero_sub]
theorem endsOf16 {s : Segment} {r : Int} : L.zdwa s r = L.ztzg s r := rfl
structure Sum16 (b : Int) (st : Int × Int) (d : Int) : Prop where
 come : 0 ≤ st.1 ∧ st.1 ≤ b
 leave : 0 ≤ st.2 ∧ st.2 ≤ b
 diff : st.1 - st.2 = d
theorem sums16_ok {n : Network} (hn : NetG n) {p : Plan} (h4 : p.Rates.length = n.Segments.length) (h5 : p.Ports.length = n.Ports.length) (hr : ∀ (k : Nat) (r : Int), p.Rates[k]? = some r → -1000 ≤ r ∧ r ≤ 1000)
  (hp : ∀ (k : Nat) (x : Int), p.Ports[k]? = some x → -1000 ≤ x ∧ x ≤ 1000) (v : Nat) : Ok (L.zeew n p (v : Int)) fun r => r.1 - r.2 = dot (wt n v) p.Rates + dot (wp n v) p.Ports := by
 have h2 := hn.segs1; have h3 := hn.ports1
 unfold L.zeew
 refine .bind (.forS (fun k (st : Int × Int) => Sum16 (1000 * k) st (dot (wt n v) (p.Rates.take k))) ⟨by simp, by simp, by simp [dot_nil]⟩ ?_ fun st h => h) ?_
 ·rintro k s ⟨a, b⟩ hs ⟨i1, i2, i3⟩
  dsimp only at i1 i2 i3
  have hkl := (gs hs).1
  have hrk : p.Rates[k]? = some p.Rates[k] := gq (by omega)
  have hrr := hr k _ hrk
  have he := (hn.segs k s hs).ends
  have hd := dot_take_succ (w := wt n v) (a := ind s.To v - ind s.From v) (by unfold wt; rw [List.getElem?_map, hs]; rfl) hrk
  generalize p.Rates[k] = r at hrk hrr hd
  unfold L.zeew.B5
  refine .bind' (.eq (ix_nat hrk) (Ok.iteE (fun h0 => ?_) fun h0 => ?_))
  ·dsimp only at h0
   subst h0
   unfold L.zeew.J6
   rw [hd]
   exact .pure ⟨by dsimp only; omega, by dsimp only; omega, by simp; omega⟩
  dsimp only at h0 ⊢
  have ha := abs16 (x := r) (by omega)
  rw [ha]
  have j7 : ∀ (j : Int), 0 ≤ j ∧ j ≤ 1000 * k + 1000 → ∀ l : Int, l = ind (L.ztzg s r).1 v → j = b + max r (-r) * l → Ok (L.zeew.J7 (v : Int) s (a, b) (k, r) j) fun st => Sum16 (1000 * ((k + 1 : Nat) : Int)) st (dot (wt n v) (p.Rates.take (k + 1))) := by
   intro j hj l hl hjl
   unfold L.zeew.J7 L.zeew.J6
   dsimp only
   rw [ha, endsOf16]
   have fin : ∀ c : Int, c = ind (L.ztzg s r).2 v → a + max r (-r) * c - j = dot (wt n v) (p.Rates.take (k + 1)) := by
    intro c hc
    subst hc; subst hl; subst hjl
    rw [hd]
    rcases endsOf (s := s) h0 with ⟨e, hr0⟩ | ⟨e, hr0⟩
    ·rw [e]
     dsimp only
     rw [show max r (-r) = -r by omega, Int.neg_mul, Int.neg_mul, Int.sub_mul, Int.mul_comm r, Int.mul_comm r]; omega
    ·rw [e]
     dsimp only
     rw [show max r (-r) = r by omega, Int.sub_mul, Int.mul_comm r, Int.mul_comm r]; omega
   refine Ok.iteE (fun hv => .pure ?_) fun hv => .pure ?_
   ·rw [wr_id (by omega)]
    have := fin 1 (by rw [hv, ind_self])
    exact ⟨by dsimp only; omega, by dsimp only; omega, by dsimp only; omega⟩
   ·have := fin 0 (by rw [ind_ne hv])
    exact ⟨by dsimp only; omega, by dsimp only; omega, by dsimp only; omega⟩
  rw [endsOf16]
  refine Ok.iteE (fun hv => j7 _ ?_ 1 (by rw [hv, ind_self]) ?_) fun hv => j7 _ ?_ 0 (by rw [ind_ne hv]) ?_
  ·rw [wr_id (by omega)]; omega
  ·rw [wr_id (by omega)]; omega
  ·omega
  ·omega
 ·rintro ⟨a, b⟩ hi
  rw [List.take_of_length_le (by omega)] at hi
  unfold L.zeew.J1
  refine .bind (.forS (fun k (st : Int × Int) => Sum16 (8000 + 1000 * k) st (dot (wt n v) p.Rates + dot (wp n v) (p.Ports.take k))) ⟨by have := hi.come; dsimp only at this ⊢; omega, by have := hi.leave; dsimp only at this ⊢; omega, by have := hi.diff; dsimp only at this ⊢; simp [dot_nil]; omega⟩ ?_ fun st h => h) ?_
  ·rintro k s ⟨a, b⟩ hs ⟨i1, i2, i3⟩
   dsimp only at i1 i2 i3
   have hkl := (gs hs).1
   have hrk : p.Ports[k]? = some p.Ports[k] := gq (by omega)
   have hrr := hp k _ hrk
   have hd := dot_take_succ (w := wp n v) (a := ind s.Node v) (by unfold wp; rw [List.getElem?_map, hs]; rfl) hrk
   generalize p.Ports[k] = r at hrk hrr hd
   unfold L.zeew.B3 L.zeew.J4
   refine Ok.iteE (fun hv => .bind' (.eq (ix_nat hrk) (.pure ?_))) fun hv => .pure ?_
   ·rw [hv, ind_self] at hd
    dsimp only
    rw [wr_id (x := 0 - r) (by omega), wr_id (by omega), wr_id (by omega), hd]
    exact ⟨by dsimp only; omega, by dsimp only; omega, by dsimp only; omega⟩
   ·rw [ind_ne hv] at hd
    rw [hd]
    exact ⟨by dsimp only; omega, by dsimp only; omega, by dsimp only; omega⟩
  ·rintro ⟨a, b⟩ hi
   rw [List.take_of_length_le (by omega)] at hi
   unfold L.zeew.J2
   exact .pure hi.diff
def Ready (n : Network) (p : Plan) (there : List Bool) (k : Nat) : Prop :=
 there[k]? = some false ∧ ∀ (i : Nat) (s : Segment) (r : Int) (f : Nat), n.Segments[i]? = some s → p.Rates[i]? = some r → r ≠ 0 → (L.ztzg s r).1 = (f : Int) → (L.ztzg s r).2 = (k : Int) → there[f]? = some true
theorem order16_fullG {n : Network} (hn : NetG n) {p : Plan} (h4 : p.Rates.length = n.Segments.length) (hac : Acyc n p) : Ok (L.zaew n p) fun r => r.length = n.Nodes.length := by
 have h1 := hn.nodes; have h2 := hn.segs1
 unfold L.zaew
 refine .bind' (.mk n.Nodes.length rfl (by omega) ?_)
 refine .bind (Q := fun r : List Int => r.length = n.Nodes.length) ?_ fun r hr => .pure hr
 refine .loop (fun st : List Int × List Bool => st.2.length = n.Nodes.length ∧ st.1.length = cnt st.2) (fun st => n.Nodes.length - cnt st.2)
  ⟨by simp, by simp [cnt_rep]⟩ (by dsimp only; omega) ?_
 rintro ⟨out, there⟩ ⟨i1, i2⟩
 dsimp only at i1 i2
 have hc := cnt_le there
 unfold L.zaew.B1
 refine .bind (Q := fun k : Int => (k = -1 ∧ ∀ j : Nat, there[j]? = some false → Blocked n p there j) ∨ ∃ j : Nat, k = (j : Int) ∧ there[j]? = some false) ?_ ?_
 ·refine .forS (fun m (k : Int) => (k = -1 ∧ ∀ j : Nat, j < m → there[j]? = some false → Blocked n p there j) ∨ ∃ j : Nat, k = (j : Int) ∧ there[j]? = some false) (.inl ⟨rfl, fun j h => absurd h (Nat.not_lt_zero _)⟩) ?_ ?_
  ·intro k x st hx hst
   have hkl := (gs hx).1
   have ht : there[k]? = some there[k] := gq (by omega)
   unfold L.zaew.B3
   refine .bind' (.eq (ix_nat ht) ?_)
   refine .bind (Q := fun b => (b = true → there[k]? = some false) ∧ (b = false → there[k]? = some false → Blocked n p there k)) ?_ ?_
   ·refine .forS (fun m (b : Bool) => (b = true → there[k]? = some false) ∧ (b = false → there[k]? = some false → Blocked n p there k)) ?_ ?_ fun b h => h
    ·refine ⟨fun hb => ?_, fun hb hf => ?_⟩
     ·rw [ht]; simpa using hb
     ·rw [ht] at hf; simp at hf; simp [hf] at hb
    ·intro i s b hs hb
     have hil := (gs hs).1
     have hr : p.Rates[i]? = some (p.Rates[i]'(by omega)) := gq _
     generalize p.Rates[i]'(by omega) = r at hr
     have he := (hn.segs i s hs).ends
     unfold L.zaew.B6 L.zaew.J7
     refine .bind' (.eq (ix_nat hr) (Ok.iteU (fun hr0 => Ok.iteB (fun hbt => Ok.iteU (fun hto => .pure ⟨fun _ => hb.1 hbt, fun h => by cases h⟩) fun hto => ?_) fun hbf => .pure ⟨fun h => (by cases h), fun _ => hb.2 hbf⟩) fun _ => .pure hb))
     dsimp only at hr0 hto ⊢
     rw [endsOf16] at hto
     have hfr : 0 ≤ (L.ztzg s r).1 ∧ (L.ztzg s r).1 < (n.Nodes.length : Int) := by
      unfold L.ztzg
      split <;> dsimp only <;> omega
     rw [endsOf16]
     refine .bind' (.ix' hfr.1 (by omega) fun f y hf hy => .pure ⟨fun _ => hb.1 hbt, fun hyf _ => ⟨i, s, r, f, hs, hr, hr0, hto, hf, ?_⟩⟩)
     dsimp only at hy hyf
     rw [hy, hyf]
   ·rintro b ⟨b1, b2⟩
    unfold L.zaew.J5 L.zaew.J4
    refine Ok.iteB (fun h => .pure (.inr ⟨k, rfl, b1 ?_⟩)) fun hno => .pure ?_
    ·simp at h; exact h.1
    ·rcases hst with ⟨rfl, hst⟩ | hst
     ·refine .inl ⟨rfl, fun j hj hf => ?_⟩
      by_cases hjk : j = k
      ·subst hjk
       simp at hno
       exact b2 hno hf
      ·exact hst j (by omega) hf
     ·exact .inr hst
  ·rintro k (⟨rfl, h⟩ | h)
   ·exact .inl ⟨rfl, fun j hj => h j (by have := (gs hj).1; omega) hj⟩
   ·exact .inr h
 ·intro k hk
  unfold L.zaew.J2
  refine Ok.iteD (fun hneg => .pure ?_) fun h0 => ?_
  ·rcases hk with ⟨_, h⟩ | ⟨j, rfl, _⟩
   ·have := cnt_all (hac there i1 h)
    simp only [Sum.elim_inr]
    omega
   ·omega
  ·rcases hk with ⟨rfl, _⟩ | ⟨j, rfl, hj1⟩
   ·exact absurd (by decide) h0
   refine .bind' (.app (by simp; omega) (.bind' (.eq (ix_nat hj1) (.pure ?_))))
   have hcs := cnt_set hj1
   have hcl := cnt_le (there.set j true)
   simp at hcl
   exact ⟨⟨by simp [i1], by simp [hcs, i2]⟩, by dsimp only; omega⟩
theorem check16G {n : Network} (hn : NetG n) (h12 : L.zgcl n = some 0) {p : Plan} (h : FlowOk n p) : L.zvqa n p = some 0 := by
 have : Ok (L.zvqa n p) fun r => r = 0 := by
  have h1 := hn.nodes; have h2 := hn.segs1; have h3 := hn.ports1; have h4 := h.rl; have h5 := h.pl; have h6 := h.ml
  have hrr : ∀ (k : Nat) (r : Int), p.Rates[k]? = some r → -1000 ≤ r ∧ r ≤ 1000 := fun k r hr => by
   have hkl := (gs hr).1
   have hs : n.Segments[k]? = some (n.Segments[k]'(by omega)) := gq _
   have := h.rng k r _ hr hs
   omega
  unfold L.zvqa
  rw [h12]
  refine .bind' (.pure (Ok.iteU (fun h => absurd rfl h) fun _ => Ok.iteB (fun hb => by simp [h4, h5, h6] at hb) fun _ => ?_))
  refine .bind' (.forL (fun _ _ => True) (fun _ => False) trivial ?_ ?_ fun _ h => h.elim)
  ·intro k r _ hr _
   have hkl := (gs hr).1
   have hs : n.Segments[k]? = some n.Segments[k] := gq (by omega)
   have hc := (hn.segs k _ hs).cap
   have hg := h.rng k r _ hr hs
   unfold L.zvqa.B6
   refine .bind' (.eq (ix_nat hs) (Ok.iteB (fun hb => ?_) fun _ => .pure trivial))
   dsimp only at hb
   rw [wr_id (by omega)] at hb
   simp at hb; omega
  intro _ _
  simp only [Sum.elim_inl]
  unfold L.zvqa.J1
  refine .bind' (.forL (fun _ _ => True) (fun _ => False) trivial ?_ ?_ fun _ h => h.elim)
  ·intro k x _ hx _
   have := h.prt k x hx
   unfold L.zvqa.B5
   exact Ok.iteB (fun hb => by simp at hb; omega) fun _ => .pure trivial
  intro _ _
  simp only [Sum.elim_inl]
  unfold L.zvqa.J2
  refine .bind' (.forL (fun _ _ => True) (fun _ => False) trivial ?_ ?_ fun _ h => h.elim)
  ·intro k x _ hx _
   have hkl := (gs hx).1
   unfold L.zvqa.B4
   refine .bind (sums16_ok hn h4 h5 hrr h.prt k) fun r hr => Ok.iteU (fun hne => ?_) fun _ => .pure trivial
   have := h.bal k (by omega)
   omega
  intro _ _
  simp only [Sum.elim_inl]
  unfold L.zvqa.J3
  exact .bind (order16_fullG hn h4 h.acyc) fun r hr => Ok.iteU (fun hne => by omega) fun _ => .pure rfl
 obtain ⟨r, h, rfl⟩ := this
 exact h
def lpsh (k : Int) (l : List Lot) (x : Piece) : List Lot :=
 match l.getLast? with
 | some q => if q.Batch = x.Batch then l.dropLast ++ [⟨q.Batch, q.Volume + x.Volume, q.Done⟩] else l ++ [⟨x.Batch, x.Volume, k⟩]
 | none => [⟨x.Batch, x.Volume, k⟩]
theorem lpsh_nil (k : Int) (x : Piece) : lpsh k [] x = [⟨x.Batch, x.Volume, k⟩] := rfl
theorem lpsh_snoc (k : Int) (l : List Lot) (q : Lot) (x : Piece) : lpsh k (l ++ [q]) x = if q.Batch = x.Batch then l ++ [⟨q.Batch, q.Volume + x.Volume, q.Done⟩] else l ++ [q] ++ [⟨x.Batch, x.Volume, k⟩] := by simp [lpsh]
def lvol (l : List Lot) : Int := (l.map (·.Volume)).sum
theorem lvol_app (l m : List Lot) : lvol (l ++ m) = lvol l + lvol m := by simp [lvol]
theorem lpsh_vol (k : Int) (l : List Lot) (x : Piece) : lvol (lpsh k l x) = lvol l + x.Volume := by
 rcases snoc_cases l with rfl | ⟨a, q, rfl⟩
 ·simp [lpsh_nil, lvol]
 ·rw [lpsh_snoc]
  split
  ·rw [lvol_app, lvol_app]; simp [lvol]; omega
  ·rw [lvol_app]; simp [lvol]
structure LInv (k : Int) (l : List Lot) : Prop where
 up : ∀ (i : Nat) (p q : Lot), l[i]? = some p → l[i + 1]? = some q → p.Done ≤ q.Done ∧ p.Batch ≠ q.Batch
 top : ∀ p, p ∈ l → p.Done ≤ k
 pos : ∀ p, p ∈ l → 1 ≤ p.Volume
theorem LInv.snoc {k : Int} {a : List Lot} {x : Lot} (h : LInv k a) (h1 : x.Done ≤ k) (h2 : 1 ≤ x.Volume) (hn : ∀ q, a.getLast? = some q → q.Done ≤ x.Done ∧ q.Batch ≠ x.Batch) : LInv k (a ++ [x]) := by
 refine ⟨fun i p q hp hq => ?_, fun p hp => ?_, fun p hp => ?_⟩
 ·rw [List.getElem?_append] at hp hq
  split at hq
  ·rw [if_pos (by omega)] at hp; exact h.up i p q hp hq
  ·rename_i hi
   have hb := (gs hq).1
   simp at hb
   have e : i + 1 = a.length := by omega
   rw [if_pos (by omega)] at hp
   simp [e] at hq
   subst hq
   refine hn p ?_
   rw [List.getLast?_eq_getElem?, show a.length - 1 = i by omega]; exact hp
 ·rcases List.mem_append.1 hp with hp | hp
  ·exact h.top p hp
  ·simp at hp; subst hp; exact h1
 ·rcases List.mem_append.1 hp with hp | hp
  ·exact h.pos p hp
  ·simp at hp; subst hp; exact h2
theorem LInv.init {k : Int} {a : List Lot} {x : Lot} (h : LInv k (a ++ [x])) : LInv k a :=
 ⟨fun i p q hp hq => by
  have h1 := (gs hp).1
  have h2 := (gs hq).1
  exact h.up i p q (by rw [List.getElem?_append_left h1]; exact hp) (by rw [List.getElem?_append_left h2]; exact hq), fun p hp => h.top p (by simp [hp]), fun p hp => h.pos p (by simp [hp])⟩
theorem lpsh_inv {k : Int} {l : List Lot} {x : Piece} (h : LInv k l) (hx : 1 ≤ x.Volume) : LInv k (lpsh k l x) := by
 rcases snoc_cases l with rfl | ⟨a, q, rfl⟩
 ·exact LInv.snoc (a := []) ⟨by simp, by simp, by simp⟩ (by dsimp only; omega) hx (by simp)
 ·have h1 := h.top q (by simp); have h2 := h.pos q (by simp)
  rw [lpsh_snoc]
  split
  ·refine h.init.snoc h1 (by dsimp only; omega) fun z hz => ?_
   rw [List.getLast?_eq_getElem?] at hz
   have hzl := (gs hz).1
   exact h.up (a.length - 1) z q (by rw [List.getElem?_append_left (by omega)]; exact hz) (by rw [show a.length - 1 + 1 = a.length by omega]; simp)
  ·rename_i hb
   refine h.snoc (by dsimp only; omega) hx fun z hz => ?_
   simp at hz; subst hz; exact ⟨h1, hb⟩
theorem LInv.mono {k j : Int} {l : List Lot} (h : LInv k l) (hk : k ≤ j) : LInv j l := ⟨h.up, fun p hp => by have := h.top p hp; omega, h.pos⟩
structure Ext (x y : List Lot) : Prop where
 len : x.length ≤ y.length
 lots : ∀ (i : Nat) (p q : Lot), x[i]? = some p → y[i]? = some q → p.Batch = q.Batch ∧ p.Done = q.Done ∧ p.Volume ≤ q.Volume
theorem Ext.refl (x : List Lot) : Ext x x := ⟨Nat.le_refl _, fun i p q hp hq => by rw [hp] at hq; cases hq; exact ⟨rfl, rfl, Int.le_refl _⟩⟩
theorem Ext.trans {x y z : List Lot} (h : Ext x y) (k : Ext y z) : Ext x z := ⟨by have := h.len; have := k.len; omega, fun i p q hp hq => by
 obtain ⟨r, hr⟩ := get_of (l := y) (k := i) (by have := (gs hp).1; have := h.len; omega)
 have h1 := h.lots i p r hp hr; have h2 := k.lots i r q hr hq
 exact ⟨h1.1.trans h2.1, h1.2.1.trans h2.2.1, by omega⟩⟩
theorem fold_inv (k : Int) : ∀ (f : List Piece) (l : List Lot), (∀ p, p ∈ f → 1 ≤ p.Volume) → LInv k l → LInv k (f.foldl (lpsh k) l) ∧ lvol (f.foldl (lpsh k) l) = lvol l + vol f
 | [], l, _, hl => ⟨hl, by simp [vol_nil]⟩
 | x :: f, l, h, hl => by
  obtain ⟨h1, h2⟩ := fold_inv k f (lpsh k l x) (fun p hp => h p (by simp [hp])) (lpsh_inv hl (h x (by simp)))
  exact ⟨h1, by rw [List.foldl_cons, h2, lpsh_vol, vol_cons]; omega⟩
theorem lvol_pos : ∀ (l : List Lot), (∀ p, p ∈ l → 1 ≤ p.Volume) → (l.length : Int) ≤ lvol l ∧ ∀ p, p ∈ l → p.Volume ≤ lvol l
 | [], _ => ⟨by simp [lvol], by simp⟩
 | x :: l, h => by
  have hx := h x (by simp)
  obtain ⟨h1, h2⟩ := lvol_pos l fun p hp => h p (by simp [hp])
  have e : lvol (x :: l) = x.Volume + lvol l := by simp [lvol]
  rw [e]
  refine ⟨by rw [List.length_cons]; omega, fun p hp => ?_⟩
  rcases List.mem_cons.1 hp with rfl | hp
  ·omega
  ·have := h2 p hp; omega
theorem lots_loop {k : Nat} {f : List Piece} {l : List Lot} (hf : ∀ p, p ∈ f → 1 ≤ p.Volume) (hl : LInv k l) (hb : lvol l + vol f ≤ 1000000000) : forS (L.zrct.B5 k) 0 f l = some (f.foldl (lpsh k) l) := by
 have : Ok (forS (L.zrct.B5 k) 0 f l) fun r => r = f.foldl (lpsh k) l := by
  refine .forS (fun i st => st = (f.take i).foldl (lpsh k) l) rfl ?_ fun st h => by rw [h, List.take_length]
  rintro i x _ hx rfl
  have hm := mg hx
  have hx1 := hf x hm
  obtain ⟨g1, g2⟩ := fold_inv k (f.take i) l (fun p hp => hf p (List.mem_of_mem_take hp)) hl
  have h3 : vol f = vol (f.take (i + 1)) + vol (f.drop (i + 1)) := by rw [← vol_app, List.take_append_drop]
  have h4 := vol_pos (f := f.drop (i + 1)) fun p hp => by have := hf p (List.mem_of_mem_drop hp); omega
  have h5 := vol_take_succ hx
  have e : (f.take (i + 1)).foldl (lpsh k) l = lpsh k ((f.take i).foldl (lpsh k) l) x := by rw [List.take_add_one, hx]; simp [List.foldl_append]
  rw [e]
  generalize (f.take i).foldl (lpsh k) l = st at g1 g2
  obtain ⟨b1, b2⟩ := lvol_pos st g1.pos
  unfold L.zrct.B5
  rcases snoc_cases st with rfl | ⟨a, q, rfl⟩
  ·rw [if_neg (by simp; rw [wr_id (by omega)]; omega)]
   unfold L.zrct.J7
   rw [if_neg (by simp), if_pos (by simp; omega)]
   refine .bind' (.app (by simp) (.pure rfl))
  ·have hq := b2 q (by simp); have hq1 := g1.pos q (by simp)
   have e1 : wr (((a ++ [q]).length : Int) - 1) = (a.length : Int) := by
    rw [List.length_append, List.length_singleton] at b1 ⊢; rw [wr_id (by omega)]; omega
   have hi : ix (a ++ [q]) (wr (((a ++ [q]).length : Int) - 1)) = some (a.length, q) := by rw [e1]; exact ix_nat (by simp)
   rw [if_pos (by rw [e1]; simp), hi, Option.bind_some]
   unfold L.zrct.J7
   rw [lpsh_snoc]
   by_cases hb2 : q.Batch = x.Batch
   ·rw [if_pos (by simp [hb2]), hi, Option.bind_some, if_pos hb2]
    dsimp only
    rw [wr_id (by omega)]
    exact .pure (by simp [L.zrct.J6])
   ·rw [if_neg (by simp [hb2]), if_pos (by simp; omega), if_neg hb2]
    refine .bind' (.app (by simp at b1 ⊢; omega) (.pure rfl))
 obtain ⟨r, h1, h2⟩ := this
 rw [h1, h2]
section
variable {n : Network} {p : Plan} {g : List Int} {fs fs0 : List (List Piece)} {F0 F : Nat → List Int} {port : Nat}
inductive Arr (n : Network) (p : Plan) (g : List Int) (fs0 : List (List Piece)) (port : Nat) : Nat → List (List Piece) → List Lot → Prop
 | zero : Arr n p g fs0 port 0 fs0 []
 | succ {k : Nat} {fs fs' os : List (List Piece)} {l : List Lot} {f : List Piece} : Arr n p g fs0 port k fs l → L.zcgl n fs p g = some (fs', os, 0) → os[port]? = some f → (∀ x, x ∈ f → 1 ≤ x.Volume) →
   Arr n p g fs0 port (k + 1) fs' (f.foldl (lpsh k) l)
theorem Arr.det {k : Nat} {l : List Lot} (h : Arr n p g fs0 port k fs l) : ∀ {fs1 : List (List Piece)} {l1 : List Lot}, Arr n p g fs0 port k fs1 l1 → fs = fs1 ∧ l = l1 := by
 induction h with
 | zero => intro _ _ h1; cases h1; exact ⟨rfl, rfl⟩
 | succ h t o _ ih =>
  intro _ _ h1
  cases h1 with
  | succ h2 t2 o2 _ =>
   obtain ⟨rfl, rfl⟩ := ih h2
   rw [t] at t2; cases t2
   rw [o] at o2; cases o2
   exact ⟨rfl, rfl⟩
theorem valid14_ok {f : List Piece} (h : Vd f) : L.zmux f = some true := by
 have h1 := h.len; have h2 := h.vol
 have : Ok (L.zmux f) fun r => r = true := by
  unfold L.zmux
  refine Ok.iteD (fun h => by omega) fun _ => .bind' (.forL (fun k st => st = vol (f.take k)) (fun _ => False) rfl ?_ ?_ (fun _ h => h.elim))
  ·rintro k x _ hx rfl
   have hp := h.piece (mg hx)
   have h3 : vol f = vol (f.take (k + 1)) + vol (f.drop (k + 1)) := by rw [← vol_app, List.take_append_drop]
   have h4 := vol_pos (f := f.drop (k + 1)) fun p hp => h.nn p (List.mem_of_mem_drop hp)
   have h5 := vol_take_succ hx
   have h6 := vol_pos (f := f.take k) fun p hp => h.nn p (List.mem_of_mem_take hp)
   have e : ∀ b, b = false → Ok (L.zmux.J3 x (vol (f.take k)) b) (Sum.elim (fun st : Int => st = vol (f.take (k + 1))) fun _ : Bool => False) := by
    rintro _ rfl
    unfold L.zmux.J3
    rw [if_neg (by simp), wr_id (by omega)]
    exact .pure (by show _ = _; omega)
   unfold L.zmux.B2 L.zcjy
   rw [if_neg (by simp; omega), if_neg (by simp; omega), if_neg (by simp; omega)]
   refine Ok.iteD (fun hk => ?_) fun _ => e _ rfl
   have hkl := (gs hx).1
   rw [wr_id (by omega)]
   refine .bind' (.ix' (by omega) (by omega) fun j y hj hy => e _ ?_)
   have hn := h.can.ne j y x hy (by rw [show j + 1 = k by omega]; exact hx)
   simpa using Ne.symm hn
  ·rintro _ rfl
   rw [List.take_length]
   unfold L.zmux.J1
   exact .pure (by simp; omega)
 obtain ⟨r, h1, rfl⟩ := this
 exact h1
theorem check18_ok (hn : NetG n) (h12 : L.zgcl n = some 0) (h : Fil n fs F0) : L.zjfe n fs = some 0 := by
 have hl := h.rp.len
 have : Ok (L.zjfe n fs) fun r => r = 0 := by
  unfold L.zjfe
  refine .bind' (.eq h12 ?_)
  rw [if_neg (by simp), if_neg (by simp; omega)]
  refine .bind' (.forL (fun _ _ => True) (fun _ => False) trivial ?_ ?_ (fun _ h => h.elim))
  ·intro k x _ hx _
   have hk := (gs hx).1
   have hv := h.vd k (by omega)
   rw [h.rp.get k (by omega)] at hx
   cases hx
   unfold L.zjfe.B4
   rw [valid14_ok hv, Option.bind_some, if_neg (by simp)]
   exact .pure trivial
  ·intro _ _
   show Ok (L.zjfe.J1 n fs ()) _
   unfold L.zjfe.J1
   refine .bind' (.forL (fun _ _ => True) (fun _ => False) trivial ?_ (fun _ _ => .pure rfl) (fun _ h => h.elim))
   intro k x _ hx _
   have hk := (gs hx).1
   have hv := h.vd k (by omega)
   have hvol := hv.vol
   obtain ⟨s, hs⟩ := get_of (l := n.Segments) (k := k) (by omega)
   have hcap := h.cap k s hs
   rw [h.rp.get k (by omega)] at hx
   cases hx
   unfold L.zjfe.B3
   rw [sum14_eq hv.nn (by omega), Option.bind_some, ix_nat hs, Option.bind_some, vol_rle]
   dsimp only
   rw [if_neg (by simp [hcap])]
   exact .pure trivial
 obtain ⟨r, h1, rfl⟩ := this
 exact h1
end
theorem names12W {n : Network} (h1 : n.Segments.length ≤ 1000) (h2 : n.Ports.length ≤ 1000) (h3 : n.Stations.length ≤ 1000) :
  Ok (L.zghg n) fun r => r.l = [n.Nodes, n.Segments.map (·.Name), n.Ports.map (·.Name), n.Stations.map (·.Name)] := by
 unfold L.zghg
 refine .bind (maps_ok (g := (·.Name)) (fun _ _ _ => rfl) h1) ?_
 rintro _ rfl
 unfold L.zghg.J1
 refine .bind (maps_ok (g := (·.Name)) (fun _ _ _ => rfl) h2) ?_
 rintro _ rfl
 unfold L.zghg.J2
 refine .bind (maps_ok (g := (·.Name)) (fun _ _ _ => rfl) h3) ?_
 rintro _ rfl
 unfold L.zghg.J3
 exact .pure rfl
theorem twice12W {l : List ByteArray} (hl : l.length ≤ 1000) (hd : ∀ (i j : Nat) (x y : ByteArray), l[i]? = some x → l[j]? = some y → sEq x y = true → i = j) : L.zaag l = some false := by
 have : Ok (L.zaag l) fun r => r = false := by
  unfold L.zaag
  refine .bind' (.forL (fun _ _ => True) (fun _ => False) trivial ?_ (fun _ _ => .pure rfl) fun _ h => h.elim)
  intro k x _ hx _
  have hkl := (gs hx).1
  unfold L.zaag.B2
  refine .bind (Q := fun d : Bool ⊕ Unit => d = .inr ()) ?_ ?_
  ·refine .loop (fun st : Int => 0 ≤ st ∧ st ≤ (k : Int)) (fun st => k - st.toNat) ⟨by omega, by omega⟩ (by omega) ?_
   rintro st ⟨h0, h3⟩
   unfold L.zaag.B4
   refine Ok.iteD (fun hlt => .bind' (.ix' h0 (by omega) fun j y hj hy => Ok.iteB (fun he => ?_) fun _ => .pure ?_)) fun _ => .pure rfl
   ·have := hd k j x y hx hy he
    omega
   ·rw [wr_id (by omega)]
    exact ⟨⟨by omega, by omega⟩, by omega⟩
  ·rintro _ rfl
   exact .pure trivial
 obtain ⟨r, h, rfl⟩ := this
 exact h
theorem proper12W {nodes : Nat} {s : Segment} (h : SegB nodes s) : L.zimi s = some true := by
 have : Ok (L.zimi s) fun r => r = true := by
  have hp := h.points
  have h1 := h.ends; have h2 := h.cap; have h3 := h.resist; have h4 := h.wave; have h5 := hp.len
  have e0 : s.Points[0]? = some s.Points[0] := gq (by omega)
  have el : s.Points[s.Points.length - 1]? = some s.Points[s.Points.length - 1] := gq (by omega)
  have q0 := hp.first _ e0; have ql := hp.last _ el
  unfold L.zimi
  refine Ok.iteE (fun h => by omega) fun _ => Ok.iteN (fun hb => by simp [L.zmae] at hb; omega) fun _ => Ok.iteN (fun hb => by simp [L.zmae] at hb; omega) fun _ => Ok.iteN (fun hb => by simp [L.zmae] at hb; omega) fun _ => ?_
  refine .bind' (.ix 0 rfl (by omega) (Ok.iteU (fun h => absurd q0 h) fun _ => ?_))
  rw [wr_id (by omega)]
  refine .bind' (.ix (s.Points.length - 1) (by omega) (by omega) ?_)
  dsimp only
  rw [ql]
  unfold L.zimi.J1
  refine Ok.iteB (fun h => by simp at h) fun _ => .bind' (.forL (fun _ _ => True) (fun _ => False) trivial ?_ (fun _ _ => .pure rfl) fun _ h => h.elim)
  intro i p _ hi _
  have hm := mg hi
  have g1 := hp.height p hm; have g2 := hp.limit p hm
  have no : Ok (L.zimi.J4 (!(L.zmae p.Limit 0 100000000))) (Sum.elim (fun _ : Unit => True) fun _ : Bool => False) := by
   unfold L.zimi.J4
   refine Ok.iteN (fun hb => by simp [L.zmae] at hb; omega) fun _ => .pure trivial
  unfold L.zimi.B3
  refine Ok.iteD (fun h0 => ?_) fun h0 => Ok.iteN (fun hb => by simp [L.zmae] at hb; omega) fun _ => no
  rw [wr_id (by have := (gs hi).1; omega)]
  obtain ⟨j, rfl⟩ : ∃ j, i = j + 1 := ⟨i - 1, by omega⟩
  have hjl : j < s.Points.length := by have := (gs hi).1; omega
  have hj : s.Points[j]? = some s.Points[j] := gq hjl
  have hup := hp.up j _ p hj hi
  refine .bind' (.ix j (by omega) hjl (Ok.iteD (fun h => by dsimp only at h; omega) fun _ => Ok.iteN (fun hb => by simp [L.zmae] at hb; omega) fun _ => no))
 obtain ⟨r, h, rfl⟩ := this
 exact h
theorem check12W {n : Network} (h : NetW n) (h03 : ∀ l, l ∈ [n.Nodes, n.Segments.map (·.Name), n.Ports.map (·.Name), n.Stations.map (·.Name)] → ∀ (k : Nat) x, l[k]? = some x → L.zgmr x = some true) : L.zgcl n = some 0 := by
 have : Ok (L.zgcl n) fun r => r = 0 := by
  have h1 := h.nodes; have h2 := h.segs1; have h3 := h.ports1; have h4 := h.sts1; have h5 := h.vapour; have h6 := h.settle
  have T : ∀ {α β : Type} {l : List α} {f : Nat → α → Unit → Option (Unit ⊕ β)} {K : Unit ⊕ β → Option β} {P : β → Prop}, (∀ k x, l[k]? = some x → f k x () = some (.inl ())) → Ok (K (.inl ())) P → Ok ((forL f 0 l ()).bind K) P := by
   intro α β l f K P hf hK
   refine .bind' (.forL (fun _ _ => True) (fun _ => False) trivial (fun k x st hx _ => ?_) (fun _ _ => hK) fun _ h => h.elim)
   exact ⟨_, hf k x hx, trivial⟩
  unfold L.zgcl
  refine Ok.iteB (fun hb => by simp [L.zmae] at hb; omega) fun _ => T (fun k x hx => ?_) ?_
  ·have := (h.segs k x hx).points.len
   unfold L.zgcl.B24; rw [if_neg (by simp [L.zmae]; omega)]
  simp only [Sum.elim_inl]
  unfold L.zgcl.J1
  refine .bind (names12W (by omega) (by omega) (by omega)) fun r hr => ?_
  have hnm : ∀ (k : Nat) (hk : k < 4), r.l[k]'(by rw [hr]; exact hk) = ([n.Nodes, n.Segments.map (·.Name), n.Ports.map (·.Name), n.Stations.map (·.Name)])[k]'hk := fun k hk => by simp only [hr]
  refine .bind' (.forI (fun _ _ => True) (fun _ => False) trivial ?_ ?_ fun _ h => h.elim)
  ·intro k _ hk _
   have hl := h03 _ (List.getElem_mem (l := [n.Nodes, n.Segments.map (·.Name), n.Ports.map (·.Name), n.Stations.map (·.Name)]) (n := k) hk)
   unfold L.zgcl.B21
   refine .bind' (.ix k rfl (by rw [hr]; exact hk) ?_)
   dsimp only
   rw [hnm k hk]
   refine .bind' (.forL (fun _ _ => True) (fun _ => False) trivial ?_ (fun _ _ => .pure trivial) fun _ h => h.elim)
   intro j x _ hx _
   unfold L.zgcl.B23
   rw [hl j x hx]
   exact .bind' (.pure (Ok.iteN (fun h => by cases h) fun _ => .pure trivial))
  intro _ _
  simp only [Sum.elim_inl]
  unfold L.zgcl.J2
  refine .bind' (.forI (fun _ _ => True) (fun _ => False) trivial ?_ ?_ fun _ h => h.elim)
  ·intro k _ hk _
   have hl := h.named _ (List.getElem_mem (l := [n.Nodes, n.Segments.map (·.Name), n.Ports.map (·.Name), n.Stations.map (·.Name)]) (n := k) hk)
   unfold L.zgcl.B20
   refine .bind' (.ix k rfl (by rw [hr]; exact hk) ?_)
   dsimp only
   rw [hnm k hk, twice12W (by have := hl.1; omega) hl.2.2]
   exact .bind' (.pure (Ok.iteB (fun h => by cases h) fun _ => .pure trivial))
  intro _ _
  simp only [Sum.elim_inl]
  unfold L.zgcl.J3
  refine .bind' (.forL (fun _ _ => True) (fun _ => False) trivial ?_ ?_ fun _ h => h.elim)
  ·intro k x _ hx _
   have hkl := (gs hx).1
   unfold L.zgcl.B17
   refine .bind (Q := fun d : Int ⊕ Unit => d = .inr ()) ?_ ?_
   ·refine .loop (fun st : Int => 0 ≤ st ∧ st ≤ (k : Int)) (fun st => k - st.toNat) ⟨by omega, by omega⟩ (by omega) ?_
    rintro st ⟨h0, h1⟩
    unfold L.zgcl.B19
    refine Ok.iteD (fun hlt => .bind' (.ix' h0 (by omega) fun j y hj hy => Ok.iteE (fun he => ?_) fun _ => .pure ?_)) fun _ => .pure rfl
    ·have := h.stsUp j k y x (by omega) hy hx
     dsimp only at he; omega
    ·rw [wr_id (by omega)]
     exact ⟨⟨by omega, by omega⟩, by omega⟩
   ·rintro _ rfl
    exact .pure trivial
  intro _ _
  simp only [Sum.elim_inl]
  unfold L.zgcl.J4
  refine T (fun k x hx => ?_) ?_
  ·have := (h.segs k x hx).ends
   unfold L.zgcl.B16; rw [wr_id (by omega), if_neg (by simp [L.zmae]; omega)]
  simp only [Sum.elim_inl]
  unfold L.zgcl.J5
  refine T (fun k x hx => ?_) ?_
  ·have := (h.ports k x hx).1
   unfold L.zgcl.B15; rw [wr_id (by omega), if_neg (by simp [L.zmae]; omega)]
  simp only [Sum.elim_inl]
  unfold L.zgcl.J6
  refine T (fun k x hx => ?_) ?_
  ·have := (h.sts k x hx).node
   unfold L.zgcl.B14; rw [wr_id (by omega), if_neg (by simp [L.zmae]; omega)]
  simp only [Sum.elim_inl]
  unfold L.zgcl.J7
  refine T (fun k x hx => ?_) ?_
  ·unfold L.zgcl.B13; rw [proper12W (h.segs k x hx)]; rfl
  simp only [Sum.elim_inl]
  unfold L.zgcl.J8
  refine T (fun k x hx => ?_) ?_
  ·have := (h.ports k x hx).2
   unfold L.zgcl.B12; rw [if_neg (by simp [L.zmae]; omega)]
  simp only [Sum.elim_inl]
  unfold L.zgcl.J9
  refine T (fun k x hx => ?_) ?_
  ·have a1 := (h.sts k x hx).head; have a2 := (h.sts k x hx).fall; have a3 := (h.sts k x hx).suction
   unfold L.zgcl.B11; rw [if_neg (by simp [L.zmae]; omega)]
  simp only [Sum.elim_inl]
  unfold L.zgcl.J10
  exact Ok.iteB (fun hb => by simp [L.zmae] at hb; omega) fun _ => .pure rfl
 obtain ⟨r, h, rfl⟩ := this
 exact h
theorem endsG {n : Network} {p : Plan} (hn : NetG n) {i : Nat} {s : Segment} {r : Int} (hf : Flw n p i s r) : ∃ a c : Nat, (L.ztzg s r).1 = (a : Int) ∧ (L.ztzg s r).2 = (c : Int) ∧ a < n.Nodes.length ∧ c < n.Nodes.length ∧ a ≠ c := by
 have he := (hn.segs i s hf.seg).ends
 rcases endsOf (s := s) hf.ne with ⟨h, _⟩ | ⟨h, _⟩ <;> rw [h] <;> dsimp only
 ·exact ⟨s.To.toNat, s.From.toNat, by omega, by omega, by omega, by omega, by omega⟩
 ·exact ⟨s.From.toNat, s.To.toNat, by omega, by omega, by omega, by omega, by omega⟩
theorem ready16G {n : Network} (hn : NetG n) {p : Plan} (h4 : p.Rates.length = n.Segments.length) {out : List Int} {there : List Bool} (i1 : there.length = n.Nodes.length) :
  Ok (forS (L.zaew.B3 n p (out, there)) 0 n.Nodes (-1)) fun k : Int => k = -1 ∨ ∃ j : Nat, k = (j : Int) ∧ Ready n p there j := by
 have h1 := hn.nodes; have h2 := hn.segs1
 refine .forS (fun _ (k : Int) => k = -1 ∨ ∃ j : Nat, k = (j : Int) ∧ Ready n p there j) (.inl rfl) ?_ fun _ h => h
 intro k x st hx hst
 have hkl := (gs hx).1
 have ht : there[k]? = some there[k] := gq (by omega)
 unfold L.zaew.B3
 refine .bind' (.eq (ix_nat ht) ?_)
 refine .bind (Q := fun b => b = true → Ready n p there k) ?_ ?_
 ·refine .forS (fun m (b : Bool) => b = true → there[k]? = some false ∧ ∀ (i : Nat) (s : Segment) (r : Int) (f : Nat), i < m → n.Segments[i]? = some s → p.Rates[i]? = some r → r ≠ 0 → (L.ztzg s r).1 = (f : Int) → (L.ztzg s r).2 = (k : Int) → there[f]? = some true) ?_ ?_ ?_
  ·intro hb
   refine ⟨?_, fun i s r f hi => absurd hi (Nat.not_lt_zero _)⟩
   rw [ht]
   simpa using hb
  ·intro i s b hs hb
   have hil := (gs hs).1
   have hr : p.Rates[i]? = some p.Rates[i] := gq (by omega)
   have he := (hn.segs i s hs).ends
   have step : ∀ b' : Bool, (b' = true → b = true ∧ (p.Rates[i] ≠ 0 → ∀ f : Nat, (L.ztzg s p.Rates[i]).1 = (f : Int) → (L.ztzg s p.Rates[i]).2 = (k : Int) → there[f]? = some true)) → Ok (L.zaew.J7 b') fun b => b = true → there[k]? = some false ∧ ∀ (j : Nat) (s : Segment) (r : Int) (f : Nat), j < i + 1 → n.Segments[j]? = some s → p.Rates[j]? = some r → r ≠ 0 → (L.ztzg s r).1 = (f : Int) → (L.ztzg s r).2 = (k : Int) → there[f]? = some true := by
    intro b' hb'
    unfold L.zaew.J7
    refine .pure fun hbt => ?_
    obtain ⟨hbb, hlast⟩ := hb' hbt
    obtain ⟨q1, q2⟩ := hb hbb
    refine ⟨q1, fun j s' r f hj hs' hr' hr0 hf htt => ?_⟩
    by_cases hji : j = i
    ·subst hji
     rw [hs] at hs'; rw [hr] at hr'
     simp at hs' hr'
     subst hs'; subst hr'
     exact hlast hr0 f hf htt
    ·exact q2 j s' r f (by omega) hs' hr' hr0 hf htt
   unfold L.zaew.B6
   refine .bind' (.eq (ix_nat hr) (Ok.iteU (fun hr0 => Ok.iteB (fun hbt => Ok.iteU (fun hto => step _ fun _ => ⟨hbt, fun _ f hf htt => absurd htt hto⟩) fun hto => ?_) fun _ => step _ fun h => by cases h) fun hr0 => step _ fun h => ⟨h, fun h0 => absurd hr0 h0⟩))
   have hfr : 0 ≤ (L.zdwa s p.Rates[i]).1 ∧ (L.zdwa s p.Rates[i]).1 < (n.Nodes.length : Int) := by
    unfold L.zdwa
    split <;> dsimp only <;> omega
   refine .bind' (.ix' hfr.1 (by dsimp only; omega) fun f y hf hy => step _ fun hy1 => ⟨hbt, fun _ f' hf' _ => ?_⟩)
   dsimp only at hf hy hy1
   rw [endsOf16] at hf
   have : f' = f := by omega
   subst this
   rw [hy, hy1]
  ·intro b hb hbt
   obtain ⟨q1, q2⟩ := hb hbt
   exact ⟨q1, fun i s r f hs => q2 i s r f (gs hs).1 hs⟩
 ·intro b hb
  unfold L.zaew.J5 L.zaew.J4
  refine Ok.iteB (fun h => .pure (.inr ⟨k, rfl, hb ?_⟩)) fun _ => .pure hst
  simp at h; exact h.1
theorem order16_topoG {n : Network} (hn : NetG n) {p : Plan} (h : FlowOk n p) : Ok (L.zaew n p) fun r => Topo n p r ∧ ∀ v : Nat, v < n.Nodes.length → (v : Int) ∈ r := by
 have h1 := hn.nodes; have h2 := hn.segs1; have h4 := h.rl
 have key : Ok (L.zaew n p) fun r => Topo n p r := by
  unfold L.zaew
  refine .bind' (.mk n.Nodes.length rfl (by omega) ?_)
  refine .bind (Q := fun r : List Int => Topo n p r) ?_ fun r hr => .pure hr
  refine .loop (fun st : List Int × List Bool => st.2.length = n.Nodes.length ∧ st.1.length = cnt st.2 ∧ Topo n p st.1 ∧ ∀ v : Nat, st.2[v]? = some true ↔ (v : Int) ∈ st.1) (fun st => n.Nodes.length - cnt st.2)
   ⟨by simp, by simp [cnt_rep], ⟨by simp, by simp, by simp⟩, fun v => by simp [List.getElem?_replicate]⟩ (by dsimp only; omega) ?_
  rintro ⟨out, there⟩ ⟨i1, i2, i3, i4⟩
  dsimp only at i1 i2 i3 i4
  have hc := cnt_le there
  unfold L.zaew.B1
  refine .bind (ready16G hn h4 i1) fun k hk => ?_
  unfold L.zaew.J2
  refine Ok.iteD (fun _ => .pure i3) fun h0 => ?_
  rcases hk with rfl | ⟨j, rfl, hj1, hj2⟩
  ·exact absurd (by decide) h0
  have hjl := (gs hj1).1
  have hnot : (j : Int) ∉ out := fun hm => by have := (i4 j).2 hm; rw [hj1] at this; cases this
  refine .bind' (.app (by simp; omega) (.bind' (.eq (ix_nat hj1) (.pure ?_))))
  have hcs := cnt_set hj1
  have hcl := cnt_le (there.set j true)
  simp at hcl
  refine ⟨⟨by simp [i1], by simp [hcs, i2], ⟨fun v hv => ?_, ?_, fun k v hk i s r hf hto => ?_⟩, fun v => ?_⟩, by dsimp only; omega⟩
  ·dsimp only at hv
   rcases List.mem_append.1 hv with hv | hv
   ·exact i3.rng v hv
   ·simp at hv; omega
  ·dsimp only
   exact List.nodup_append.2 ⟨i3.nodup, by simp, fun a ha b hb he => by simp at hb; subst hb; subst he; exact hnot ha⟩
  ·dsimp only at hk ⊢
   rw [List.getElem?_append] at hk
   split at hk
   ·rename_i hkl
    rw [List.take_append_of_le_length (by omega)]
    exact i3.topo k v hk i s r hf hto
   ·rename_i hkl
    have hl := (gs hk).1
    simp at hl
    have : k = out.length := by omega
    subst this
    simp at hk
    subst hk
    rw [List.take_left]
    obtain ⟨a, c, ha, _, hal, _⟩ := endsG hn hf
    rw [ha]
    exact (i4 a).1 (hj2 i s r a hf.seg hf.rate hf.ne ha hto)
  ·dsimp only
   by_cases hv : v = j
   ·subst hv
    rw [List.getElem?_set_self (by omega)]; simp
   ·rw [List.getElem?_set_ne (Ne.symm hv), i4 v]
    simp; omega
 refine (key.and (order16_fullG hn h4 h.acyc)).mono fun r hr => ⟨hr.1, fun v hv => ?_⟩
 obtain ⟨hT, hl⟩ := hr
 refine Classical.byContradiction fun hno => ?_
 have hnd : ((v : Int) :: r).Nodup := List.nodup_cons.2 ⟨hno, hT.nodup⟩
 have := hnd.length_le_of_subset (l₂ := (List.range n.Nodes.length).map fun v : Nat => (v : Int)) fun w hw => by
  rcases List.mem_cons.1 hw with rfl | hw
  ·exact List.mem_map.2 ⟨v, List.mem_range.2 hv, rfl⟩
  ·have := hT.rng w hw
   exact List.mem_map.2 ⟨w.toNat, List.mem_range.2 (by omega), by omega⟩
 simp at this; omega
theorem next17_one {r g : Int} (hr : 1 ≤ r) : L.zcdm [r] [g] = some 0 := by
 unfold L.zcdm
 simp only [forS, L.zcdm.B2]
 rw [if_pos (by simp; omega), if_pos (by simp)]
 rfl
theorem hand_one {l : List Piece} (hv : Vd l) {r : Int} (hr : 1 ≤ r) : L.zjah l [r] = some [l] := by
 have hvol := hv.vol; have hlen := hv.len
 have : Ok (L.zjah l [r]) fun q => q = [l] := by
  unfold L.zjah
  refine .bind' (.mk 1 rfl (by omega) (.bind' (.mk 1 rfl (by omega) ?_)))
  refine .bind (Q := fun st : List (List Piece) × List Int => st.1 = [l]) (.forS (fun k st => st = ([l.take k], [vol (l.take k)])) rfl ?_ fun st h => by rw [h, List.take_length]) ?_
  ·rintro k x _ hx rfl
   have hp := hv.piece (mg hx)
   have e2 := vol_take_succ hx
   have e3 := vol_pos (f := l.drop (k + 1)) fun q hq => hv.nn q (List.mem_of_mem_drop hq)
   have e4 : vol l = vol (l.take (k + 1)) + vol (l.drop (k + 1)) := by rw [← vol_app, List.take_append_drop]
   have e5 := vol_pos (f := l.take k) fun q hq => hv.nn q (List.mem_of_mem_take hq)
   unfold L.zjah.B4
   refine .bind' (.app (by simp) ?_)
   refine .bind (Q := fun d : List Int => d = [vol (l.take (k + 1))]) (.loop (fun st => 0 ≤ st.2 ∧ st.2 ≤ x.Volume ∧ st.1 = [vol (l.take k) + st.2]) (fun st => (x.Volume - st.2).toNat) ⟨by dsimp only; omega, by dsimp only; omega, by simp⟩ (by dsimp only; omega) ?_) ?_
   ·rintro ⟨gg, i⟩ ⟨i1, i2, i3⟩
    dsimp only at i1 i2 i3
    subst i3
    unfold L.zjah.B8
    dsimp only
    refine Ok.iteD (fun h => ?_) fun h => .pure ?_
    ·refine .bind' (.eq (next17_one hr) (.bind' (.eq (ix_nat (k := 0) (x := vol (l.take k) + i) rfl) (.pure ?_))))
     dsimp only
     rw [wr_id (by omega), wr_id (by omega)]
     exact ⟨⟨by dsimp only; omega, by dsimp only; omega, by simp [Int.add_assoc]⟩, by dsimp only; omega⟩
    ·show [vol (l.take k) + i] = [vol (l.take (k + 1))]
     rw [e2]; congr 2; omega
   ·rintro _ rfl
    unfold L.zjah.J6 L.zjah.J5
    refine .bind (Q := fun q : List (List Piece) => q = [l.take (k + 1)]) ?_ (by rintro _ rfl; exact .pure rfl)
    simp only [forS, L.zjah.B7]
    have h1 : ix ([l.take k] : List (List Piece)) ((0 : Nat) : Int) = some (0, l.take k) := ix_nat rfl
    have h2 : ix ([vol (l.take (k + 1))] : List Int) ((0 : Nat) : Int) = some (0, vol (l.take (k + 1))) := ix_nat rfl
    have h3 : ix (([] : List Int) ++ [vol (l.take k)]) ((0 : Nat) : Int) = some (0, vol (l.take k)) := ix_nat rfl
    rw [h1, Option.bind_some, h2, Option.bind_some, h3, Option.bind_some]
    dsimp only
    rw [app?_eq (by simp; omega), Option.bind_some]
    refine .pure ?_
    rw [wr_id (by omega), show vol (l.take (k + 1)) - vol (l.take k) = x.Volume by omega, List.take_add_one, hx]
    simp
  ·rintro ⟨_, g⟩ rfl
   unfold L.zjah.J1 L.zjah.J2
   refine .bind (Q := fun q : List (List Piece) => q = [l]) ?_ (by rintro _ rfl; exact .pure rfl)
   simp only [List.length_singleton, forJ, L.zjah.B3]
   have h1 : ix ([l] : List (List Piece)) ((0 : Nat) : Int) = some (0, l) := ix_nat rfl
   rw [h1, Option.bind_some]
   dsimp only
   rw [joined_rle hv.nn (by omega), Option.bind_some, rle_lit hv.can]
   exact .pure rfl
 obtain ⟨q, h1, rfl⟩ := this
 exact h1
theorem shift_fore {F I : List Int} (hF : Vd (rle F)) (hI : Vd (rle I)) : L.ziwy (rle F) (rle I) false = some (rle ((I ++ F).take F.length), rle ((I ++ F).drop F.length)) := by
 have h1 := hF.vol; have h2 := hI.vol
 have l1 := hF.len; have l2 := hI.len
 rw [vol_rle] at h1 h2
 unfold L.ziwy
 rw [if_neg (by simp), app?_eq (by simp; omega), Option.bind_some, List.nil_append, app?_eq (by omega), Option.bind_some, sum14_eq hF.nn (by rw [vol_rle]; omega), Option.bind_some, vol_rle]
 rw [split14 (m := F.length) ?_ ?_ (by rw [List.length_append]; omega) (by omega), Option.bind_some, lit_app, lit_rle, lit_rle]
 ·intro p hp
  rcases List.mem_append.1 hp with hp | hp
  ·exact hI.nn p hp
  ·exact hF.nn p hp
 ·rw [vol_app, vol_rle, vol_rle]; omega
abbrev lpl (r : Int) : Plan := ⟨[r], [r, -r], []⟩
theorem line_w {c : Int} (hc : 1 ≤ c ∧ c ≤ 1000) : NetW (L.zvce c) := by
 have port : ∀ (k : Nat) (q : Port), (L.zvce c).Ports[k]? = some q → k = 0 ∧ q = ⟨(⟨#[112]⟩ : ByteArray), 0, 300000⟩ ∨ k = 1 ∧ q = ⟨(⟨#[113]⟩ : ByteArray), 1, 0⟩ := by
  intro k q hq
  rcases k with _ | _ | k
  ·exact .inl ⟨rfl, by simpa [L.zvce] using hq.symm⟩
  ·exact .inr ⟨rfl, by simpa [L.zvce] using hq.symm⟩
  ·simp [L.zvce] at hq
 refine ⟨by simp [L.zvce], by simp [L.zvce], fun k s hs => ?_, by simp [L.zvce], fun k q hq => ?_, by simp [L.zvce], by simp [L.zvce], by simp [L.zvce], by simp [L.zvce], by simp [L.zvce], fun l hl => ?_⟩
 ·rcases k with _ | k
  ·simp [L.zvce] at hs
   subst hs
   refine ⟨by simp [L.zvce], hc, by dsimp only; omega, by dsimp only; omega, by simp, by simp, by simp, fun i p q hp hq => ?_, by simp, by simp⟩
   rcases i with _ | i
   ·simp at hp hq; subst hp; subst hq; dsimp only; omega
   ·simp at hq
  ·simp [L.zvce] at hs
 ·rcases port k q hq with ⟨rfl, rfl⟩ | ⟨rfl, rfl⟩ <;> simp [L.zvce]
 ·simp only [List.mem_cons, List.not_mem_nil, or_false] at hl
  have two : ∀ (x y : ByteArray), L.zcvq x = some true → L.zcvq y = some true → sEq x y = false → sEq y x = false → Nmd [x, y] := fun x y h1 h2 h3 h4 => by
   refine ⟨by simp, fun k z hz => ?_, fun i j a b ha hb he => ?_⟩
   ·rcases k with _ | _ | k
    ·simp at hz; subst hz; exact h1
    ·simp at hz; subst hz; exact h2
    ·simp at hz
   ·rcases i with _ | _ | i <;> rcases j with _ | _ | j <;> simp at ha hb <;> first | rfl | (subst ha; subst hb; first | (rw [h3] at he; cases he) | (rw [h4] at he; cases he))
  rcases hl with rfl | rfl | rfl | rfl
  ·exact two _ _ rfl rfl (by decide +kernel) (by decide +kernel)
  ·refine ⟨by simp [L.zvce], fun k z hz => ?_, fun i j a b ha hb he => ?_⟩
   ·rcases k with _ | k
    ·simp [L.zvce] at hz; subst hz; rfl
    ·simp [L.zvce] at hz
   ·have h1 := (gs ha).1
    have h2 := (gs hb).1
    simp [L.zvce] at h1 h2; omega
  ·exact two _ _ rfl rfl (by decide +kernel) (by decide +kernel)
  ·exact ⟨by simp [L.zvce], by simp [L.zvce], by simp [L.zvce]⟩
theorem line_g {c : Int} (hc : 1 ≤ c ∧ c ≤ 1000) : NetG (L.zvce c) := (line_w hc).g (by simp [L.zvce]) (by simp [L.zvce])
theorem line_12 {c : Int} (hc : 1 ≤ c ∧ c ≤ 1000) : L.zgcl (L.zvce c) = some 0 := by
 refine check12W (line_w hc) fun l hl k x hx => ?_
 simp only [List.mem_cons, List.not_mem_nil, or_false] at hl
 rcases hl with rfl | rfl | rfl | rfl <;> rcases k with _ | _ | k <;> simp [L.zvce] at hx <;> subst hx <;> rfl
theorem line_chain {c : Int} (hc : 1 ≤ c ∧ c ≤ 1000) : Chain (L.zvce c) 1 :=
 ⟨line_g hc, by omega, rfl, rfl, rfl, ⟨_, rfl, rfl⟩, ⟨_, rfl, rfl⟩, rfl, fun i s hs => by
  rcases i with _ | i
  ·simp [L.zvce] at hs; subst hs; exact .inl ⟨rfl, rfl⟩
  ·simp [L.zvce] at hs⟩
theorem line_hops {c : Int} : Hops (L.zvce c) 1 [⟨0, false⟩] :=
 ⟨rfl, fun i s hs => by
  rcases i with _ | i
  ·simp [L.zvce] at hs; subst hs; rfl
  ·simp [L.zvce] at hs⟩
theorem line_wpl {c r : Int} : Wpl (L.zvce c) r (lpl r) :=
 ⟨rfl, fun i s x hs hx => by
  rcases i with _ | i
  ·simp [L.zvce] at hs hx; subst hs; subst hx; rfl
  ·simp at hx, rfl, rfl⟩
theorem line_ln {c r b g : Int} (hc : 1 ≤ c ∧ c ≤ 1000) (hr : 1 ≤ r ∧ r ≤ c) (hb : 0 ≤ b ∧ b < 1000) (hg : 0 ≤ g ∧ g < 1000) : Ln (L.zvce c) (lpl r) [b, g] :=
 ⟨line_g hc, (line_wpl.planOk (line_chain hc) (by omega) fun i s hs => by
  rcases i with _ | i
  ·simp [L.zvce] at hs; subst hs; dsimp only; omega
  ·simp [L.zvce] at hs).flow, rfl, fun x hx => by
   rcases List.mem_cons.1 hx with rfl | hx
   ·exact hb
   ·simp at hx; subst hx; exact hg⟩
theorem line_fil {c : Int} {F : List Int} (hc : 1 ≤ c ∧ c ≤ 1000) (hF : Vd (rle F)) (hl : (F.length : Int) = c) : Fil (L.zvce c) [rle F] fun _ => F :=
 ⟨⟨rfl, fun i hi => by
  have : i = 0 := by simp [L.zvce] at hi; exact hi
  subst this; rfl⟩, fun _ _ => hF, fun i s hs => by
  rcases i with _ | i
  ·simp [L.zvce] at hs; subst hs; exact hl
  ·simp [L.zvce] at hs⟩
theorem line_order {c r b g : Int} (hc : 1 ≤ c ∧ c ≤ 1000) (hr : 1 ≤ r ∧ r ≤ c) : L.zaew (L.zvce c) (lpl r) = some [0, 1] := by
 have hL := line_ln (b := 0) (g := 0) hc hr (by omega) (by omega)
 obtain ⟨od, h1, h2, h3⟩ := order16_topoG hL.net hL.flow
 have hf : Flw (L.zvce c) (lpl r) 0 ⟨(⟨#[103]⟩ : ByteArray), 0, 1, c, 0, 0, ([(⟨0, 0, 1000000⟩ : Point), (⟨c, 0, 1000000⟩ : Point)] : List Point)⟩ r := ⟨rfl, rfl, by omega⟩
 have he : L.ztzg (⟨(⟨#[103]⟩ : ByteArray), 0, 1, c, 0, 0, ([(⟨0, 0, 1000000⟩ : Point), (⟨c, 0, 1000000⟩ : Point)] : List Point)⟩ : Segment) r = (0, 1) := by
  unfold L.ztzg; rw [if_neg (by simp; omega)]
 have m0 := h3 0 (by simp [L.zvce])
 have m1 := h3 1 (by simp [L.zvce])
 have rng : ∀ v, v ∈ od → v = 0 ∨ v = 1 := fun v hv => by have := h2.rng v hv; simp [L.zvce] at this; omega
 have hnd := h2.nodup
 have htop := h2.topo
 match od, h1 with
 | [], _ => simp at m0
 | v :: t, h1 =>
  have hv : v = 0 := by
   rcases rng v (by simp) with h | h
   ·exact h
   ·have := htop 0 v rfl 0 _ r hf (by rw [he, h]); simp at this
  subst hv
  match t, h1 with
  | [], _ => simp at m1
  | w :: t', h1 =>
   have hw : w = 1 := by
    rcases rng w (by simp) with h | h
    ·subst h; simp at hnd
    ·exact h
   subst hw
   match t', h1 with
   | [], h1 => exact h1
   | z :: _, _ =>
    rcases rng z (by simp) with h | h <;> subst h <;> simp at hnd
theorem rle_single {v b : Int} (hv : 1 ≤ v) : rle (List.replicate v.toNat b) = [⟨b, v⟩] := by
 have := rle_rep [] b v.toNat (by omega)
 rw [List.nil_append, rle_nil, psh_nil, show ((v.toNat : Nat) : Int) = v by omega] at this
 exact this
theorem ix0 {α : Type} {x : α} {l : List α} : ix (x :: l) 0 = some (0, x) := ix_nat (l := x :: l) (k := 0) rfl
theorem ix1 {α : Type} {x y : α} {l : List α} : ix (x :: y :: l) 1 = some (1, y) := ix_nat (l := x :: y :: l) (k := 1) rfl
section
variable {c r b g : Int} {F : List Int}
theorem ready18_line (hc : 1 ≤ c ∧ c ≤ 1000) (hr : 1 ≤ r ∧ r ≤ c) (hb : 0 ≤ b ∧ b < 1000) (hg : 0 ≤ g ∧ g < 1000) (hF : Vd (rle F)) (hl : (F.length : Int) = c) : L.zkim (L.zvce c) [rle F] (lpl r) [b, g] = some 0 := by
 have hL := line_ln hc hr hb hg
 unfold L.zkim
 rw [check18_ok hL.net (line_12 hc) (line_fil hc hF hl), Option.bind_some, if_neg (by simp), check16G hL.net (line_12 hc) hL.flow, Option.bind_some, if_neg (by simp), if_neg (by simp [L.zvce])]
 have hp : ∀ x : Int, 0 ≤ x ∧ x < 1000 → L.zcjy x = true := fun x hx => by unfold L.zcjy; simp; omega
 simp only [forL, L.zkim.B2]
 rw [hp b hb, hp g hg]
 rfl
theorem b22_in (hr : 1 ≤ r ∧ r ≤ 1000) : forS (L.zthj.B22 (lpl r) [b, g] (0, 0)) 0 (L.zvce c).Ports ([], [], []) = some ([⟨b, r⟩], [], []) := by
 simp only [L.zvce, forS, L.zthj.B22]
 rw [if_pos (by simp)]
 have h0 : ix (lpl r).Ports ((0 : Nat) : Int) = some (0, r) := ix_nat rfl
 have h1 : ix ([b, g] : List Int) ((0 : Nat) : Int) = some (0, b) := ix_nat rfl
 rw [h0, Option.bind_some]
 simp only [L.zthj.J26, L.zthj.J24, L.zthj.J25, L.zthj.J23]
 rw [if_pos (by simp; omega), h1, Option.bind_some, h0, Option.bind_some, app?_eq (by simp), Option.bind_some, if_pos (by simp), Option.bind_some, if_neg (by simp; omega)]
 dsimp only
 rw [if_neg (by simp), if_neg (by simp), if_neg (by simp), if_neg (by simp)]
 rfl
theorem b22_out (hr : 1 ≤ r ∧ r ≤ 1000) : forS (L.zthj.B22 (lpl r) [b, g] (1, 1)) 0 (L.zvce c).Ports ([], [], []) = some ([], [r], [1]) := by
 simp only [L.zvce, forS, L.zthj.B22]
 have h1 : ix (lpl r).Ports ((0 + 1 : Nat) : Int) = some (1, -r) := ix_nat rfl
 rw [if_neg (by simp)]
 simp only [L.zthj.J26, L.zthj.J24, L.zthj.J25, L.zthj.J23]
 rw [if_neg (by simp), if_neg (by simp), if_neg (by simp)]
 dsimp only
 rw [if_pos (by simp), h1, Option.bind_some, if_neg (by simp; omega), if_pos (by simp), Option.bind_some, if_pos (by simp; omega), Option.bind_some, app?_eq (by simp), Option.bind_some, app?_eq (by simp), Option.bind_some]
 dsimp only
 rw [show (0 : Int) - -r = r by omega, wr_id (by omega)]
 rfl
theorem ends18 (hr : 1 ≤ r ∧ r ≤ 1000) {s : Segment} : L.zdwa s r = (s.From, s.To) := by
 unfold L.zdwa; rw [if_neg (by simp; omega)]
theorem abs18 (hr : 1 ≤ r ∧ r ≤ 1000) : L.zuap r = r := by unfold L.zuap; rw [wr_id (by omega)]; omega
theorem b19_in (hr : 1 ≤ r ∧ r ≤ 1000) {st : List (List Piece) × List (List Piece) × List (List Piece) × Bool} {S : List Piece} : forS (L.zthj.B19 (lpl r) st (0, 0)) 0 (L.zvce c).Segments (S, [], []) = some (S, [r], [0]) := by
 simp only [L.zvce, forS, L.zthj.B19]
 have h0 : ix (lpl r).Rates ((0 : Nat) : Int) = some (0, r) := ix_nat rfl
 rw [h0, Option.bind_some]
 dsimp only
 rw [if_neg (by simp; omega), ends18 hr]
 dsimp only
 rw [if_neg (by simp)]
 simp only [L.zthj.J21, L.zthj.J20]
 rw [ends18 hr, abs18 hr]
 dsimp only
 rw [if_pos (by simp), app?_eq (by simp), Option.bind_some, app?_eq (by simp), Option.bind_some]
 rfl
theorem b19_out (hr : 1 ≤ r ∧ r ≤ 1000) {f o gv' : List Piece} {os : List (List Piece)} {lg : Bool} (hg : gv'.length ≤ 1000) : forS (L.zthj.B19 (lpl r) ([f], os, [gv'], lg) (1, 1)) 0 (L.zvce c).Segments ([], [r], []) = some (gv', [r], []) := by
 simp only [L.zvce, forS, L.zthj.B19]
 have h0 : ix (lpl r).Rates ((0 : Nat) : Int) = some (0, r) := ix_nat rfl
 have h1 : ix ([gv'] : List (List Piece)) ((0 : Nat) : Int) = some (0, gv') := ix_nat rfl
 rw [h0, Option.bind_some]
 dsimp only
 rw [if_neg (by simp; omega), ends18 hr]
 dsimp only
 rw [if_pos (by simp), h1, Option.bind_some, app?_eq (by simp; omega), Option.bind_some]
 simp only [L.zthj.J21, L.zthj.J20]
 rw [ends18 hr]
 dsimp only
 rw [if_neg (by simp)]
 simp
theorem in_vd (hr : 1 ≤ r ∧ r ≤ 1000) (hb : 0 ≤ b ∧ b < 1000) : Vd (rle (List.replicate r.toNat b)) ∧ rle (List.replicate r.toNat b) = [⟨b, r⟩] := by
 have e := rle_single (b := b) hr.1
 exact ⟨Vd.of (by rw [e]; simp) (fun x hx => by obtain ⟨_, rfl⟩ := List.mem_replicate.1 hx; exact hb) (by simp; omega), e⟩
theorem b10_in (hc : 1 ≤ c ∧ c ≤ 1000) (hr : 1 ≤ r ∧ r ≤ c) (hb : 0 ≤ b ∧ b < 1000) (hF : Vd (rle F)) (hl : (F.length : Int) = c) (k : Nat) (hk : k = 0) :
  L.zthj.B10 (L.zvce c) (lpl r) [b, g] ([0, 1], 0) k ([rle F], [[], []], [[]], false) = some ([rle (fl r F (List.replicate r.toNat b))], [[], []], [rle (gv r F (List.replicate r.toNat b))], false) := by
 subst hk
 obtain ⟨hI, hI1⟩ := in_vd (b := b) (by omega : 1 ≤ r ∧ r ≤ 1000) hb
 have h0 : ix ([0, 1] : List Int) ((0 : Nat) : Int) = some (0, 0) := ix_nat rfl
 unfold L.zthj.B10
 dsimp only
 rw [h0, Option.bind_some, b22_in (by omega), Option.bind_some]
 unfold L.zthj.J12
 dsimp only
 rw [b19_in (by omega), Option.bind_some]
 unfold L.zthj.J13
 dsimp only
 rw [joined_rle (by simp; omega) (by simp [vol]; omega), Option.bind_some, lit_one]
 dsimp only
 rw [if_neg (by rw [hI1]; simp), hand_one hI hr.1, Option.bind_some]
 simp only [List.length_nil, forJ]
 rw [Option.bind_some]
 unfold L.zthj.J14
 dsimp only
 simp only [List.length_singleton, forJ, L.zthj.B15]
 have h1 : ix ([0] : List Int) ((0 : Nat) : Int) = some (0, 0) := ix_nat rfl
 have h2 : ix ([rle (List.replicate r.toNat b)] : List (List Piece)) (wr ((([] : List Int).length : Int) + ((0 : Nat) : Int))) = some (0, rle (List.replicate r.toNat b)) := by
  rw [show wr ((([] : List Int).length : Int) + ((0 : Nat) : Int)) = ((0 : Nat) : Int) by rw [wr_id (by simp)]; simp]; exact ix_nat rfl
 have h3 : ix (lpl r).Rates 0 = some (0, r) := ix0
 rw [h1, Option.bind_some, h2, Option.bind_some, h3, Option.bind_some]
 dsimp only
 rw [if_pos (by simp; omega), turned14 (by rw [hI1]; simp), Option.bind_some, rle_rev, List.reverse_replicate]
 unfold L.zthj.J16
 dsimp only
 rw [ix0, Option.bind_some]
 dsimp only
 rw [show decide (r < 0) = false by simp; omega, shift_fore hF hI, Option.bind_some, if_pos (by simp)]
 have hlen : (rle ((List.replicate r.toNat b ++ F).drop F.length)).length ≤ 100000 := by
  have := rle_len ((List.replicate r.toNat b ++ F).drop F.length)
  rw [List.length_drop, List.length_append, List.length_replicate] at this; omega
 dsimp only
 rw [turned14 hlen, Option.bind_some, rle_rev]
 unfold L.zthj.J17
 rw [ix0, Option.bind_some]
 have h0r : ¬ r < 0 := by omega
 have e1 : (List.replicate r.toNat b ++ F).take F.length = fl r F (List.replicate r.toNat b) := by
  unfold fl qu
  rw [if_neg h0r, if_neg h0r, List.reverse_drop, List.reverse_append, List.reverse_reverse, List.length_append, List.length_reverse, List.reverse_replicate]
  congr 1; omega
 have e2 : ((List.replicate r.toNat b ++ F).drop F.length).reverse = gv r F (List.replicate r.toNat b) := by
  unfold gv qu
  rw [if_neg h0r, List.reverse_drop, List.reverse_append, List.length_append, List.reverse_replicate]
  congr 1; omega
 rw [e1, e2]
 dsimp only
 rw [Option.bind_some]
 unfold L.zthj.J11
 rw [hI1]
 rfl
theorem b10_out (hc : 1 ≤ c ∧ c ≤ 1000) (hr : 1 ≤ r ∧ r ≤ c) {f : List Piece} {X : List Int} (hX : Vd (rle X)) (hne : X ≠ []) (k : Nat) (hk : k = 1) :
  L.zthj.B10 (L.zvce c) (lpl r) [b, g] ([0, 1], 0) k ([f], [[], []], [rle X], false) = some ([f], [[], rle X], [rle X], false) := by
 subst hk
 have hvol := hX.vol; have hlen := hX.len
 have h0 : ix ([0, 1] : List Int) ((1 : Nat) : Int) = some (1, 1) := ix_nat rfl
 unfold L.zthj.B10
 dsimp only
 rw [h0, Option.bind_some, b22_out (by omega), Option.bind_some]
 unfold L.zthj.J12
 dsimp only
 rw [b19_out (o := []) (by omega) (by omega), Option.bind_some]
 unfold L.zthj.J13
 dsimp only
 rw [joined_rle hX.nn (by omega), Option.bind_some, lit_rle]
 have hne' : (rle X).length ≠ 0 := fun h => hne (rle_eq_nil.1 (List.length_eq_zero_iff.1 h))
 rw [if_neg (by simp; exact fun h => hne (rle_eq_nil.1 h)), hand_one hX hr.1, Option.bind_some]
 simp only [List.length_singleton, forJ, L.zthj.B18]
 have h1 : ix ([1] : List Int) ((0 : Nat) : Int) = some (0, 1) := ix_nat rfl
 have h2 : ix ([rle X] : List (List Piece)) ((0 : Nat) : Int) = some (0, rle X) := ix_nat rfl
 rw [h1, Option.bind_some, h2, Option.bind_some, ix1, Option.bind_some]
 dsimp only
 rw [Option.bind_some]
 unfold L.zthj.J14
 dsimp only
 simp only [List.length_nil, forJ]
 rw [Option.bind_some]
 unfold L.zthj.J11
 have : decide (((rle X).length : Int) > 200) = false := by simp; omega
 rw [this]
 rfl
theorem tick18_line (hc : 1 ≤ c ∧ c ≤ 1000) (hr : 1 ≤ r ∧ r ≤ c) (hb : 0 ≤ b ∧ b < 1000) (hg : 0 ≤ g ∧ g < 1000) (hF : Vd (rle F)) (hl : (F.length : Int) = c)
  (h1 : (rle (fl r F (List.replicate r.toNat b))).length ≤ 200) (h2 : (rle (gv r F (List.replicate r.toNat b))).length ≤ 200) :
  L.zthj (L.zvce c) [rle F] (lpl r) [b, g] = some ([rle (fl r F (List.replicate r.toNat b))], [[], rle (gv r F (List.replicate r.toNat b))], 0) := by
 have hL := line_ln hc hr hb hg
 have hI := (in_vd (b := b) (by omega : 1 ≤ r ∧ r ≤ 1000) hb).1
 have hX : Vd (rle (gv r F (List.replicate r.toNat b))) := Vd.of h2 (fun x hx => by
  rcases gv_mem hx with hx | hx
  ·have := hF.bat; rw [lit_rle] at this; exact this x hx
  ·obtain ⟨_, rfl⟩ := List.mem_replicate.1 hx; exact hb) (by rw [gv_len, List.length_replicate]; omega)
 have hne : gv r F (List.replicate r.toNat b) ≠ [] := fun h => by
  have := gv_len r F (List.replicate r.toNat b)
  rw [h, List.length_replicate] at this; simp at this; omega
 unfold L.zthj
 rw [ready18_line hc hr hb hg hF hl, Option.bind_some, if_neg (by simp)]
 have m1 : mk? ((([rle F] : List (List Piece)).length : Nat) : Int) ([] : List Piece) = some [[]] := mk?_eq _ (by simp)
 have m2 : mk? (((L.zvce c).Ports.length : Nat) : Int) ([] : List Piece) = some [[], []] := mk?_eq _ (by simp [L.zvce])
 rw [m1, Option.bind_some, m2, Option.bind_some]
 unfold L.zthj.J1
 rw [m1, Option.bind_some]
 simp only [forS, L.zthj.B27]
 have hFl := hF.len
 rw [app?_eq (by simp; omega), Option.bind_some]
 have h0 : ix ([[]] : List (List Piece)) ((0 : Nat) : Int) = some (0, []) := ix_nat rfl
 rw [h0, Option.bind_some]
 dsimp only
 rw [Option.bind_some]
 unfold L.zthj.J2 L.zfjh
 rw [check16G hL.net (line_12 hc) hL.flow, Option.bind_some, if_neg (by simp), line_order (b := b) (g := g) hc hr, Option.bind_some, Option.bind_some]
 simp only [List.length_cons, List.length_nil, forJ]
 have e0 : ([[]] : List (List Piece)).set 0 ([] ++ rle F) = [rle F] := rfl
 rw [e0, b10_in hc hr hb hF hl 0 rfl]
 dsimp only
 rw [b10_out hc hr hX hne (0 + 1) rfl]
 dsimp only
 rw [Option.bind_some]
 unfold L.zthj.J3
 simp only [List.length_cons, List.length_nil, forJ, L.zthj.B8, L.zthj.J9]
 have i1 : ix ([rle (fl r F (List.replicate r.toNat b))] : List (List Piece)) ((0 : Nat) : Int) = some (0, rle (fl r F (List.replicate r.toNat b))) := ix_nat rfl
 have i2 : ix ([rle (gv r F (List.replicate r.toNat b))] : List (List Piece)) ((0 : Nat) : Int) = some (0, rle (gv r F (List.replicate r.toNat b))) := ix_nat rfl
 rw [if_neg (by simp), i1, Option.bind_some, if_neg (by simp; omega), i2, Option.bind_some]
 dsimp only
 have d2 : decide (((rle (gv r F (List.replicate r.toNat b))).length : Int) > 200) = false := by simp; omega
 rw [d2, Option.bind_some]
 unfold L.zthj.J4
 simp only [List.length_cons, List.length_nil, forJ, L.zthj.B6, L.zthj.J7]
 have i3 : ix ([[], rle (gv r F (List.replicate r.toNat b))] : List (List Piece)) ((0 : Nat) : Int) = some (0, []) := ix_nat rfl
 have i4 : ix ([[], rle (gv r F (List.replicate r.toNat b))] : List (List Piece)) ((0 + 1 : Nat) : Int) = some (1, rle (gv r F (List.replicate r.toNat b))) := ix_nat rfl
 rw [if_neg (by simp), i3, Option.bind_some]
 dsimp only
 rw [if_neg (by simp), i4, Option.bind_some]
 dsimp only
 rw [d2, Option.bind_some]
 rfl
end
section
variable {c r b g : Int} {F : List Int}
theorem line_que (hr : 1 ≤ r) (F I : List Int) : gv r F I ++ (fl r F I).reverse = F.reverse ++ I := by
 unfold gv fl qu
 rw [if_neg (by omega), if_neg (by omega), List.reverse_reverse, List.take_append_drop]
theorem line_go (hc : 1 ≤ c ∧ c ≤ 1000) (hr : 1 ≤ r ∧ r ≤ c) (hb : 0 ≤ b ∧ b < 1000) (hg : 0 ≤ g ∧ g < 1000) (hF : Vd (rle F)) (hl : (F.length : Int) = c) (hs : (rle (F.reverse ++ List.replicate r.toNat b)).length ≤ 200) :
  ∃ F' O, L.zthj (L.zvce c) [rle F] (lpl r) [b, g] = some ([rle F'], [[], rle O], 0) ∧ Vd (rle F') ∧ (F'.length : Int) = c ∧ O ++ F'.reverse = F.reverse ++ List.replicate r.toNat b ∧ O.length = r.toNat := by
 have e := line_que hr.1 F (List.replicate r.toNat b)
 have h1 : (rle (fl r F (List.replicate r.toNat b))).length ≤ 200 := by
  have := rle_suf (gv r F (List.replicate r.toNat b)) (fl r F (List.replicate r.toNat b)).reverse
  rw [e, rle_revl] at this; omega
 have h2 : (rle (gv r F (List.replicate r.toNat b))).length ≤ 200 := by
  have := rle_pre (gv r F (List.replicate r.toNat b)) (fl r F (List.replicate r.toNat b)).reverse
  rw [e] at this; omega
 refine ⟨_, _, tick18_line hc hr hb hg hF hl h1 h2, Vd.of h1 (fun x hx => ?_) (by rw [fl_len]; omega), by rw [fl_len]; exact hl, e, by rw [gv_len]; simp⟩
 rcases fl_mem hx with hx | hx
 ·have := hF.bat; rw [lit_rle] at this; exact this x hx
 ·obtain ⟨_, rfl⟩ := List.mem_replicate.1 hx; exact hb
theorem run18_line (hc : 1 ≤ c ∧ c ≤ 1000) (hr : 1 ≤ r ∧ r ≤ c) (hb : 0 ≤ b ∧ b < 1000) (hg : 0 ≤ g ∧ g < 1000) (hF : Vd (rle F)) (hl : (F.length : Int) = c) (hs : (rle F).length ≤ 100) {k : Nat} (hk : k ≤ 400) :
  Ok (L.zqig (L.zvce c) [rle F] (lpl r) [b, g] (k : Int)) fun q => q.2.2 = 0 ∧ ∃ F' A, q.1 = [rle F'] ∧ Vd (rle F') ∧ (F'.length : Int) = c ∧ A ++ F'.reverse = F.reverse ++ List.replicate (k * r.toNat) b ∧ A.length = k * r.toNat := by
 have few : ∀ m : Nat, (rle (F.reverse ++ List.replicate m b)).length ≤ 101 := fun m => by
  have h1 := rle_add F.reverse (List.replicate m b)
  have h2 := rle_replicate m b
  rw [rle_revl] at h1; omega
 unfold L.zqig
 rw [if_neg (by simp; omega)]
 refine .bind' (.eq (ready18_line hc hr hb hg hF hl) ?_)
 rw [if_neg (by simp)]
 refine .bind' (.mk 2 (by simp [L.zvce]) (by omega) ?_)
 refine .bind (Q := Sum.elim (fun _ : List (List Piece) × List (List Piece) × Int => False) fun d : List (List Piece) × List (List Piece) => ∃ F' A, d.1 = [rle F'] ∧ Vd (rle F') ∧ (F'.length : Int) = c ∧ A ++ F'.reverse = F.reverse ++ List.replicate (k * r.toNat) b ∧ A.length = k * r.toNat)
  (.loop (fun st => ∃ (j : Nat) (F' A : List Int), j ≤ k ∧ st.2.2 = (j : Int) ∧ st.1 = [rle F'] ∧ st.2.1 = [[], rle A] ∧ Vd (rle F') ∧ (F'.length : Int) = c ∧ A ++ F'.reverse = F.reverse ++ List.replicate (j * r.toNat) b ∧ A.length = j * r.toNat) (fun st => k - st.2.2.toNat)
   ⟨0, F, [], by omega, rfl, rfl, rfl, hF, hl, by simp, by simp⟩ (by dsimp only; omega) ?_) ?_
 ·rintro ⟨_, _, _⟩ ⟨j, F', A, hj, rfl, rfl, rfl, i1, i2, i3, i4⟩
  unfold L.zqig.B2
  dsimp only
  have ej : (j + 1) * r.toNat = j * r.toNat + r.toNat := by rw [Nat.add_mul, Nat.one_mul]
  refine Ok.iteD (fun h => ?_) fun h => .pure ?_
  ·have hb2 : (rle (F'.reverse ++ List.replicate r.toNat b)).length ≤ 200 := by
    have h1 := rle_suf A (F'.reverse ++ List.replicate r.toNat b)
    rw [← List.append_assoc, i3, List.append_assoc, List.replicate_append_replicate] at h1
    have := few (j * r.toNat + r.toNat)
    omega
   obtain ⟨F2, O, t1, t2, t3, t4, t5⟩ := line_go hc hr hb hg i1 i2 hb2
   refine .bind' (.eq t1 ?_)
   rw [if_neg (by simp)]
   have hA2 : A ++ O ++ F2.reverse = F.reverse ++ List.replicate ((j + 1) * r.toNat) b := by
    rw [List.append_assoc, t4, ← List.append_assoc, i3, List.append_assoc, List.replicate_append_replicate, ej]
   have lA := rle_len A; have lO := rle_len O
   have hjr : j * r.toNat ≤ 400 * 1000 := Nat.mul_le_mul (by omega) (by omega)
   have hl200 : (rle (A ++ O)).length ≤ 200 := by
    have h1 := rle_pre (A ++ O) F2.reverse
    rw [hA2] at h1
    have := few ((j + 1) * r.toNat)
    omega
   refine .bind (Q := Sum.elim (fun st : List (List Piece) => st = [[], rle (A ++ O)]) fun _ : List (List Piece) × List (List Piece) × Int => False) ?_ ?_
   ·refine .forI (fun i st => st = if i = 0 then [[], rle A] else if i = 1 then [[], rle A] else [[], rle (A ++ O)]) (fun _ => False) rfl ?_ (fun st h => h) fun _ h => h.elim
    rintro i _ hi rfl
    have h01 : i = 0 ∨ i = 1 := by simp at hi; omega
    unfold L.zqig.B4
    rcases h01 with rfl | rfl
    ·rw [if_pos rfl]
     have x1 : ix ([[], rle A] : List (List Piece)) ((0 : Nat) : Int) = some (0, []) := ix_nat rfl
     have x2 : ix ([[], rle O] : List (List Piece)) ((0 : Nat) : Int) = some (0, []) := ix_nat rfl
     dsimp only
     rw [x1, Option.bind_some, app?_eq (by simp), Option.bind_some, x2, Option.bind_some, app?_eq (by simp), Option.bind_some]
     have x3 : L.zuyb ([] ++ [] ++ []) = some [] := rfl
     rw [x3, Option.bind_some]
     have x4 : ix (([[], rle A] : List (List Piece)).set 0 []) ((0 : Nat) : Int) = some (0, []) := ix_nat rfl
     rw [x4, Option.bind_some, if_neg (by simp)]
     exact .pure rfl
    ·rw [if_neg (by omega), if_pos rfl]
     have x1 : ix ([[], rle A] : List (List Piece)) ((1 : Nat) : Int) = some (1, rle A) := ix_nat rfl
     have x2 : ix ([[], rle O] : List (List Piece)) ((1 : Nat) : Int) = some (1, rle O) := ix_nat rfl
     dsimp only
     rw [x1, Option.bind_some, app?_eq (by simp; omega), Option.bind_some, x2, Option.bind_some, app?_eq (by simp; omega), Option.bind_some, List.nil_append]
     rw [joined_rle (f := rle A ++ rle O) (fun p hp => by
      rcases List.mem_append.1 hp with hp | hp
      ·have := (rle_can _).pos p hp; omega
      ·have := (rle_can _).pos p hp; omega) (by rw [vol_app, vol_rle, vol_rle]; omega), Option.bind_some, lit_app, lit_rle, lit_rle]
     have x4 : ix (([[], rle A] : List (List Piece)).set 1 (rle (A ++ O))) ((1 : Nat) : Int) = some (1, rle (A ++ O)) := ix_nat rfl
     rw [x4, Option.bind_some, if_neg (by simp; omega)]
     exact .pure rfl
   ·rintro (st | d) hd
    ·have hd' : st = [[], rle (A ++ O)] := hd
     subst hd'
     unfold L.zqig.J3
     refine .pure ⟨⟨j + 1, F2, A ++ O, by omega, ?_, rfl, rfl, t2, t3, hA2, by rw [List.length_append, i4, t5, ej]⟩, ?_⟩
     ·dsimp only; rw [wr_id (by omega)]; omega
     ·dsimp only; rw [wr_id (by omega)]; omega
    ·exact hd.elim
  ·obtain rfl : j = k := by omega
   exact ⟨F', A, rfl, i1, i2, i3, i4⟩
 ·rintro (_ | d) hd
  ·exact hd.elim
  ·obtain ⟨F', A, h1, h2, h3, h4, h5⟩ := hd
   exact .pure ⟨rfl, F', A, h1, h2, h3, h4, h5⟩
end
theorem idx_far {A Z : List Int} {b : Int} (hm : b ∈ A ++ Z) (h : A.length ≤ (A ++ Z).idxOf b) : b ∈ Z ∧ (A ++ Z).idxOf b = A.length + Z.idxOf b := by
 by_cases hA : b ∈ A
 ·rw [idx_l hA] at h
  have := List.idxOf_lt_length_of_mem hA
  omega
 ·exact ⟨(List.mem_append.1 hm).resolve_left hA, idx_r hA⟩
theorem wq_line {c : Int} {F : List Int} : cat (wq (L.zvce c) fun _ => F) 1 = F.reverse := by
 simp [cat, wq, L.zvce]
theorem forecastMoves (l : List Int) (w v : Int) (hw : 0 ≤ w ∧ w ≤ 255) (hv : 0 ≤ v ∧ v ≤ 255) : L.zijd l w v = some true := by
 have : Ok (L.zijd l w v) fun r => r = true := by
  have wake : Ok (Option.bind L.zuro fun r => some r) fun r => r = true := by rw [awake30]; exact .pure rfl
  unfold L.zijd
  refine Ok.iteB (fun _ => wake) fun _ => ?_
  refine .bind (new_ok l) fun d0 hd0 => .bind (range_ok hd0 (lo := 20) (hi := 300) (by omega) (by omega) (by omega)) ?_
  rintro ⟨c, d1⟩ ⟨hd1, c1, c2⟩
  dsimp only at hd1 c1 c2 ⊢
  have hx0 : ix (L.zvce c).Segments 0 = some (0, (⟨(⟨#[103]⟩ : ByteArray), 0, 1, c, 0, 0, ([(⟨0, 0, 1000000⟩ : Point), (⟨c, 0, 1000000⟩ : Point)] : List Point)⟩ : Segment)) := ix0
  refine .bind' (.eq hx0 ?_)
  dsimp only
  refine .bind (fill_ok hd1 (v := c) (m := 5) (by omega) (by omega)) ?_
  rintro ⟨_, d2⟩ ⟨_, F, rfl, f1, f2, f3⟩
  dsimp only
  obtain ⟨rr, hr0, hr20⟩ := u8_mod hw (m := 20) (by omega)
  obtain ⟨k, hk0, hk20⟩ := u8_mod hv (m := 20) (by omega)
  rw [hr0, hk0]
  obtain ⟨r, hr⟩ : ∃ r, r = 1 + (rr : Int) := ⟨_, rfl⟩
  have er : wr (1 + (rr : Int)) = r := by rw [wr_id (by omega), hr]
  rw [er, wr_id (by omega : _ ≤ (0 : Int) - r ∧ _), show (0 : Int) - r = -r by omega]
  have hc : 1 ≤ c ∧ c ≤ 1000 := by omega
  have hF : Vd (rle F) := Vd.of (by omega) (fun x hx => by have := f2 x hx; omega) (by omega)
  refine .bind (run18_line hc (r := r) (b := 9) (g := 0) (by omega) (by omega) (by omega) hF f1 (by omega) (k := k) (by omega)) ?_
  rintro ⟨_, qo, _⟩ ⟨rfl, F', A, rfl, g1, g2, g3, g4⟩
  rw [if_neg (by simp)]
  have hrk : ((k * r.toNat : Nat) : Int) = r * k := by rw [Int.natCast_mul, Int.toNat_of_nonneg (by omega), Int.mul_comm]
  have hrk1 : 0 ≤ r * (k : Int) ∧ r * (k : Int) ≤ 20 * 20 := ⟨Int.mul_nonneg (by omega) (by omega), Int.mul_le_mul (by omega) (by omega) (by omega) (by omega)⟩
  refine .bind (Q := Sum.elim (fun _ : Bool => False) fun _ : Unit => True) (.loop (fun b => 0 ≤ b ∧ b ≤ 5) (fun b => 5 - b.toNat) ⟨by omega, by omega⟩ (by omega) ?_) ?_
  ·rintro b ⟨b0, b5⟩
   unfold L.zijd.B3
   dsimp only
   refine Ok.iteD (fun hb => ?_) fun _ => .pure trivial
   refine .bind' (.eq (dist_ok (line_chain hc) (line_fil hc hF f1) line_hops b) (.bind' (.eq (dist_ok (line_chain hc) (line_fil hc g1 g2) line_hops b) ?_)))
   rw [wq_line, wq_line, hr0, hk0, er, wr_id (by omega : _ ≤ r * (k : Int) ∧ _)]
   dsimp only
   rw [if_neg]
   ·refine .pure ⟨⟨?_, ?_⟩, ?_⟩ <;> rw [wr_id (by omega)] <;> omega
   ·by_cases hm : b ∈ F.reverse
    ·have e1 : ahead b F.reverse = ((F.reverse.idxOf b : Int), true) := if_pos hm
     have hi := List.idxOf_lt_length_of_mem hm
     rw [List.length_reverse] at hi
     rw [e1]
     dsimp only
     by_cases hfar : r * (k : Int) ≤ (F.reverse.idxOf b : Int)
     ·have e2 : (A ++ F'.reverse).idxOf b = F.reverse.idxOf b := by rw [g3, idx_l hm]
      have hm2 : b ∈ A ++ F'.reverse := by rw [g3]; exact List.mem_append.2 (.inl hm)
      obtain ⟨z1, z2⟩ := idx_far hm2 (by omega)
      have e3 : ahead b F'.reverse = ((F'.reverse.idxOf b : Int), true) := if_pos z1
      rw [e3]
      dsimp only
      rw [wr_id (by omega : _ ≤ (F.reverse.idxOf b : Int) - r * (k : Int) ∧ _)]
      have e4 : (F'.reverse.idxOf b : Int) = (F.reverse.idxOf b : Int) - r * (k : Int) := by omega
      simp [e4]
     ·have : decide ((F.reverse.idxOf b : Int) ≥ r * (k : Int)) = false := by simp; omega
      rw [this]; simp
    ·have e1 : ahead b F.reverse = (0, false) := if_neg hm
     rw [e1]; simp
  ·rintro (_ | _) hd
   ·exact hd.elim
   ·show Ok (L.zijd.J1 ([rle F'], qo, 0) ()) _
    unfold L.zijd.J1
    refine .bind' (.eq ix0 (.bind' (.eq (valid14_ok g1) ?_)))
    rw [if_pos rfl, awake30]
    exact .pure rfl
 obtain ⟨r, h1, rfl⟩ := this
 exact h1
end Go.Proofs.YtaliejncdnegeaaGreat
namespace Go.Aw
set_option linter.unusedVariables false
set_option linter.unusedSimpArgs false
open Go.ChangeShapes Go.WideShapes Go.ChangeAt Go.RowKit
section
variable {H : Type} {enc : TypeId × Value → H} {P : Program}
theorem trodAll_below (hl : laidOutB P = true) {W W' : World} (hb : Below W.heap.size W W') : ∀ {ts : List TypeId} {vs : List Value} {ds : List (DataW H)} {ps : List MemPlace},
  (∀ t, t ∈ ts → P.readableRec t = true ∧ t < P.types.size) → (∀ x, x ∈ ps → x.block < W.heap.size) → DataW.TrodAll enc P W 0 (fun _ => true) true ts vs ds ps →
  DataW.TrodAll enc P W' 0 (fun b => decide (b < W.heap.size)) true ts vs ds ps
 | [], vs, ds, ps, _, _, h => by
  cases vs <;> cases ds <;> simp [DataW.TrodAll] at h ⊢
  exact h
 | t :: ts, vs, ds, ps, ht, hlt, h => by
  obtain ⟨v, vs', d, ds', p, q, rfl, rfl, rfl, h1, h2⟩ := trodAll_cons h
  have hr := ht t (by simp)
  exact ⟨p, q, Below.trod hl hr.1 hr.2 h1 hb (fun x hx => hlt x (by simp [hx])), trodAll_below hl hb (fun t ht' => ht t (by simp [ht'])) (fun x hx => hlt x (by simp [hx])) h2, rfl⟩
theorem law_post {f : Func} {s : ChangeSpec} {W W' : World} {args : Array Value} {ds : List (DataW H)} {p : List MemPlace} {t : TypeId} (hW : DataW.Whole enc P f.params.toList s.vars false W args.toList ds [] (p ++ []))
  (hA : DataW.TrodAll enc P W 0 (fun _ => true) true f.params.toList args.toList ds p)
  (hres : (s.fn H (ds ++ [])).results = [.lit (.bool true)]) (hargs : (s.fn H (ds ++ [])).args = ds) (hv : (s.fn H (ds ++ [])).vars = []) (hsv : s.vars = [])
  (hrt : f.resultTypes.toList = [t]) (hu : P.underlying t = some .bool) (hl : laidOutB P = true) (hall : ∀ t, t ∈ f.params.toList → P.readableRec t = true ∧ t < P.types.size)
  (hb : Below W.heap.size W W') : s.post enc P f false true false false W args (.bool true) W' := by
 have hlt : ∀ x, x ∈ p → x.block < W.heap.size := fun x hx => hW.lt x (by simp [hx])
 have hsz : f.resultTypes.size = 1 := by rw [← Array.length_toList, hrt]; rfl
 refine ⟨ds, [], p ++ [], [], p, [], hW, ?_, ?_, ?_, hb.frame _, fun h => by cases h⟩
 ·rw [hres, hrt, hsz]
  exact trodAll_mk1 (shut_bool hu true)
 ·rw [hargs]
  exact trodAll_below hl hb hall hlt hA
 ·rw [hv, hsv]; rfl
def encK (k : IntKind) (l : List Int) : T := .list 1 (l.map fun n => [.v (.int k n)])
theorem open_list {t e : TypeId} {k : IntKind} {W : World} {base : Nat} {r : Reach} {v : Value} {d : DataW H} {ps : List MemPlace} (ht : P.underlying t = some (.slice e)) (he : P.underlying e = some (.int k)) (hc : P.cellsOf e = 1)
  (hval : Value.okWide P W r base t v) (h : DataW.Trod enc P W 0 (fun _ => true) true t v d ps) :
  ∃ l : List Int, (l.length ≤ maxL → VR (fun b => W.heap[b]?) v (encK k l)) ∧ (∀ n, n ∈ l → (Lit.int k n).wf = true) ∧ (l = [] ∨ ∃ elems spare, d = .slice elems spare ∧ l.length = elems.length) := by
 obtain ⟨a0, len, cap, rfl⟩ := okWide_slice ht hval
 obtain ⟨fuel, hf⟩ := h
 rcases open_ints ht he hc hf with ⟨hcs, hx⟩ | ⟨a, len', cap', zs, hcs, _, hl, hm, hz, hx, hcell, hwz⟩
 ·simp [Value.cells] at hcs
  obtain ⟨rfl, rfl, rfl⟩ := hcs
  exact ⟨[], fun _ => .empty _ _ _, by simp, .inl rfl⟩
 ·simp [Value.cells] at hcs
  obtain ⟨rfl, rfl, rfl⟩ := hcs
  simp only [Prod.mk.injEq] at hx
  obtain ⟨rfl, rfl⟩ := hx
  simp only [if_true] at hz
  have hlt : (zs.take len).length = len := by simp; omega
  refine ⟨zs.take len, fun hmax => ?_, fun n hn => hwz n (List.mem_of_mem_take hn), .inr ⟨_, _, rfl, by simp [lits]⟩⟩
  by_cases hl0 : len = 0
  ·subst hl0; simp only [List.take_zero, encK, List.map_nil]; exact .empty _ _ _
  ·obtain ⟨b, off, spot⟩ := a
   have hspot : spot = none := by simpa [Addr.add] using World.cell?_spot (hcell 0 (by omega))
   subst hspot
   have hcell' : ∀ i, i < zs.length → W.cell? ⟨b, off + i, none⟩ = some (.int k (zs.getD i 0)) := fun i hi => by rw [← Addr.add_mk]; exact hcell i hi
   have hc0 := hcell' 0 (by omega)
   have hcs : ∃ cs ty fr, W.heap[b]? = some (.cells cs ty fr) := by
    unfold World.cell? at hc0
    split at hc0
    ·rename_i c ty fr hh; exact ⟨_, _, _, hh⟩
    ·cases hc0
   obtain ⟨cs, ty, fr, hh⟩ := hcs
   have hcs' : ∀ i, i < zs.length → cs[off + i]? = some (.int k (zs.getD i 0)) := fun i hi => by
    have := hcell' i hi
    simpa [World.cell?, hh] using this
   have hlen : ((zs.take len).map fun n => [T.v (.int k n)]).length = len := by rw [List.length_map, hlt]
   have hbig : off + len ≤ cs.size := by
    have := (Array.getElem?_eq_some_iff.1 (hcs' (len - 1) (by omega))).1
    omega
   have hgd : ∀ i e, ((zs.take len).map fun n => [T.v (.int k n)])[i]? = some e → ∀ (j : Nat) (x : T), e[j]? = some x → j = 0 ∧ x = .v (.int k (zs.getD i 0)) ∧ cs.getD (off + i * 1 + j) undef = .int k (zs.getD i 0) := by
    intro i e he j x hx
    simp only [List.getElem?_map, Option.map_eq_some_iff] at he
    obtain ⟨n, hn, rfl⟩ := he
    have hil := (List.getElem?_eq_some_iff.1 hn).1
    rw [hlt] at hil
    rw [List.getElem?_take_of_lt hil] at hn
    have hj : j = 0 := by have := (List.getElem?_eq_some_iff.1 hx).1; simp at this; exact this
    subst hj
    simp at hx
    have hzi : zs.getD i 0 = n := by simp [List.getD, hn]
    refine ⟨rfl, by rw [hzi]; exact hx.symm, ?_⟩
    rw [Array.getD_eq_getD_getElem?, show off + i * 1 + 0 = off + i by omega, hcs' i (by omega)]; rfl
   have := VR.list (H := fun b => W.heap[b]?) b off cap 1 ((zs.take len).map fun n => [T.v (.int k n)]) cs ty fr hh (by rw [hlen]; exact hl) (by rw [List.length_map]; exact hmax) (by rw [hlen]; omega)
    (fun i e he => by simp only [List.getElem?_map, Option.map_eq_some_iff] at he; obtain ⟨n, _, rfl⟩ := he; rfl)
    (fun i e he j x hx => by rw [(hgd i e he j x hx).2.2]; rfl) (fun i e he j x hx => by rw [(hgd i e he j x hx).2.2, (hgd i e he j x hx).2.1]; exact .v _)
   rw [hlen] at this
   exact this
end
theorem wf_u8 {n : Int} (h : (Lit.int .u8 n).wf = true) : 0 ≤ n ∧ n ≤ 255 := by
 have h1 : IntKind.u8.min = 0 := rfl
 have h2 : IntKind.u8.max = 255 := rfl
 simp only [Lit.wf, Bool.and_eq_true, decide_eq_true_eq] at h
 omega
theorem law_calls {E : Env} {f : FuncId} {xs : List T} {W : World} {args : Array Value} (hgl : Held fun b => W.heap[b]?) (hc : ACalls E f xs [] fun x _ => x = .v (.bool true)) (hsz : args.size = xs.length)
  (hv : ∀ (i : Nat) (x : T), xs[i]? = some x → VR (fun b => W.heap[b]?) (args.getD i undef) x) : Calls E.P f args W fun e W' => e = .returned (.bool true) ∧ Below W.heap.size W W' := by
 refine (hc.2 (fun b => W.heap[b]?) W args hsz hv ⟨fun _ _ h => h, hgl⟩ (by simp) (by simp)).mono ?_
 rintro e w' ⟨v, x, fp', H', rfl, rfl, hvr, _, _, _, _, hs, ⟨e1, e2, e3⟩, hfr⟩
 refine ⟨by rw [hvr.v_eq], ⟨e1, e2, e3, hs, fun k hk => (hfr k hk (by simp)).1⟩⟩
end Go.Aw
