/- Fills, products and batches that a reader of numbers gives. No condition. -/
import Derived.Test.YtncfbhnecmnfpaaGreatDoorP8
import Derived.Test.YtncfbhnecmnfpaaGreatDoorG1
import Derived.Test.YtncfbhnecmnfpaaGreatDoorDg
namespace Go.Proofs.YtncfbhnecmnfpaaGreatDoor
set_option linter.unusedVariables false
set_option linter.unusedSimpArgs false
open Go.Aw

/-- The volume of pieces. -/
def sumV : List Piece → Int
  | [] => 0
  | p :: l => p.Volume + sumV l
theorem sumV_append : ∀ l m : List Piece, sumV (l ++ m) = sumV l + sumV m
  | [], m => by simp [sumV]
  | x :: l, m => by simp only [List.cons_append, sumV, sumV_append l m]; omega
theorem sumV_take {l : List Piece} {k : Nat} {p : Piece} (h : l[k]? = some p) : sumV (l.take (k + 1)) = sumV (l.take k) + p.Volume := by
  rw [List.take_add_one, h, sumV_append]; simp [sumV]
theorem sumV_set : ∀ {l : List Piece} {k : Nat} {p q : Piece}, l[k]? = some p → sumV (l.set k q) = sumV l - p.Volume + q.Volume
  | [], k, p, q, h => by simp at h
  | x :: l, 0, p, q, h => by simp at h; subst h; simp only [List.set_cons_zero, sumV]; omega
  | x :: l, k + 1, p, q, h => by
    simp only [List.set_cons_succ, sumV]
    rw [sumV_set (l := l) (k := k) (q := q) (by simpa using h)]; omega
theorem sumV_len : ∀ {l : List Piece}, (∀ p, p ∈ l → 1 ≤ p.Volume) → (l.length : Int) ≤ sumV l
  | [], _ => by simp [sumV]
  | x :: l, h => by
    have := h x (by simp)
    have := sumV_len (l := l) fun p hp => h p (by simp [hp])
    simp only [sumV, List.length_cons]; omega
theorem sumV_le_take {l : List Piece} (h : ∀ p, p ∈ l → 1 ≤ p.Volume) (k : Nat) : 0 ≤ sumV (l.take k) ∧ sumV (l.take k) ≤ sumV l := by
  have e : sumV l = sumV (l.take k) + sumV (l.drop k) := by rw [← sumV_append, List.take_append_drop]
  have h1 := sumV_len (l := l.take k) fun p hp => h p (List.mem_of_mem_take hp)
  have h2 := sumV_len (l := l.drop k) fun p hp => h p (List.mem_of_mem_drop hp)
  omega

/-- Pieces of a fill. -/
structure Pcs (l : List Piece) : Prop where
  len : l.length ≤ 12
  vol : ∀ p, p ∈ l → 1 ≤ p.Volume
  bat : ∀ p, p ∈ l → 0 ≤ p.Batch ∧ p.Batch < 4
  next : ∀ (i : Nat) (p q : Piece), l[i]? = some p → l[i + 1]? = some q → p.Batch ≠ q.Batch
/-- A fill of a volume. -/
structure FillOk (cap : Int) (l : List Piece) : Prop extends Pcs l where
  sum : sumV l = cap

theorem Pcs.snoc {l : List Piece} (h : Pcs l) {p : Piece} (h1 : l.length < 12) (h2 : 1 ≤ p.Volume) (h3 : 0 ≤ p.Batch ∧ p.Batch < 4) (h4 : ∀ q, l[l.length - 1]? = some q → q.Batch ≠ p.Batch) : Pcs (l ++ [p]) := by
  refine ⟨by simp; omega, fun q hq => ?_, fun q hq => ?_, fun i q r hq hr => ?_⟩
  · rcases List.mem_append.1 hq with hq | hq
    · exact h.vol q hq
    · simp at hq; subst hq; exact h2
  · rcases List.mem_append.1 hq with hq | hq
    · exact h.bat q hq
    · simp at hq; subst hq; exact h3
  · have hi := (List.getElem?_eq_some_iff.1 hr).1
    simp at hi
    rw [List.getElem?_append_left (by omega)] at hq
    by_cases he : i + 1 < l.length
    · rw [List.getElem?_append_left he] at hr
      exact h.next i q r hq hr
    · have : i + 1 = l.length := by omega
      rw [List.getElem?_append_right (by omega), this] at hr
      simp at hr; subst hr
      exact h4 q (by rw [show l.length - 1 = i by omega]; exact hq)

theorem fill_ok {s : Src} (hs : SrcOk s) {v : Int} (hv : 1 ≤ v ∧ v ≤ 1000) : Ok (L.keep_Src_Fill s v 4) fun r => FillOk v r.1 ∧ SrcOk r.2 := by
  unfold L.keep_Src_Fill
  refine .bind (Q := fun d : List Int × Int × List Piece => SrcOk ⟨d.1, d.2.1⟩ ∧ FillOk v d.2.2) ?_ fun d hd => by unfold L.keep_Src_Fill.J1; exact .pure ⟨hd.2, hd.1⟩
  refine .loop (fun st : List Int × Int × Int × List Piece => SrcOk ⟨st.1, st.2.1⟩ ∧ 0 ≤ st.2.2.1 ∧ Pcs st.2.2.2 ∧ sumV st.2.2.2 + st.2.2.1 = v ∧ (st.2.2.2.length = 12 → st.2.2.1 = 0)) (fun st => st.2.2.1.toNat)
    ⟨hs, by dsimp only; omega, ⟨by simp, by simp, by simp, by simp⟩, by simp [sumV], by simp⟩ (by dsimp only; omega) ?_
  rintro ⟨L_, At, vol, out⟩ ⟨h1, h2, h3, h4, h5⟩
  dsimp only at h1 h2 h3 h4 h5
  have hsum := sumV_len h3.vol
  have hlen := h3.len
  unfold L.keep_Src_Fill.B2
  dsimp only
  refine Ok.iteB (fun hc => ?_) fun hc => .pure ⟨h1, h3, ?_⟩
  rotate_left
  · dsimp only
    simp at hc
    by_cases h0 : 0 < vol
    · have := hc h0; have := h5 (by omega); omega
    · omega
  simp at hc
  refine .bind (n_ok h1 (by decide) (by decide)) ?_
  rintro ⟨b, s1⟩ ⟨hs1, hb⟩
  have hw : wr ((wr (vol * 2)).tdiv 3) = vol * 2 / 3 := by rw [wr_id (x := vol * 2) (by omega), Int.tdiv_eq_ediv_of_nonneg (by omega), wr_id (by omega)]
  dsimp only
  rw [hw]
  refine .bind (range_ok hs1 (by omega) (by decide) (by omega)) ?_
  rintro ⟨x, s2⟩ ⟨hs2, hx⟩
  dsimp only at hb hx hs2 ⊢
  have j4 : ∀ (y : Int) (z : Int), 1 ≤ y → (out.length = 11 → y = vol) → (0 ≤ z ∧ z < 4) → (∀ q, out[out.length - 1]? = some q → q.Batch ≠ z) →
      Ok (L.keep_Src_Fill.J4 (L_, At, vol, out) (x, s2) y z) (Sum.elim (fun st : List Int × Int × Int × List Piece => (SrcOk ⟨st.1, st.2.1⟩ ∧ 0 ≤ st.2.2.1 ∧ Pcs st.2.2.2 ∧ sumV st.2.2.2 + st.2.2.1 = v ∧ (st.2.2.2.length = 12 → st.2.2.1 = 0)) ∧ st.2.2.1.toNat < vol.toNat)
        fun d : List Int × Int × List Piece => SrcOk ⟨d.1, d.2.1⟩ ∧ FillOk v d.2.2) := by
    intro y z hy hy2 hz hq
    unfold L.keep_Src_Fill.J4
    dsimp only
    refine .bind' (.app (by simp; omega) (.pure ⟨⟨hs2.eta, ?_, h3.snoc (by omega) (by dsimp only; omega) hz hq, ?_, ?_⟩, ?_⟩))
    · dsimp only; rw [wr_id (by omega)]; omega
    · dsimp only; rw [sumV_append, wr_id (by omega)]; simp only [sumV]; omega
    · intro h; dsimp only at h ⊢; rw [wr_id (by omega)]; simp at h; have := hy2 (by omega); omega
    · dsimp only; rw [wr_id (by omega)]; omega
  have j3 : ∀ y : Int, 1 ≤ y → (out.length = 11 → y = vol) → Ok (L.keep_Src_Fill.J3 4 (L_, At, vol, out) (b, s1) (x, s2) y) (Sum.elim (fun st : List Int × Int × Int × List Piece => (SrcOk ⟨st.1, st.2.1⟩ ∧ 0 ≤ st.2.2.1 ∧ Pcs st.2.2.2 ∧ sumV st.2.2.2 + st.2.2.1 = v ∧ (st.2.2.2.length = 12 → st.2.2.1 = 0)) ∧ st.2.2.1.toNat < vol.toNat)
        fun d : List Int × Int × List Piece => SrcOk ⟨d.1, d.2.1⟩ ∧ FillOk v d.2.2) := by
    intro y hy hy2
    unfold L.keep_Src_Fill.J3
    dsimp only
    refine Ok.iteD (fun h0 => ?_) fun h0 => ?_
    · have hl1 : out[out.length - 1]? = some (out[out.length - 1]'(by omega)) := List.getElem?_eq_getElem _
      obtain ⟨q, hqe⟩ : ∃ q, q = out[out.length - 1]'(by omega) := ⟨_, rfl⟩
      rw [← hqe] at hl1
      have e0 : wr ((out.length : Int) - 1) = ((out.length - 1 : Nat) : Int) := by rw [wr_id (by omega)]; omega
      rw [e0]
      have hbat := h3.bat q (List.mem_of_getElem? hl1)
      refine .bind' (.eq (ix_nat hl1) ?_)
      dsimp only
      unfold L.keep_Src_Fill.J5
      refine Ok.iteB (fun he => ?_) fun he => ?_
      · have he' : q.Batch = b := by simpa using he
        dsimp only
        have hr : (wr (b + 1)).tmod 4 = (b + 1) % 4 := by rw [wr_id (by omega), Int.tmod_eq_emod_of_nonneg (by omega)]
        refine .bind' (.rem (by decide) ?_)
        rw [hr, e0]
        refine .bind' (.eq (ix_nat hl1) (Ok.iteE (fun h => ?_) fun h => j4 y _ hy hy2 (by omega) fun q' hq' => ?_))
        · dsimp only at h; omega
        · rw [hl1] at hq'; cases hq'; exact h
      · refine j4 y b hy hy2 hb fun q' hq' => ?_
        rw [hl1] at hq'; cases hq'
        simpa using he
    · unfold L.keep_Src_Fill.J5
      refine Ok.iteB (fun h => by cases h) fun _ => j4 y b hy hy2 hb fun q hq => ?_
      have : out.length = 0 := by omega
      have := (List.getElem?_eq_some_iff.1 hq).1
      omega
  refine Ok.iteE (fun h => j3 vol (by omega) fun _ => rfl) fun h => j3 x (by omega) fun hh => by omega

/-! ### Products and batches -/

structure ProdOk (k : Nat) (p : Product) : Prop where
  name : p.Name = nm 112 k
  density : 400 ≤ p.Density ∧ p.Density ≤ 1200
  expansion : 0 ≤ p.Expansion ∧ p.Expansion ≤ 2000
  compress : 0 ≤ p.Compress ∧ p.Compress ≤ 5000
  friction : 1 ≤ p.Friction ∧ p.Friction ≤ 2000
structure ProdsOk (l : List Product) : Prop where
  len : 1 ≤ l.length ∧ l.length ≤ 4
  all : ∀ (k : Nat) (p : Product), l[k]? = some p → ProdOk k p

theorem product_ok {s : Src} (hs : SrcOk s) {k : Nat} (hk : k < 26) : Ok (L.keep_Src_Product s (k : Int)) fun r => ProdOk k r.1 ∧ SrcOk r.2 := by
  unfold L.keep_Src_Product
  refine .bind' (.eq (name_ok hk) ?_)
  refine .bind (range_ok hs (by decide) (by decide) (by decide)) fun r1 h1 => .bind (pick_ok h1.1 (by decide) (by decide)) fun r2 h2 => .bind (pick_ok h2.1 (by decide) (by decide)) fun r3 h3 => .bind (pick_ok h3.1 (by decide) (by decide)) fun r4 h4 => .pure ⟨⟨rfl, h1.2, ?_, ?_, ?_⟩, h4.1⟩
  · have := h2.2; simp at this; dsimp only; omega
  · have := h3.2; simp at this; dsimp only; omega
  · have := h4.2; simp at this; dsimp only; omega

theorem products_ok {s : Src} (hs : SrcOk s) : Ok (L.keep_Src_Products s) fun r => ProdsOk r.1 ∧ SrcOk r.2 := by
  unfold L.keep_Src_Products
  refine .bind (range_ok hs (by decide) (by decide) (by decide)) ?_
  rintro ⟨c, s1⟩ ⟨hs1, hc⟩
  dsimp only at hc hs1 ⊢
  refine .bind (Q := fun d : List Int × Int × List Product => SrcOk ⟨d.1, d.2.1⟩ ∧ ProdsOk d.2.2) ?_ fun d hd => by unfold L.keep_Src_Products.J1; exact .pure ⟨hd.2, hd.1⟩
  refine .loop (fun st : List Int × Int × List Product × Int => SrcOk ⟨st.1, st.2.1⟩ ∧ 0 ≤ st.2.2.2 ∧ (st.2.2.1.length : Int) + st.2.2.2 = c ∧ ∀ (k : Nat) (p : Product), st.2.2.1[k]? = some p → ProdOk k p) (fun st => st.2.2.2.toNat)
    ⟨hs1.eta, by dsimp only; omega, by simp, by simp⟩ (by dsimp only; omega) ?_
  rintro ⟨L_, At, out, i⟩ ⟨h1, h2, h3, h4⟩
  dsimp only at h1 h2 h3 h4
  unfold L.keep_Src_Products.B2
  dsimp only
  refine Ok.iteD (fun h => ?_) fun h => .pure ⟨h1, by dsimp only; omega, h4⟩
  refine .bind (product_ok h1 (by omega)) fun r hr => .bind' (.app (by simp; omega) (.pure ⟨⟨hr.2.eta, ?_, ?_, ?_⟩, ?_⟩))
  · dsimp only; rw [wr_id (by omega)]; omega
  · dsimp only; rw [wr_id (by omega)]; simp; omega
  · intro k p hp
    dsimp only at hp
    rw [List.getElem?_append] at hp
    split at hp
    · exact h4 k p hp
    · rename_i hk
      have := (List.getElem?_eq_some_iff.1 hp).1
      simp at this
      have : k = out.length := by omega
      subst this
      simp at hp; subst hp; exact hr.1
  · dsimp only; rw [wr_id (by omega)]; omega

structure BatsOk (n : Nat) (l : List Batch) : Prop where
  len : l.length = 4
  all : ∀ p, p ∈ l → 0 ≤ p.Product ∧ p.Product < (n : Int)

theorem batches_ok {s : Src} (hs : SrcOk s) {n : Nat} (hn : 1 ≤ n ∧ n ≤ 4) : Ok (L.keep_Src_Batches s 4 (n : Int)) fun r => BatsOk n r.1 ∧ SrcOk r.2 := by
  unfold L.keep_Src_Batches
  refine .bind (Q := fun d : List Int × Int × List Batch => SrcOk ⟨d.1, d.2.1⟩ ∧ BatsOk n d.2.2) ?_ fun d hd => by unfold L.keep_Src_Batches.J1; exact .pure ⟨hd.2, hd.1⟩
  refine .loop (fun st : List Int × Int × List Batch × Int => SrcOk ⟨st.1, st.2.1⟩ ∧ st.2.2.2 = (st.2.2.1.length : Int) ∧ st.2.2.1.length ≤ 4 ∧ ∀ p, p ∈ st.2.2.1 → 0 ≤ p.Product ∧ p.Product < (n : Int)) (fun st => 4 - st.2.2.1.length)
    ⟨hs.eta, by simp, by simp, by simp⟩ (by dsimp only; omega) ?_
  rintro ⟨L_, At, out, i⟩ ⟨h1, h2, h3, h4⟩
  dsimp only at h1 h2 h3 h4
  subst h2
  unfold L.keep_Src_Batches.B2
  dsimp only
  refine Ok.iteD (fun h => ?_) fun h => .pure ⟨h1, by dsimp only; omega, h4⟩
  refine .bind (n_ok h1 (by omega) (by omega)) fun r1 hr1 => .bind (n_ok hr1.1 (by decide) (by decide)) ?_
  rintro ⟨y, s2⟩ ⟨hs2, hy⟩
  dsimp only at hy hs2 ⊢
  obtain ⟨k, rfl⟩ := nat_of hy.1
  refine .bind' (.eq (name_ok (c := 102) (by omega)) (.bind' (.app (by simp; omega) (.pure ⟨⟨hs2.eta, ?_, ?_, ?_⟩, ?_⟩))))
  · dsimp only; rw [wr_id (by omega)]; simp
  · dsimp only; simp; omega
  · intro p hp
    dsimp only at hp
    rcases List.mem_append.1 hp with hp | hp
    · exact h4 p hp
    · simp at hp; subst hp; exact hr1.2
  · dsimp only; simp; omega

/-- What a segment is by itself. -/
structure SegG (s : Segment) : Prop where
  name : s.Name = nm 103 0
  cap : 1 ≤ s.Capacity ∧ s.Capacity ≤ 1000
  resist : 0 ≤ s.Resist ∧ s.Resist ≤ 1000
  wave : 0 ≤ s.Wave ∧ s.Wave ≤ 100000
  points : PointsOk s.Capacity s.Points

structure World19 (s : Segment) (f : List Piece) (b : List Batch) (p : List Product) : Prop where
  seg : SegG s
  fill : FillOk s.Capacity f
  bats : BatsOk p.length b
  prods : ProdsOk p

theorem world_ok {d : Src} (hd : SrcOk d) : Ok (L.law19_world d) fun r => World19 r.1 r.2.1 r.2.2.1 r.2.2.2.1 ∧ SrcOk r.2.2.2.2 := by
  unfold L.law19_world
  refine .bind (seg_ok hd (nodes := 2) (k := 0) (by decide) (by decide) (by decide) (by decide)) fun r1 h1 => .bind (products_ok h1.2) fun r2 h2 => ?_
  have hc := h1.1.cap
  refine .bind (fill_ok h2.2 hc) fun r3 h3 => .bind (batches_ok h3.2 h2.1.len) fun r4 h4 => .pure ⟨⟨⟨h1.1.name, h1.1.cap, h1.1.resist, h1.1.wave, h1.1.points⟩, h3.1, h4.1, h2.1⟩, h4.2⟩

end Go.Proofs.YtncfbhnecmnfpaaGreatDoor
