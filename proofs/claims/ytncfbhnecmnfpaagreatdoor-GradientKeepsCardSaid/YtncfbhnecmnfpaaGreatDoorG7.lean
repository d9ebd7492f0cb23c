/- The levels along a segment: what Along returns. No condition. -/
import Derived.Test.YtncfbhnecmnfpaaGreatDoorG6
namespace Go.Proofs.YtncfbhnecmnfpaaGreatDoor
set_option linter.unusedVariables false
set_option linter.unusedSimpArgs false
open Go.Aw

theorem way_ok {s : Segment} {r q : Int} {b : Bounds} {places : List Int} {way : List gradient_part} (hc : 1 ≤ s.Capacity ∧ s.Capacity ≤ 1000) (hr : 0 ≤ s.Resist ∧ s.Resist ≤ 1000) (hq : max r (wr (0 - r)) = q) (hq1 : 1 ≤ q ∧ q ≤ 1000)
    (hl : way.length + 1 = places.length) (hl2 : places.length ≤ 200) (hw : ∀ x, x ∈ way → PartOk s x) (h1 : -1125899906842624 ≤ b.Low ∧ b.Low ≤ 1125899906842624) (h2 : -1125899906842624 ≤ b.High ∧ b.High ≤ 1125899906842624) {a : Int} (ha : places[0]? = some a) :
    Ok (forJ (L.gradient_Along.B4 s r (way, places)) 0 way.length (b.Low, b.High, [⟨a, b⟩])) fun st => st.2.2 = lvls s q b places way := by
  refine .forJ (fun k st => st.1 = b.Low - sumBy (hi s q) (way.take k) ∧ st.2.1 = b.High - sumBy (lo s q) (way.take k) ∧ st.2.2 = (List.range (k + 1)).map (lvl s q b places way)) ⟨by simp [sumBy], by simp [sumBy], ?_⟩ ?_ ?_
  · simp [lvl, List.range_succ, List.getD, ha, sumBy]
  · rintro k ⟨x1, x2, out⟩ hk ⟨i1, i2, i3⟩
    dsimp only at i1 i2 i3
    subst i1 i2 i3
    have hx : way[k]? = some (way[k]'hk) := List.getElem?_eq_getElem _
    have hm := hw _ (List.mem_of_getElem? hx)
    have bd : ∀ x, x ∈ way.take (k + 1) → PartOk s x := fun x hx => hw x (List.mem_of_mem_take hx)
    have bd0 : ∀ x, x ∈ way.take k → PartOk s x := fun x hx => hw x (List.mem_of_mem_take hx)
    have s1 := sumBy_bd (g := lo s q) (B := 3000000000000000) (l := way.take (k + 1)) fun x hx => (lo_bd hc.1 hr hq1 (bd x hx)).1
    have s2 := sumBy_bd (g := hi s q) (B := 3000000000000000) (l := way.take (k + 1)) fun x hx => (lo_bd hc.1 hr hq1 (bd x hx)).2
    have t1 := sumBy_take (lo s q) hx
    have t2 := sumBy_take (hi s q) hx
    simp only [List.length_take] at s1 s2
    unfold L.gradient_Along.B4
    refine .bind' (.ix k rfl hk (.bind' (.eq (by rw [hq]; exact loss_ok hc hr hq1 hm) (.bind' (.ix (k + 1) rfl (by dsimp only; omega) (.bind' (.app (by simp; omega) (.pure ⟨?_, ?_, ?_⟩))))))))
    · dsimp only; rw [t2, wr_id (by omega)]; omega
    · dsimp only; rw [t1, wr_id (by omega)]; omega
    · dsimp only
      rw [List.range_succ (n := k + 1), List.map_append]
      have e1 : wr (b.Low - sumBy (hi s q) (way.take k) - hi s q way[k]) = b.Low - sumBy (hi s q) (way.take (k + 1)) := by rw [t2, wr_id (by omega)]; omega
      have e2 : wr (b.High - sumBy (lo s q) (way.take k) - lo s q way[k]) = b.High - sumBy (lo s q) (way.take (k + 1)) := by rw [t1, wr_id (by omega)]; omega
      rw [e1, e2]
      simp [lvl, List.getD, List.getElem?_eq_getElem (show k + 1 < places.length by omega)]
  · rintro ⟨x1, x2, out⟩ ⟨i1, i2, i3⟩
    dsimp only at i3 ⊢
    rw [i3, hl]; rfl

/-- What Along returns. -/
def along (s : Segment) (f : List Piece) (W : List gradient_part) (r : Int) (b : Bounds) : List Level :=
  if r < 0 then (lvls s (-r) b (brk s f).reverse (W.reverse.map neg)).reverse else lvls s r b (brk s f) W

theorem liq_ok {f : List Piece} {b : List Batch} {p : List Product} {cap : Int} (hf : FillOk cap f) (hb : BatsOk p.length b) : ∃ l, L.gradient_liquids f b p = some (l, 0) ∧ l.length = f.length ∧ ∀ y, y ∈ l → y ∈ p := by
  obtain ⟨⟨l, e⟩, h, h1, h2, h3⟩ := liquids_ok hf hb
  dsimp only at h1 h2 h3
  subst h1
  exact ⟨l, h, h2, h3⟩

theorem prod_bd {p : List Product} (hp : ProdsOk p) {y : Product} (hy : y ∈ p) : (400 ≤ y.Density ∧ y.Density ≤ 1200) ∧ 1 ≤ y.Friction ∧ y.Friction ≤ 2000 := by
  obtain ⟨k, hk⟩ := List.getElem?_of_mem hy
  have := hp.all k y hk
  exact ⟨this.density, this.friction⟩

theorem along_ok {s : Segment} {f : List Piece} {bs : List Batch} {p l : List Product} (hs : SegG s) (hf : FillOk s.Capacity f) (hp : ProdsOk p) (hliq : L.gradient_liquids f bs p = some (l, 0)) (hlen : l.length = f.length) (hmem : ∀ y, y ∈ l → y ∈ p) :
    ∃ W, Parts s f l W ∧ (∀ x, x ∈ W → PartOk s x) ∧ ∀ (r : Int) (b : Bounds), r ≠ 0 → -1000 ≤ r → r ≤ 1000 → b.Low ≤ b.High → -1125899906842624 ≤ b.Low → b.High ≤ 1125899906842624 → L.gradient_Along s f bs p r b = some (along s f W r b, 0) := by
  obtain ⟨W, hW, hP⟩ := parts_ok hs hf hlen
  have hPo : ∀ x, x ∈ W → PartOk s x := fun x hx => by
    obtain ⟨i, hi⟩ := List.getElem?_of_mem hx
    exact (hP.all i x hi).ok hs hf fun y hy => prod_bd hp (hmem y hy)
  refine ⟨W, hP, hPo, fun r b hr0 hr1 hr2 hb1 hb2 hb3 => ?_⟩
  have hc := hs.cap
  have hpl := hs.points.len
  have hfl := hf.len
  have hbl := brk_len s f
  have hb2' := brk_two hs.points hc.1 hf
  have hWl := hP.len
  have hright : L.gradient_right b = true := by unfold L.gradient_right; simp; omega
  have hcond : ((r == 0) || (decide (r < (-1000)) || (decide (r > 1000) || (!(L.gradient_right b))))) = false := by rw [hright]; simp; omega
  have e1 : L.slices_Clone_int_int (brk s f) = some (brk s f) := by
    unfold L.slices_Clone_int_int
    rw [app?_eq (by simp; omega)]; rfl
  unfold L.gradient_Along
  rw [filledOk hs hf, productsCheck hp, hliq, breaks_ok ⟨by omega, by omega⟩ hfl hf.vol (by have := hf.sum; omega)]
  simp only [Option.bind_some, hcond, bne_self_eq_false, Bool.false_eq_true, if_false, Option.bind_some, hW, e1]
  have body : ∀ (places : List Int) (way : List gradient_part), way.length + 1 = places.length → places.length = (brk s f).length → (∀ x, x ∈ way → PartOk s x) →
      L.gradient_Along.J1 s r b (way, places) = (if decide (r < 0) = true then some ((lvls s (-r) b places way).reverse, 0) else some (lvls s r b places way, 0)) := by
    intro places way h1 h2 h3
    have h0 : places[0]? = some (places[0]'(by omega)) := List.getElem?_eq_getElem _
    have hq : max r (wr (0 - r)) = if r < 0 then -r else r := by rw [wr_id (by omega)]; split <;> omega
    obtain ⟨st, g1, g2⟩ := way_ok (s := s) (r := r) (b := b) hc hs.resist hq (by split <;> omega) h1 (by omega) h3 (by omega) (by omega) h0
    unfold L.gradient_Along.J1
    have h0' : ix places 0 = some (0, places[0]) := ix_nat h0
    rw [h0']
    simp only [Option.bind_some, g1, L.gradient_Along.J2, L.gradient_Along.J3, g2]
    by_cases hr : r < 0
    · simp only [hr, decide_true, if_true]
      rw [rev_level (by rw [lvls_len]; omega)]; rfl
    · simp only [hr, decide_false, if_false, Bool.false_eq_true]
  unfold along
  by_cases hr : r < 0
  · simp only [hr, decide_true, if_true]
    rw [rev_int (by omega), rev_part (by omega)]
    simp only [Option.bind_some]
    have hneg : forJ L.gradient_Along.B5 0 W.reverse.length W.reverse = some (W.reverse.map neg) := each_ok _ fun k m x hx hm => by
      have hb := (hPo x (List.mem_reverse.1 (List.mem_of_getElem? hx))).height
      unfold L.gradient_Along.B5
      rw [ix_nat hm]
      simp only [Option.bind_some]
      rw [wr_id (by omega), Int.zero_sub]; rfl
    rw [hneg]
    simp only [Option.bind_some]
    rw [body _ _ (by simp; omega) (by simp) (by
      intro x hx
      simp only [List.mem_map, List.mem_reverse] at hx
      obtain ⟨y, hy, rfl⟩ := hx
      exact neg_ok (hPo y hy))]
    simp only [hr, decide_true, if_true]
  · simp only [hr, decide_false, if_false, Bool.false_eq_true]
    rw [body _ _ (by omega) rfl hPo]
    simp only [hr, decide_false, if_false, Bool.false_eq_true]

theorem awake19 : L.law19_awake = some true := by kernel_rfl

theorem bounds_ok {d : Src} (hd : SrcOk d) : Ok (L.law19_bounds d) fun r => (-1000 ≤ r.1.Low ∧ r.1.Low ≤ 5000000 ∧ r.1.Low ≤ r.1.High ∧ r.1.High ≤ r.1.Low + 198) ∧ SrcOk r.2 := by
  unfold L.law19_bounds
  refine .bind (pick_ok hd (by decide) (by decide)) fun r1 h1 => .bind (n_ok h1.1 (by decide) (by decide)) fun r2 h2 => .bind (n_ok h2.1 (by decide) (by decide)) fun r3 h3 => .pure ?_
  have hl : -1000 ≤ r1.1 ∧ r1.1 ≤ 5000000 := by
    have := h1.2
    simp at this
    omega
  have hm : 0 ≤ r2.1 * r3.1 ∧ r2.1 * r3.1 ≤ 198 := by
    have a := h2.2; have b := h3.2
    have : r2.1 = 0 ∨ r2.1 = 1 ∨ r2.1 = 2 := by omega
    rcases this with h | h | h <;> rw [h] <;> omega
  dsimp only
  rw [wr_id (x := r2.1 * r3.1) (by omega), wr_id (by omega)]
  exact ⟨by omega, h3.1⟩

end Go.Proofs.YtncfbhnecmnfpaaGreatDoor
