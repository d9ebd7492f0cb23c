/- GradientEncloses and GradientTurns answer true. No condition. -/
import Derived.Test.YtncfbhnecmnfpaaGreatDoorG8
namespace Go.Proofs.YtncfbhnecmnfpaaGreatDoor
set_option linter.unusedVariables false
set_option linter.unusedSimpArgs false
open Go.Aw

theorem along_len (s : Segment) (f : List Piece) (W : List gradient_part) (r : Int) (b : Bounds) : (along s f W r b).length = (brk s f).length := by
  unfold along; split <;> simp [lvls_len]
def wayOf (W : List gradient_part) (r : Int) : List gradient_part := if r < 0 then W.reverse.map neg else W
def placesOf (s : Segment) (f : List Piece) (r : Int) : List Int := if r < 0 then (brk s f).reverse else brk s f
def ixOf (s : Segment) (f : List Piece) (r : Int) (i : Nat) : Nat := if r < 0 then (brk s f).length - 1 - i else i
def absR (r : Int) : Int := if r < 0 then -r else r
theorem along_get (s : Segment) (f : List Piece) (W : List gradient_part) (r : Int) (b : Bounds) {i : Nat} (h : i < (brk s f).length) :
    (along s f W r b)[i]? = some (lvl s (absR r) b (placesOf s f r) (wayOf W r) (ixOf s f r i)) := by
  unfold along wayOf placesOf ixOf absR
  split
  · rw [List.getElem?_reverse (by rw [lvls_len]; simp; omega), lvls_len, List.length_reverse, lvls_get _ _ _ _ (by simp; omega)]
  · rw [lvls_get _ _ _ _ h]
theorem wayOf_ok {s : Segment} {W : List gradient_part} (h : ∀ x, x ∈ W → PartOk s x) (r : Int) : ∀ x, x ∈ wayOf W r → PartOk s x := by
  intro x hx
  unfold wayOf at hx
  split at hx
  · simp only [List.mem_map, List.mem_reverse] at hx
    obtain ⟨y, hy, rfl⟩ := hx
    exact neg_ok (h y hy)
  · exact h x hx
theorem wayOf_len (W : List gradient_part) (r : Int) : (wayOf W r).length = W.length := by unfold wayOf; split <;> simp

theorem sumBy_gap {α : Type} {g h : α → Int} {c : Int} : ∀ {l : List α}, (∀ x, x ∈ l → h x ≤ g x + c) → sumBy h l ≤ sumBy g l + c * l.length
  | [], _ => by simp [sumBy]
  | x :: l, hh => by
    have h1 := hh x (by simp)
    have h2 := sumBy_gap (l := l) fun y hy => hh y (by simp [hy])
    simp only [sumBy, List.length_cons, Int.natCast_add, Int.mul_add]
    omega

theorem lvl_gap {s : Segment} {q : Int} {way : List gradient_part} (hc : 1 ≤ s.Capacity ∧ s.Capacity ≤ 1000) (hr : 0 ≤ s.Resist ∧ s.Resist ≤ 1000) (hq : 1 ≤ q ∧ q ≤ 1000) (hw : ∀ x, x ∈ way → PartOk s x) (j : Nat) (hj : j ≤ 100) :
    sumBy (lo s q) (way.take j) ≤ sumBy (hi s q) (way.take j) ∧ sumBy (hi s q) (way.take j) ≤ sumBy (lo s q) (way.take j) + 2 * j ∧
    (-300000000000000000 ≤ sumBy (lo s q) (way.take j) ∧ sumBy (lo s q) (way.take j) ≤ 300000000000000000) ∧ -300000000000000000 ≤ sumBy (hi s q) (way.take j) ∧ sumBy (hi s q) (way.take j) ≤ 300000000000000000 := by
  have bd : ∀ x, x ∈ way.take j → PartOk s x := fun x hx => hw x (List.mem_of_mem_take hx)
  have s1 := sumBy_bd (g := lo s q) (B := 3000000000000000) (l := way.take j) fun x hx => (lo_bd hc.1 hr hq (bd x hx)).1
  have s2 := sumBy_bd (g := hi s q) (B := 3000000000000000) (l := way.take j) fun x hx => (lo_bd hc.1 hr hq (bd x hx)).2
  have s3 := sumBy_le (g := lo s q) (h := hi s q) (l := way.take j) fun x hx => (lohi hc.1 (bd x hx)).1
  have s4 := sumBy_gap (g := lo s q) (h := hi s q) (c := 2) (l := way.take j) fun x hx => (lohi hc.1 (bd x hx)).2
  simp only [List.length_take] at s1 s2 s4
  omega

theorem encloses_J1 {d : Src} {s : Segment} {f : List Piece} {bs : List Batch} {p : List Product} {by_ r : Int} (hw : World19 s f bs p) (hd : SrcOk d) (hby : 0 ≤ by_ ∧ by_ ≤ 65535) (hr0 : r ≠ 0) (hr : -1000 ≤ r ∧ r ≤ 1000) :
    Ok (L.law19_GradientEncloses.J1 by_ (s, f, bs, p, d) r) fun x => x = true := by
  obtain ⟨l, hl1, hl2, hl3⟩ := liq_ok hw.fill hw.bats
  obtain ⟨W, hW, hP, hA⟩ := along_ok hw.seg hw.fill hw.prods hl1 hl2 hl3
  have hc := hw.seg.cap
  have hpl := hw.seg.points.len
  have hfl := hw.fill.len
  have hbl := brk_len s f
  have hb2 := brk_two hw.seg.points hc.1 hw.fill
  have hq : 1 ≤ absR r ∧ absR r ≤ 1000 := by unfold absR; split <;> omega
  have hway := wayOf_ok hP r
  unfold L.law19_GradientEncloses.J1
  refine .bind (bounds_ok hd) ?_
  rintro ⟨b, d2⟩ ⟨hb, hd2⟩
  dsimp only at hb ⊢
  rw [wr_id (x := by_) (by omega), wr_id (x := b.Low + by_) (by omega), wr_id (x := b.High + by_) (by omega)]
  refine .bind' (.eq (hA r b hr0 hr.1 hr.2 (by omega) (by omega) (by omega)) (.bind' (.eq (hA r _ hr0 hr.1 hr.2 (by dsimp only; omega) (by dsimp only; omega) (by dsimp only; omega)) ?_)))
  refine Ok.iteB (fun h => ?_) fun _ => ?_
  · simp [along_len] at h; omega
  refine .bind' (.forI (fun _ _ => True) (fun _ => False) trivial ?_ ?_ fun _ h => h.elim)
  · rintro k st hk _
    dsimp only at hk
    rw [along_len] at hk
    have g1 := along_get s f W r b hk
    have g2 := along_get s f W r ⟨b.Low + by_, b.High + by_⟩ hk
    have hjx : ixOf s f r k ≤ 100 := by unfold ixOf; split <;> omega
    have gap := lvl_gap hc hw.seg.resist hq hway (ixOf s f r k) hjx
    have key : L.law19_GradientEncloses.J4 by_ (b, d2) (along s f W r b, 0) (along s f W r ⟨b.Low + by_, b.High + by_⟩, 0) k (ixOf s f r k : Int) = some (.inl ()) := by
      unfold L.law19_GradientEncloses.J4
      dsimp only
      rw [ix_nat g1, ix_nat g2]
      simp only [Option.bind_some, lvl, L.law19_GradientEncloses.J5]
      generalize sumBy (lo s (absR r)) ((wayOf W r).take (ixOf s f r k)) = A at gap ⊢
      generalize sumBy (hi s (absR r)) ((wayOf W r).take (ixOf s f r k)) = B at gap ⊢
      generalize ixOf s f r k = j at gap hjx ⊢
      rw [wr_id (x := b.High - A - (b.Low - B)) (by omega), wr_id (x := b.High - b.Low) (by omega), wr_id (x := by_) (by omega), wr_id (x := 2 * (j : Int)) (by omega), wr_id (x := b.High - b.Low + 2 * (j : Int)) (by omega),
        wr_id (x := b.Low - B + by_) (by omega), wr_id (x := b.High - A + by_) (by omega)]
      rw [show decide (b.High - A - (b.Low - B) < b.High - b.Low) = false by simp; omega, show decide (b.High - A - (b.Low - B) > b.High - b.Low + 2 * (j : Int)) = false by simp; omega,
        show (b.Low + by_ - B != b.Low - B + by_) = false by simp; omega, show (b.High + by_ - A != b.High - A + by_) = false by simp; omega]
      simp
    unfold L.law19_GradientEncloses.B3
    dsimp only
    rw [along_len]
    refine Ok.iteD (fun hn => ?_) fun hn => ?_
    · rw [wr_id (x := ((brk s f).length : Int) - 1) (by omega), wr_id (by omega), show ((brk s f).length : Int) - 1 - (k : Int) = (ixOf s f r k : Int) by unfold ixOf; rw [if_pos hn]; omega, key]
      exact .pure trivial
    · rw [show (k : Int) = (ixOf s f r k : Int) by unfold ixOf; rw [if_neg hn], key]
      exact .pure trivial
  · intro st _
    dsimp only [Sum.elim]
    unfold L.law19_GradientEncloses.J2
    rw [awake19]; exact .pure rfl

theorem gradientEncloses (l : List Int) (rate by_ : Int) (h1 : -32768 ≤ rate ∧ rate ≤ 32767) (h2 : 0 ≤ by_ ∧ by_ ≤ 65535) : L.law19_GradientEncloses l rate by_ = some true := by
  have : Ok (L.law19_GradientEncloses l rate by_) fun x => x = true := by
    unfold L.law19_GradientEncloses
    refine .bind (new_ok l) fun d hd => .bind (world_ok hd) ?_
    rintro ⟨s, f, bs, p, d2⟩ ⟨hw, hd2⟩
    dsimp only at hw hd2 ⊢
    rw [wr_id (x := rate) (by omega)]
    have hm : -1000 ≤ rate.tmod 1001 ∧ rate.tmod 1001 ≤ 1000 := by
      have a := Int.tmod_lt_of_pos rate (b := 1001) (by decide)
      have b := Int.lt_tmod_of_pos rate (b := 1001) (by decide)
      omega
    refine Ok.iteE (fun h => ?_) fun h => ?_
    · exact encloses_J1 hw hd2 h2 (by decide) (by decide)
    · exact encloses_J1 hw hd2 h2 h hm
  obtain ⟨x, h, rfl⟩ := this
  exact h

/-! ### There and back -/

theorem gradientTurns (l : List Int) (rate : Int) (h1 : 0 ≤ rate ∧ rate ≤ 65535) : L.law19_GradientTurns l rate = some true := by
  have : Ok (L.law19_GradientTurns l rate) fun x => x = true := by
    unfold L.law19_GradientTurns
    refine .bind (new_ok l) fun d hd => .bind (world_ok hd) ?_
    rintro ⟨s, f, bs, p, d2⟩ ⟨hw, hd2⟩
    dsimp only at hw hd2 ⊢
    have hm : 0 ≤ rate.tmod 1000 ∧ rate.tmod 1000 ≤ 999 := by
      have a := Int.tmod_lt_of_pos rate (b := 1000) (by decide)
      have b := Int.tmod_nonneg 1000 (a := rate) (by omega)
      omega
    rw [wr_id (x := rate) (by omega), wr_id (x := 1 + rate.tmod 1000) (by omega), wr_id (x := 0 - (1 + rate.tmod 1000)) (by omega)]
    obtain ⟨r, hr⟩ : ∃ r, r = 1 + rate.tmod 1000 := ⟨_, rfl⟩
    rw [← hr]
    obtain ⟨l, hl1, hl2, hl3⟩ := liq_ok hw.fill hw.bats
    obtain ⟨W, hW, hP, hA⟩ := along_ok hw.seg hw.fill hw.prods hl1 hl2 hl3
    obtain ⟨V, hV, hPV, hAV⟩ := along_ok (levelS_ok (h := 0) (by decide) hw.seg) hw.fill hw.prods hl1 hl2 hl3
    have hVW := parts_flat hw.seg hw.fill hW hV
    have hc := hw.seg.cap
    have hpl := hw.seg.points.len
    have hfl := hw.fill.len
    have hbl := brk_len s f
    have hb2 := brk_two hw.seg.points hc.1 hw.fill
    have hWl := hW.len
    refine .bind' (.eq (hA r ⟨0, 0⟩ (by omega) (by omega) (by omega) (by decide) (by decide) (by decide)) (.bind' (.eq (hA (0 - r) ⟨0, 0⟩ (by omega) (by omega) (by omega) (by decide) (by decide) (by decide)) (.bind' (.app (by simp; omega) ?_)))))
    rw [List.nil_append]
    have e1 : forJ L.law19_GradientTurns.B4 0 s.Points.length s.Points = some (s.Points.map (level 0)) := each_ok _ fun k m x hx hm => by
      unfold L.law19_GradientTurns.B4
      rw [ix_nat hm]; rfl
    refine .bind' (.eq e1 ?_)
    unfold L.law19_GradientTurns.J1
    dsimp only
    rw [wr_id (x := rate) (by omega), wr_id (x := 1 + rate.tmod 1000) (by omega), ← hr]
    refine .bind' (.eq (hAV r ⟨0, 0⟩ (by omega) (by omega) (by omega) (by decide) (by decide) (by decide)) ?_)
    refine Ok.iteB (fun h => ?_) fun _ => ?_
    · simp [along_len, levelS_brk] at h; omega
    have g1 := along_get s f W r ⟨0, 0⟩ (i := (brk s f).length - 1) (by omega)
    have g2 := along_get s f W (0 - r) ⟨0, 0⟩ (i := 0) (by omega)
    have g3 := along_get (levelS 0 s) f V r ⟨0, 0⟩ (i := (brk s f).length - 1) (by rw [levelS_brk]; omega)
    have ei : wr (((along s f W r ⟨0, 0⟩).length : Int) - 1) = (((brk s f).length - 1 : Nat) : Int) := by rw [along_len, wr_id (by omega)]; omega
    have g2' : ix (along s f W (0 - r) ⟨0, 0⟩) 0 = some (0, _) := ix_nat g2
    dsimp only
    rw [ei, ix_nat g1, g2', ix_nat g3]
    simp only [Option.bind_some]
    unfold lvl
    dsimp only
    have t1 : (wayOf W r).take (ixOf s f r ((brk s f).length - 1)) = W := by
      unfold wayOf ixOf
      rw [if_neg (by omega), if_neg (by omega), ← hWl]; simp
    have t2 : (wayOf W (0 - r)).take (ixOf s f (0 - r) 0) = W.reverse.map neg := by
      unfold wayOf ixOf
      rw [if_pos (by omega), if_pos (by omega), ← hWl]
      rw [List.take_of_length_le (by simp)]
    have t3 : (wayOf V r).take (ixOf (levelS 0 s) f r ((brk s f).length - 1)) = W.map flat := by
      unfold wayOf ixOf
      rw [if_neg (by omega), if_neg (by omega), ← hWl, hVW]; rw [List.take_of_length_le (by simp)]
    have a1 : absR r = r := by unfold absR; rw [if_neg (by omega)]
    have a2 : absR (0 - r) = r := by unfold absR; rw [if_pos (by omega)]; omega
    rw [t1, t2, t3, a1, a2]
    rw [sumBy_map, sumBy_map, sumBy_rev, sumBy_rev, sumBy_map, sumBy_map]
    have hq : 1 ≤ r ∧ r ≤ 1000 := by omega
    have tb := fun x hx => turn_bd (h := 0) hc.1 (q := r) (hP x hx)
    have u1 := sumBy_le (l := W) (g := fun x => 2 * lo (levelS 0 s) r (flat x)) (h := fun x => hi s r x + hi s r (neg x)) fun x hx => (tb x hx).1
    have u2 := sumBy_le (l := W) (g := fun x => lo s r x + lo s r (neg x)) (h := fun x => 2 * hi (levelS 0 s) r (flat x)) fun x hx => (tb x hx).2.1
    have u3 := sumBy_gap (l := W) (h := fun x => 2 * lo (levelS 0 s) r (flat x)) (g := fun x => lo s r x + lo s r (neg x)) (c := 1) fun x hx => (tb x hx).2.2.1
    have u4 := sumBy_gap (l := W) (h := fun x => hi s r x + hi s r (neg x)) (g := fun x => 2 * hi (levelS 0 s) r (flat x)) (c := 1) fun x hx => (tb x hx).2.2.2
    rw [sumBy_mul, sumBy_add] at u1 u2 u3 u4
    have b1 := sumBy_bd (g := lo s r) (B := 3000000000000000) (l := W) fun x hx => (lo_bd hc.1 hw.seg.resist hq (hP x hx)).1
    have b2 := sumBy_bd (g := hi s r) (B := 3000000000000000) (l := W) fun x hx => (lo_bd hc.1 hw.seg.resist hq (hP x hx)).2
    have b3 := sumBy_bd (g := fun x => lo s r (neg x)) (B := 3000000000000000) (l := W) fun x hx => (lo_bd hc.1 hw.seg.resist hq (neg_ok (hP x hx))).1
    have b4 := sumBy_bd (g := fun x => hi s r (neg x)) (B := 3000000000000000) (l := W) fun x hx => (lo_bd hc.1 hw.seg.resist hq (neg_ok (hP x hx))).2
    have b5 := sumBy_bd (g := fun x => lo (levelS 0 s) r (flat x)) (B := 3000000000000000) (l := W) fun x hx => (lo_bd (s := levelS 0 s) hc.1 hw.seg.resist hq (flat_ok (hP x hx))).1
    have b6 := sumBy_bd (g := fun x => hi (levelS 0 s) r (flat x)) (B := 3000000000000000) (l := W) fun x hx => (lo_bd (s := levelS 0 s) hc.1 hw.seg.resist hq (flat_ok (hP x hx))).2
    generalize sumBy (lo s r) W = A at *
    generalize sumBy (hi s r) W = B at *
    generalize sumBy (fun x => lo s r (neg x)) W = A' at *
    generalize sumBy (fun x => hi s r (neg x)) W = B' at *
    generalize sumBy (fun x => lo (levelS 0 s) r (flat x)) W = F at *
    generalize sumBy (fun x => hi (levelS 0 s) r (flat x)) W = G at *
    unfold L.law19_GradientTurns.J2
    dsimp only
    rw [along_len]
    rw [wr_id (x := 0 - B + (0 - B')) (by omega), wr_id (x := 2 * (0 - F)) (by omega), wr_id (x := 0 - A + (0 - A')) (by omega), wr_id (x := 2 * (0 - G)) (by omega), wr_id (x := 0 - A + (0 - A') - 2 * (0 - F)) (by omega),
      wr_id (x := 4 * ((brk s f).length : Int)) (by omega), wr_id (x := 2 * (0 - G) - (0 - B)) (by omega), wr_id (x := 2 * (0 - G) - (0 - B) - (0 - B')) (by omega)]
    rw [show decide (0 - B + (0 - B') ≤ 2 * (0 - F)) = true by simp; omega, show decide (0 - A + (0 - A') ≥ 2 * (0 - G)) = true by simp; omega, show decide (0 - A + (0 - A') - 2 * (0 - F) ≤ 4 * ((brk s f).length : Int)) = true by simp; omega,
      show decide (2 * (0 - G) - (0 - B) - (0 - B') ≤ 4 * ((brk s f).length : Int)) = true by simp; omega, awake19]
    exact .pure rfl
  obtain ⟨x, h, rfl⟩ := this
  exact h

end Go.Proofs.YtncfbhnecmnfpaaGreatDoor
