/- GradientKeeps answers true. No condition. -/
import Derived.Test.YtncfbhnecmnfpaaGreatDoorG13
namespace Go.Proofs.YtncfbhnecmnfpaaGreatDoor
set_option linter.unusedVariables false
set_option linter.unusedSimpArgs false
open Go.Aw

/-- The least limit of the first sections that hold a place. -/
def limK (pts : List Point) (x : Int) : Nat → Int
  | 0 => 100000000
  | k + 1 => match pts[k]?, pts[k + 1]? with
    | some a, some b => if a.At ≤ x ∧ x ≤ b.At then min (min (limK pts x k) a.Limit) b.Limit else limK pts x k
    | _, _ => limK pts x k
def lim (pts : List Point) (x : Int) : Int := limK pts x (pts.length - 1)
theorem limK_succ {pts : List Point} {x : Int} {k : Nat} {a b : Point} (ha : pts[k]? = some a) (hb : pts[k + 1]? = some b) :
    limK pts x (k + 1) = if a.At ≤ x ∧ x ≤ b.At then min (min (limK pts x k) a.Limit) b.Limit else limK pts x k := by
  simp only [limK, ha, hb]

theorem limit_ok {s : Segment} (h1 : 1 ≤ s.Points.length ∧ s.Points.length ≤ 1000) (x : Int) : L.gradient_Limit s x = some (lim s.Points x) := by
  have : Ok (L.gradient_Limit s x) fun r => r = lim s.Points x := by
    unfold L.gradient_Limit
    refine .bind (Q := fun d : Int => d = lim s.Points x) ?_ (by rintro _ rfl; unfold L.gradient_Limit.J1; exact .pure rfl)
    refine .loop (fun st : Int × Int => ∃ k : Nat, st.2 = ((k + 1 : Nat) : Int) ∧ k + 1 ≤ s.Points.length ∧ st.1 = limK s.Points x k) (fun st => s.Points.length - st.2.toNat) ⟨0, rfl, by omega, rfl⟩ (by dsimp only; omega) ?_
    rintro ⟨m, i⟩ ⟨k, e1, e2, e3⟩
    dsimp only at e1 e2 e3
    subst e1 e3
    unfold L.gradient_Limit.B2
    dsimp only
    refine Ok.iteD (fun hlt => ?_) fun hn => .pure ?_
    · have ha : s.Points[k]? = some (s.Points[k]'(by omega)) := List.getElem?_eq_getElem _
      have hb : s.Points[k + 1]? = some (s.Points[k + 1]'(by omega)) := List.getElem?_eq_getElem _
      have e := limK_succ (x := x) ha hb
      rw [wr_id (by omega), show ((k + 1 : Nat) : Int) - 1 = (k : Int) by omega, ix_nat ha, ix_nat hb]
      simp only [Option.bind_some]
      unfold L.gradient_Limit.J4 L.gradient_Limit.J3
      dsimp only
      rw [wr_id (by omega)]
      refine Ok.iteB (fun hh => .pure ⟨⟨k + 1, by dsimp only; omega, by omega, ?_⟩, by dsimp only; omega⟩) fun hh => .pure ⟨⟨k + 1, by dsimp only; omega, by omega, ?_⟩, by dsimp only; omega⟩
      · simp at hh
        dsimp only; rw [e, if_pos hh]
      · simp at hh
        dsimp only; rw [e, if_neg (by omega)]
    · unfold lim
      rw [show s.Points.length - 1 = k by omega]; rfl
  obtain ⟨r, h, rfl⟩ := this
  exact h

theorem limit19 {s : Segment} (h1 : 1 ≤ s.Points.length ∧ s.Points.length ≤ 1000) (x : Int) : L.ref19_Limit s x = some (lim s.Points x) := by
  have : Ok (L.ref19_Limit s x) fun r => r = lim s.Points x := by
    unfold L.ref19_Limit
    refine .bind (Q := fun d : Int => d = lim s.Points x) ?_ (by rintro _ rfl; unfold L.ref19_Limit.J1; exact .pure rfl)
    refine .loop (fun st : Int × Int => ∃ k : Nat, st.2 = ((k + 1 : Nat) : Int) ∧ k + 1 ≤ s.Points.length ∧ st.1 = limK s.Points x k) (fun st => s.Points.length - st.2.toNat) ⟨0, rfl, by omega, rfl⟩ (by dsimp only; omega) ?_
    rintro ⟨m, i⟩ ⟨k, e1, e2, e3⟩
    dsimp only at e1 e2 e3
    subst e1 e3
    unfold L.ref19_Limit.B2
    dsimp only
    refine Ok.iteD (fun hlt => ?_) fun hn => .pure ?_
    · have ha : s.Points[k]? = some (s.Points[k]'(by omega)) := List.getElem?_eq_getElem _
      have hb : s.Points[k + 1]? = some (s.Points[k + 1]'(by omega)) := List.getElem?_eq_getElem _
      have e := limK_succ (x := x) ha hb
      have no : ¬ (s.Points[k].At ≤ x ∧ x ≤ s.Points[k + 1].At) → Ok (L.ref19_Limit.J4 s (limK s.Points x k, ((k + 1 : Nat) : Int)) false) (Sum.elim (fun st : Int × Int => (∃ k : Nat, st.2 = ((k + 1 : Nat) : Int) ∧ k + 1 ≤ s.Points.length ∧ st.1 = limK s.Points x k) ∧ s.Points.length - st.2.toNat < s.Points.length - (((k + 1 : Nat) : Int)).toNat) fun d : Int => d = lim s.Points x) := by
        intro hh
        unfold L.ref19_Limit.J4 L.ref19_Limit.J3
        refine Ok.iteB (fun h => by cases h) fun _ => .pure ⟨⟨k + 1, ?_, by omega, ?_⟩, ?_⟩
        · dsimp only; rw [wr_id (by omega)]; omega
        · dsimp only; rw [e, if_neg hh]
        · dsimp only; rw [wr_id (by omega)]; omega
      rw [wr_id (by omega), show ((k + 1 : Nat) : Int) - 1 = (k : Int) by omega, ix_nat ha, ix_nat hb]
      simp only [Option.bind_some]
      refine Ok.iteD (fun h2 => ?_) fun h2 => no (by omega)
      by_cases h3 : x ≤ s.Points[k + 1].At
      · rw [show decide (x ≤ s.Points[k + 1].At) = true by simpa using h3]
        unfold L.ref19_Limit.J4 L.ref19_Limit.J3
        refine Ok.iteB (fun _ => ?_) fun h => by cases h
        dsimp only
        rw [wr_id (x := ((k + 1 : Nat) : Int) - 1) (by omega), show ((k + 1 : Nat) : Int) - 1 = (k : Int) by omega, ix_nat ha, ix_nat hb]
        refine .bind' (.pure (.bind' (.pure (.pure ⟨⟨k + 1, ?_, by omega, ?_⟩, ?_⟩))))
        · dsimp only; rw [wr_id (by omega)]; omega
        · dsimp only; rw [e, if_pos ⟨h2, h3⟩]
        · dsimp only; rw [wr_id (by omega)]; omega
      · rw [show decide (x ≤ s.Points[k + 1].At) = false by simpa using h3]
        exact no (by omega)
    · unfold lim
      rw [show s.Points.length - 1 = k by omega]; rfl
  obtain ⟨r, h, rfl⟩ := this
  exact h

theorem lim_mono {pts : List Point} {g : Point → Point} (hA : ∀ p, (g p).At = p.At) (hL : ∀ p, p ∈ pts → p.Limit ≤ (g p).Limit) (x : Int) : lim pts x ≤ lim (pts.map g) x := by
  have : ∀ k, limK pts x k ≤ limK (pts.map g) x k := by
    intro k
    induction k with
    | zero => exact Int.le_refl _
    | succ k ih =>
      simp only [limK, List.getElem?_map]
      cases h1 : pts[k]? with
      | none => simpa using ih
      | some a =>
        cases h2 : pts[k + 1]? with
        | none => simpa using ih
        | some b =>
          simp only [Option.map_some, hA]
          have := hL a (List.mem_of_getElem? h1)
          have := hL b (List.mem_of_getElem? h2)
          split <;> omega
  unfold lim
  rw [List.length_map]
  exact this _

/-! ### Keeps -/

def Bad (s : Segment) (v : Int) (y : Level) : Prop := lim s.Points y.At < y.Bounds.High ∨ y.Bounds.Low < v

theorem keeps_ok {s : Segment} (hs : SegG s) {x : List Level} {v : Int} (hl : x.length ≤ 208) (hr : ∀ y, y ∈ x → 0 ≤ y.At ∧ y.At ≤ s.Capacity) (hup : ∀ (i : Nat) (y z : Level), x[i]? = some y → x[i + 1]? = some z → y.At < z.At) :
    Ok (L.gradient_Keeps s x v) fun t => (t = (-1, 0) ∧ ∀ y, y ∈ x → ¬ Bad s v y) ∨ ∃ (k : Nat) (y : Level), x[k]? = some y ∧ t = (y.At, 15) ∧ Bad s v y ∧ ∀ (j : Nat) (z : Level), j < k → x[j]? = some z → ¬ Bad s v z := by
  have hpl := hs.points.len
  unfold L.gradient_Keeps
  rw [segCheck hs]
  refine .bind' (.pure (Ok.iteU (fun h => absurd rfl h) fun _ => Ok.iteD (fun h => by omega) fun _ => .bind (Q := fun b : Bool => b = false) ?_ ?_))
  · unfold L.slices_ContainsFunc_api_Level_api_Level L.slices_IndexFunc_api_Level_api_Level
    refine .bind (Q := fun r : Int => r = -1) (.bind' (.forL (fun _ _ => True) (fun _ => False) trivial ?_ ?_ fun _ h => h.elim)) ?_
    · intro k y _ hy _
      have := hr y (List.mem_of_getElem? hy)
      unfold L.slices_IndexFunc_api_Level_api_Level.B2
      refine .bind' (.pure (Ok.iteB (fun h => ?_) fun _ => .pure trivial))
      simp [L.gradient_Keeps_1] at h; omega
    · intro _ _
      simp only [Sum.elim_inl]
      unfold L.slices_IndexFunc_api_Level_api_Level.J1
      exact .pure rfl
    · rintro _ rfl
      exact .pure rfl
  · rintro _ rfl
    unfold L.gradient_Keeps.J1
    refine Ok.iteB (fun h => by cases h) fun _ => .bind (Q := fun d : (Int × Int) ⊕ Unit => d = .inr ()) ?_ ?_
    · refine .loop (fun st : Int => ∃ k : Nat, st = ((k + 1 : Nat) : Int)) (fun st => x.length + 1 - st.toNat) ⟨0, rfl⟩ (by omega) ?_
      rintro _ ⟨k, rfl⟩
      unfold L.gradient_Keeps.B6
      refine Ok.iteD (fun hlt => ?_) fun _ => .pure rfl
      have ha : x[k]? = some (x[k]'(by omega)) := List.getElem?_eq_getElem _
      have hb : x[k + 1]? = some (x[k + 1]'(by omega)) := List.getElem?_eq_getElem _
      have := hup k _ _ ha hb
      rw [wr_id (by omega), show ((k + 1 : Nat) : Int) - 1 = (k : Int) by omega, ix_nat ha, ix_nat hb]
      refine .bind' (.pure (.bind' (.pure (Ok.iteD (fun hh => by dsimp only at hh; omega) fun _ => .pure ⟨⟨k + 1, ?_⟩, ?_⟩))))
      · rw [wr_id (by omega)]; omega
      · rw [wr_id (by omega)]; omega
    · rintro _ rfl
      simp only [Sum.elim_inr]
      unfold L.gradient_Keeps.J2
      refine .bind (Q := Sum.elim (fun _ : Unit => ∀ y, y ∈ x → ¬ Bad s v y) fun t : Int × Int => ∃ (k : Nat) (y : Level), x[k]? = some y ∧ t = (y.At, 15) ∧ Bad s v y ∧ ∀ (j : Nat) (z : Level), j < k → x[j]? = some z → ¬ Bad s v z)
        (.forL (fun k _ => ∀ (j : Nat) (z : Level), j < k → x[j]? = some z → ¬ Bad s v z) (fun t => ∃ (k : Nat) (y : Level), x[k]? = some y ∧ t = (y.At, 15) ∧ Bad s v y ∧ ∀ (j : Nat) (z : Level), j < k → x[j]? = some z → ¬ Bad s v z) (fun j z h => absurd h (Nat.not_lt_zero _)) ?_ ?_ fun _ h => h) ?_
      · intro k y _ hy hI
        unfold L.gradient_Keeps.B4
        rw [limit_ok ⟨by omega, by omega⟩]
        have yes : Bad s v y → Ok (L.gradient_Keeps.J5 y true) (Sum.elim (fun _ : Unit => ∀ (j : Nat) (z : Level), j < k + 1 → x[j]? = some z → ¬ Bad s v z) fun t => ∃ (k : Nat) (y : Level), x[k]? = some y ∧ t = (y.At, 15) ∧ Bad s v y ∧ ∀ (j : Nat) (z : Level), j < k → x[j]? = some z → ¬ Bad s v z) := fun hb => by
          unfold L.gradient_Keeps.J5
          exact Ok.iteB (fun _ => .pure ⟨k, y, hy, rfl, hb, hI⟩) fun h => by cases h
        refine .bind' (.pure (Ok.iteD (fun hh => yes (.inl (by omega))) fun hh => ?_))
        by_cases h2 : y.Bounds.Low < v
        · rw [show decide (y.Bounds.Low < v) = true by simpa using h2]
          exact yes (.inr h2)
        · rw [show decide (y.Bounds.Low < v) = false by simpa using h2]
          unfold L.gradient_Keeps.J5
          refine Ok.iteB (fun h => by cases h) fun _ => .pure fun j z hj hz => ?_
          by_cases hjk : j = k
          · subst hjk
            rw [hy] at hz; cases hz
            unfold Bad; omega
          · exact hI j z (by omega) hz
      · intro _ hI
        simp only [Sum.elim_inl]
        intro y hy
        obtain ⟨j, hj⟩ := List.getElem?_of_mem hy
        exact hI j y (List.getElem?_eq_some_iff.1 hj).1 hj
      · rintro (_ | t) ht
        · unfold L.gradient_Keeps.J3
          exact .pure (.inl ⟨rfl, ht⟩)
        · exact .pure (.inr ht)

def widen (m : Int) (p : Point) : Point := { p with Limit := min 100000000 (p.Limit + m) }
def widenS (m : Int) (s : Segment) : Segment := { s with Points := s.Points.map (widen m) }
theorem widenS_ok {s : Segment} (hs : SegG s) {m : Int} (hm : 0 ≤ m) : SegG (widenS m s) :=
  ⟨hs.name, hs.cap, hs.resist, hs.wave, hs.points.map (fun _ => rfl) hs.points.height fun p hp => by have := hs.points.limit p hp; simp only [widen]; omega⟩

theorem gradientKeeps (l : List Int) (more : Int) (h1 : 0 ≤ more ∧ more ≤ 65535) : L.law19_GradientKeeps l more = some true := by
  have : Ok (L.law19_GradientKeeps l more) fun x => x = true := by
    unfold L.law19_GradientKeeps
    refine .bind (new_ok l) fun d hd => .bind (world_ok hd) ?_
    rintro ⟨s, f, bs, p, d2⟩ ⟨hw, hd2⟩
    dsimp only at hw hd2 ⊢
    have hc := hw.seg.cap
    have hpl := hw.seg.points.len
    have hfl := hw.fill.len
    have hbl := brk_len s f
    have hb2 := brk_two hw.seg.points hc.1 hw.fill
    refine .bind (range_ok hd2 (by decide) (by decide) (by decide)) ?_
    rintro ⟨r, d3⟩ ⟨hd3, hr⟩
    dsimp only at hr hd3 ⊢
    refine .bind (bounds_ok hd3) ?_
    rintro ⟨b, d4⟩ ⟨hb, hd4⟩
    dsimp only at hb hd4 ⊢
    obtain ⟨l, hl1, hl2, hl3, hl4⟩ := liq_full hw.fill hw.bats
    obtain ⟨W, hW, hP, hA⟩ := along_ok hw.seg hw.fill hw.prods hl1 hl2 hl3
    refine .bind' (.eq (along19 hw.seg hw.fill hw.prods hw.bats hl4 hW hP (r := r) (b := b) (by omega) (by omega) (by omega) (by omega)) (.bind (pick_ok hd4 (by decide) (by decide)) ?_))
    rintro ⟨v, d5⟩ ⟨hd5, hv⟩
    dsimp only at hv hd5 ⊢
    have hv' : -100000 ≤ v ∧ v ≤ 200000 := by simp at hv; omega
    obtain ⟨x, hx⟩ : ∃ x, x = along s f W r b := ⟨_, rfl⟩
    have hxl : x.length = (brk s f).length := by rw [hx, along_len]
    have hget : ∀ (i : Nat) (y : Level), x[i]? = some y → (brk s f)[i]? = some y.At := by
      intro i y hy
      have hi : i < (brk s f).length := by have := (List.getElem?_eq_some_iff.1 hy).1; omega
      rw [hx, along_get _ _ _ _ _ hi] at hy
      rw [← Option.some.inj hy]
      simp only [lvl, placesOf, ixOf, if_neg (show ¬ r < 0 by omega)]
      rw [List.getD_eq_getElem?_getD, List.getElem?_eq_getElem hi]; rfl
    rw [← hx]
    have hxr : ∀ y, y ∈ x → 0 ≤ y.At ∧ y.At ≤ s.Capacity := fun y hy => by
      obtain ⟨i, hi⟩ := List.getElem?_of_mem hy
      exact brk_range hw.seg.points hw.fill (List.mem_of_getElem? (hget i y hi))
    have hxu : ∀ (i j : Nat) (y z : Level), i < j → x[i]? = some y → x[j]? = some z → y.At < z.At := fun i j y z hij hy hz => up_get (brk_up s f) hij (hget i y hy) (hget j z hz)
    refine .bind (keeps_ok hw.seg (by omega) hxr fun i y z hy hz => hxu i (i + 1) y z (by omega) hy hz) ?_
    rintro t ht
    have ht2 : t.2 = 0 ∨ t.2 = 15 := by
      rcases ht with ⟨rfl, _⟩ | ⟨k, y, hy, rfl, _⟩
      · exact .inl rfl
      · exact .inr rfl
    refine .bind' (.forI (fun _ _ => True) (fun _ => False) trivial ?_ ?_ fun _ h => h.elim)
    · intro j _ hj _
      have hy : x[j]? = some (x[j]'hj) := List.getElem?_eq_getElem _
      have j6 : ∀ bad : Bool, (bad = true ↔ Bad s v (x[j]'hj)) → Ok (L.law19_GradientKeeps.J6 t (j, x[j]'hj) bad) (Sum.elim (fun _ : Unit => True) fun _ : Bool => False) := by
        intro bad hbad
        unfold L.law19_GradientKeeps.J6
        refine Ok.iteB (fun hh => ?_) fun _ => .pure trivial
        exfalso
        rcases ht with ⟨rfl, hg⟩ | ⟨k, y, hk, rfl, hbk, hlt⟩
        · have : bad = false := by
            cases bad
            · rfl
            · exact absurd (hbad.1 rfl) (hg _ (List.mem_of_getElem? hy))
          subst this
          simp at hh
        · rcases Nat.lt_trichotomy j k with h | h | h
          · have h1 := hxu j k _ _ h hy hk
            have : bad = false := by
              cases bad
              · rfl
              · exact absurd (hbad.1 rfl) (hlt j _ h hy)
            subst this
            simp at hh; omega
          · subst h
            rw [hy] at hk; cases hk
            have : bad = true := hbad.2 hbk
            subst this
            simp at hh
          · have h1 := hxu k j _ _ h hk hy
            simp at hh; omega
      unfold L.law19_GradientKeeps.B5
      refine .bind' (.eq (ix_nat hy) ?_)
      dsimp only
      rw [limit19 ⟨by omega, by omega⟩]
      refine .bind' (.pure (Ok.iteD (fun hh => j6 true ⟨fun _ => .inl (by omega), fun _ => rfl⟩) fun hh => j6 _ ?_))
      simp only [decide_eq_true_eq]
      unfold Bad
      constructor
      · exact .inr
      · rintro (h | h)
        · omega
        · exact h
    · intro _ _
      simp only [Sum.elim_inl]
      unfold L.law19_GradientKeeps.J1
      dsimp only
      refine .bind' (.app (by simp; omega) ?_)
      rw [List.nil_append]
      have e1 : forJ (L.law19_GradientKeeps.B4 more) 0 s.Points.length s.Points = some (s.Points.map (widen more)) := each_ok _ fun k m q hq hm => by
        have := hw.seg.points.limit q (List.mem_of_getElem? hq)
        unfold L.law19_GradientKeeps.B4
        rw [ix_nat hm]
        simp only [Option.bind_some]
        rw [wr_id (x := more) (by omega), wr_id (by omega)]; rfl
      refine .bind' (.eq e1 ?_)
      unfold L.law19_GradientKeeps.J2
      dsimp only
      rw [wr_id (x := more) (by omega), wr_id (x := v - more) (by omega)]
      refine .bind (keeps_ok (s := widenS more s) (v := v - more) (widenS_ok hw.seg h1.1) (by omega) hxr fun i y z hy hz => hxu i (i + 1) y z (by omega) hy hz) ?_
      rintro g hg
      have hg2 : g.2 = 0 ∨ g.2 = 15 := by
        rcases hg with ⟨rfl, _⟩ | ⟨k, y, hy, rfl, _⟩
        · exact .inl rfl
        · exact .inr rfl
      have hmono : ∀ y, Bad (widenS more s) (v - more) y → Bad s v y := by
        intro y hy
        have := lim_mono (pts := s.Points) (g := widen more) (fun _ => rfl) (fun q hq => by have := hw.seg.points.limit q hq; simp only [widen]; omega) y.At
        unfold Bad at hy ⊢
        simp only [widenS] at hy
        omega
      have hfin : t.2 = 0 → t.1 = -1 ∧ g.2 = 0 := by
        intro h0
        rcases ht with ⟨rfl, hall⟩ | ⟨k, y, hy, rfl, _⟩
        · refine ⟨rfl, ?_⟩
          rcases hg with ⟨rfl, _⟩ | ⟨k, y, hy, rfl, hbad, _⟩
          · rfl
          · exact absurd (hmono y hbad) (hall y (List.mem_of_getElem? hy))
        · cases h0
      rw [ref14Valid hw.fill hc, awake19]
      have j3 : Ok (L.law19_GradientKeeps.J3 true) fun x => x = true := by unfold L.law19_GradientKeeps.J3; exact .pure rfl
      refine .bind' (.pure (Ok.iteB (fun _ => ?_) fun h => by cases h))
      refine Ok.iteE (fun h0 => ?_) fun h0 => ?_
      · obtain ⟨q1, q2⟩ := hfin h0
        exact Ok.iteE (fun _ => Ok.iteE (fun _ => .bind' (.pure j3)) fun h => absurd q2 h) fun h => absurd q1 h
      · have h15 : t.2 = 15 := by omega
        refine Ok.iteE (fun _ => Ok.iteE (fun _ => .bind' (.pure j3)) fun hn => Ok.iteE (fun _ => .bind' (.pure j3)) fun h => ?_) fun h => absurd h15 h
        omega
  obtain ⟨x, h, rfl⟩ := this
  exact h

end Go.Proofs.YtncfbhnecmnfpaaGreatDoor
