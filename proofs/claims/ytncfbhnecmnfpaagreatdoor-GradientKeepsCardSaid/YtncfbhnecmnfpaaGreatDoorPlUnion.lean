/- Sets that are joined: what the array of a union stands for. No condition. -/
import Derived.Test.YtncfbhnecmnfpaaGreatDoorPlBase
namespace Go.Aw
set_option linter.unusedVariables false
set_option linter.unusedSimpArgs false

theorem inj_some {a b : Nat} (h : some (a : Int) = some (b : Int)) : a = b := Int.ofNat.inj (Option.some.inj h)

/-- In so many steps one comes from one node to the one that stands for it. -/
inductive Rep (u : List Int) : Nat → Nat → Nat → Prop
  | root {k : Nat} : u[k]? = some (k : Int) → Rep u 0 k k
  | step {k j m r : Nat} : u[k]? = some (j : Int) → k ≠ j → Rep u m j r → Rep u (m + 1) k r

theorem Rep.fix {u : List Int} {m k r : Nat} (h : Rep u m k r) : u[r]? = some (r : Int) := by
  induction h with
  | root h => exact h
  | step _ _ _ ih => exact ih

theorem Rep.det {u : List Int} {m k r : Nat} (h : Rep u m k r) : ∀ {m' r' : Nat}, Rep u m' k r' → m = m' ∧ r = r' := by
  induction h with
  | root h =>
    intro m' r' h'
    cases h' with
    | root _ => exact ⟨rfl, rfl⟩
    | step h1 h2 _ => rw [h] at h1; have := inj_some h1; omega
  | step h1 h2 h3 ih =>
    intro m' r' h'
    cases h' with
    | root h => rw [h] at h1; have := inj_some h1; omega
    | step h4 h5 h6 =>
      rw [h1] at h4; have h4 := inj_some h4
      subst h4
      obtain ⟨rfl, rfl⟩ := ih h6
      exact ⟨rfl, rfl⟩

theorem Rep.halve {u : List Int} {k j i : Nat} (hk : u[k]? = some (j : Int)) (hne : k ≠ j) (hj : u[j]? = some (i : Int)) :
    ∀ (m x r : Nat), Rep u m x r → ∃ m', m' ≤ m ∧ Rep (u.set k (i : Int)) m' x r := by
  intro m
  induction m using Nat.strongRecOn with
  | ind m ih =>
    intro x r h
    have hkl : k < u.length := (List.getElem?_eq_some_iff.1 hk).1
    cases h with
    | root h =>
      refine ⟨0, Nat.le_refl _, .root ?_⟩
      rw [List.getElem?_set]
      by_cases hx : k = x
      · subst hx; rw [h] at hk; have := inj_some hk; omega
      · simp [hx, h]
    | @step _ y m' _ h1 h2 h3 =>
      by_cases hx : k = x
      · subst hx
        rw [hk] at h1; have h1 := inj_some h1
        subst h1
        cases h3 with
        | root h4 =>
          rw [hj] at h4; have h4 := inj_some h4
          subst h4
          obtain ⟨m2, hm2, hr2⟩ := ih 0 (by omega) i i (.root hj)
          have : m2 = 0 := by omega
          subst this
          exact ⟨1, by omega, .step (by simp [hkl]) h2 hr2⟩
        | @step _ z m'' _ h4 h5 h6 =>
          rw [hj] at h4; have h4 := inj_some h4
          subst h4
          have hki : k ≠ i := by
            rintro rfl
            have := (Rep.det h6 (.step hk hne (.step hj h5 h6))).1
            omega
          obtain ⟨m2, hm2, hr2⟩ := ih m'' (by omega) i r h6
          exact ⟨m2 + 1, by omega, .step (by simp [hkl]) hki hr2⟩
      · obtain ⟨m2, hm2, hr2⟩ := ih m' (by omega) y r h3
        exact ⟨m2 + 1, by omega, .step (by rw [List.getElem?_set]; simp [hx, h1]) h2 hr2⟩

theorem Rep.link {u : List Int} {a b : Nat} (ha : u[a]? = some (a : Int)) (hb : u[b]? = some (b : Int)) (hne : a ≠ b) {m x r : Nat} (h : Rep u m x r) :
    ∃ m', m' ≤ m + 1 ∧ Rep (u.set a (b : Int)) m' x (if r = a then b else r) := by
  have hal : a < u.length := (List.getElem?_eq_some_iff.1 ha).1
  induction h with
  | @root k h =>
    by_cases hx : a = k
    · subst hx
      refine ⟨1, by omega, ?_⟩
      rw [if_pos rfl]
      exact .step (by simp [hal]) hne (.root (by rw [List.getElem?_set]; simp [hne, hb]))
    · refine ⟨0, by omega, ?_⟩
      rw [if_neg (Ne.symm hx)]
      exact .root (by rw [List.getElem?_set]; simp [hx, h])
  | @step k j m r h1 h2 h3 ih =>
    obtain ⟨m', h4, h5⟩ := ih
    have hx : a ≠ k := by rintro rfl; rw [ha] at h1; have := inj_some h1; omega
    exact ⟨m' + 1, by omega, .step (by rw [List.getElem?_set]; simp [hx, h1]) h2 h5⟩

/-- The array of a union, the greatest number of steps, and which node stands for each one. -/
structure Uni (n : Nat) (u : List Int) (d : Nat) (ρ : Nat → Nat) : Prop where
  len : u.length = n
  lt : ∀ k, k < n → ρ k < n
  rep : ∀ k, k < n → ∃ m, m ≤ d ∧ Rep u m k (ρ k)

theorem Uni.at_ {n d : Nat} {u : List Int} {ρ : Nat → Nat} (h : Uni n u d ρ) {k : Nat} (hk : k < n) : ∃ j : Nat, u[k]? = some (j : Int) ∧ j < n ∧ ρ j = ρ k := by
  obtain ⟨m, _, hr⟩ := h.rep k hk
  generalize he : ρ k = r at hr
  cases hr with
  | root h1 => exact ⟨k, h1, hk, he⟩
  | @step _ j _ _ h1 h2 h3 =>
    have hj : j < n := by
      rw [← h.len]
      cases h3 with
      | root h => exact (List.getElem?_eq_some_iff.1 h).1
      | step h _ _ => exact (List.getElem?_eq_some_iff.1 h).1
    refine ⟨j, h1, hj, ?_⟩
    obtain ⟨m', _, hr'⟩ := h.rep j hj
    exact (hr'.det h3).2

theorem Uni.fix {n d : Nat} {u : List Int} {ρ : Nat → Nat} (h : Uni n u d ρ) {k : Nat} (hk : k < n) (he : u[k]? = some (k : Int)) : ρ k = k := by
  obtain ⟨m, _, hr⟩ := h.rep k hk
  exact (hr.det (.root he)).2

theorem Uni.halve {n d : Nat} {u : List Int} {ρ : Nat → Nat} (h : Uni n u d ρ) {k j i : Nat} (hk : u[k]? = some (j : Int)) (hne : k ≠ j) (hj : u[j]? = some (i : Int)) :
    Uni n (u.set k (i : Int)) d ρ :=
  ⟨by simp [h.len], h.lt, fun x hx => let ⟨m, h1, h2⟩ := h.rep x hx; let ⟨m', h3, h4⟩ := Rep.halve hk hne hj m x _ h2; ⟨m', by omega, h4⟩⟩

theorem Uni.link {n d : Nat} {u : List Int} {ρ : Nat → Nat} (h : Uni n u d ρ) {a b : Nat} (ha : a < n) (hb : b < n) :
    Uni n (u.set (ρ a) (ρ b : Int)) (d + 1) (fun x => if ρ x = ρ a then ρ b else ρ x) := by
  obtain ⟨ma, _, ra⟩ := h.rep a ha
  obtain ⟨mb, _, rb⟩ := h.rep b hb
  by_cases hne : ρ a = ρ b
  · have h1 : u.set (ρ a) (ρ b : Int) = u := by
      rw [hne]
      refine List.ext_getElem? fun i => ?_
      rw [List.getElem?_set]
      split
      · rename_i hi; subst hi
        have := rb.fix
        split <;> simp_all
      · rfl
    have h2 : (fun x => if ρ x = ρ a then ρ b else ρ x) = ρ := by
      funext x; split <;> simp_all
    rw [h1, h2]
    exact ⟨h.len, h.lt, fun x hx => let ⟨m, h1, h2⟩ := h.rep x hx; ⟨m, by omega, h2⟩⟩
  · refine ⟨by simp [h.len], fun x hx => ?_, fun x hx => ?_⟩
    · split
      · exact h.lt b hb
      · exact h.lt x hx
    · obtain ⟨m, h1, h2⟩ := h.rep x hx
      obtain ⟨m', h3, h4⟩ := Rep.link ra.fix rb.fix hne h2
      exact ⟨m', by omega, h4⟩

/-- The number of steps to the node that stands for one. -/
theorem Uni.step {n d : Nat} {u : List Int} {ρ : Nat → Nat} (h : Uni n u d ρ) {k j i m : Nat} (hk : u[k]? = some (j : Int)) (hne : k ≠ j) (hj : u[j]? = some (i : Int)) (hr : Rep u m k (ρ k)) :
    ∃ m', m' < m ∧ Rep (u.set k (i : Int)) m' i (ρ i) ∧ ρ i = ρ k := by
  have hj' : j < n := by rw [← h.len]; exact (List.getElem?_eq_some_iff.1 hj).1
  have hk' : k < n := by rw [← h.len]; exact (List.getElem?_eq_some_iff.1 hk).1
  obtain ⟨y, e1, hy, e2⟩ := h.at_ hj'
  obtain ⟨y2, e3, hy2, e4⟩ := h.at_ hk'
  rw [hj] at e1; have e1 := inj_some e1; subst e1
  rw [hk] at e3; have e3 := inj_some e3; subst e3
  have hik : ρ i = ρ k := by rw [e2, e4]
  generalize ρ k = r at hr hik
  cases hr with
  | root h1 => rw [h1] at hk; have := inj_some hk; omega
  | @step _ y m1 _ h1 h2 h3 =>
    rw [hk] at h1; have h1 := inj_some h1
    subst h1
    have : ∃ m2, m2 ≤ m1 ∧ Rep u m2 i r := by
      cases h3 with
      | root h4 => rw [hj] at h4; have h4 := inj_some h4; exact ⟨0, by omega, by rw [h4]; rw [h4] at hj; exact .root hj⟩
      | step h4 h5 h6 => rw [hj] at h4; have h4 := inj_some h4; subst h4; exact ⟨_, by omega, h6⟩
    obtain ⟨m2, h4, h5⟩ := this
    obtain ⟨m3, h6, h7⟩ := Rep.halve hk hne hj m2 i _ h5
    exact ⟨m3, by omega, by rw [hik]; exact h7, hik⟩

/-- Nodes are connected. -/
inductive Conn (R : Nat → Nat → Prop) : Nat → Nat → Prop
  | refl (x : Nat) : Conn R x x
  | edge {x y : Nat} : R x y → Conn R x y
  | symm {x y : Nat} : Conn R x y → Conn R y x
  | trans {x y z : Nat} : Conn R x y → Conn R y z → Conn R x z

theorem Conn.mono {R R' : Nat → Nat → Prop} (h : ∀ x y, R x y → Conn R' x y) {x y : Nat} (c : Conn R x y) : Conn R' x y := by
  induction c with
  | refl x => exact .refl x
  | edge e => exact h _ _ e
  | symm _ ih => exact ih.symm
  | trans _ _ i1 i2 => exact i1.trans i2

theorem conn_id {x y : Nat} : x = y ↔ Conn (fun _ _ => False) x y := by
  constructor
  · rintro rfl; exact .refl _
  · intro h
    induction h with
    | refl _ => rfl
    | edge e => exact e.elim
    | symm _ ih => exact ih.symm
    | trans _ _ i1 i2 => exact i1.trans i2

theorem conn_link {ρ : Nat → Nat} {R : Nat → Nat → Prop} (h : ∀ x y, ρ x = ρ y ↔ Conn R x y) (a b : Nat) (x y : Nat) :
    (if ρ x = ρ a then ρ b else ρ x) = (if ρ y = ρ a then ρ b else ρ y) ↔ Conn (fun p q => R p q ∨ p = a ∧ q = b) x y := by
  have up : ∀ {x y}, Conn R x y → Conn (fun p q => R p q ∨ p = a ∧ q = b) x y := fun c => c.mono fun _ _ e => .edge (.inl e)
  have ab : Conn (fun p q => R p q ∨ p = a ∧ q = b) a b := .edge (.inr ⟨rfl, rfl⟩)
  constructor
  · intro e
    by_cases hx : ρ x = ρ a <;> by_cases hy : ρ y = ρ a
    · exact up ((h x y).1 (hx.trans hy.symm))
    · rw [if_pos hx, if_neg hy] at e
      exact (up ((h x a).1 hx)).trans (ab.trans (up ((h b y).1 e)))
    · rw [if_neg hx, if_pos hy] at e
      exact ((up ((h y a).1 hy)).trans (ab.trans (up ((h b x).1 e.symm)))).symm
    · rw [if_neg hx, if_neg hy] at e
      exact up ((h x y).1 e)
  · intro c
    induction c with
    | refl _ => rfl
    | edge e =>
      rcases e with e | ⟨rfl, rfl⟩
      · rw [(h _ _).2 (.edge e)]
      · simp
    | symm _ ih => exact ih.symm
    | trans _ _ i1 i2 => exact i1.trans i2

end Go.Aw
