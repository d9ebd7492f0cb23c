/- Rules for the pure functions that the walks arrive at: an optional value is there and has a property. No condition. -/
import Derived.Test.YtncfbhnecmnfpaaGreatDoorBwLift
namespace Go.Aw
set_option linter.unusedVariables false
set_option linter.unusedSimpArgs false

/-- There is a value, and it has the property. -/
def Ok {α : Type} (o : Option α) (P : α → Prop) : Prop := ∃ r, o = some r ∧ P r

section
variable {α β S B : Type}

theorem Ok.pure {x : α} {P : α → Prop} (h : P x) : Ok (some x) P := ⟨x, rfl, h⟩
theorem Ok.get {o : Option α} {P : α → Prop} (h : Ok o P) : ∃ r, o = some r ∧ P r := h
theorem Ok.mono {o : Option α} {P Q : α → Prop} (h : Ok o P) (k : ∀ x, P x → Q x) : Ok o Q := let ⟨r, h1, h2⟩ := h; ⟨r, h1, k r h2⟩
theorem Ok.bind {o : Option α} {f : α → Option β} {P : β → Prop} {Q : α → Prop} (h : Ok o Q) (k : ∀ x, Q x → Ok (f x) P) : Ok (o.bind f) P := by
  obtain ⟨r, rfl, hr⟩ := h; exact k r hr
theorem Ok.bind' {o : Option α} {f : α → Option β} {P : β → Prop} (h : Ok o fun x => Ok (f x) P) : Ok (o.bind f) P := h.bind fun _ k => k
theorem Ok.eq {o : Option α} {P : α → Prop} {x : α} (h : o = some x) (k : P x) : Ok o P := ⟨x, h, k⟩
theorem Ok.ite {c : Prop} [Decidable c] {a b : Option α} {P : α → Prop} (h1 : c → Ok a P) (h2 : ¬ c → Ok b P) : Ok (if c then a else b) P := by
  split <;> simp_all
theorem Ok.and {o : Option α} {P Q : α → Prop} (h : Ok o P) (k : Ok o Q) : Ok o fun x => P x ∧ Q x := by
  obtain ⟨r, rfl, hr⟩ := h; obtain ⟨r', h', hr'⟩ := k; cases h'; exact ⟨r, rfl, hr, hr'⟩
theorem Ok.map {o : Option α} {f : α → β} {P : β → Prop} (h : Ok o fun x => P (f x)) : Ok (o.map f) P := by
  obtain ⟨r, rfl, hr⟩ := h; exact ⟨_, rfl, hr⟩

theorem Ok.chk {p : Prop} [Decidable p] {P : Unit → Prop} (h : p) (k : P ()) : Ok (chk p) P := ⟨(), chk_eq h, k⟩
theorem Ok.ix {l : List α} {i : Int} {P : Nat × α → Prop} (k : Nat) (hi : i = (k : Int)) (hk : k < l.length) (h : P (k, l[k])) : Ok (ix l i) P := by
  subst hi; exact ⟨_, ix_nat (List.getElem?_eq_getElem hk), h⟩
theorem Ok.ix' {l : List α} {i : Int} {P : Nat × α → Prop} (h0 : 0 ≤ i) (hk : i < (l.length : Int)) (h : ∀ (k : Nat) (x : α), i = (k : Int) → l[k]? = some x → P (k, x)) : Ok (Aw.ix l i) P := by
  obtain ⟨k, rfl⟩ : ∃ k : Nat, i = (k : Int) := ⟨i.toNat, by omega⟩
  have hk' : k < l.length := by omega
  exact ⟨_, ix_nat (List.getElem?_eq_getElem hk'), h k _ rfl (List.getElem?_eq_getElem hk')⟩
theorem Ok.app {l m : List α} {P : List α → Prop} (hl : l.length + m.length ≤ 68719476736) (h : P (l ++ m)) : Ok (app? l m) P := ⟨_, app?_eq hl, h⟩
theorem Ok.mk {n : Int} {z : α} {P : List α → Prop} (m : Nat) (hm : n = (m : Int)) (hl : m ≤ 68719476736) (h : P (List.replicate m z)) : Ok (mk? n z) P := by
  subst hm; exact ⟨_, mk?_eq z hl, h⟩
theorem Ok.cat {a b : ByteArray} {P : ByteArray → Prop} (hl : a.size + b.size ≤ 68719476736) (h : P (a ++ b)) : Ok (cat? a b) P := ⟨_, if_pos hl, h⟩
theorem Ok.quo {a b : Int} {P : Int → Prop} (hb : b ≠ 0) (h : P (wr (a.tdiv b))) : Ok (quo? a b) P := ⟨_, if_pos hb, h⟩
theorem Ok.rem {a b : Int} {P : Int → Prop} (hb : b ≠ 0) (h : P (a.tmod b)) : Ok (rem? a b) P := ⟨_, if_pos hb, h⟩
theorem Ok.sub {l : List α} {a b : Int} {P : List α → Prop} (x y : Nat) (ha : a = (x : Int)) (hb : b = (y : Int)) (hxy : x ≤ y) (hl : y ≤ l.length) (h : P ((l.drop x).take (y - x))) : Ok (sub? l a b) P := by
  subst ha; subst hb
  exact ⟨_, if_pos ⟨by omega, by omega, by omega⟩, by simpa using h⟩

/-! ### Loops -/

theorem Ok.forS_from {f : Nat → α → S → Option S} (I : Nat → S → Prop) (l : List α) : ∀ (m : List α) (k : Nat), l.drop k = m → ∀ st, I k st →
    (∀ k x st, l[k]? = some x → I k st → Ok (f k x st) (I (k + 1))) → k ≤ l.length → Ok (forS f k m st) (I l.length)
  | [], k, hm, st, hi, _, hk => by
    have : l.length - k = 0 := by simpa using congrArg List.length hm
    have : k = l.length := by omega
    subst this; exact .pure hi
  | x :: m, k, hm, st, hi, hf, hk => by
    have hx : l[k]? = some x := by have := congrArg (fun z => z[0]?) hm; simpa using this
    have hm' : l.drop (k + 1) = m := by have := congrArg (List.drop 1) hm; simpa [Nat.add_comm] using this
    obtain ⟨s', h1, h2⟩ := hf k x st hx hi
    simp only [forS, h1]
    exact Ok.forS_from I l m (k + 1) hm' s' h2 hf (by have := (List.getElem?_eq_some_iff.1 hx).1; omega)

/-- A loop over a list keeps an invariant. -/
theorem Ok.forS {f : Nat → α → S → Option S} {l : List α} {st : S} {P : S → Prop} (I : Nat → S → Prop) (h0 : I 0 st)
    (hf : ∀ k x st, l[k]? = some x → I k st → Ok (f k x st) (I (k + 1))) (hP : ∀ st, I l.length st → P st) : Ok (forS f 0 l st) P :=
  (Ok.forS_from I l l 0 rfl st h0 hf (Nat.zero_le _)).mono hP

theorem Ok.forL_from {f : Nat → α → S → Option (S ⊕ B)} (I : Nat → S → Prop) (R : B → Prop) (l : List α) : ∀ (m : List α) (k : Nat), l.drop k = m → ∀ st, I k st →
    (∀ k x st, l[k]? = some x → I k st → Ok (f k x st) (Sum.elim (fun s => I (k + 1) s) R)) → k ≤ l.length → Ok (forL f k m st) (Sum.elim (fun s => I l.length s) R)
  | [], k, hm, st, hi, _, hk => by
    have : l.length - k = 0 := by simpa using congrArg List.length hm
    have : k = l.length := by omega
    subst this; exact .pure hi
  | x :: m, k, hm, st, hi, hf, hk => by
    have hx : l[k]? = some x := by have := congrArg (fun z => z[0]?) hm; simpa using this
    have hm' : l.drop (k + 1) = m := by have := congrArg (List.drop 1) hm; simpa [Nat.add_comm] using this
    obtain ⟨s', h1, h2⟩ := hf k x st hx hi
    cases s' with
    | inl s' =>
      simp only [forL, h1]
      exact Ok.forL_from I R l m (k + 1) hm' s' h2 hf (by have := (List.getElem?_eq_some_iff.1 hx).1; omega)
    | inr b => simp only [forL, h1]; exact .pure h2

theorem Ok.forL {f : Nat → α → S → Option (S ⊕ B)} {l : List α} {st : S} {P : S ⊕ B → Prop} (I : Nat → S → Prop) (R : B → Prop) (h0 : I 0 st)
    (hf : ∀ k x st, l[k]? = some x → I k st → Ok (f k x st) (Sum.elim (fun s => I (k + 1) s) R)) (hP : ∀ st, I l.length st → P (.inl st)) (hR : ∀ b, R b → P (.inr b)) : Ok (forL f 0 l st) P :=
  (Ok.forL_from I R l l 0 rfl st h0 hf (Nat.zero_le _)).mono fun x h => by cases x with | inl s => exact hP s h | inr b => exact hR b h

theorem Ok.forJ_from {f : Nat → S → Option S} (I : Nat → S → Prop) (n : Nat) : ∀ (m k : Nat), k + m = n → ∀ st, I k st →
    (∀ k st, k < n → I k st → Ok (f k st) (I (k + 1))) → Ok (forJ f k m st) (I n)
  | 0, k, hm, st, hi, _ => by have : k = n := by omega
                              subst this; exact .pure hi
  | m + 1, k, hm, st, hi, hf => by
    obtain ⟨s', h1, h2⟩ := hf k st (by omega) hi
    simp only [forJ, h1]
    exact Ok.forJ_from I n m (k + 1) (by omega) s' h2 hf
theorem Ok.forJ {f : Nat → S → Option S} {n : Nat} {st : S} {P : S → Prop} (I : Nat → S → Prop) (h0 : I 0 st)
    (hf : ∀ k st, k < n → I k st → Ok (f k st) (I (k + 1))) (hP : ∀ st, I n st → P st) : Ok (forJ f 0 n st) P :=
  (Ok.forJ_from I n n 0 (by omega) st h0 hf).mono hP

theorem Ok.forI_from {f : Nat → S → Option (S ⊕ B)} (I : Nat → S → Prop) (R : B → Prop) (n : Nat) : ∀ (m k : Nat), k + m = n → ∀ st, I k st →
    (∀ k st, k < n → I k st → Ok (f k st) (Sum.elim (fun s => I (k + 1) s) R)) → Ok (forI f k m st) (Sum.elim (fun s => I n s) R)
  | 0, k, hm, st, hi, _ => by have : k = n := by omega
                              subst this; exact .pure hi
  | m + 1, k, hm, st, hi, hf => by
    obtain ⟨s', h1, h2⟩ := hf k st (by omega) hi
    cases s' with
    | inl s' =>
      simp only [forI, h1]
      exact Ok.forI_from I R n m (k + 1) (by omega) s' h2 hf
    | inr b => simp only [forI, h1]; exact .pure h2
theorem Ok.forI {f : Nat → S → Option (S ⊕ B)} {n : Nat} {st : S} {P : S ⊕ B → Prop} (I : Nat → S → Prop) (R : B → Prop) (h0 : I 0 st)
    (hf : ∀ k st, k < n → I k st → Ok (f k st) (Sum.elim (fun s => I (k + 1) s) R)) (hP : ∀ st, I n st → P (.inl st)) (hR : ∀ b, R b → P (.inr b)) : Ok (forI f 0 n st) P :=
  (Ok.forI_from I R n n 0 (by omega) st h0 hf).mono fun x h => by cases x with | inl s => exact hP s h | inr b => exact hR b h

/-- A loop with a measure that gets less. -/
theorem Ok.loop_from {f : S → Option (S ⊕ B)} {P : B → Prop} (I : S → Prop) (μ : S → Nat) (hf : ∀ st, I st → Ok (f st) (Sum.elim (fun s => I s ∧ μ s < μ st) P)) :
    ∀ (n : Nat) (st : S), I st → μ st < n → Ok (loopN f n st) P
  | 0, st, _, h => absurd h (Nat.not_lt_zero _)
  | n + 1, st, hi, h => by
    obtain ⟨r, h1, h2⟩ := hf st hi
    cases r with
    | inl s =>
      simp only [loopN, h1]
      exact Ok.loop_from I μ hf n s h2.1 (by have := h2.2; omega)
    | inr b => simp only [loopN, h1]; exact .pure h2
theorem Ok.loop {f : S → Option (S ⊕ B)} {P : B → Prop} {st : S} (I : S → Prop) (μ : S → Nat) (h0 : I st) (hm : μ st < 18446744073709551616)
    (hf : ∀ st, I st → Ok (f st) (Sum.elim (fun s => I s ∧ μ s < μ st) P)) : Ok (loopN f lots st) P :=
  Ok.loop_from I μ hf _ st h0 hm

/-- The same, where it is only known that there is a measure. -/
theorem Ok.loopE_from {f : S → Option (S ⊕ B)} {P : B → Prop} (I : Nat → S → Prop) (hf : ∀ m st, I m st → Ok (f st) (Sum.elim (fun s => ∃ m', m' < m ∧ I m' s) P)) :
    ∀ (n : Nat) (m : Nat) (st : S), I m st → m < n → Ok (loopN f n st) P
  | 0, _, st, _, h => absurd h (Nat.not_lt_zero _)
  | n + 1, m, st, hi, h => by
    obtain ⟨r, h1, h2⟩ := hf m st hi
    cases r with
    | inl s =>
      obtain ⟨m', h3, h4⟩ := h2
      simp only [loopN, h1]
      exact Ok.loopE_from I hf n m' s h4 (by omega)
    | inr b => simp only [loopN, h1]; exact .pure h2
theorem Ok.loopE {f : S → Option (S ⊕ B)} {P : B → Prop} {st : S} {m : Nat} (I : Nat → S → Prop) (h0 : I m st) (hm : m < 18446744073709551616)
    (hf : ∀ m st, I m st → Ok (f st) (Sum.elim (fun s => ∃ m', m' < m ∧ I m' s) P)) : Ok (loopN f lots st) P :=
  Ok.loopE_from I hf _ m st h0 hm

end
end Go.Aw
