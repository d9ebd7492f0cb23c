/- Plain proofs. No condition. -/
import Derived.Test.YtaliejncdnegeaaGreatZwB2
import Derived.Test.YtaliejncdnegeaaGreatZwD
set_option maxRecDepth 100000
namespace Go.Aw
set_option linter.unusedVariables false
set_option linter.unusedSimpArgs false
def Ok {α : Type} (o : Option α) (P : α → Prop) : Prop := ∃ r, o = some r ∧ P r
section
variable {α β S B : Type}
theorem Ok.pure {x : α} {P : α → Prop} (h : P x) : Ok (some x) P := ⟨x, rfl, h⟩
theorem Ok.get {o : Option α} {P : α → Prop} (h : Ok o P) : ∃ r, o = some r ∧ P r := h
theorem Ok.mono {o : Option α} {P Q : α → Prop} (h : Ok o P) (k : ∀ x, P x → Q x) : Ok o Q := let ⟨r, h1, h2⟩ := h; ⟨r, h1, k r h2⟩
theorem Ok.bind {o : Option α} {f : α → Option β} {P : β → Prop} {Q : α → Prop} (h : Ok o Q) (k : ∀ x, Q x → Ok (f x) P) : Ok (o.bind f) P := by
 obtain ⟨r, rfl, hr⟩ := h; exact k r hr
theorem Ok.bind' {o : Option α} {f : α → Option β} {P : β → Prop} (h : Ok o fun x => Ok (f x) P) : Ok (o.bind f) P := h.bind fun _ k => k
theorem Ok.eq {o : Option α} {P : α → Prop} {x : α} (h : o = some x) (k : P x) : Ok o P := ⟨x, h, k⟩
theorem Ok.and {o : Option α} {P Q : α → Prop} (h : Ok o P) (k : Ok o Q) : Ok o fun x => P x ∧ Q x := by
 obtain ⟨r, rfl, hr⟩ := h; obtain ⟨r', h', hr'⟩ := k; cases h'; exact ⟨r, rfl, hr, hr'⟩
theorem Ok.map {o : Option α} {f : α → β} {P : β → Prop} (h : Ok o fun x => P (f x)) : Ok (o.map f) P := by
 obtain ⟨r, rfl, hr⟩ := h; exact ⟨_, rfl, hr⟩
theorem Ok.chk {p : Prop} [Decidable p] {P : Unit → Prop} (h : p) (k : P ()) : Ok (chk p) P := ⟨(), chk_eq h, k⟩
theorem Ok.ix {l : List α} {i : Int} {P : Nat × α → Prop} (k : Nat) (hi : i = (k : Int)) (hk : k < l.length) (h : P (k, l[k])) : Ok (ix l i) P := by
 subst hi; exact ⟨_, ix_nat (gq hk), h⟩
theorem Ok.ix' {l : List α} {i : Int} {P : Nat × α → Prop} (h0 : 0 ≤ i) (hk : i < (l.length : Int)) (h : ∀ (k : Nat) (x : α), i = (k : Int) → l[k]? = some x → P (k, x)) : Ok (Aw.ix l i) P := by
 obtain ⟨k, rfl⟩ : ∃ k : Nat, i = (k : Int) := ⟨i.toNat, by omega⟩
 have hk' : k < l.length := by omega
 exact ⟨_, ix_nat (gq hk'), h k _ rfl (gq hk')⟩
theorem Ok.app {l m : List α} {P : List α → Prop} (hl : l.length + m.length ≤ 68719476736) (h : P (l ++ m)) : Ok (app? l m) P := ⟨_, app?_eq hl, h⟩
theorem Ok.mk {n : Int} {z : α} {P : List α → Prop} (m : Nat) (hm : n = (m : Int)) (hl : m ≤ 68719476736) (h : P (List.replicate m z)) : Ok (mk? n z) P := by
 subst hm; exact ⟨_, mk?_eq z hl, h⟩
theorem Ok.cat {a b : ByteArray} {P : ByteArray → Prop} (hl : a.size + b.size ≤ 68719476736) (h : P (a ++ b)) : Ok (cat? a b) P := ⟨_, if_pos hl, h⟩
theorem Ok.quo {a b : Int} {P : Int → Prop} (hb : b ≠ 0) (h : P (wr (a.tdiv b))) : Ok (quo? a b) P := ⟨_, if_pos hb, h⟩
theorem Ok.rem {a b : Int} {P : Int → Prop} (hb : b ≠ 0) (h : P (a.tmod b)) : Ok (rem? a b) P := ⟨_, if_pos hb, h⟩
theorem Ok.sub {l : List α} {a b : Int} {P : List α → Prop} (x y : Nat) (ha : a = (x : Int)) (hb : b = (y : Int)) (hxy : x ≤ y) (hl : y ≤ l.length) (h : P ((l.drop x).take (y - x))) : Ok (sub? l a b) P := by
 subst ha; subst hb
 exact ⟨_, if_pos ⟨by omega, by omega, by omega⟩, by simpa using h⟩
theorem Ok.forS_from {f : Nat → α → S → Option S} (I : Nat → S → Prop) (l : List α) : ∀ (m : List α) (k : Nat), l.drop k = m → ∀ st, I k st →
  (∀ k x st, l[k]? = some x → I k st → Ok (f k x st) (I (k + 1))) → k ≤ l.length → Ok (forS f k m st) (I l.length)
 | [], k, hm, st, hi, _, hk => by
  have : l.length - k = 0 := by simpa using congrArg List.length hm
  have : k = l.length := by omega
  subst this; exact .pure hi
 | x :: m, k, hm, st, hi, hf, hk => by
  have hx : l[k]? = some x := by have := congrArg (fun z => z[0]?) hm; simpa using this
  have hm' : l.drop (k + 1) = m := by have := congrArg (List.drop 1) hm; simpa [Nat.add_comm] using this
  obtain ⟨s', h1, h2⟩ := hf k x st hx hi
  simp only [forS, h1]
  exact Ok.forS_from I l m (k + 1) hm' s' h2 hf (by have := (gs hx).1; omega)
theorem Ok.forS {f : Nat → α → S → Option S} {l : List α} {st : S} {P : S → Prop} (I : Nat → S → Prop) (h0 : I 0 st)
  (hf : ∀ k x st, l[k]? = some x → I k st → Ok (f k x st) (I (k + 1))) (hP : ∀ st, I l.length st → P st) : Ok (forS f 0 l st) P :=
 (Ok.forS_from I l l 0 rfl st h0 hf (Nat.zero_le _)).mono hP
theorem Ok.forL_from {f : Nat → α → S → Option (S ⊕ B)} (I : Nat → S → Prop) (R : B → Prop) (l : List α) : ∀ (m : List α) (k : Nat), l.drop k = m → ∀ st, I k st →
  (∀ k x st, l[k]? = some x → I k st → Ok (f k x st) (Sum.elim (fun s => I (k + 1) s) R)) → k ≤ l.length → Ok (forL f k m st) (Sum.elim (fun s => I l.length s) R)
 | [], k, hm, st, hi, _, hk => by
  have : l.length - k = 0 := by simpa using congrArg List.length hm
  have : k = l.length := by omega
  subst this; exact .pure hi
 | x :: m, k, hm, st, hi, hf, hk => by
  have hx : l[k]? = some x := by have := congrArg (fun z => z[0]?) hm; simpa using this
  have hm' : l.drop (k + 1) = m := by have := congrArg (List.drop 1) hm; simpa [Nat.add_comm] using this
  obtain ⟨s', h1, h2⟩ := hf k x st hx hi
  cases s' with
  | inl s' =>
   simp only [forL, h1]
   exact Ok.forL_from I R l m (k + 1) hm' s' h2 hf (by have := (gs hx).1; omega)
  | inr b => simp only [forL, h1]; exact .pure h2
theorem Ok.forL {f : Nat → α → S → Option (S ⊕ B)} {l : List α} {st : S} {P : S ⊕ B → Prop} (I : Nat → S → Prop) (R : B → Prop) (h0 : I 0 st)
  (hf : ∀ k x st, l[k]? = some x → I k st → Ok (f k x st) (Sum.elim (fun s => I (k + 1) s) R)) (hP : ∀ st, I l.length st → P (.inl st)) (hR : ∀ b, R b → P (.inr b)) : Ok (forL f 0 l st) P :=
 (Ok.forL_from I R l l 0 rfl st h0 hf (Nat.zero_le _)).mono fun x h => by cases x with | inl s => exact hP s h | inr b => exact hR b h
theorem Ok.forJ_from {f : Nat → S → Option S} (I : Nat → S → Prop) (n : Nat) : ∀ (m k : Nat), k + m = n → ∀ st, I k st →
  (∀ k st, k < n → I k st → Ok (f k st) (I (k + 1))) → Ok (forJ f k m st) (I n)
 | 0, k, hm, st, hi, _ => by have : k = n := (by omega); subst this; exact .pure hi
 | m + 1, k, hm, st, hi, hf => by
  obtain ⟨s', h1, h2⟩ := hf k st (by omega) hi
  simp only [forJ, h1]
  exact Ok.forJ_from I n m (k + 1) (by omega) s' h2 hf
theorem Ok.forJ {f : Nat → S → Option S} {n : Nat} {st : S} {P : S → Prop} (I : Nat → S → Prop) (h0 : I 0 st)
  (hf : ∀ k st, k < n → I k st → Ok (f k st) (I (k + 1))) (hP : ∀ st, I n st → P st) : Ok (forJ f 0 n st) P :=
 (Ok.forJ_from I n n 0 (by omega) st h0 hf).mono hP
theorem Ok.forI_from {f : Nat → S → Option (S ⊕ B)} (I : Nat → S → Prop) (R : B → Prop) (n : Nat) : ∀ (m k : Nat), k + m = n → ∀ st, I k st →
  (∀ k st, k < n → I k st → Ok (f k st) (Sum.elim (fun s => I (k + 1) s) R)) → Ok (forI f k m st) (Sum.elim (fun s => I n s) R)
 | 0, k, hm, st, hi, _ => by have : k = n := (by omega); subst this; exact .pure hi
 | m + 1, k, hm, st, hi, hf => by
  obtain ⟨s', h1, h2⟩ := hf k st (by omega) hi
  cases s' with
  | inl s' =>
   simp only [forI, h1]
   exact Ok.forI_from I R n m (k + 1) (by omega) s' h2 hf
  | inr b => simp only [forI, h1]; exact .pure h2
theorem Ok.forI {f : Nat → S → Option (S ⊕ B)} {n : Nat} {st : S} {P : S ⊕ B → Prop} (I : Nat → S → Prop) (R : B → Prop) (h0 : I 0 st)
  (hf : ∀ k st, k < n → I k st → Ok (f k st) (Sum.elim (fun s => I (k + 1) s) R)) (hP : ∀ st, I n st → P (.inl st)) (hR : ∀ b, R b → P (.inr b)) : Ok (forI f 0 n st) P :=
 (Ok.forI_from I R n n 0 (by omega) st h0 hf).mono fun x h => by cases x with | inl s => exact hP s h | inr b => exact hR b h
theorem Ok.loop_from {f : S → Option (S ⊕ B)} {P : B → Prop} (I : S → Prop) (μ : S → Nat) (hf : ∀ st, I st → Ok (f st) (Sum.elim (fun s => I s ∧ μ s < μ st) P)) :
  ∀ (n : Nat) (st : S), I st → μ st < n → Ok (loopN f n st) P
 | 0, st, _, h => absurd h (Nat.not_lt_zero _)
 | n + 1, st, hi, h => by
  obtain ⟨r, h1, h2⟩ := hf st hi
  cases r with
  | inl s =>
   simp only [loopN, h1]
   exact Ok.loop_from I μ hf n s h2.1 (by have := h2.2; omega)
  | inr b => simp only [loopN, h1]; exact .pure h2
theorem Ok.loop {f : S → Option (S ⊕ B)} {P : B → Prop} {st : S} (I : S → Prop) (μ : S → Nat) (h0 : I st) (hm : μ st < 18446744073709551616)
  (hf : ∀ st, I st → Ok (f st) (Sum.elim (fun s => I s ∧ μ s < μ st) P)) : Ok (loopN f lots st) P :=
 Ok.loop_from I μ hf _ st h0 hm
end
def dot : List Int → List Int → Int
 | w :: ws, x :: xs => w * x + dot ws xs
 | _, _ => 0
theorem dot_nil (w : List Int) : dot w [] = 0 := by cases w <;> rfl
theorem dot_zero (w : List Int) (n : Nat) : dot w (List.replicate n 0) = 0 := by
 induction n generalizing w with
 | zero => exact dot_nil w
 | succ n ih => cases w with
  | nil => rfl
  | cons a w => simp [List.replicate_succ, dot, ih]
theorem dot_take_succ {w l : List Int} {k : Nat} {a x : Int} (hw : w[k]? = some a) (hl : l[k]? = some x) : dot w (l.take (k + 1)) = dot w (l.take k) + a * x := by
 induction w generalizing l k with
 | nil => simp at hw
 | cons b w ih =>
  cases l with
  | nil => simp at hl
  | cons z l =>
   cases k with
   | zero => simp at hw hl; subst hw; subst hl; simp [dot, dot_nil]
   | succ k =>
    simp at hw hl
    simp only [List.take_succ_cons, dot, ih hw hl]; omega
theorem get_set {α : Type} {l : List α} {k i : Nat} {x : α} : (l.set k x)[i]? = if k = i ∧ i < l.length then some x else l[i]? := by
 rw [List.getElem?_set]
 by_cases h : k = i
 ·subst h
  by_cases h2 : k < l.length
  ·simp [h2]
  ·simp [h2]
 ·simp [h]
theorem inj_some {a b : Nat} (h : some (a : Int) = some (b : Int)) : a = b := Int.ofNat.inj (Option.some.inj h)
inductive Rep (u : List Int) : Nat → Nat → Nat → Prop
 | root {k : Nat} : u[k]? = some (k : Int) → Rep u 0 k k
 | step {k j m r : Nat} : u[k]? = some (j : Int) → k ≠ j → Rep u m j r → Rep u (m + 1) k r
theorem Rep.det {u : List Int} {m k r : Nat} (h : Rep u m k r) : ∀ {m' r' : Nat}, Rep u m' k r' → m = m' ∧ r = r' := by
 induction h with
 | root h =>
  intro m' r' h'
  cases h' with
  | root _ => exact ⟨rfl, rfl⟩
  | step h1 h2 _ => rw [h] at h1; have := inj_some h1; omega
 | step h1 h2 h3 ih =>
  intro m' r' h'
  cases h' with
  | root h => rw [h] at h1; have := inj_some h1; omega
  | step h4 h5 h6 =>
   rw [h1] at h4; have h4 := inj_some h4
   subst h4
   obtain ⟨rfl, rfl⟩ := ih h6
   exact ⟨rfl, rfl⟩
theorem Rep.halve {u : List Int} {k j i : Nat} (hk : u[k]? = some (j : Int)) (hne : k ≠ j) (hj : u[j]? = some (i : Int)) :
  ∀ (m x r : Nat), Rep u m x r → ∃ m', m' ≤ m ∧ Rep (u.set k (i : Int)) m' x r := by
 intro m
 induction m using Nat.strongRecOn with
 | ind m ih =>
  intro x r h
  have hkl : k < u.length := (gs hk).1
  cases h with
  | root h =>
   refine ⟨0, Nat.le_refl _, .root ?_⟩
   rw [List.getElem?_set]
   by_cases hx : k = x
   ·subst hx; rw [h] at hk; have := inj_some hk; omega
   ·simp [hx, h]
  | @step _ y m' _ h1 h2 h3 =>
   by_cases hx : k = x
   ·subst hx
    rw [hk] at h1; have h1 := inj_some h1
    subst h1
    cases h3 with
    | root h4 =>
     rw [hj] at h4; have h4 := inj_some h4
     subst h4
     obtain ⟨m2, hm2, hr2⟩ := ih 0 (by omega) i i (.root hj)
     have : m2 = 0 := by omega
     subst this
     exact ⟨1, by omega, .step (by simp [hkl]) h2 hr2⟩
    | @step _ z m'' _ h4 h5 h6 =>
     rw [hj] at h4; have h4 := inj_some h4
     subst h4
     have hki : k ≠ i := by
      rintro rfl
      have := (Rep.det h6 (.step hk hne (.step hj h5 h6))).1
      omega
     obtain ⟨m2, hm2, hr2⟩ := ih m'' (by omega) i r h6
     exact ⟨m2 + 1, by omega, .step (by simp [hkl]) hki hr2⟩
   ·obtain ⟨m2, hm2, hr2⟩ := ih m' (by omega) y r h3
    exact ⟨m2 + 1, by omega, .step (by rw [List.getElem?_set]; simp [hx, h1]) h2 hr2⟩
structure Uni (n : Nat) (u : List Int) (d : Nat) (ρ : Nat → Nat) : Prop where
 len : u.length = n
 lt : ∀ k, k < n → ρ k < n
 rep : ∀ k, k < n → ∃ m, m ≤ d ∧ Rep u m k (ρ k)
theorem Uni.at_ {n d : Nat} {u : List Int} {ρ : Nat → Nat} (h : Uni n u d ρ) {k : Nat} (hk : k < n) : ∃ j : Nat, u[k]? = some (j : Int) ∧ j < n ∧ ρ j = ρ k := by
 obtain ⟨m, _, hr⟩ := h.rep k hk
 generalize he : ρ k = r at hr
 cases hr with
 | root h1 => exact ⟨k, h1, hk, he⟩
 | @step _ j _ _ h1 h2 h3 =>
  have hj : j < n := by
   rw [← h.len]
   cases h3 with
   | root h => exact (gs h).1
   | step h _ _ => exact (gs h).1
  refine ⟨j, h1, hj, ?_⟩
  obtain ⟨m', _, hr'⟩ := h.rep j hj
  exact (hr'.det h3).2
theorem Uni.halve {n d : Nat} {u : List Int} {ρ : Nat → Nat} (h : Uni n u d ρ) {k j i : Nat} (hk : u[k]? = some (j : Int)) (hne : k ≠ j) (hj : u[j]? = some (i : Int)) :
  Uni n (u.set k (i : Int)) d ρ :=
 ⟨by simp [h.len], h.lt, fun x hx => let ⟨m, h1, h2⟩ := h.rep x hx; let ⟨m', h3, h4⟩ := Rep.halve hk hne hj m x _ h2; ⟨m', by omega, h4⟩⟩
theorem Uni.step {n d : Nat} {u : List Int} {ρ : Nat → Nat} (h : Uni n u d ρ) {k j i m : Nat} (hk : u[k]? = some (j : Int)) (hne : k ≠ j) (hj : u[j]? = some (i : Int)) (hr : Rep u m k (ρ k)) :
  ∃ m', m' < m ∧ Rep (u.set k (i : Int)) m' i (ρ i) ∧ ρ i = ρ k := by
 have hj' : j < n := by rw [← h.len]; exact (gs hj).1
 have hk' : k < n := by rw [← h.len]; exact (gs hk).1
 obtain ⟨y, e1, hy, e2⟩ := h.at_ hj'
 obtain ⟨y2, e3, hy2, e4⟩ := h.at_ hk'
 rw [hj] at e1; have e1 := inj_some e1; subst e1
 rw [hk] at e3; have e3 := inj_some e3; subst e3
 have hik : ρ i = ρ k := by rw [e2, e4]
 generalize ρ k = r at hr hik
 cases hr with
 | root h1 => rw [h1] at hk; have := inj_some hk; omega
 | @step _ y m1 _ h1 h2 h3 =>
  rw [hk] at h1; have h1 := inj_some h1
  subst h1
  have : ∃ m2, m2 ≤ m1 ∧ Rep u m2 i r := by
   cases h3 with
   | root h4 => rw [hj] at h4; have h4 := inj_some h4; exact ⟨0, by omega, by rw [h4]; rw [h4] at hj; exact .root hj⟩
   | step h4 h5 h6 => rw [hj] at h4; have h4 := inj_some h4; subst h4; exact ⟨_, by omega, h6⟩
  obtain ⟨m2, h4, h5⟩ := this
  obtain ⟨m3, h6, h7⟩ := Rep.halve hk hne hj m2 i _ h5
  exact ⟨m3, by omega, by rw [hik]; exact h7, hik⟩
inductive Conn (R : Nat → Nat → Prop) : Nat → Nat → Prop
 | refl (x : Nat) : Conn R x x
 | edge {x y : Nat} : R x y → Conn R x y
 | symm {x y : Nat} : Conn R x y → Conn R y x
 | trans {x y z : Nat} : Conn R x y → Conn R y z → Conn R x z
theorem Conn.mono {R R' : Nat → Nat → Prop} (h : ∀ x y, R x y → Conn R' x y) {x y : Nat} (c : Conn R x y) : Conn R' x y := by
 induction c with
 | refl x => exact .refl x
 | edge e => exact h _ _ e
 | symm _ ih => exact ih.symm
 | trans _ _ i1 i2 => exact i1.trans i2
end Go.Aw
namespace Go.Proofs.YtaliejncdnegeaaGreat
set_option linter.unusedVariables false
set_option linter.unusedSimpArgs false
open Go.Aw
abbrev Src := KS
structure SrcOk (s : Src) : Prop where
 at0 : 0 ≤ s.At
 at1 : s.At ≤ (s.L_.length : Int)
 len : s.L_.length ≤ 2000
theorem Ok.iteD {α : Type} {c : Prop} [Decidable c] {a b : Option α} {P : α → Prop} (h1 : c → Ok a P) (h2 : ¬ c → Ok b P) : Ok (if decide c = true then a else b) P := by
 by_cases hc : c
 ·rw [if_pos (by simp [hc])]; exact h1 hc
 ·rw [if_neg (by simp [hc])]; exact h2 hc
theorem Ok.iteB {α : Type} {c : Bool} {a b : Option α} {P : α → Prop} (h1 : c = true → Ok a P) (h2 : c = false → Ok b P) : Ok (if c = true then a else b) P := by
 cases c
 ·rw [if_neg (by simp)]; exact h2 rfl
 ·rw [if_pos rfl]; exact h1 rfl
theorem Ok.iteN {α : Type} {c : Bool} {a b : Option α} {P : α → Prop} (h1 : c = false → Ok a P) (h2 : c = true → Ok b P) : Ok (if (!c) = true then a else b) P := by
 cases c
 ·exact h1 rfl
 ·exact h2 rfl
theorem Ok.iteE {α : Type} {x y : Int} {a b : Option α} {P : α → Prop} (h1 : x = y → Ok a P) (h2 : x ≠ y → Ok b P) : Ok (if (x == y) = true then a else b) P := by
 by_cases h : x = y
 ·rw [if_pos (by simp [h])]; exact h1 h
 ·rw [if_neg (by simp [h])]; exact h2 h
theorem Ok.iteU {α : Type} {x y : Int} {a b : Option α} {P : α → Prop} (h1 : x ≠ y → Ok a P) (h2 : x = y → Ok b P) : Ok (if (x != y) = true then a else b) P := by
 by_cases h : x = y
 ·rw [if_neg (by simp [h])]; exact h2 h
 ·rw [if_pos (by simp [h])]; exact h1 h
theorem mod_ok (x : Int) {n : Int} (h1 : 1 ≤ n) (h2 : n ≤ 9223372036854775807) : Ok (L.zbjp x n) fun r => 0 ≤ r ∧ r < n := by
 unfold L.zbjp L.zbjp.J1
 have ha := Int.tmod_lt_of_pos x (show 0 < n by omega)
 have hb : -n < x.tmod n := by
  have := Int.tmod_lt_of_pos (-x) (show 0 < n by omega)
  rw [Int.neg_tmod] at this; omega
 refine Ok.iteD (fun h => by omega) fun _ => .bind' (.rem (by omega) ?_)
 refine Ok.iteD (fun h => .pure ?_) (fun h => .pure ?_)
 ·rw [wr_id (by omega)]; omega
 ·omega
theorem new_ok (l : List Int) : Ok (L.ziti l) SrcOk := by
 unfold L.ziti
 refine .bind' (.sub 0 (min l.length 2000) rfl (by omega) (by omega) (by omega) (.pure ?_))
 exact ⟨Int.le_refl _, by simp, by simp; omega⟩
theorem raw_ok {s : Src} (h : SrcOk s) : Ok (L.zxpl s) fun r => SrcOk r.2 := by
 obtain ⟨h1, h2, h3⟩ := h
 unfold L.zxpl
 refine Ok.iteD (fun _ => .pure ⟨h1, h2, h3⟩) fun h => ?_
 simp (disch := omega) only [wr_id]
 refine .bind' (.ix' (by omega) (by omega) fun k x _ _ => .pure ⟨by dsimp only; omega, by dsimp only; omega, h3⟩)
theorem n_ok {s : Src} (h : SrcOk s) {n : Int} (h1 : 1 ≤ n) (h2 : n ≤ 9223372036854775807) : Ok (L.zdjb s n) fun r => SrcOk r.2 ∧ 0 ≤ r.1 ∧ r.1 < n := by
 unfold L.zdjb
 exact .bind (raw_ok h) fun x hx => .bind (mod_ok _ h1 h2) fun y hy => .pure ⟨hx, hy⟩
theorem range_ok {s : Src} (h : SrcOk s) {lo hi : Int} (h1 : lo ≤ hi) (h2 : -1000000000 ≤ lo) (h3 : hi ≤ 1000000000) : Ok (L.ziuk s lo hi) fun r => SrcOk r.2 ∧ lo ≤ r.1 ∧ r.1 ≤ hi := by
 unfold L.ziuk
 simp (disch := omega) only [wr_id]
 refine .bind (n_ok h (by omega) (by omega)) fun x hx => .pure ⟨hx.1, ?_⟩
 dsimp only
 rw [wr_id (by omega)]; omega
def nm (c : UInt8) (k : Nat) : ByteArray := ⟨#[c, 97 + UInt8.ofNat k]⟩
structure PointsOk (cap : Int) (l : List Point) : Prop where
 len : 2 ≤ l.length ∧ l.length ≤ 8
 first : ∀ p, l[0]? = some p → p.At = 0
 last : ∀ p, l[l.length - 1]? = some p → p.At = cap
 up : ∀ i p q, l[i]? = some p → l[i + 1]? = some q → p.At < q.At
 height : ∀ p, p ∈ l → -500 ≤ p.Height ∧ p.Height ≤ 5000
 limit : ∀ p, p ∈ l → 0 ≤ p.Limit ∧ p.Limit ≤ 100000000
structure SegOk (nodes k : Nat) (s : Segment) : Prop where
 name : s.Name = nm 103 k
 ends : 0 ≤ s.From ∧ s.From < (nodes : Int) ∧ 0 ≤ s.To ∧ s.To < (nodes : Int) ∧ s.From ≠ s.To
 cap : 1 ≤ s.Capacity ∧ s.Capacity ≤ 1000
 resist : 0 ≤ s.Resist ∧ s.Resist ≤ 1000
 wave : 0 ≤ s.Wave ∧ s.Wave ≤ 100000
 points : PointsOk s.Capacity s.Points
structure PortOk (nodes k : Nat) (p : Port) : Prop where
 name : p.Name = nm 113 k
 node : 0 ≤ p.Node ∧ p.Node < (nodes : Int)
 pressure : 0 ≤ p.Pressure ∧ p.Pressure ≤ 100000000
structure StOk (nodes k : Nat) (p : Station) : Prop where
 name : p.Name = nm 115 k
 node : 0 ≤ p.Node ∧ p.Node < (nodes : Int)
 head : 0 ≤ p.Head ∧ p.Head ≤ 2000000
 fall : 0 ≤ p.Fall ∧ p.Fall ≤ 100000
 suction : 0 ≤ p.Suction ∧ p.Suction ≤ 400000
structure NetOk (n : Network) : Prop where
 nodes : 2 ≤ n.Nodes.length ∧ n.Nodes.length ≤ 6
 names : ∀ k x, n.Nodes[k]? = some x → x = nm 110 k
 segs1 : n.Nodes.length - 1 ≤ n.Segments.length ∧ n.Segments.length ≤ 8
 segs : ∀ k s, n.Segments[k]? = some s → SegOk n.Nodes.length k s
 ports1 : 2 ≤ n.Ports.length ∧ n.Ports.length ≤ 6
 ports : ∀ k s, n.Ports[k]? = some s → PortOk n.Nodes.length k s
 portsUp : ∀ (i j : Nat) (p q : Port), i < j → n.Ports[i]? = some p → n.Ports[j]? = some q → p.Node < q.Node
 sts1 : n.Stations.length ≤ 6
 sts : ∀ k s, n.Stations[k]? = some s → StOk n.Nodes.length k s
 stsUp : ∀ (i j : Nat) (p q : Station), i < j → n.Stations[i]? = some p → n.Stations[j]? = some q → p.Node < q.Node
 vapour : -100000 ≤ n.Vapour ∧ n.Vapour ≤ 50000
 settle : 0 ≤ n.Settle ∧ n.Settle ≤ 100
def lit (f : List Piece) : List Int := f.flatMap fun p => List.replicate p.Volume.toNat p.Batch
def psh (l : List Piece) (p : Piece) : List Piece :=
 match l.getLast? with
 | some q => if q.Batch = p.Batch then l.dropLast ++ [⟨q.Batch, q.Volume + p.Volume⟩] else l ++ [p]
 | none => [p]
def rle (L : List Int) : List Piece := L.foldl (fun a b => psh a ⟨b, 1⟩) []
theorem lit_nil : lit [] = [] := rfl
theorem lit_cons (p : Piece) (f : List Piece) : lit (p :: f) = List.replicate p.Volume.toNat p.Batch ++ lit f := rfl
theorem lit_app (f g : List Piece) : lit (f ++ g) = lit f ++ lit g := by simp [lit]
theorem lit_one (p : Piece) : lit [p] = List.replicate p.Volume.toNat p.Batch := by simp [lit]
theorem psh_nil (p : Piece) : psh [] p = [p] := rfl
theorem psh_snoc (l : List Piece) (q p : Piece) : psh (l ++ [q]) p = if q.Batch = p.Batch then l ++ [⟨q.Batch, q.Volume + p.Volume⟩] else l ++ [q] ++ [p] := by
 simp [psh]
theorem snoc_of {α : Type} {l : List α} (h : l ≠ []) : ∃ a x, l = a ++ [x] := ⟨l.dropLast, l.getLast h, (List.dropLast_concat_getLast h).symm⟩
theorem snoc_cases {α : Type} (l : List α) : l = [] ∨ ∃ a x, l = a ++ [x] := by
 by_cases h : l = []
 ·exact .inl h
 ·exact .inr (snoc_of h)
theorem psh_psh (l : List Piece) (b v w : Int) : psh (psh l ⟨b, v⟩) ⟨b, w⟩ = psh l ⟨b, v + w⟩ := by
 rcases snoc_cases l with rfl | ⟨a, q, rfl⟩
 ·have := psh_snoc [] ⟨b, v⟩ ⟨b, w⟩
  simpa [psh_nil] using this
 ·rw [psh_snoc, psh_snoc]
  by_cases h : q.Batch = b
  ·simp only [h, if_pos]; rw [psh_snoc]; simp [Int.add_assoc]
  ·simp only [h, if_false]; rw [psh_snoc]; simp
theorem rle_nil : rle [] = [] := rfl
theorem rle_snoc (L : List Int) (b : Int) : rle (L ++ [b]) = psh (rle L) ⟨b, 1⟩ := by simp [rle, List.foldl_append]
theorem rle_rep (L : List Int) (b : Int) : ∀ v : Nat, 1 ≤ v → rle (L ++ List.replicate v b) = psh (rle L) ⟨b, (v : Int)⟩
 | 0, h => absurd h (by omega)
 | 1, _ => by rw [show List.replicate 1 b = [b] from rfl]; exact rle_snoc L b
 | v + 2, _ => by
  rw [List.replicate_succ', ← List.append_assoc, rle_snoc, rle_rep L b (v + 1) (by omega), psh_psh]
  congr 2
theorem psh_lit {l : List Piece} {p : Piece} (hl : ∀ q, q ∈ l → 0 ≤ q.Volume) (hp : 0 ≤ p.Volume) : lit (psh l p) = lit l ++ List.replicate p.Volume.toNat p.Batch := by
 rcases snoc_cases l with rfl | ⟨a, q, rfl⟩
 ·simp [psh_nil, lit]
 ·have hq := hl q (by simp)
  rw [psh_snoc]
  split
  ·rename_i h
   rw [lit_app, lit_app, lit_one, lit_one, List.append_assoc]
   congr 1
   dsimp only
   rw [← h, Int.toNat_add hq hp, List.replicate_append_replicate]
  ·rw [lit_app, lit_one]
structure Can (f : List Piece) : Prop where
 pos : ∀ p, p ∈ f → 1 ≤ p.Volume
 ne : ∀ (i : Nat) (p q : Piece), f[i]? = some p → f[i + 1]? = some q → p.Batch ≠ q.Batch
theorem Can.nil : Can [] := ⟨by simp, by simp⟩
theorem Can.snoc {a : List Piece} {x : Piece} (h : Can a) (hx : 1 ≤ x.Volume) (hn : ∀ q, a.getLast? = some q → q.Batch ≠ x.Batch) : Can (a ++ [x]) := by
 refine ⟨fun p hp => ?_, fun i p q hp hq => ?_⟩
 ·rcases List.mem_append.1 hp with hp | hp
  ·exact h.pos p hp
  ·simp at hp; subst hp; exact hx
 ·rw [List.getElem?_append] at hp hq
  split at hq
  ·rw [if_pos (by omega)] at hp; exact h.ne i p q hp hq
  ·rename_i hi
   have hb := (gs hq).1
   simp at hb
   have e : i + 1 = a.length := by omega
   rw [if_pos (by omega)] at hp
   simp [e] at hq
   subst hq
   refine hn p ?_
   rw [List.getLast?_eq_getElem?, show a.length - 1 = i by omega]; exact hp
theorem Can.init {a : List Piece} {x : Piece} (h : Can (a ++ [x])) : Can a :=
 ⟨fun p hp => h.pos p (by simp [hp]), fun i p q hp hq => by
  have h1 := (gs hp).1
  have h2 := (gs hq).1
  exact h.ne i p q (by rw [List.getElem?_append_left h1]; exact hp) (by rw [List.getElem?_append_left h2]; exact hq)⟩
theorem Can.last {a : List Piece} {q x : Piece} (h : Can (a ++ [q] ++ [x])) : q.Batch ≠ x.Batch :=
 h.ne a.length q x (by simp) (by simp)
theorem psh_can {l : List Piece} {p : Piece} (h : Can l) (hp : 1 ≤ p.Volume) : Can (psh l p) := by
 rcases snoc_cases l with rfl | ⟨a, q, rfl⟩
 ·rw [psh_nil]; exact Can.snoc (a := []) .nil hp (by simp)
 ·rw [psh_snoc]
  have hq := h.pos q (by simp)
  split
  ·refine h.init.snoc (by dsimp only; omega) fun z hz => ?_
   rcases snoc_cases a with rfl | ⟨c, y, rfl⟩
   ·simp at hz
   ·simp at hz; subst hz; exact h.last
  ·rename_i hb
   refine h.snoc hp fun z hz => ?_
   simp at hz; subst hz; exact hb
theorem rle_can (L : List Int) : Can (rle L) := by
 have : ∀ n (L : List Int), L.length = n → Can (rle L) := by
  intro n
  induction n with
  | zero => intro L h; rw [List.length_eq_zero_iff.1 h]; exact .nil
  | succ n ih =>
   intro L h
   rcases snoc_cases L with rfl | ⟨a, x, rfl⟩
   ·simp at h
   ·rw [rle_snoc]; exact psh_can (ih a (by simpa using h)) (by simp)
 exact this _ L rfl
theorem snoc_ind {α : Type} {P : List α → Prop} (h0 : P []) (h1 : ∀ a x, P a → P (a ++ [x])) : ∀ l, P l := by
 have : ∀ n (l : List α), l.length = n → P l := by
  intro n
  induction n with
  | zero => intro l h; rw [List.length_eq_zero_iff.1 h]; exact h0
  | succ n ih =>
   intro l h
   rcases snoc_cases l with rfl | ⟨a, x, rfl⟩
   ·exact h0
   ·exact h1 a x (ih a (by simpa using h))
 exact fun l => this _ l rfl
theorem lit_rle (L : List Int) : lit (rle L) = L := by
 induction L using snoc_ind with
 | h0 => rfl
 | h1 a x ih => rw [rle_snoc, psh_lit (fun q hq => by have := (rle_can a).pos q hq; omega) (by simp), ih]; rfl
theorem rle_inj {L M : List Int} (h : rle L = rle M) : L = M := by rw [← lit_rle L, h, lit_rle]
theorem fold_psh (f : List Piece) : ∀ (L : List Int), (∀ p, p ∈ f → 1 ≤ p.Volume) → f.foldl psh (rle L) = rle (L ++ lit f) := by
 induction f with
 | nil => intro L _; simp [lit_nil]
 | cons p f ih =>
  intro L h
  have hp := h p (by simp)
  rw [List.foldl_cons, lit_cons, ← List.append_assoc, ← ih _ fun q hq => h q (by simp [hq])]
  congr 1
  rw [rle_rep _ _ _ (by omega)]
  congr 1
  obtain ⟨b, v⟩ := p
  dsimp only at hp ⊢
  simp; omega
theorem fold_can (f : List Piece) : ∀ (a : List Piece), Can (a ++ f) → f.foldl psh a = a ++ f := by
 induction f with
 | nil => intro a _; simp
 | cons p f ih =>
  intro a h
  have e : psh a p = a ++ [p] := by
   rcases snoc_cases a with rfl | ⟨c, q, rfl⟩
   ·rfl
   ·rw [psh_snoc, if_neg]
    exact h.ne c.length q p (by simp) (by simp)
  rw [List.foldl_cons, e, ih _ (by simpa using h)]; simp
theorem rle_lit {f : List Piece} (h : Can f) : rle (lit f) = f := by
 have h1 := fold_psh f [] h.pos
 rw [rle_nil, List.nil_append] at h1
 rw [← h1]; exact fold_can f [] (by simpa using h)
theorem Can.eq {f : List Piece} {L : List Int} (h : Can f) (hl : lit f = L) : f = rle L := by rw [← hl, rle_lit h]
theorem lit_rev (f : List Piece) : lit f.reverse = (lit f).reverse := by
 induction f with
 | nil => rfl
 | cons p f ih => rw [List.reverse_cons, lit_app, ih, lit_one, lit_cons, List.reverse_append, List.reverse_replicate]
theorem Can.rev {f : List Piece} (h : Can f) : Can f.reverse := by
 refine ⟨fun p hp => h.pos p (by simpa using hp), fun i p q hp hq => ?_⟩
 have h1 := (gs hq).1
 rw [List.length_reverse] at h1
 rw [List.getElem?_reverse (by omega)] at hp hq
 exact (h.ne (f.length - 1 - (i + 1)) q p hq (by rw [show f.length - 1 - (i + 1) + 1 = f.length - 1 - i by omega]; exact hp)).symm
theorem rle_rev (L : List Int) : (rle L).reverse = rle L.reverse := (rle_can L).rev.eq (by rw [lit_rev, lit_rle])
def vol (f : List Piece) : Int := (f.map (·.Volume)).sum
theorem vol_nil : vol [] = 0 := rfl
theorem vol_app (f g : List Piece) : vol (f ++ g) = vol f + vol g := by simp [vol]
theorem vol_cons (p : Piece) (f : List Piece) : vol (p :: f) = p.Volume + vol f := by simp [vol]
theorem lit_len {f : List Piece} (h : ∀ p, p ∈ f → 0 ≤ p.Volume) : ((lit f).length : Int) = vol f := by
 induction f with
 | nil => rfl
 | cons p f ih =>
  have := h p (by simp)
  rw [lit_cons, vol_cons, List.length_append, List.length_replicate, ← ih fun q hq => h q (by simp [hq])]; omega
theorem vol_pos {f : List Piece} (h : ∀ p, p ∈ f → 0 ≤ p.Volume) : 0 ≤ vol f := by rw [← lit_len h]; omega
theorem vol_rle (L : List Int) : vol (rle L) = (L.length : Int) := by
 rw [← lit_len fun p hp => by have := (rle_can L).pos p hp; omega, lit_rle]
theorem vol_mem {f : List Piece} (h : ∀ p, p ∈ f → 0 ≤ p.Volume) {p : Piece} (hp : p ∈ f) : p.Volume ≤ vol f := by
 obtain ⟨a, b, rfl⟩ := List.append_of_mem hp
 have h1 := vol_pos (f := a) fun q hq => h q (by simp [hq])
 have h2 := vol_pos (f := b) fun q hq => h q (by simp [hq])
 rw [vol_app, vol_cons]; omega
theorem lit_mem {f : List Piece} (h : ∀ p, p ∈ f → 1 ≤ p.Volume) {p : Piece} (hp : p ∈ f) : p.Batch ∈ lit f := by
 have := h p hp
 exact List.mem_flatMap.2 ⟨p, hp, by simp; omega⟩
theorem rle_batch {L : List Int} {p : Piece} (hp : p ∈ rle L) : p.Batch ∈ L := by
 have := lit_mem (rle_can L).pos hp
 rwa [lit_rle] at this
theorem len_vol {f : List Piece} (h : ∀ p, p ∈ f → 1 ≤ p.Volume) : (f.length : Int) ≤ vol f := by
 induction f with
 | nil => simp [vol_nil]
 | cons p f ih =>
  have := h p (by simp)
  have := ih fun q hq => h q (by simp [hq])
  rw [vol_cons, List.length_cons]; omega
theorem rle_len (L : List Int) : (rle L).length ≤ L.length := by
 have := len_vol (rle_can L).pos
 rw [vol_rle] at this; omega
theorem rle_eq_nil {L : List Int} : rle L = [] ↔ L = [] := ⟨fun h => by rw [← lit_rle L, h]; rfl, fun h => by rw [h]; rfl⟩
theorem vol_take_succ {f : List Piece} {k : Nat} {p : Piece} (h : f[k]? = some p) : vol (f.take (k + 1)) = vol (f.take k) + p.Volume := by
 rw [List.take_add_one, h, vol_app]; simp [vol]
def Bat (L : List Int) : Prop := ∀ b, b ∈ L → 0 ≤ b ∧ b < 1000
structure Vd (f : List Piece) : Prop where
 len : f.length ≤ 200
 can : Can f
 bat : Bat (lit f)
 vol : vol f ≤ 1000000
theorem Vd.nn {f : List Piece} (h : Vd f) : ∀ p, p ∈ f → 0 ≤ p.Volume := fun p hp => by have := h.can.pos p hp; omega
theorem Vd.of {L : List Int} (h1 : (rle L).length ≤ 200) (h2 : Bat L) (h3 : L.length ≤ 1000000) : Vd (rle L) :=
 ⟨h1, rle_can L, by rw [lit_rle]; exact h2, by rw [vol_rle]; omega⟩
theorem Vd.rev {f : List Piece} (h : Vd f) : Vd f.reverse :=
 ⟨by simpa using h.len, h.can.rev, by rw [lit_rev]; exact fun b hb => h.bat b (by simpa using hb), by have := h.vol; simpa [Go.Proofs.YtaliejncdnegeaaGreat.vol] using this⟩
structure PInv (l : List Point) (at_ : Int) : Prop where
 len : 1 ≤ l.length
 first : ∀ p, l[0]? = some p → p.At = 0
 last : ∀ p, l[l.length - 1]? = some p → p.At = at_
 up : ∀ i p q, l[i]? = some p → l[i + 1]? = some q → p.At < q.At
 height : ∀ p, p ∈ l → -500 ≤ p.Height ∧ p.Height ≤ 5000
 limit : ∀ p, p ∈ l → 0 ≤ p.Limit ∧ p.Limit ≤ 100000000
theorem PInv.append {l : List Point} {at_ : Int} (h : PInv l at_) {p : Point} (h1 : at_ < p.At) (h2 : -500 ≤ p.Height ∧ p.Height ≤ 5000) (h3 : 0 ≤ p.Limit ∧ p.Limit ≤ 100000000) : PInv (l ++ [p]) p.At := by
 have hl := h.len
 refine ⟨by simp, fun q hq => h.first q ?_, fun q hq => ?_, fun i a b ha hb => ?_, fun q hq => ?_, fun q hq => ?_⟩
 ·rw [List.getElem?_append_left (by omega)] at hq; exact hq
 ·rw [List.getElem?_append_right (by simp)] at hq; simp at hq; rw [hq]
 ·rw [List.getElem?_append] at ha hb
  split at hb
  ·rw [if_pos (by omega)] at ha; exact h.up i a b ha hb
  ·rename_i hi
   have hb' := (gs hb).1
   simp at hb'
   have : i + 1 = l.length := by omega
   rw [if_pos (by omega)] at ha
   have h4 := h.last a (by rw [show l.length - 1 = i by omega]; exact ha)
   simp [this] at hb
   rw [← hb]; omega
 ·rcases List.mem_append.1 hq with hq | hq
  ·exact h.height q hq
  ·simp at hq; subst hq; exact h2
 ·rcases List.mem_append.1 hq with hq | hq
  ·exact h.limit q hq
  ·simp at hq; subst hq; exact h3
theorem PInv.done {l : List Point} {at_ : Int} (h : PInv l at_) (h1 : 2 ≤ l.length ∧ l.length ≤ 8) : PointsOk at_ l := ⟨h1, h.first, h.last, h.up, h.height, h.limit⟩
theorem nat_of {n : Int} (h : 0 ≤ n) : ∃ k : Nat, n = (k : Int) := ⟨n.toNat, by omega⟩
theorem indexFunc_int_int {s : List Int} {g : Int → Option Bool} {P : Int → Bool} (hg : ∀ (k : Nat) (x : Int), s[k]? = some x → g x = some (P x)) :
  Ok (L.zapw s g) fun r => (r = -1 ∧ ∀ (j : Nat) (y : Int), s[j]? = some y → P y = false) ∨ ∃ (k : Nat) (x : Int), r = (k : Int) ∧ s[k]? = some x ∧ P x = true ∧ ∀ (j : Nat) (y : Int), j < k → s[j]? = some y → P y = false := by
 unfold L.zapw
 refine .bind' (.forL (fun k _ => ∀ (j : Nat) (y : Int), j < k → s[j]? = some y → P y = false) (fun r => ∃ (k : Nat) (x : Int), r = (k : Int) ∧ s[k]? = some x ∧ P x = true ∧ ∀ (j : Nat) (y : Int), j < k → s[j]? = some y → P y = false) (fun j y h => absurd h (Nat.not_lt_zero _)) ?_ ?_ ?_)
 ·intro k x _ hx hi
  unfold L.zapw.B2
  refine .bind' (.eq (hg k x hx) (Ok.iteB (fun hp => .pure ⟨k, x, rfl, hx, hp, hi⟩) fun hp => .pure fun j y hj hy => ?_))
  by_cases h : j < k
  ·exact hi j y h hy
  ·have : j = k := by omega
   subst this
   rw [hx] at hy; simp at hy; subst hy; exact hp
 ·intro _ hi
  simp only [Sum.elim_inl]
  unfold L.zapw.J1
  exact .pure (.inl ⟨rfl, fun j y hy => hi j y (gs hy).1 hy⟩)
 ·intro b hb
  exact .pure (.inr hb)
theorem containsFunc_int_int {s : List Int} {g : Int → Option Bool} {P : Int → Bool} (hg : ∀ (k : Nat) (x : Int), s[k]? = some x → g x = some (P x)) :
  L.zvoj s g = some (s.any P) := by
 have : Ok (L.zvoj s g) fun r => r = s.any P := by
  unfold L.zvoj
  refine .bind (indexFunc_int_int hg) fun r hr => .pure ?_
  rcases hr with ⟨rfl, h⟩ | ⟨k, x, rfl, hx, hp, _⟩
  ·have : s.any P = false := by
    rw [List.any_eq_false]
    intro x hx
    obtain ⟨j, hj⟩ := List.getElem?_of_mem hx
    rw [h j x hj]; simp
   rw [this]; rfl
  ·have : s.any P = true := List.any_eq_true.2 ⟨x, mg hx, hp⟩
   rw [this]; simp
 obtain ⟨r, h, rfl⟩ := this
 exact h
theorem indexFunc_string_string {s : List ByteArray} {g : ByteArray → Option Bool} {P : ByteArray → Bool} (hg : ∀ (k : Nat) (x : ByteArray), s[k]? = some x → g x = some (P x)) :
  Ok (L.zqyu s g) fun r => (r = -1 ∧ ∀ (j : Nat) (y : ByteArray), s[j]? = some y → P y = false) ∨ ∃ (k : Nat) (x : ByteArray), r = (k : Int) ∧ s[k]? = some x ∧ P x = true ∧ ∀ (j : Nat) (y : ByteArray), j < k → s[j]? = some y → P y = false := by
 unfold L.zqyu
 refine .bind' (.forL (fun k _ => ∀ (j : Nat) (y : ByteArray), j < k → s[j]? = some y → P y = false) (fun r => ∃ (k : Nat) (x : ByteArray), r = (k : Int) ∧ s[k]? = some x ∧ P x = true ∧ ∀ (j : Nat) (y : ByteArray), j < k → s[j]? = some y → P y = false) (fun j y h => absurd h (Nat.not_lt_zero _)) ?_ ?_ ?_)
 ·intro k x _ hx hi
  unfold L.zqyu.B2
  refine .bind' (.eq (hg k x hx) (Ok.iteB (fun hp => .pure ⟨k, x, rfl, hx, hp, hi⟩) fun hp => .pure fun j y hj hy => ?_))
  by_cases h : j < k
  ·exact hi j y h hy
  ·have : j = k := by omega
   subst this
   rw [hx] at hy; simp at hy; subst hy; exact hp
 ·intro _ hi
  simp only [Sum.elim_inl]
  unfold L.zqyu.J1
  exact .pure (.inl ⟨rfl, fun j y hy => hi j y (gs hy).1 hy⟩)
 ·intro b hb
  exact .pure (.inr hb)
theorem containsFunc_string_string {s : List ByteArray} {g : ByteArray → Option Bool} {P : ByteArray → Bool} (hg : ∀ (k : Nat) (x : ByteArray), s[k]? = some x → g x = some (P x)) :
  L.zmkj s g = some (s.any P) := by
 have : Ok (L.zmkj s g) fun r => r = s.any P := by
  unfold L.zmkj
  refine .bind (indexFunc_string_string hg) fun r hr => .pure ?_
  rcases hr with ⟨rfl, h⟩ | ⟨k, x, rfl, hx, hp, _⟩
  ·have : s.any P = false := by
    rw [List.any_eq_false]
    intro x hx
    obtain ⟨j, hj⟩ := List.getElem?_of_mem hx
    rw [h j x hj]; simp
   rw [this]; rfl
  ·have : s.any P = true := List.any_eq_true.2 ⟨x, mg hx, hp⟩
   rw [this]; simp
 obtain ⟨r, h, rfl⟩ := this
 exact h
theorem indexFunc_api_Segment_api_Segment {s : List Segment} {g : Segment → Option Bool} {P : Segment → Bool} (hg : ∀ (k : Nat) (x : Segment), s[k]? = some x → g x = some (P x)) :
  Ok (L.zbuy s g) fun r => (r = -1 ∧ ∀ (j : Nat) (y : Segment), s[j]? = some y → P y = false) ∨ ∃ (k : Nat) (x : Segment), r = (k : Int) ∧ s[k]? = some x ∧ P x = true ∧ ∀ (j : Nat) (y : Segment), j < k → s[j]? = some y → P y = false := by
 unfold L.zbuy
 refine .bind' (.forL (fun k _ => ∀ (j : Nat) (y : Segment), j < k → s[j]? = some y → P y = false) (fun r => ∃ (k : Nat) (x : Segment), r = (k : Int) ∧ s[k]? = some x ∧ P x = true ∧ ∀ (j : Nat) (y : Segment), j < k → s[j]? = some y → P y = false) (fun j y h => absurd h (Nat.not_lt_zero _)) ?_ ?_ ?_)
 ·intro k x _ hx hi
  unfold L.zbuy.B2
  refine .bind' (.eq (hg k x hx) (Ok.iteB (fun hp => .pure ⟨k, x, rfl, hx, hp, hi⟩) fun hp => .pure fun j y hj hy => ?_))
  by_cases h : j < k
  ·exact hi j y h hy
  ·have : j = k := by omega
   subst this
   rw [hx] at hy; simp at hy; subst hy; exact hp
 ·intro _ hi
  simp only [Sum.elim_inl]
  unfold L.zbuy.J1
  exact .pure (.inl ⟨rfl, fun j y hy => hi j y (gs hy).1 hy⟩)
 ·intro b hb
  exact .pure (.inr hb)
theorem containsFunc_api_Segment_api_Segment {s : List Segment} {g : Segment → Option Bool} {P : Segment → Bool} (hg : ∀ (k : Nat) (x : Segment), s[k]? = some x → g x = some (P x)) :
  L.zwuu s g = some (s.any P) := by
 have : Ok (L.zwuu s g) fun r => r = s.any P := by
  unfold L.zwuu
  refine .bind (indexFunc_api_Segment_api_Segment hg) fun r hr => .pure ?_
  rcases hr with ⟨rfl, h⟩ | ⟨k, x, rfl, hx, hp, _⟩
  ·have : s.any P = false := by
    rw [List.any_eq_false]
    intro x hx
    obtain ⟨j, hj⟩ := List.getElem?_of_mem hx
    rw [h j x hj]; simp
   rw [this]; rfl
  ·have : s.any P = true := List.any_eq_true.2 ⟨x, mg hx, hp⟩
   rw [this]; simp
 obtain ⟨r, h, rfl⟩ := this
 exact h
theorem indexFunc_api_Port_api_Port {s : List Port} {g : Port → Option Bool} {P : Port → Bool} (hg : ∀ (k : Nat) (x : Port), s[k]? = some x → g x = some (P x)) :
  Ok (L.zobp s g) fun r => (r = -1 ∧ ∀ (j : Nat) (y : Port), s[j]? = some y → P y = false) ∨ ∃ (k : Nat) (x : Port), r = (k : Int) ∧ s[k]? = some x ∧ P x = true ∧ ∀ (j : Nat) (y : Port), j < k → s[j]? = some y → P y = false := by
 unfold L.zobp
 refine .bind' (.forL (fun k _ => ∀ (j : Nat) (y : Port), j < k → s[j]? = some y → P y = false) (fun r => ∃ (k : Nat) (x : Port), r = (k : Int) ∧ s[k]? = some x ∧ P x = true ∧ ∀ (j : Nat) (y : Port), j < k → s[j]? = some y → P y = false) (fun j y h => absurd h (Nat.not_lt_zero _)) ?_ ?_ ?_)
 ·intro k x _ hx hi
  unfold L.zobp.B2
  refine .bind' (.eq (hg k x hx) (Ok.iteB (fun hp => .pure ⟨k, x, rfl, hx, hp, hi⟩) fun hp => .pure fun j y hj hy => ?_))
  by_cases h : j < k
  ·exact hi j y h hy
  ·have : j = k := by omega
   subst this
   rw [hx] at hy; simp at hy; subst hy; exact hp
 ·intro _ hi
  simp only [Sum.elim_inl]
  unfold L.zobp.J1
  exact .pure (.inl ⟨rfl, fun j y hy => hi j y (gs hy).1 hy⟩)
 ·intro b hb
  exact .pure (.inr hb)
theorem containsFunc_api_Port_api_Port {s : List Port} {g : Port → Option Bool} {P : Port → Bool} (hg : ∀ (k : Nat) (x : Port), s[k]? = some x → g x = some (P x)) :
  L.zdru s g = some (s.any P) := by
 have : Ok (L.zdru s g) fun r => r = s.any P := by
  unfold L.zdru
  refine .bind (indexFunc_api_Port_api_Port hg) fun r hr => .pure ?_
  rcases hr with ⟨rfl, h⟩ | ⟨k, x, rfl, hx, hp, _⟩
  ·have : s.any P = false := by
    rw [List.any_eq_false]
    intro x hx
    obtain ⟨j, hj⟩ := List.getElem?_of_mem hx
    rw [h j x hj]; simp
   rw [this]; rfl
  ·have : s.any P = true := List.any_eq_true.2 ⟨x, mg hx, hp⟩
   rw [this]; simp
 obtain ⟨r, h, rfl⟩ := this
 exact h
theorem indexFunc_api_Station_api_Station {s : List Station} {g : Station → Option Bool} {P : Station → Bool} (hg : ∀ (k : Nat) (x : Station), s[k]? = some x → g x = some (P x)) :
  Ok (L.zywf s g) fun r => (r = -1 ∧ ∀ (j : Nat) (y : Station), s[j]? = some y → P y = false) ∨ ∃ (k : Nat) (x : Station), r = (k : Int) ∧ s[k]? = some x ∧ P x = true ∧ ∀ (j : Nat) (y : Station), j < k → s[j]? = some y → P y = false := by
 unfold L.zywf
 refine .bind' (.forL (fun k _ => ∀ (j : Nat) (y : Station), j < k → s[j]? = some y → P y = false) (fun r => ∃ (k : Nat) (x : Station), r = (k : Int) ∧ s[k]? = some x ∧ P x = true ∧ ∀ (j : Nat) (y : Station), j < k → s[j]? = some y → P y = false) (fun j y h => absurd h (Nat.not_lt_zero _)) ?_ ?_ ?_)
 ·intro k x _ hx hi
  unfold L.zywf.B2
  refine .bind' (.eq (hg k x hx) (Ok.iteB (fun hp => .pure ⟨k, x, rfl, hx, hp, hi⟩) fun hp => .pure fun j y hj hy => ?_))
  by_cases h : j < k
  ·exact hi j y h hy
  ·have : j = k := by omega
   subst this
   rw [hx] at hy; simp at hy; subst hy; exact hp
 ·intro _ hi
  simp only [Sum.elim_inl]
  unfold L.zywf.J1
  exact .pure (.inl ⟨rfl, fun j y hy => hi j y (gs hy).1 hy⟩)
 ·intro b hb
  exact .pure (.inr hb)
theorem containsFunc_api_Station_api_Station {s : List Station} {g : Station → Option Bool} {P : Station → Bool} (hg : ∀ (k : Nat) (x : Station), s[k]? = some x → g x = some (P x)) :
  L.ztlc s g = some (s.any P) := by
 have : Ok (L.ztlc s g) fun r => r = s.any P := by
  unfold L.ztlc
  refine .bind (indexFunc_api_Station_api_Station hg) fun r hr => .pure ?_
  rcases hr with ⟨rfl, h⟩ | ⟨k, x, rfl, hx, hp, _⟩
  ·have : s.any P = false := by
    rw [List.any_eq_false]
    intro x hx
    obtain ⟨j, hj⟩ := List.getElem?_of_mem hx
    rw [h j x hj]; simp
   rw [this]; rfl
  ·have : s.any P = true := List.any_eq_true.2 ⟨x, mg hx, hp⟩
   rw [this]; simp
 obtain ⟨r, h, rfl⟩ := this
 exact h
theorem index_string_string {s : List ByteArray} {v : ByteArray} :
  Ok (L.zsbv s v) fun r => (r = -1 ∧ ∀ (j : Nat) (y : ByteArray), s[j]? = some y → (sEq v y) = false) ∨ ∃ (k : Nat) (y : ByteArray), r = (k : Int) ∧ s[k]? = some y ∧ (sEq v y) = true ∧ ∀ (j : Nat) (y : ByteArray), j < k → s[j]? = some y → (sEq v y) = false := by
 unfold L.zsbv
 refine .bind' (.forL (fun k _ => ∀ (j : Nat) (y : ByteArray), j < k → s[j]? = some y → (sEq v y) = false) (fun r => ∃ (k : Nat) (y : ByteArray), r = (k : Int) ∧ s[k]? = some y ∧ (sEq v y) = true ∧ ∀ (j : Nat) (y : ByteArray), j < k → s[j]? = some y → (sEq v y) = false) (fun j y h => absurd h (Nat.not_lt_zero _)) ?_ ?_ ?_)
 ·intro k x _ hx hi
  unfold L.zsbv.B2
  refine Ok.iteB (fun hp => .pure ⟨k, x, rfl, hx, hp, hi⟩) fun hp => .pure fun j y hj hy => ?_
  by_cases h : j < k
  ·exact hi j y h hy
  ·have : j = k := by omega
   subst this
   rw [hx] at hy; simp at hy; subst hy; exact hp
 ·intro _ hi
  simp only [Sum.elim_inl]
  unfold L.zsbv.J1
  exact .pure (.inl ⟨rfl, fun j y hy => hi j y (gs hy).1 hy⟩)
 ·intro b hb
  exact .pure (.inr hb)
theorem maps_ok {α β : Type} {l : List α} {g : α → β} {f : Nat → α → List β → Option (List β)} (hf : ∀ k x st, f k x st = (app? st [g x]).bind fun y => some y) (hl : l.length ≤ 1000) :
  Ok (forS f 0 l []) fun r => r = l.map g := by
 refine .forS (fun k st => st = (l.take k).map g) (by simp) ?_ fun st h => by rw [h]; simp
 rintro k x st hx rfl
 rw [hf]
 have hk := (gs hx).1
 refine .bind' (.app (by simp; omega) (.pure ?_))
 rw [List.take_add_one, hx]
 simp
theorem names_ok {n : Network} (h1 : n.Segments.length ≤ 1000) (h2 : n.Ports.length ≤ 1000) (h3 : n.Stations.length ≤ 1000) :
  Ok (L.zalp n) fun r => r.l = [n.Nodes, n.Segments.map (·.Name), n.Ports.map (·.Name), n.Stations.map (·.Name)] := by
 unfold L.zalp
 refine .bind (maps_ok (g := (·.Name)) (fun _ _ _ => rfl) h1) ?_
 rintro _ rfl
 unfold L.zalp.J1
 refine .bind (maps_ok (g := (·.Name)) (fun _ _ _ => rfl) h2) ?_
 rintro _ rfl
 unfold L.zalp.J2
 refine .bind (maps_ok (g := (·.Name)) (fun _ _ _ => rfl) h3) ?_
 rintro _ rfl
 unfold L.zalp.J3
 exact .pure rfl
def Named (c : UInt8) (l : List ByteArray) : Prop := l.length ≤ 26 ∧ ∀ (k : Nat) (x : ByteArray), l[k]? = some x → x = nm c k
theorem NetOk.named {n : Network} (h : NetOk n) : ∀ l, l ∈ [n.Nodes, n.Segments.map (·.Name), n.Ports.map (·.Name), n.Stations.map (·.Name)] → ∃ c, (c = 110 ∨ c = 103 ∨ c = 113 ∨ c = 115) ∧ Named c l := by
 have h1 := h.nodes; have h2 := h.segs1; have h3 := h.ports1; have h4 := h.sts1
 intro l hl
 simp only [List.mem_cons, List.not_mem_nil, or_false] at hl
 rcases hl with rfl | rfl | rfl | rfl
 ·exact ⟨110, by simp, by omega, h.names⟩
 ·refine ⟨103, by simp, by simp; omega, fun k x hx => ?_⟩
  rw [List.getElem?_map] at hx
  obtain ⟨s, hs, rfl⟩ := Option.map_eq_some_iff.1 hx
  exact (h.segs k s hs).name
 ·refine ⟨113, by simp, by simp; omega, fun k x hx => ?_⟩
  rw [List.getElem?_map] at hx
  obtain ⟨s, hs, rfl⟩ := Option.map_eq_some_iff.1 hx
  exact (h.ports k s hs).name
 ·refine ⟨115, by simp, by simp; omega, fun k x hx => ?_⟩
  rw [List.getElem?_map] at hx
  obtain ⟨s, hs, rfl⟩ := Option.map_eq_some_iff.1 hx
  exact (h.sts k s hs).name
theorem lt26 {k : Nat} (h : k < 26) : k = 0 ∨ k = 1 ∨ k = 2 ∨ k = 3 ∨ k = 4 ∨ k = 5 ∨ k = 6 ∨ k = 7 ∨ k = 8 ∨ k = 9 ∨ k = 10 ∨ k = 11 ∨ k = 12 ∨ k = 13 ∨ k = 14 ∨ k = 15 ∨ k = 16 ∨ k = 17 ∨ k = 18 ∨ k = 19 ∨ k = 20 ∨ k = 21 ∨ k = 22 ∨ k = 23 ∨ k = 24 ∨ k = 25 := by omega
theorem nameOk {c : UInt8} (hc : c = 110 ∨ c = 103 ∨ c = 113 ∨ c = 115) {k : Nat} (hk : k < 26) : L.zcvq (nm c k) = some true := by
 rcases hc with rfl | rfl | rfl | rfl <;>
  rcases lt26 hk with rfl | rfl | rfl | rfl | rfl | rfl | rfl | rfl | rfl | rfl | rfl | rfl | rfl | rfl | rfl | rfl | rfl | rfl | rfl | rfl | rfl | rfl | rfl | rfl | rfl | rfl <;> rfl
theorem nm_inj {c : UInt8} {i j : Nat} (hi : i < 26) (hj : j < 26) (h : sEq (nm c i) (nm c j) = true) : i = j := by
 have h1 : (nm c i).toList = (nm c j).toList := by simpa [sEq] using h
 have h2 : [c, 97 + UInt8.ofNat i] = [c, 97 + UInt8.ofNat j] := by simpa [nm, ByteArray.toList, ByteArray.toList.loop, ByteArray.size, ByteArray.get!] using h1
 simp only [List.cons.injEq, and_true, true_and] at h2
 have h3 := congrArg UInt8.toNat h2
 simp only [UInt8.toNat_add, UInt8.toNat_ofNat'] at h3
 have : (97 : UInt8).toNat = 97 := rfl
 rw [this] at h3
 omega
theorem sEq_refl (a : ByteArray) : sEq a a = true := by simp [sEq]
def Nmd (l : List ByteArray) : Prop := l.length ≤ 26 ∧ (∀ (k : Nat) (x : ByteArray), l[k]? = some x → L.zcvq x = some true) ∧ ∀ (i j : Nat) (x y : ByteArray), l[i]? = some x → l[j]? = some y → sEq x y = true → i = j
theorem Named.nmd {c : UInt8} (hc : c = 110 ∨ c = 103 ∨ c = 113 ∨ c = 115) {l : List ByteArray} (h : Named c l) : Nmd l := by
 obtain ⟨h1, h2⟩ := h
 refine ⟨h1, fun k x hk => ?_, fun i j x y hi hj he => ?_⟩
 ·have := (gs hk).1
  rw [h2 k x hk]; exact nameOk hc (by omega)
 ·have hi' := (gs hi).1
  have hj' := (gs hj).1
  have hx := h2 i x hi; have hy := h2 j y hj
  subst hx; subst hy
  exact nm_inj (by omega) (by omega) he
theorem twice_names {l : List ByteArray} (h : Nmd l) {k : Nat} {x : ByteArray} (hk : l[k]? = some x) : Ok (L.zsbv l x) fun r => r = (k : Int) := by
 obtain ⟨h1, _, h2⟩ := h
 refine index_string_string.mono ?_
 rintro r (⟨rfl, h⟩ | ⟨j, y, rfl, hj, he, hlt⟩)
 ·have := h k x hk
  rw [sEq_refl] at this; cases this
 ·have := h2 k j x y hk hj he
  omega
structure SegB (nodes : Nat) (s : Segment) : Prop where
 ends : 0 ≤ s.From ∧ s.From < (nodes : Int) ∧ 0 ≤ s.To ∧ s.To < (nodes : Int) ∧ s.From ≠ s.To
 cap : 1 ≤ s.Capacity ∧ s.Capacity ≤ 1000
 resist : 0 ≤ s.Resist ∧ s.Resist ≤ 1000
 wave : 0 ≤ s.Wave ∧ s.Wave ≤ 100000
 points : PointsOk s.Capacity s.Points
theorem SegOk.b {nodes k : Nat} {s : Segment} (h : SegOk nodes k s) : SegB nodes s := ⟨h.ends, h.cap, h.resist, h.wave, h.points⟩
theorem pipe_ok {nodes : Nat} {s : Segment} (h : SegB nodes s) : L.zcxq s = some true := by
 have : Ok (L.zcxq s) fun r => r = true := by
  have hp := h.points
  have h1 := h.ends; have h2 := h.cap; have h3 := h.resist; have h4 := h.wave; have h5 := hp.len
  unfold L.zcxq
  refine Ok.iteB (fun hb => ?_) fun _ => ?_
  ·simp [L.zvhs] at hb
   omega
  refine .bind' (.forL (fun _ _ => True) (fun _ => False) trivial ?_ ?_ fun _ h => h.elim)
  ·intro i p _ hi _
   have hm := mg hi
   have g1 := hp.height p hm; have g2 := hp.limit p hm
   unfold L.zcxq.B3
   refine Ok.iteB (fun hb => ?_) fun _ => Ok.iteB (fun hb => ?_) fun _ => Ok.iteD (fun h0 => ?_) fun h0 => ?_
   ·simp [L.zvhs] at hb; omega
   ·simp [L.zvhs] at hb; omega
   ·rw [wr_id (by have := (gs hi).1; omega)]
    obtain ⟨j, rfl⟩ : ∃ j, i = j + 1 := ⟨i - 1, by omega⟩
    have hjl : j < s.Points.length := by have := (gs hi).1; omega
    have hj : s.Points[j]? = some s.Points[j] := gq hjl
    have hup := hp.up j _ p hj hi
    refine .bind' (.ix j (by omega) hjl ?_)
    unfold L.zcxq.J4
    refine Ok.iteD (fun h => ?_) fun _ => .pure trivial
    dsimp only at h; omega
   ·unfold L.zcxq.J4
    exact .pure trivial
  ·intro _ _
   simp only [Sum.elim_inl]
   unfold L.zcxq.J1 L.zcxq.J2
   have e0 : s.Points[0]? = some s.Points[0] := gq (by omega)
   have el : s.Points[s.Points.length - 1]? = some s.Points[s.Points.length - 1] := gq (by omega)
   refine .bind' (.ix 0 rfl (by omega) (Ok.iteB (fun _ => ?_) fun hb => ?_))
   ·rw [wr_id (by omega)]
    refine .bind' (.ix (s.Points.length - 1) (by omega) (by omega) (.pure ?_))
    have := hp.last _ el
    dsimp only
    rw [this]; simp
   ·have := hp.first _ e0
    dsimp only at hb
    rw [this] at hb
    cases hb
 obtain ⟨r, h, rfl⟩ := this
 exact h
theorem any_false {α : Type} {l : List α} {P : α → Bool} (h : ∀ (k : Nat) (x : α), l[k]? = some x → P x = false) : l.any P = false := by
 rw [List.any_eq_false]
 intro x hx
 obtain ⟨j, hj⟩ := List.getElem?_of_mem hx
 rw [h j x hj]; simp
structure NetV (n : Network) : Prop where
 nodes : 1 ≤ n.Nodes.length ∧ n.Nodes.length ≤ 6
 segs1 : n.Segments.length ≤ 8
 segs : ∀ (k : Nat) (s : Segment), n.Segments[k]? = some s → ∃ j, SegOk n.Nodes.length j s
 ports1 : n.Ports.length ≤ 6
 ports : ∀ k s, n.Ports[k]? = some s → PortOk n.Nodes.length k s
 sts1 : n.Stations.length ≤ 6
 sts : ∀ k s, n.Stations[k]? = some s → StOk n.Nodes.length k s
 stsUp : ∀ (i j : Nat) (p q : Station), i < j → n.Stations[i]? = some p → n.Stations[j]? = some q → p.Node < q.Node
 vapour : -100000 ≤ n.Vapour ∧ n.Vapour ≤ 50000
 settle : 0 ≤ n.Settle ∧ n.Settle ≤ 100
 named : ∀ l, l ∈ [n.Nodes, n.Segments.map (·.Name), n.Ports.map (·.Name), n.Stations.map (·.Name)] → Nmd l
theorem NetOk.v {n : Network} (h : NetOk n) : NetV n :=
 ⟨by have := h.nodes; omega, h.segs1.2, fun k s hs => ⟨k, h.segs k s hs⟩, h.ports1.2, h.ports, h.sts1, h.sts, h.stsUp, h.vapour, h.settle, fun l hl => let ⟨_, hc, hn⟩ := h.named l hl; hn.nmd hc⟩
structure NetW (n : Network) : Prop where
 nodes : 1 ≤ n.Nodes.length ∧ n.Nodes.length ≤ 6
 segs1 : n.Segments.length ≤ 8
 segs : ∀ (k : Nat) (s : Segment), n.Segments[k]? = some s → SegB n.Nodes.length s
 ports1 : n.Ports.length ≤ 6
 ports : ∀ (k : Nat) s, n.Ports[k]? = some s → (0 ≤ s.Node ∧ s.Node < (n.Nodes.length : Int)) ∧ 0 ≤ s.Pressure ∧ s.Pressure ≤ 100000000
 sts1 : n.Stations.length ≤ 6
 sts : ∀ k s, n.Stations[k]? = some s → StOk n.Nodes.length k s
 stsUp : ∀ (i j : Nat) (p q : Station), i < j → n.Stations[i]? = some p → n.Stations[j]? = some q → p.Node < q.Node
 vapour : -100000 ≤ n.Vapour ∧ n.Vapour ≤ 50000
 settle : 0 ≤ n.Settle ∧ n.Settle ≤ 100
 named : ∀ l, l ∈ [n.Nodes, n.Segments.map (·.Name), n.Ports.map (·.Name), n.Stations.map (·.Name)] → Nmd l
theorem NetV.w {n : Network} (h : NetV n) : NetW n :=
 ⟨h.nodes, h.segs1, fun k s hs => (h.segs k s hs).choose_spec.b, h.ports1, fun k s hs => ⟨(h.ports k s hs).node, (h.ports k s hs).pressure⟩, h.sts1, h.sts, h.stsUp, h.vapour, h.settle, h.named⟩
theorem netCheckW {n : Network} (h : NetW n) : L.zfta n = some 0 := by
 have : Ok (L.zfta n) fun r => r = 0 := by
  have h1 := h.nodes; have h2 := h.segs1; have h3 := h.ports1; have h4 := h.sts1; have h5 := h.vapour; have h6 := h.settle
  unfold L.zfta
  refine .bind (Q := fun r => r = true) ?_ ?_
  ·unfold L.znhd
   refine Ok.iteB (fun hb => ?_) fun _ => .bind' (.eq (containsFunc_api_Segment_api_Segment (P := fun x => L.zzec x) fun _ _ _ => rfl) (.pure ?_))
   ·simp at hb; omega
   ·rw [any_false]; rfl
    intro k x hx
    have := (h.segs k x hx).points.len
    simp [L.zzec]; omega
  rintro _ rfl
  refine Ok.iteN (fun hb => by cases hb) fun _ => ?_
  refine .bind (names_ok (by omega) (by omega) (by omega)) fun r45 hr => ?_
  refine .bind' (.forI (fun _ _ => True) (fun _ => False) trivial ?_ ?_ fun _ h => h.elim)
  ·intro k _ hk _
   unfold L.zfta.B2
   refine .bind' (.ix k rfl (by rw [hr]; exact hk) ?_)
   have hkl : k < r45.l.length := by rw [hr]; exact hk
   have hl := h.named r45.l[k] (by rw [← hr]; exact List.getElem_mem _)
   refine .bind' (.eq (containsFunc_string_string (P := fun _ => false) fun j x hx => ?_) ?_)
   ·unfold L.zqbg
    rw [hl.2.1 j x hx]; rfl
   ·rw [any_false fun _ _ _ => rfl]
    exact .pure trivial
  ·intro _ _
   simp only [Sum.elim_inl]
   unfold L.zfta.J1
   refine .bind (Q := fun r => r = false) ?_ ?_
   ·unfold L.zybm
    refine .bind (names_ok (by omega) (by omega) (by omega)) fun r45 hr => ?_
    refine .bind' (.forI (fun _ _ => True) (fun _ => False) trivial ?_ ?_ fun _ h => h.elim)
    ·intro k _ hk _
     unfold L.zybm.B4
     refine .bind' (.ix k rfl (by rw [hr]; exact hk) ?_)
     have hkl : k < r45.l.length := by rw [hr]; exact hk
     have hl := h.named r45.l[k] (by rw [← hr]; exact List.getElem_mem _)
     refine .bind' (.forL (fun _ _ => True) (fun _ => False) trivial ?_ ?_ fun _ h => h.elim)
     ·intro j x _ hj _
      unfold L.zybm.B6
      refine .bind (twice_names hl hj) ?_
      rintro _ rfl
      refine Ok.iteD (fun h => by omega) fun _ => .pure trivial
     ·intro _ _
      exact .pure trivial
    ·intro _ _
     simp only [Sum.elim_inl]
     unfold L.zybm.J1
     refine .bind' (.forL (fun _ _ => True) (fun _ => False) trivial ?_ ?_ fun _ h => h.elim)
     ·intro j x _ hj _
      unfold L.zybm.B3
      refine .bind (Q := fun r => r = (j : Int)) ((indexFunc_api_Station_api_Station (P := fun y => L.zsgv y x) fun _ _ _ => rfl).mono ?_) ?_
      ·rintro r (⟨rfl, hh⟩ | ⟨k, y, rfl, hk, he, hlt⟩)
       ·have := hh j x hj
        simp [L.zsgv] at this
       ·simp [L.zsgv] at he
        by_cases hkj : k = j
        ·omega
        ·rcases Nat.lt_or_gt_of_ne hkj with hlt2 | hlt2
         ·have := h.stsUp k j y x hlt2 hk hj; omega
         ·have := h.stsUp j k x y hlt2 hj hk; omega
      ·rintro _ rfl
       refine Ok.iteD (fun h => by omega) fun _ => .pure trivial
     ·intro _ _
      exact .pure rfl
   rintro _ rfl
   refine Ok.iteB (fun h => by cases h) fun _ => ?_
   refine .bind (Q := fun r => r = true) ?_ ?_
   ·unfold L.zctd
    let good : List Int → Prop := fun l => ∀ x, x ∈ l → 0 ≤ x ∧ x < (n.Nodes.length : Int)
    have app : ∀ {l m : List Int}, good l → good m → good (l ++ m) := fun h1 h2 x hx => by
     rcases List.mem_append.1 hx with hx | hx
     ·exact h1 x hx
     ·exact h2 x hx
    refine .bind (Q := fun l => l.length ≤ 100 ∧ good l) (.forS (fun k l => l.length ≤ 2 * k ∧ good l) ⟨by simp, by intro x hx; cases hx⟩ ?_ fun l hl => ⟨by omega, hl.2⟩) ?_
    ·rintro k s l hs ⟨l1, l2⟩
     have hkl := (gs hs).1
     have he := (h.segs k s hs).ends
     unfold L.zctd.B6
     refine .bind' (.app (by simp; omega) (.pure ⟨by simp; omega, app l2 ?_⟩))
     intro x hx
     simp at hx
     rcases hx with rfl | rfl <;> omega
    rintro l ⟨l1, l2⟩
    unfold L.zctd.J1
    refine .bind (Q := fun l => l.length ≤ 200 ∧ good l) (.forS (fun k l => l.length ≤ 100 + k ∧ good l) ⟨by omega, l2⟩ ?_ fun l hl => ⟨by omega, hl.2⟩) ?_
    ·rintro k s l hs ⟨l1, l2⟩
     have hkl := (gs hs).1
     have he := (h.ports k s hs).1
     unfold L.zctd.B5
     refine .bind' (.app (by simp; omega) (.pure ⟨by simp; omega, app l2 ?_⟩))
     intro x hx
     simp at hx; subst hx; omega
    rintro l ⟨l1, l2⟩
    unfold L.zctd.J2
    refine .bind (Q := fun l => l.length ≤ 300 ∧ good l) (.forS (fun k l => l.length ≤ 200 + k ∧ good l) ⟨by omega, l2⟩ ?_ fun l hl => ⟨by omega, hl.2⟩) ?_
    ·rintro k s l hs ⟨l1, l2⟩
     have hkl := (gs hs).1
     have he := (h.sts k s hs).node
     unfold L.zctd.B4
     refine .bind' (.app (by simp; omega) (.pure ⟨by simp; omega, app l2 ?_⟩))
     intro x hx
     simp at hx; subst hx; omega
    rintro l ⟨l1, l2⟩
    unfold L.zctd.J3
    refine .bind' (.eq (containsFunc_int_int (P := fun x => L.zxqi x n) fun _ _ _ => rfl) (.pure ?_))
    rw [any_false]; rfl
    intro k x hx
    have := l2 x (mg hx)
    simp [L.zxqi]; omega
   rintro _ rfl
   refine Ok.iteN (fun h => by cases h) fun _ => ?_
   refine .bind (Q := fun r => r = true) ?_ ?_
   ·unfold L.zdqn
    refine .bind' (.eq (containsFunc_api_Segment_api_Segment (P := fun _ => false) fun k x hx => by unfold L.zyto; rw [pipe_ok (h.segs k x hx)]; rfl) ?_)
    rw [any_false fun _ _ _ => rfl]
    refine Ok.iteB (fun h => by cases h) fun _ => ?_
    refine .bind' (.eq (containsFunc_api_Port_api_Port (P := fun x => L.zxcm x) fun _ _ _ => rfl) ?_)
    rw [any_false]
    ·refine Ok.iteB (fun h => by cases h) fun _ => ?_
     refine .bind' (.eq (containsFunc_api_Station_api_Station (P := fun x => L.zeku x) fun _ _ _ => rfl) ?_)
     rw [any_false]
     ·refine Ok.iteB (fun h => by cases h) fun _ => .pure ?_
      simp [L.zvhs]; omega
     ·intro k x hx
      have h1 := (h.sts k x hx).head; have h2 := (h.sts k x hx).fall; have h3 := (h.sts k x hx).suction
      simp [L.zeku, L.zvhs]; omega
    ·intro k x hx
     have h1 := (h.ports k x hx).2
     simp [L.zxcm, L.zvhs]; omega
   rintro _ rfl
   exact Ok.iteN (fun h => by cases h) fun _ => .pure rfl
 obtain ⟨r, h, rfl⟩ := this
 exact h
theorem netCheckV {n : Network} (h : NetV n) : L.zfta n = some 0 := netCheckW h.w
theorem netCheck {n : Network} (h : NetOk n) : L.zfta n = some 0 := netCheckV h.v
structure NetG (n : Network) : Prop where
 nodes : 1 ≤ n.Nodes.length ∧ n.Nodes.length ≤ 6
 segs1 : n.Nodes.length - 1 ≤ n.Segments.length ∧ n.Segments.length ≤ 8
 segs : ∀ (k : Nat) (s : Segment), n.Segments[k]? = some s → SegB n.Nodes.length s
 ports1 : 2 ≤ n.Ports.length ∧ n.Ports.length ≤ 6
 ports : ∀ (k : Nat) s, n.Ports[k]? = some s → 0 ≤ s.Node ∧ s.Node < (n.Nodes.length : Int)
 sts1 : n.Stations.length ≤ 6
 check : L.zfta n = some 0
theorem NetOk.g {n : Network} (h : NetOk n) : NetG n :=
 ⟨by have := h.nodes; omega, h.segs1, fun k s hs => (h.segs k s hs).b, h.ports1, fun k s hs => (h.ports k s hs).node, h.sts1, netCheck h⟩
theorem NetW.g {n : Network} (h : NetW n) (h1 : n.Nodes.length - 1 ≤ n.Segments.length) (h2 : 2 ≤ n.Ports.length) : NetG n :=
 ⟨h.nodes, ⟨h1, h.segs1⟩, h.segs, ⟨h2, h.ports1⟩, fun k s hs => (h.ports k s hs).1, h.sts1, netCheckW h⟩
theorem psh_step {st : List Piece} {x : Piece} {J : Bool → Option (List Piece)} (hJ : ∀ b, J b = if b = true then Option.bind (ix st (wr ((st.length : Int) - 1))) fun p => some (st.set p.1 (⟨p.2.Batch, wr (p.2.Volume + x.Volume)⟩ : Piece)) else Option.bind (app? st ([x] : List Piece)) fun l => some l)
  (hl : st.length ≤ 1000000000) (hv : ∀ q, q ∈ st → 0 ≤ q.Volume ∧ q.Volume ≤ 1000000000) (hx : 0 ≤ x.Volume ∧ x.Volume ≤ 1000000000) :
  (if decide ((st.length : Int) > 0) = true then Option.bind (ix st (wr ((st.length : Int) - 1))) fun p => J (p.2.Batch == x.Batch) else J false) = some (psh st x) := by
 rcases snoc_cases st with rfl | ⟨a, q, rfl⟩
 ·rw [if_neg (by simp), hJ, if_neg (by simp), app?_eq (by simp)]; rfl
 ·have hq := hv q (by simp)
  have e : wr (((a ++ [q]).length : Int) - 1) = (a.length : Int) := by
   simp at hl
   rw [List.length_append, List.length_singleton]; rw [wr_id (by omega)]; omega
  have hi : ix (a ++ [q]) (wr (((a ++ [q]).length : Int) - 1)) = some (a.length, q) := by
   rw [e]; exact ix_nat (by simp)
  rw [if_pos (by simp), hi, Option.bind_some, hJ, psh_snoc]
  by_cases hb : q.Batch = x.Batch
  ·rw [if_pos (by simp [hb]), hi, Option.bind_some, if_pos hb]
   dsimp only
   rw [wr_id (by omega)]; simp
  ·rw [if_neg (by simp [hb]), app?_eq (by simp at hl ⊢; omega), if_neg hb]; rfl
theorem rle_bound {M : List Int} (h : M.length ≤ 1000000000) : (rle M).length ≤ 1000000000 ∧ ∀ q, q ∈ rle M → 0 ≤ q.Volume ∧ q.Volume ≤ 1000000000 := by
 have := rle_len M
 refine ⟨by omega, fun q hq => ?_⟩
 have h1 := (rle_can M).pos q hq
 have h2 := vol_mem (fun p hp => by have := (rle_can M).pos p hp; omega) hq
 rw [vol_rle] at h2; omega
theorem rle_psh {M : List Int} {x : Piece} (hx : 1 ≤ x.Volume) : psh (rle M) x = rle (M ++ List.replicate x.Volume.toNat x.Batch) := by
 rw [rle_rep _ _ _ (by omega)]
 obtain ⟨b, v⟩ := x
 dsimp only at hx ⊢
 rw [show ((v.toNat : Nat) : Int) = v by omega]
theorem rle_loop {B : Nat → Piece → List Piece → Option (List Piece)} (c : Int) (hc : 0 ≤ c)
  (hB : ∀ k x M, M.length ≤ 1000000000 → c ≤ x.Volume → x.Volume ≤ 1000000000 → B k x (rle M) = some (rle (M ++ List.replicate x.Volume.toNat x.Batch))) {L : List Int} {f : List Piece}
  (hf : ∀ p, p ∈ f → c ≤ p.Volume) (hl : (L.length : Int) + vol f ≤ 1000000000) : forS B 0 f (rle L) = some (rle (L ++ lit f)) := by
 have h0 : ∀ p, p ∈ f → 0 ≤ p.Volume := fun p hp => by have := hf p hp; omega
 have : Ok (forS B 0 f (rle L)) fun r => r = rle (L ++ lit f) := by
  refine .forS (fun k st => st = rle (L ++ lit (f.take k))) (by simp [lit_nil]) ?_ fun st h => by rw [h, List.take_length]
  rintro k x _ hx rfl
  have hm := mg hx
  have h1 := vol_mem h0 hm
  have h2 := vol_pos (f := f.take k) fun p hp => h0 p (List.mem_of_mem_take hp)
  have h3 : vol f = vol (f.take k) + vol (f.drop k) := by rw [← vol_app, List.take_append_drop]
  have h4 := vol_pos (f := f.drop k) fun p hp => h0 p (List.mem_of_mem_drop hp)
  have h5 := lit_len (f := f.take k) fun p hp => h0 p (List.mem_of_mem_take hp)
  refine ⟨_, hB k x _ (by rw [List.length_append]; omega) (hf x hm) (by omega), ?_⟩
  rw [List.take_add_one, hx]
  simp [lit_app, lit_one, List.append_assoc]
 obtain ⟨r, h1, h2⟩ := this
 rw [h1, h2]
theorem rep_zero {x : Piece} (h : x.Volume = 0) (M : List Int) : M ++ List.replicate x.Volume.toNat x.Batch = M := by simp [h]
theorem joined_rle {f : List Piece} (hf : ∀ p, p ∈ f → 0 ≤ p.Volume) (hl : vol f ≤ 1000000000) : L.zuyb f = some (rle (lit f)) := by
 unfold L.zuyb
 rw [show ([] : List Piece) = rle [] from rfl, rle_loop (B := L.zuyb.B2) 0 (by omega) (fun k x M hM h1 h2 => ?_) hf (by simpa using hl)]; · rfl
 have hb := rle_bound hM
 unfold L.zuyb.B2
 by_cases h0 : x.Volume = 0
 ·rw [if_pos (by simp [h0]), rep_zero h0]; rfl
 ·rw [if_neg (by simp [h0]), psh_step (J := L.zuyb.J4 x (rle M)) (fun b => rfl) hb.1 hb.2 (by omega), rle_psh (by omega)]
theorem psh_len (l : List Piece) (x : Piece) : (psh l x).length ≤ l.length + 1 := by
 rcases snoc_cases l with rfl | ⟨a, q, rfl⟩
 ·simp [psh_nil]
 ·rw [psh_snoc]; split <;> simp
theorem rle_lit_len {f : List Piece} (hf : ∀ p, p ∈ f → 0 ≤ p.Volume) : (rle (lit f)).length ≤ f.length := by
 induction f using snoc_ind with
 | h0 => simp [lit_nil, rle_nil]
 | h1 a x ih =>
  have h1 := ih fun p hp => hf p (by simp [hp])
  have hx := hf x (by simp)
  rw [lit_app, lit_one, List.length_append, List.length_singleton]
  by_cases h0 : x.Volume = 0
  ·rw [rep_zero h0]; omega
  ·rw [← rle_psh (by omega)]
   have := psh_len (rle (lit a)) x
   omega
theorem sum_loop {B : Nat → Piece → Int → Option Int} (hB : ∀ k x s, B k x s = some (wr (s + x.Volume))) {f : List Piece} (hf : ∀ p, p ∈ f → 0 ≤ p.Volume) (hl : vol f ≤ 1000000000) : forS B 0 f 0 = some (vol f) := by
 have : Ok (forS B 0 f 0) fun r => r = vol f := by
  refine .forS (fun k st => st = vol (f.take k)) rfl ?_ fun st h => by rw [h, List.take_length]
  rintro k x _ hx rfl
  rw [hB]
  have h3 : vol f = vol (f.take (k + 1)) + vol (f.drop (k + 1)) := by rw [← vol_app, List.take_append_drop]
  have h4 := vol_pos (f := f.drop (k + 1)) fun p hp => hf p (List.mem_of_mem_drop hp)
  have h5 := vol_pos (f := f.take (k + 1)) fun p hp => hf p (List.mem_of_mem_take hp)
  refine .pure ?_
  rw [vol_take_succ hx] at h3 h5 ⊢
  exact wr_id (by omega)
 obtain ⟨r, h1, h2⟩ := this
 rw [h1, h2]
theorem total_eq {f : List Piece} (hf : ∀ p, p ∈ f → 0 ≤ p.Volume) (hl : vol f ≤ 1000000000) : L.zmsl f = some (vol f) := by
 unfold L.zmsl; rw [sum_loop (B := L.zmsl.B2) (fun _ _ _ => rfl) hf hl]; rfl
theorem sum14_eq {f : List Piece} (hf : ∀ p, p ∈ f → 0 ≤ p.Volume) (hl : vol f ≤ 1000000000) : L.zwqi f = some (vol f) := by
 unfold L.zwqi; rw [sum_loop (B := L.zwqi.B2) (fun _ _ _ => rfl) hf hl]; rfl
theorem Vd.piece {f : List Piece} (h : Vd f) {p : Piece} (hp : p ∈ f) : 0 ≤ p.Batch ∧ p.Batch < 1000 ∧ 1 ≤ p.Volume ∧ p.Volume ≤ 1000000 := by
 have h1 := h.can.pos p hp
 have h2 := h.bat _ (lit_mem h.can.pos hp)
 have h3 := vol_mem h.nn hp
 have := h.vol
 omega
theorem Vd.litre {f : List Piece} (h : Vd f) {p : Piece} (hp : p ∈ f) : L.zojo p = true := by
 have := h.piece hp
 unfold L.zojo; simp; omega
theorem valid_ok {f : List Piece} (h : Vd f) : L.zqwg f = some true := by
 have h1 := h.len; have h2 := h.vol
 have : Ok (L.zqwg f) fun r => r = true := by
  unfold L.zqwg
  refine Ok.iteD (fun h => by omega) fun _ => .bind' (.forL (fun _ _ => True) (fun _ => False) trivial ?_ ?_ (fun _ h => h.elim))
  ·intro k x _ hx _
   have hp := h.piece (mg hx)
   have e : ∀ b, b = false → Ok (L.zqwg.J3 b) (Sum.elim (fun _ : Unit => True) fun _ : Bool => False) := by rintro _ rfl; exact .pure trivial
   unfold L.zqwg.B2
   rw [h.litre (mg hx)]
   rw [if_neg (by simp), if_neg (by simp; omega)]
   refine Ok.iteD (fun hk => ?_) fun _ => e _ rfl
   have hkl := (gs hx).1
   rw [wr_id (by omega)]
   refine .bind' (.ix' (by omega) (by omega) fun j y hj hy => e _ ?_)
   have hn := h.can.ne j y x hy (by rw [show j + 1 = k by omega]; exact hx)
   simpa using hn
  ·intro _ _
   unfold L.zqwg.J1
   exact .bind' (.eq (total_eq h.nn (by omega)) (.pure (by simp; omega)))
 obtain ⟨r, h1, rfl⟩ := this
 exact h1
theorem volume_ok {f : List Piece} (h : Vd f) : L.zryf f = some (vol f) := by
 have h2 := h.vol
 unfold L.zryf
 rw [valid_ok h, Option.bind_some, if_neg (by simp), total_eq h.nn (by omega)]; rfl
def ind (a v : Int) : Int := if a = v then 1 else 0
def wt (n : Network) (v : Int) : List Int := n.Segments.map fun s => ind s.To v - ind s.From v
def wp (n : Network) (v : Int) : List Int := n.Ports.map fun p => ind p.Node v
structure Hop1 (n : Network) (rates : List Int) (rate a : Int) (i : Nat) (x : Segment) (r b : Int) : Prop where
 seg : n.Segments[i]? = some x
 old : rates[i]? = some r
 lt : a < b
 ends : x.From = a ∧ x.To = b ∨ x.To = a ∧ x.From = b
 rng : r + rate ≤ 1000 ∧ rate - r ≤ 1000 ∧ r + rate ≤ x.Capacity ∧ rate - r ≤ x.Capacity
def HopAt (n : Network) (rates : List Int) (rate a k b : Int) : Prop := ∃ (i : Nat) (x : Segment) (r : Int), k = (i : Int) ∧ Hop1 n rates rate a i x r b
def WayTo (n : Network) (rates : List Int) (rate s0 : Int) (way : List Int) (t : Int) : Prop :=
 ∃ nd : Nat → Int, nd 0 = s0 ∧ nd way.length = t ∧ ∀ (j : Nat) (k : Int), way[j]? = some k → HopAt n rates rate (nd j) k (nd (j + 1))
theorem WayTo.snoc {n : Network} {rates : List Int} {rate s0 : Int} {way : List Int} {m k t : Int} (h : WayTo n rates rate s0 way m) (hk : HopAt n rates rate m k t) : WayTo n rates rate s0 (way ++ [k]) t := by
 obtain ⟨nd, h1, h2, h3⟩ := h
 refine ⟨fun i => if i ≤ way.length then nd i else t, by simp [h1], by simp; omega, fun j k' hj => ?_⟩
 rw [List.getElem?_append] at hj
 split at hj
 ·rename_i hjl
  have := h3 j k' hj
  dsimp only
  rw [if_pos (by omega), if_pos (by omega)]; exact this
 ·have hb := (gs hj).1
  simp at hb
  have : j = way.length := by omega
  subst this
  simp at hj; subst hj
  dsimp only
  rw [if_pos (by omega), if_neg (by omega), h2]; exact hk
structure PlanOk (n : Network) (p : Plan) : Prop where
 rl : p.Rates.length = n.Segments.length
 pl : p.Ports.length = n.Ports.length
 ml : p.Pumps.length = n.Stations.length
 rng : ∀ (k : Nat) (r : Int) (s : Segment), p.Rates[k]? = some r → n.Segments[k]? = some s → -1000 ≤ r ∧ r ≤ 1000 ∧ -s.Capacity ≤ r ∧ r ≤ s.Capacity
 prt : ∀ (k : Nat) (x : Int), p.Ports[k]? = some x → -1000 ≤ x ∧ x ≤ 1000
 bal : ∀ v, dot (wt n v) p.Rates + dot (wp n v) p.Ports = 0
 dir : (∀ (k : Nat) (r : Int) (s : Segment), p.Rates[k]? = some r → n.Segments[k]? = some s → (0 < r → s.From < s.To) ∧ (r < 0 → s.To < s.From)) ∨
  (∀ (k : Nat) (r : Int) (s : Segment), p.Rates[k]? = some r → n.Segments[k]? = some s → (0 < r → s.To < s.From) ∧ (r < 0 → s.From < s.To))
theorem ind_self (v : Int) : ind v v = 1 := if_pos rfl
theorem ind_ne {a v : Int} (h : a ≠ v) : ind a v = 0 := if_neg h
def Blocked (n : Network) (p : Plan) (there : List Bool) (j : Nat) : Prop :=
 ∃ (i : Nat) (s : Segment) (r : Int) (f : Nat), n.Segments[i]? = some s ∧ p.Rates[i]? = some r ∧ r ≠ 0 ∧ (L.ztzg s r).2 = (j : Int) ∧ (L.ztzg s r).1 = (f : Int) ∧ there[f]? = some false
def Acyc (n : Network) (p : Plan) : Prop := ∀ there : List Bool, there.length = n.Nodes.length → (∀ j : Nat, there[j]? = some false → Blocked n p there j) → ∀ k : Nat, there[k]? ≠ some false
structure FlowOk (n : Network) (p : Plan) : Prop where
 rl : p.Rates.length = n.Segments.length
 pl : p.Ports.length = n.Ports.length
 ml : p.Pumps.length = n.Stations.length
 rng : ∀ (k : Nat) (r : Int) (s : Segment), p.Rates[k]? = some r → n.Segments[k]? = some s → -1000 ≤ r ∧ r ≤ 1000 ∧ -s.Capacity ≤ r ∧ r ≤ s.Capacity
 prt : ∀ (k : Nat) (x : Int), p.Ports[k]? = some x → -1000 ≤ x ∧ x ≤ 1000
 bal : ∀ v : Nat, v < 24 → dot (wt n v) p.Rates + dot (wp n v) p.Ports = 0
 acyc : Acyc n p
theorem endsOf {s : Segment} {r : Int} (hr0 : r ≠ 0) : L.ztzg s r = (s.To, s.From) ∧ r < 0 ∨ L.ztzg s r = (s.From, s.To) ∧ 0 < r := by
 unfold L.ztzg
 by_cases hn : r < 0
 ·exact .inl ⟨by rw [if_pos (by simp [hn])], hn⟩
 ·exact .inr ⟨by rw [if_neg (by simp [hn])], by omega⟩
theorem PlanOk.flow {n : Network} {p : Plan} (h : PlanOk n p) : FlowOk n p := by
 refine ⟨h.rl, h.pl, h.ml, h.rng, h.prt, fun v _ => h.bal v, fun there hl i5 => ?_⟩
 rcases h.dir with hd | hd
 ·intro k
  induction k using Nat.strongRecOn with
  | ind k ih =>
   intro hk
   have hkl := (gs hk).1
   obtain ⟨i, s, r, f, hs, hr, hr0, hto, hfr, hf⟩ := i5 k hk
   have := hd i r s hr hs
   refine ih f ?_ hf
   rcases endsOf (s := s) hr0 with ⟨he, hr1⟩ | ⟨he, hr1⟩ <;> rw [he] at hto hfr <;> dsimp only at hto hfr <;> omega
 ·have : ∀ m k : Nat, there.length - k = m → there[k]? ≠ some false := by
   intro m
   induction m using Nat.strongRecOn with
   | ind m ih =>
    intro k hm hk
    have hkl := (gs hk).1
    obtain ⟨i, s, r, f, hs, hr, hr0, hto, hfr, hf⟩ := i5 k hk
    have hfl := (gs hf).1
    have := hd i r s hr hs
    refine ih (there.length - f) ?_ f rfl hf
    rcases endsOf (s := s) hr0 with ⟨he, hr1⟩ | ⟨he, hr1⟩ <;> rw [he] at hto hfr <;> dsimp only at hto hfr <;> omega
  exact fun k => this _ k rfl
def cnt : List Bool → Nat
 | [] => 0
 | b :: l => (if b = true then 1 else 0) + cnt l
theorem cnt_le : ∀ l : List Bool, cnt l ≤ l.length
 | [] => Nat.le_refl _
 | b :: l => by have := cnt_le l; cases b <;> simp [cnt] <;> omega
theorem cnt_rep (n : Nat) : cnt (List.replicate n false) = 0 := by induction n with | zero => rfl | succ n ih => simp [List.replicate_succ, cnt, ih]
theorem cnt_set : ∀ {l : List Bool} {k : Nat}, l[k]? = some false → cnt (l.set k true) = cnt l + 1
 | [], k, h => by simp at h
 | b :: l, 0, h => by simp at h; subst h; simp [cnt]; omega
 | b :: l, k + 1, h => by simp at h; simp [cnt, cnt_set h]; omega
theorem cnt_all : ∀ {l : List Bool}, (∀ k : Nat, l[k]? ≠ some false) → cnt l = l.length
 | [], _ => rfl
 | b :: l, h => by
  have h0 := h 0
  have := cnt_all (l := l) fun k => by have := h (k + 1); simpa using this
  cases b <;> simp [cnt, this] at h0 ⊢; omega
def sumN : Nat → (Nat → Int) → Int
 | 0, _ => 0
 | n + 1, f => sumN n f + f n
theorem sumN_shift (f : Nat → Int) : ∀ n, sumN (n + 1) f = f 0 + sumN n fun i => f (i + 1)
 | 0 => by simp [sumN]
 | n + 1 => by rw [sumN, sumN_shift f n]; simp only [sumN]; omega
structure Flw (n : Network) (p : Plan) (i : Nat) (s : Segment) (r : Int) : Prop where
 seg : n.Segments[i]? = some s
 rate : p.Rates[i]? = some r
 ne : r ≠ 0
structure Topo (n : Network) (p : Plan) (l : List Int) : Prop where
 rng : ∀ v, v ∈ l → 0 ≤ v ∧ v < (n.Nodes.length : Int)
 nodup : l.Nodup
 topo : ∀ (k : Nat) (v : Int), l[k]? = some v → ∀ i s r, Flw n p i s r → (L.ztzg s r).2 = v → (L.ztzg s r).1 ∈ l.take k
theorem get_of {α : Type} {l : List α} {k : Nat} (h : k < l.length) : ∃ x, l[k]? = some x := ⟨_, gq h⟩
def sl (c : Nat → Option Int) : Nat → List (Nat × Int)
 | 0 => []
 | n + 1 => sl c n ++ ((c n).map fun r => (n, r)).toList
theorem sl_none {c : Nat → Option Int} {n : Nat} (h : c n = none) : sl c (n + 1) = sl c n := by simp [sl, h]
theorem sl_some {c : Nat → Option Int} {n : Nat} {r : Int} (h : c n = some r) : sl c (n + 1) = sl c n ++ [(n, r)] := by simp [sl, h]
theorem sl_mem {c : Nat → Option Int} : ∀ {n : Nat} {x : Nat × Int}, x ∈ sl c n ↔ x.1 < n ∧ c x.1 = some x.2
 | 0, x => by simp [sl]
 | n + 1, x => by
  cases h : c n with
  | none =>
   rw [sl_none h, sl_mem]
   constructor
   ·rintro ⟨h1, h2⟩; exact ⟨by omega, h2⟩
   ·rintro ⟨h1, h2⟩
    by_cases e : x.1 = n
    ·rw [e, h] at h2; cases h2
    ·exact ⟨by omega, h2⟩
  | some r =>
   rw [sl_some h, List.mem_append, sl_mem, List.mem_singleton]
   constructor
   ·rintro (⟨h1, h2⟩ | rfl)
    ·exact ⟨by omega, h2⟩
    ·exact ⟨by omega, h⟩
   ·rintro ⟨h1, h2⟩
    by_cases e : x.1 = n
    ·rw [e, h] at h2
     exact .inr (by obtain ⟨a, b⟩ := x; cases h2; cases e; rfl)
    ·exact .inl ⟨by omega, h2⟩
def cP (n : Network) (p : Plan) (v : Int) (b : Bool) (k : Nat) : Option Int :=
 match n.Ports[k]?, p.Ports[k]? with
 | some x, some r => if x.Node = v ∧ r ≠ 0 ∧ decide (r > 0) = b then some (max r (-r)) else none
 | _, _ => none
def cS (n : Network) (p : Plan) (v : Int) (b : Bool) (k : Nat) : Option Int :=
 match n.Segments[k]?, p.Rates[k]? with
 | some s, some r => if r ≠ 0 ∧ (if b = true then (L.ztzg s r).2 else (L.ztzg s r).1) = v then some (max r (-r)) else none
 | _, _ => none
section
variable {n : Network} {p : Plan} {v : Int} {b : Bool}
theorem cP_of {k : Nat} {x : Port} {r : Int} (hx : n.Ports[k]? = some x) (hr : p.Ports[k]? = some r) : cP n p v b k = if x.Node = v ∧ r ≠ 0 ∧ decide (r > 0) = b then some (max r (-r)) else none := by simp only [cP, hx, hr]
theorem cS_of {k : Nat} {s : Segment} {r : Int} (hx : n.Segments[k]? = some s) (hr : p.Rates[k]? = some r) : cS n p v b k = if r ≠ 0 ∧ (if b = true then (L.ztzg s r).2 else (L.ztzg s r).1) = v then some (max r (-r)) else none := by simp only [cS, hx, hr]
theorem cP_some {k : Nat} {a : Int} (h : cP n p v b k = some a) : ∃ x r, n.Ports[k]? = some x ∧ p.Ports[k]? = some r ∧ x.Node = v ∧ r ≠ 0 ∧ decide (r > 0) = b ∧ a = max r (-r) := by
 simp only [cP] at h
 split at h
 ·rename_i x r hx hr
  by_cases hc : x.Node = v ∧ r ≠ 0 ∧ decide (r > 0) = b
  ·rw [if_pos hc] at h; cases h; exact ⟨x, r, hx, hr, hc.1, hc.2.1, hc.2.2, rfl⟩
  ·rw [if_neg hc] at h; cases h
 ·cases h
theorem cS_some {k : Nat} {a : Int} (h : cS n p v b k = some a) : ∃ s r, Flw n p k s r ∧ (if b = true then (L.ztzg s r).2 else (L.ztzg s r).1) = v ∧ a = max r (-r) := by
 simp only [cS] at h
 split at h
 ·rename_i s r hx hr
  by_cases hc : r ≠ 0 ∧ (if b = true then (L.ztzg s r).2 else (L.ztzg s r).1) = v
  ·rw [if_pos hc] at h; cases h; exact ⟨s, r, ⟨hx, hr, hc.1⟩, hc.2, rfl⟩
  ·rw [if_neg hc] at h; cases h
 ·cases h
theorem dot_sumN : ∀ (w x : List Int), w.length = x.length → dot w x = sumN x.length fun k => w.getD k 0 * x.getD k 0
 | [], [], _ => rfl
 | [], _ :: _, h => by simp at h
 | _ :: _, [], h => by simp at h
 | a :: w, y :: x, h => by
  have ih := dot_sumN w x (by simpa using h)
  rw [List.length_cons, sumN_shift]
  simp only [dot, List.getD_cons_zero, List.getD_cons_succ]
  rw [ih]
end
structure Rp (m : Nat) (l : List (List Piece)) (F : Nat → List Int) : Prop where
 len : l.length = m
 get : ∀ i, i < m → l[i]? = some (rle (F i))
def upd (F : Nat → List Int) (i : Nat) (X : List Int) : Nat → List Int := fun j => if j = i then X else F j
theorem Rp.set {m i : Nat} {l : List (List Piece)} {F : Nat → List Int} (h : Rp m l F) (X : List Int) : Rp m (l.set i (rle X)) (upd F i X) := by
 refine ⟨by simp [h.len], fun j hj => ?_⟩
 have := h.len
 rw [get_set]
 unfold upd
 by_cases e : i = j
 ·subst e; rw [if_pos ⟨rfl, by omega⟩, if_pos rfl]
 ·rw [if_neg (fun h => e h.1), if_neg (Ne.symm e)]; exact h.get j hj
theorem Rp.congr {m : Nat} {l : List (List Piece)} {F G : Nat → List Int} (h : Rp m l F) (e : ∀ i, i < m → G i = F i) : Rp m l G := ⟨h.len, fun i hi => by rw [e i hi]; exact h.get i hi⟩
theorem Rp.det {m : Nat} {l k : List (List Piece)} {F : Nat → List Int} (h : Rp m l F) (h' : Rp m k F) : l = k := by
 refine List.ext_getElem? fun i => ?_
 by_cases hi : i < m
 ·rw [h.get i hi, h'.get i hi]
 ·rw [List.getElem?_eq_none (by have := h.len; omega), List.getElem?_eq_none (by have := h'.len; omega)]
def qu (r : Int) (F : List Int) : List Int := if r < 0 then F else F.reverse
theorem qu_len (r : Int) (F : List Int) : (qu r F).length = F.length := by unfold qu; split <;> simp
theorem qu_mem {r : Int} {F : List Int} {b : Int} : b ∈ qu r F ↔ b ∈ F := by unfold qu; split <;> simp
def gv (r : Int) (F I : List Int) : List Int := (qu r F ++ I).take I.length
def fl (r : Int) (F I : List Int) : List Int := qu r ((qu r F ++ I).drop I.length)
theorem gv_len (r : Int) (F I : List Int) : (gv r F I).length = I.length := by unfold gv; rw [List.length_take, List.length_append]; omega
theorem fl_len (r : Int) (F I : List Int) : (fl r F I).length = F.length := by unfold fl; rw [qu_len, List.length_drop, List.length_append, qu_len]; omega
theorem gv_mem {r : Int} {F I : List Int} {b : Int} (h : b ∈ gv r F I) : b ∈ F ∨ b ∈ I := by
 have := List.mem_of_mem_take h
 exact (List.mem_append.1 this).imp qu_mem.1 id
theorem fl_mem {r : Int} {F I : List Int} {b : Int} (h : b ∈ fl r F I) : b ∈ F ∨ b ∈ I := by
 have := List.mem_of_mem_drop (qu_mem.1 h)
 exact (List.mem_append.1 this).imp qu_mem.1 id
structure Ln (n : Network) (p : Plan) (g : List Int) : Prop where
 net : NetG n
 flow : FlowOk n p
 gl : g.length = n.Ports.length
 gb : ∀ b, b ∈ g → 0 ≤ b ∧ b < 1000
def strm (n : Network) (p : Plan) (g : List Int) (G : Nat → List Int) (v : Int) : List Int :=
 (sl (cP n p v true) n.Ports.length).flatMap (fun x => List.replicate x.2.toNat (g.getD x.1 0)) ++ (sl (cS n p v true) n.Segments.length).flatMap fun x => G x.1
section
variable {n : Network} {p : Plan} {g od : List Int} {fs gws os : List (List Piece)} {F G O : Nat → List Int}
structure Shared (n : Network) (p : Plan) (v : Int) (S : List Int) (ZP ZS : Nat → List Int) : Prop where
 lenP : ∀ k a, k < n.Ports.length → cP n p v false k = some a → ((ZP k).length : Int) = a
 lenS : ∀ i a, i < n.Segments.length → cS n p v false i = some a → ((ZS i).length : Int) = a
 sum : ∀ b, (sumN n.Ports.length fun k => match cP n p v false k with | some _ => ((ZP k).count b : Int) | none => 0) + (sumN n.Segments.length fun i => match cS n p v false i with | some _ => ((ZS i).count b : Int) | none => 0) = (S.count b : Int)
 memP : ∀ k b, b ∈ ZP k → b ∈ S
 memS : ∀ i b, b ∈ ZS i → b ∈ S
 one : (sl (cP n p v false) n.Ports.length).length + (sl (cS n p v false) n.Segments.length).length = 1 → (∀ k a, k < n.Ports.length → cP n p v false k = some a → ZP k = S) ∧ ∀ i a, i < n.Segments.length → cS n p v false i = some a → ZS i = S
theorem strm_bat (hL : Ln n p g) {v : Int} (hG : ∀ i, i < n.Segments.length → Bat (G i)) : Bat (strm n p g G v) := by
 intro b hb
 rcases List.mem_append.1 hb with hb | hb <;> obtain ⟨y, hy, hb⟩ := List.mem_flatMap.1 hb
 ·obtain ⟨_, rfl⟩ := List.mem_replicate.1 hb
  obtain ⟨x, hx⟩ := get_of (l := g) (k := y.1) (by rw [hL.gl]; exact (sl_mem.1 hy).1)
  rw [List.getD_eq_getElem?_getD, hx]
  exact hL.gb _ (mg hx)
 ·exact hG y.1 (sl_mem.1 hy).1 b hb
structure Left (n : Network) (p : Plan) (v : Int) (F G O ZP ZS : Nat → List Int) (q : List (List Piece) × List (List Piece) × List (List Piece)) : Prop where
 fills : Rp n.Segments.length q.1 fun i => if (cS n p v false i).isSome = true then fl (p.Rates.getD i 0) (F i) (ZS i) else F i
 given : Rp n.Segments.length q.2.1 fun i => if (cS n p v false i).isSome = true then gv (p.Rates.getD i 0) (F i) (ZS i) else G i
 out : Rp n.Ports.length q.2.2 fun k => if (cP n p v false k).isSome = true then ZP k else O k
 vd : ∀ i, i < n.Segments.length → Vd (rle (if (cS n p v false i).isSome = true then fl (p.Rates.getD i 0) (F i) (ZS i) else F i))
end
inductive Stp (n : Network) (p : Plan) (g : List Int) (F0 : Nat → List Int) : List Int → (Nat → List Int) → (Nat → List Int) → (Nat → List Int) → Prop
 | nil : Stp n p g F0 [] F0 (fun _ => []) (fun _ => [])
 | snoc {l : List Int} {F G O ZP ZS : Nat → List Int} {v : Int} : Stp n p g F0 l F G O → Shared n p v (strm n p g G v) ZP ZS →
   Stp n p g F0 (l ++ [v]) (fun i => if (cS n p v false i).isSome = true then fl (p.Rates.getD i 0) (F i) (ZS i) else F i)
    (fun i => if (cS n p v false i).isSome = true then gv (p.Rates.getD i 0) (F i) (ZS i) else G i) (fun k => if (cP n p v false k).isSome = true then ZP k else O k)
structure Inv (n : Network) (p : Plan) (l : List Int) (F G O : Nat → List Int) : Prop where
 vF : ∀ i, i < n.Segments.length → Vd (rle (F i))
 bG : ∀ i, i < n.Segments.length → Bat (G i)
 gl : ∀ i s r, Flw n p i s r → (L.ztzg s r).1 ∈ l → ((G i).length : Int) = max r (-r)
 g0 : ∀ i, i < n.Segments.length → (∀ s r, Flw n p i s r → (L.ztzg s r).1 ∉ l) → G i = []
section
variable {n : Network} {p : Plan} {g od : List Int} {fs gws os : List (List Piece)} {F0 F G O : Nat → List Int} {l : List Int}
theorem cS_flw {v : Int} {b : Bool} {i : Nat} {s : Segment} {r : Int} (h : Flw n p i s r) : cS n p v b i = if (if b = true then (L.ztzg s r).2 else (L.ztzg s r).1) = v then some (max r (-r)) else none := by
 rw [cS_of h.seg h.rate]
 by_cases e : (if b = true then (L.ztzg s r).2 else (L.ztzg s r).1) = v
 ·rw [if_pos ⟨h.ne, e⟩, if_pos e]
 ·rw [if_neg (fun h => e h.2), if_neg e]
theorem Flw.getD {i : Nat} {s : Segment} {r : Int} (h : Flw n p i s r) : p.Rates.getD i 0 = r := by rw [List.getD_eq_getElem?_getD, h.rate]; rfl
theorem Flw.lt {i : Nat} {s : Segment} {r : Int} (h : Flw n p i s r) : i < n.Segments.length := (gs h.seg).1
theorem Inv.first (vF : ∀ i, i < n.Segments.length → Vd (rle (F0 i))) : Inv n p [] F0 (fun _ => []) (fun _ => []) :=
 ⟨vF, fun i _ b hb => absurd hb (by simp), fun i s r _ h => absurd h (by simp), fun _ _ _ => rfl⟩
theorem Inv.next (hL : Ln n p g) (h : Inv n p l F G O) {v : Int} {ZP ZS : Nat → List Int} (hs : Shared n p v (strm n p g G v) ZP ZS)
  (vd : ∀ i, i < n.Segments.length → Vd (rle (if (cS n p v false i).isSome = true then fl (p.Rates.getD i 0) (F i) (ZS i) else F i))) :
  Inv n p (l ++ [v]) (fun i => if (cS n p v false i).isSome = true then fl (p.Rates.getD i 0) (F i) (ZS i) else F i)
    (fun i => if (cS n p v false i).isSome = true then gv (p.Rates.getD i 0) (F i) (ZS i) else G i) (fun k => if (cP n p v false k).isSome = true then ZP k else O k) := by
 have hb := strm_bat (v := v) hL h.bG
 refine ⟨vd, fun i hi => ?_, fun i s r hf hm => ?_, fun i hi hno => ?_⟩
 ·split
  ·intro b hb'
   rcases gv_mem hb' with hb' | hb'
   ·have := (h.vF i hi).bat; rw [lit_rle] at this; exact this b hb'
   ·exact hb b (hs.memS i b hb')
  ·exact h.bG i hi
 ·have hc := cS_flw (v := v) (b := false) hf
  rw [if_neg (by simp : ¬ (false = true))] at hc
  by_cases e : (L.ztzg s r).1 = v
  ·rw [if_pos e] at hc
   rw [if_pos (by rw [hc]; rfl), gv_len]
   exact hs.lenS i _ hf.lt hc
  ·rw [if_neg e] at hc
   rw [if_neg (by rw [hc]; simp)]
   refine h.gl i s r hf ?_
   rcases List.mem_append.1 hm with hm | hm
   ·exact hm
   ·simp at hm; exact absurd hm e
 ·have hc : cS n p v false i = none := by
   cases hc : cS n p v false i with
   | none => rfl
   | some a =>
    obtain ⟨s, r, hf, he, _⟩ := cS_some hc
    rw [if_neg (by simp : ¬ (false = true))] at he
    exact absurd (by rw [he]; simp) (hno s r hf)
  rw [if_neg (by rw [hc]; simp)]
  exact h.g0 i hi fun s r hf hm => hno s r hf (by simp [hm])
structure Fil (n : Network) (fs : List (List Piece)) (F : Nat → List Int) : Prop where
 rp : Rp n.Segments.length fs F
 vd : ∀ i, i < n.Segments.length → Vd (rle (F i))
 cap : ∀ (i : Nat) (s : Segment), n.Segments[i]? = some s → ((F i).length : Int) = s.Capacity
theorem check_ok (hn : NetG n) (h : Fil n fs F0) : L.zspo n fs = some 0 := by
 have hl := h.rp.len
 have : Ok (L.zspo n fs) fun r => r = 0 := by
  unfold L.zspo
  refine .bind' (.eq (hn.check) ?_)
  rw [if_neg (by simp), if_neg (by simp; omega)]
  have hc : Ok (L.zbxi fs (fun x => L.zfxs x)) fun r => r = false := by
   unfold L.zbxi L.zvuy
   refine .bind (Q := fun r => r = -1) (.bind' (.forL (fun _ _ => True) (fun _ => False) trivial ?_ (fun _ _ => .pure rfl) (fun _ h => h.elim))) (by rintro _ rfl; exact .pure (by simp))
   intro k x _ hx _
   have hk := (gs hx).1
   have hv := h.vd k (by omega)
   rw [h.rp.get k (by omega)] at hx
   cases hx
   unfold L.zvuy.B2 L.zfxs
   dsimp only
   rw [valid_ok hv]
   exact .pure trivial
  refine .bind hc ?_
  rintro _ rfl
  unfold L.zspo.J1
  rw [if_neg (by simp)]
  refine .bind' (.forL (fun _ _ => True) (fun _ => False) trivial ?_ (fun _ _ => .pure rfl) (fun _ h => h.elim))
  intro k x _ hx _
  have hk := (gs hx).1
  have hv := h.vd k (by omega)
  obtain ⟨s, hs⟩ := get_of (l := n.Segments) (k := k) (by omega)
  have hcap := h.cap k s hs
  rw [h.rp.get k (by omega)] at hx
  cases hx
  unfold L.zspo.B3
  rw [volume_ok hv, Option.bind_some, ix_nat hs, Option.bind_some, vol_rle]
  dsimp only
  rw [if_neg (by simp [hcap])]
  exact .pure trivial
 obtain ⟨r, h1, rfl⟩ := this
 exact h1
def TickR (n : Network) (p : Plan) (g : List Int) (F0 F O : Nat → List Int) : Prop := ∃ od G, L.zsgw n p = some od ∧ Topo n p od ∧ (∀ v : Nat, v < n.Nodes.length → (v : Int) ∈ od) ∧ Stp n p g F0 od F G O ∧ Inv n p od F G O
theorem Stp.len (h : Stp n p g F0 l F G O) (i : Nat) : (F i).length = (F0 i).length := by
 induction h with
 | nil => rfl
 | snoc h _ ih =>
  dsimp only
  split
  ·rw [fl_len, ih]
  ·exact ih
end
def Bt (m : Int) (X : List Int) : Prop := ∀ b, b ∈ X → 0 ≤ b ∧ b < m
theorem fill_ok {s : Src} (hs : SrcOk s) {v m : Int} (hv : 1 ≤ v ∧ v ≤ 1000) (hm : 1 ≤ m ∧ m ≤ 1000) : Ok (L.zdti s v m) fun r => SrcOk r.2 ∧ ∃ X, r.1 = rle X ∧ (X.length : Int) = v ∧ Bt m X ∧ (rle X).length ≤ 12 := by
 let I : List Int × Int × Int × List Piece → Prop := fun st => SrcOk ⟨st.1, st.2.1⟩ ∧ ∃ X, st.2.2.2 = rle X ∧ (X.length : Int) + st.2.2.1 = v ∧ 0 ≤ st.2.2.1 ∧ Bt m X ∧ (rle X).length ≤ 12 ∧ ((rle X).length = 12 → st.2.2.1 = 0)
 let R : List Int × Int × List Piece → Prop := fun r => SrcOk ⟨r.1, r.2.1⟩ ∧ ∃ X, r.2.2 = rle X ∧ (X.length : Int) = v ∧ Bt m X ∧ (rle X).length ≤ 12
 let μ : List Int × Int × Int × List Piece → Nat := fun st => st.2.2.1.toNat
 unfold L.zdti
 refine .bind (Q := R) (.loop I μ ⟨hs, [], rfl, by simp, by dsimp only; omega, by simp [Bt], by simp [rle_nil], by simp [rle_nil]⟩ (by dsimp only [μ]; omega) ?_) fun r hr => .pure hr
 rintro ⟨l, a, rem, ps⟩ ⟨h1, X, rfl, h3, h4, h5, h6, h7⟩
 dsimp only at h1 h3 h4 h7
 unfold L.zdti.B2
 dsimp only
 refine Ok.iteB (fun hc => ?_) fun hc => ?_
 ·simp at hc
  refine .bind (n_ok h1 hm.1 (by omega)) fun r230 hr => ?_
  have hq : 0 ≤ (rem * 2).tdiv 3 ∧ (rem * 2).tdiv 3 ≤ rem := by
   rw [Int.tdiv_eq_ediv_of_nonneg (by omega)]; omega
  rw [wr_id (by omega : _ ≤ rem * 2 ∧ _), wr_id (by omega)]
  refine .bind (range_ok hr.1 (by omega) (by omega) (by omega)) fun r232 hr2 => ?_
  have take : ∀ (k : Int) (Y : List Int), 1 ≤ k → k ≤ rem → (Y.length : Int) = X.length + k → Bt m Y → (rle Y).length ≤ (rle X).length + 1 → ((rle X).length = 11 → k = rem) → I (r232.2.L_, r232.2.At, wr (rem - k), rle Y) ∧ μ (r232.2.L_, r232.2.At, wr (rem - k), rle Y) < μ (l, a, rem, rle X) := by
   intro k Y k1 k2 y1 y2 y3 y4
   rw [wr_id (by omega)]
   exact ⟨⟨hr2.1, Y, rfl, by dsimp only; omega, by dsimp only; omega, y2, by omega, fun h => by have := y4 (by omega); dsimp only; omega⟩, by dsimp only [μ]; omega⟩
  have rep : ∀ (b k : Int), 0 ≤ b ∧ b < m → 1 ≤ k → Bt m (X ++ List.replicate k.toNat b) := fun b k hb hk c hcm => by
   rcases List.mem_append.1 hcm with h | h
   ·exact h5 c h
   ·obtain ⟨_, rfl⟩ := List.mem_replicate.1 h; exact hb
  have plen : ∀ (b k : Int), 1 ≤ k → (rle (X ++ List.replicate k.toNat b)).length ≤ (rle X).length + 1 := fun b k hk => by
   have := psh_len (rle X) ⟨b, k⟩
   rw [rle_psh (by exact hk)] at this; exact this
  have main : ∀ j236, 1 ≤ j236 → ((rle X).length = 11 → j236 = rem) → Ok (L.zdti.J3 m (l, a, rem, rle X) r230 r232 j236) (Sum.elim (fun s => I s ∧ μ s < μ (l, a, rem, rle X)) R) := by
   intro j hj1 hj2
   have app : ∀ b, 0 ≤ b ∧ b < m → psh (rle X) ⟨b, min j rem⟩ = rle X ++ [⟨b, min j rem⟩] → Ok (L.zdti.J4 (l, a, rem, rle X) r232 j b) (Sum.elim (fun s => I s ∧ μ s < μ (l, a, rem, rle X)) R) := by
    intro b hb he
    unfold L.zdti.J4
    refine .bind' (.app (by simp; omega) (.pure ?_))
    dsimp only
    rw [← he, rle_psh (by dsimp only; omega)]
    exact take (min j rem) (X ++ List.replicate (min j rem).toNat b) (by omega) (by omega) (by rw [List.length_append, List.length_replicate]; omega) (rep b (min j rem) hb (by omega)) (plen b (min j rem) (by omega)) (fun h => by have := hj2 h; omega)
   unfold L.zdti.J3
   dsimp only
   rcases snoc_cases (rle X) with he | ⟨c, q, he⟩
   ·refine Ok.iteD (fun h => by rw [he] at h; simp at h) fun _ => ?_
    unfold L.zdti.J5
    rw [if_neg (by simp)]
    exact app _ hr.2 (by rw [he]; rfl)
   ·have hl : (rle X).length = c.length + 1 := by rw [he]; simp
    have hg : (rle X)[c.length]? = some q := by rw [he]; simp
    have hw : wr (((rle X).length : Int) - 1) = (c.length : Int) := by rw [hl, wr_id (by omega)]; omega
    have hq1 := (rle_can X).pos q (mg hg)
    have hq2 := vol_mem (fun p hp => by have := (rle_can X).pos p hp; omega) (mg hg)
    rw [vol_rle] at hq2
    refine Ok.iteD (fun _ => ?_) fun h => by rw [hl] at h; omega
    rw [hw]
    refine .bind' (.eq (ix_nat hg) ?_)
    unfold L.zdti.J5
    dsimp only
    refine Ok.iteE (fun hb => ?_) fun hb => app _ hr.2 (by rw [he, psh_snoc, if_neg (by exact hb)])
    rw [hw, wr_id (by omega)]
    have ht : 0 ≤ (r230.1 + 1).tmod m ∧ (r230.1 + 1).tmod m < m := by
     rw [Int.tmod_eq_emod_of_nonneg (by omega)]
     exact ⟨Int.emod_nonneg _ (by omega), Int.emod_lt_of_pos _ (by omega)⟩
    refine .bind' (.rem (by omega) (.bind' (.eq (ix_nat hg) ?_)))
    dsimp only
    refine Ok.iteE (fun hb2 => ?_) fun hb2 => app _ ht (by rw [he, psh_snoc, if_neg (by exact hb2)])
    have e : (rle X).set c.length (⟨q.Batch, wr (q.Volume + min j rem)⟩ : Piece) = psh (rle X) ⟨q.Batch, min j rem⟩ := by
     rw [wr_id (by omega), he, psh_snoc, if_pos rfl]; simp
    rw [e, rle_psh (by dsimp only; omega)]
    have hqb := h5 _ (rle_batch (mg hg))
    exact .pure (take (min j rem) (X ++ List.replicate (min j rem).toNat q.Batch) (by omega) (by omega) (by rw [List.length_append, List.length_replicate]; omega) (rep q.Batch (min j rem) hqb (by omega)) (plen q.Batch (min j rem) (by omega)) (fun h => by have := hj2 h; omega))
  exact Ok.iteE (fun h => main _ (by omega) fun _ => rfl) fun h => main _ (by omega) fun h' => by omega
 ·refine .pure ⟨h1, X, rfl, ?_, h5, h6⟩
  by_cases h0 : rem = 0
  ·subst h0; omega
  ·have : ¬ (rle X).length = 12 := fun h => h0 (h7 h)
   simp at hc
   have := hc (by omega)
   omega
section
variable {n : Network} {p : Plan} {g g' od : List Int} {fs gws os : List (List Piece)} {F0 F G O : Nat → List Int} {l : List Int}
end
theorem PlanOk.still {n : Network} {M : List Bool} (hm : M.length = n.Stations.length) (hc : ∀ (k : Nat) (s : Segment), n.Segments[k]? = some s → 0 ≤ s.Capacity) : PlanOk n ⟨List.replicate n.Segments.length 0, List.replicate n.Ports.length 0, M⟩ := by
 have z : ∀ (m k : Nat) (x : Int), (List.replicate m (0 : Int))[k]? = some x → x = 0 := fun m k x h => by
  rw [List.getElem?_replicate] at h; split at h
  ·cases h; rfl
  ·cases h
 refine ⟨by simp, by simp, hm, fun k r s hr hs => ?_, fun k x hx => ?_, fun v => ?_, .inl fun k r s hr hs => ?_⟩
 ·have := z _ k r hr; have := hc k s hs; omega
 ·have := z _ k x hx; omega
 ·rw [dot_zero, dot_zero]; rfl
 ·have := z _ k r hr; omega
section
variable {n : Network} {p : Plan} {g od : List Int} {fs gws os : List (List Piece)} {F0 F G O : Nat → List Int} {l : List Int}
theorem Stp.outLen (h : Stp n p g F0 l F G O) {k : Nat} {x : Port} {r : Int} (hx : n.Ports[k]? = some x) (hr : p.Ports[k]? = some r) : ((O k).length : Int) = if x.Node ∈ l then max 0 (-r) else 0 := by
 have hk := (gs hx).1
 induction h with
 | nil => simp
 | @snoc l F G O ZP ZS v h hs ih =>
  dsimp only
  have hc := cP_of (v := v) (b := false) hx hr
  by_cases hv : x.Node = v
  ·subst hv
   have hR : (if x.Node ∈ l ++ [x.Node] then max 0 (-r) else 0) = max 0 (-r) := if_pos (by simp)
   rw [hR]
   rcases Int.lt_trichotomy r 0 with h2 | h2 | h2
   ·rw [if_pos ⟨rfl, by omega, by simp; omega⟩] at hc
    rw [if_pos (by rw [hc]; rfl), hs.lenP k _ hk hc]; omega
   ·rw [if_neg (fun h => h.2.1 h2)] at hc
    rw [if_neg (by rw [hc]; simp), ih]; split <;> omega
   ·rw [if_neg (fun h => by have := h.2.2; simp at this; omega)] at hc
    rw [if_neg (by rw [hc]; simp), ih]; split <;> omega
  ·rw [if_neg (fun h => hv h.1)] at hc
   rw [if_neg (by rw [hc]; simp), ih]
   have : (x.Node ∈ l ++ [v]) = (x.Node ∈ l) := by simp [hv]
   simp only [this]
theorem TickR.outLen (hL : Ln n p g) (h : TickR n p g F0 F O) {k : Nat} {x : Port} {r : Int} (hx : n.Ports[k]? = some x) (hr : p.Ports[k]? = some r) : ((O k).length : Int) = max 0 (-r) := by
 obtain ⟨od, G, _, _, h1, h2, _⟩ := h
 have hn := hL.net.ports k x hx
 rw [h2.outLen hx hr, if_pos]
 obtain ⟨v, hv⟩ := nat_of hn.1
 rw [hv] at hn ⊢
 exact h1 v (by omega)
theorem TickR.out1000 (hL : Ln n p g) (h : TickR n p g F0 F O) {k : Nat} (hk : k < n.Ports.length) : (O k).length ≤ 1000 := by
 obtain ⟨x, hx⟩ := get_of hk
 obtain ⟨r, hr⟩ := get_of (l := p.Ports) (k := k) (by have := hL.flow.pl; omega)
 have := h.outLen hL hx hr
 have := hL.flow.prt k r hr
 omega
inductive Tks (n : Network) (p : Plan) (g : List Int) (fs0 : List (List Piece)) (F0 : Nat → List Int) : Nat → List (List Piece) → (Nat → List Int) → (Nat → List Int) → Prop
 | zero : Tks n p g fs0 F0 0 fs0 F0 (fun _ => [])
 | succ {k : Nat} {fs fs' os : List (List Piece)} {F F' A O : Nat → List Int} : Tks n p g fs0 F0 k fs F A → L.zcgl n fs p g = some (fs', os, 0) → TickR n p g F F' O → Fil n fs' F' → Rp n.Ports.length os O →
   Tks n p g fs0 F0 (k + 1) fs' F' (fun j => A j ++ O j)
theorem Tks.len (hL : Ln n p g) {fs0 : List (List Piece)} {k : Nat} {A : Nat → List Int} (h : Tks n p g fs0 F0 k fs F A) {j : Nat} (hj : j < n.Ports.length) : (A j).length ≤ 1000 * k := by
 induction h with
 | zero => simp
 | succ _ _ h _ _ ih => have := h.out1000 hL hj; rw [List.length_append]; omega
theorem Rp.inj {m : Nat} {l : List (List Piece)} {F G : Nat → List Int} (h : Rp m l F) (h' : Rp m l G) {i : Nat} (hi : i < m) : F i = G i := by
 have := h.get i hi
 rw [h'.get i hi] at this
 exact (rle_inj (Option.some.inj this)).symm
theorem Tks.det {fs0 : List (List Piece)} {k : Nat} {A : Nat → List Int} (h : Tks n p g fs0 F0 k fs F A) : ∀ {fs1 : List (List Piece)} {F1 A1 : Nat → List Int}, Tks n p g fs0 F0 k fs1 F1 A1 → fs = fs1 ∧ ∀ j, j < n.Ports.length → A j = A1 j := by
 induction h with
 | zero => intro _ _ _ h1; cases h1; exact ⟨rfl, fun _ _ => rfl⟩
 | succ h t1 _ _ r1 ih =>
  intro _ _ _ h1
  cases h1 with
  | succ h2 t2 _ _ r2 =>
   obtain ⟨rfl, ha⟩ := ih h2
   rw [t1] at t2
   cases t2
   exact ⟨rfl, fun j hj => by dsimp only; rw [ha j hj, r1.inj r2 hj]⟩
end
theorem u8_mod {w : Int} (hw : 0 ≤ w ∧ w ≤ 255) {m : Int} (hm : 1 ≤ m ∧ m ≤ 1000) : ∃ t : Nat, (wr w).tmod m = (t : Int) ∧ (t : Int) < m := by
 rw [wr_id (by omega), Int.tmod_eq_emod_of_nonneg hw.1]
 have h1 := Int.emod_nonneg w (by omega : m ≠ 0)
 have h2 := Int.emod_lt_of_pos w (by omega : 0 < m)
 exact ⟨(w % m).toNat, by omega, by omega⟩
section
variable {n : Network} {p : Plan} {g od : List Int} {fs gws os : List (List Piece)} {F0 F G O : Nat → List Int} {l : List Int}
theorem Stp.g0 (h : Stp n p g F0 l F G O) {i : Nat} {s : Segment} {r : Int} (hf : Flw n p i s r) (hn : (L.ztzg s r).1 ∉ l) : G i = [] := by
 induction h with
 | nil => rfl
 | @snoc l F G O ZP ZS v h hs ih =>
  dsimp only
  have cf := cS_flw (v := v) (b := false) hf
  rw [if_neg (by simp : ¬ (false = true)), if_neg (fun e => hn (by simp [e]))] at cf
  rw [if_neg (by rw [cf]; simp)]
  exact ih fun h => hn (by simp [h])
end
section
variable {n : Network} {p : Plan} {g od : List Int} {fs gws os : List (List Piece)} {F0 F G O : Nat → List Int} {l : List Int}
theorem Tks.outLen (hL : Ln n p g) {fs0 : List (List Piece)} {k : Nat} {A : Nat → List Int} (h : Tks n p g fs0 F0 k fs F A) {j : Nat} {x : Port} {r : Int} (hx : n.Ports[j]? = some x) (hr : p.Ports[j]? = some r) : ((A j).length : Int) = k * max 0 (-r) := by
 induction h with
 | zero => simp
 | @succ k fs fs' os F F' A O _ _ t _ _ ih =>
  have h1 := t.outLen hL hx hr
  have e2 : ((k + 1 : Nat) : Int) * max 0 (-r) = (k : Int) * max 0 (-r) + max 0 (-r) := by
   rw [Int.natCast_add, Int.add_mul]; simp
  rw [List.length_append]; omega
end
structure Way (n : Network) (p : Plan) (m : Nat) (vs : Nat → Int) (sg : Nat → Nat) (r : Int) (ip op : Nat) : Prop where
 r1 : 1 ≤ r
 ipl : ip < n.Ports.length
 opl : op < n.Ports.length
 sgl : ∀ j, j < m → sg j < n.Segments.length
 pin : ∀ j k, j ≤ m → cP n p (vs j) true k = if j = 0 ∧ k = ip then some r else none
 pout : ∀ j k, j ≤ m → cP n p (vs j) false k = if j = m ∧ k = op then some r else none
 sin : ∀ j i, j ≤ m → cS n p (vs j) true i = if 0 < j ∧ i = sg (j - 1) then some r else none
 sout : ∀ j i, j ≤ m → cS n p (vs j) false i = if j < m ∧ i = sg j then some r else none
 vinj : ∀ i j, i ≤ m → j ≤ m → vs i = vs j → i = j
 sinj : ∀ i j, i < m → j < m → sg i = sg j → i = j
 all : ∀ v, 0 ≤ v → v < (n.Nodes.length : Int) → ∃ j, j ≤ m ∧ v = vs j
 flw : ∀ j, j < m → ∃ s a, Flw n p (sg j) s a ∧ (L.ztzg s a).1 = vs j ∧ (L.ztzg s a).2 = vs (j + 1)
def cat (Q : Nat → List Int) : Nat → List Int
 | 0 => []
 | j + 1 => Q j ++ cat Q j
section
variable {n : Network} {p : Plan} {g od : List Int} {fs : List (List Piece)} {F0 F G O : Nat → List Int} {l : List Int} {m : Nat} {vs : Nat → Int} {sg : Nat → Nat} {r : Int} {ip op : Nat}
end
structure Chain (n : Network) (m : Nat) : Prop where
 net : NetG n
 m1 : 1 ≤ m ∧ m ≤ 5
 nn : n.Nodes.length = m + 1
 ns : n.Segments.length = m
 np : n.Ports.length = 2
 p0 : ∃ x, n.Ports[0]? = some x ∧ x.Node = 0
 p1 : ∃ x, n.Ports[1]? = some x ∧ x.Node = (m : Int)
 st : n.Stations = []
 ends : ∀ (i : Nat) (s : Segment), n.Segments[i]? = some s → s.From = (i : Int) ∧ s.To = (i : Int) + 1 ∨ s.From = (i : Int) + 1 ∧ s.To = (i : Int)
structure Wpl (n : Network) (a : Int) (p : Plan) : Prop where
 rl : p.Rates.length = n.Segments.length
 rate : ∀ (i : Nat) (s : Segment) (x : Int), n.Segments[i]? = some s → p.Rates[i]? = some x → x = if s.From < s.To then a else -a
 ports : p.Ports = [a, -a]
 pumps : p.Pumps = []
section
variable {n : Network} {p : Plan} {m : Nat} {a : Int}
theorem Wpl.planOk (hc : Chain n m) (hp : Wpl n a p) (ha : -1000 ≤ a ∧ a ≤ 1000) (hcap : ∀ (i : Nat) (s : Segment), n.Segments[i]? = some s → -s.Capacity ≤ a ∧ a ≤ s.Capacity) : PlanOk n p := by
 have hns := hc.ns
 obtain ⟨x0, hx0, hn0⟩ := hc.p0
 obtain ⟨x1, hx1, hn1⟩ := hc.p1
 have hports : n.Ports = [x0, x1] := by
  have := hc.np
  match h : n.Ports with
  | [y0, y1] => rw [h] at hx0 hx1; simp at hx0 hx1; rw [hx0, hx1]
  | [] => rw [h] at this; simp at this
  | [_] => rw [h] at this; simp at this
  | _ :: _ :: _ :: _ => rw [h] at this; simp at this
 refine ⟨hp.rl, by rw [hp.ports, hc.np]; rfl, by rw [hp.pumps, hc.st]; rfl, fun k r s hr hs => ?_, fun k x hx => ?_, fun v => ?_, ?_⟩
 ·have h1 := hp.rate k s r hs hr
  have h2 := hcap k s hs
  split at h1 <;> omega
 ·rw [hp.ports] at hx
  rcases k with _ | _ | k
  ·simp at hx; omega
  ·simp at hx; omega
  ·simp at hx
 ·have tele : ∀ k, k ≤ m → (sumN k fun i => (wt n v).getD i 0 * p.Rates.getD i 0) = a * (ind (k : Int) v - ind 0 v) := by
   intro k
   induction k with
   | zero => intro _; simp [sumN]
   | succ k ih =>
    intro hk
    obtain ⟨s, hs⟩ := get_of (l := n.Segments) (k := k) (by omega)
    obtain ⟨x, hx⟩ := get_of (l := p.Rates) (k := k) (by have := hp.rl; omega)
    have h1 := hp.rate k s x hs hx
    have hw : (wt n v).getD k 0 = ind s.To v - ind s.From v := by
     rw [List.getD_eq_getElem?_getD, wt, List.getElem?_map, hs]; rfl
    have hx' : p.Rates.getD k 0 = x := by rw [List.getD_eq_getElem?_getD, hx]; rfl
    simp only [sumN]
    rw [ih (by omega), hw, hx']
    have e : ((k + 1 : Nat) : Int) = (k : Int) + 1 := by omega
    rw [e]
    rcases hc.ends k s hs with ⟨e1, e2⟩ | ⟨e1, e2⟩
    ·rw [if_pos (by omega)] at h1
     rw [e1, e2, h1, Int.mul_comm _ a, ← Int.mul_add]; congr 1; omega
    ·rw [if_neg (by omega)] at h1
     rw [e1, e2, h1, Int.mul_neg, Int.mul_comm _ a, ← Int.mul_neg, ← Int.mul_add]; congr 1; omega
  rw [dot_sumN _ _ (by simp [wt, hp.rl]), hp.rl, hns, tele m (Nat.le_refl _), hp.ports]
  have : wp n v = [ind 0 v, ind (m : Int) v] := by simp [wp, hports, hn0, hn1]
  rw [this]
  simp only [dot]
  rw [Int.mul_sub, Int.mul_neg, Int.mul_comm (ind 0 v), Int.mul_comm (ind (m : Int) v)]; omega
 ·rcases Int.lt_trichotomy a 0 with h | h | h
  ·refine .inr fun k r s hr hs => ?_
   have h1 := hp.rate k s r hs hr
   have := hc.ends k s hs
   split at h1 <;> omega
  ·refine .inl fun k r s hr hs => ?_
   have h1 := hp.rate k s r hs hr
   split at h1 <;> omega
  ·refine .inl fun k r s hr hs => ?_
   have h1 := hp.rate k s r hs hr
   have := hc.ends k s hs
   split at h1 <;> omega
theorem Wpl.ends (hc : Chain n m) (hp : Wpl n a p) {i : Nat} {s : Segment} {x : Int} (hs : n.Segments[i]? = some s) (hx : p.Rates[i]? = some x) (h0 : a ≠ 0) :
  x ≠ 0 ∧ max x (-x) = max a (-a) ∧ L.ztzg s x = if 0 < a then ((i : Int), (i : Int) + 1) else ((i : Int) + 1, (i : Int)) := by
 have h1 := hp.rate i s x hs hx
 have h2 := hc.ends i s hs
 have hx0 : x ≠ 0 := by split at h1 <;> omega
 refine ⟨hx0, by split at h1 <;> omega, ?_⟩
 rcases endsOf (s := s) hx0 with ⟨he, h3⟩ | ⟨he, h3⟩ <;> rw [he] <;> rcases h2 with ⟨e1, e2⟩ | ⟨e1, e2⟩ <;> rw [e1, e2]
 ·rw [if_pos (by omega)] at h1; rw [if_neg (by omega)]
 ·rw [if_neg (by omega)] at h1; rw [if_pos (by omega)]
 ·rw [if_pos (by omega)] at h1; rw [if_pos (by omega)]
 ·rw [if_neg (by omega)] at h1; rw [if_neg (by omega)]
theorem Wpl.cS (hc : Chain n m) (hp : Wpl n a p) (h0 : a ≠ 0) (v : Int) (b : Bool) (i : Nat) :
  Go.Proofs.YtaliejncdnegeaaGreat.cS n p v b i = if i < m ∧ v = (if (0 < a) = (b = true) then (i : Int) + 1 else (i : Int)) then some (max a (-a)) else none := by
 by_cases hi : i < m
 ·obtain ⟨s, hs⟩ := get_of (l := n.Segments) (k := i) (by have := hc.ns; omega)
  obtain ⟨x, hx⟩ := get_of (l := p.Rates) (k := i) (by have := hp.rl; have := hc.ns; omega)
  obtain ⟨e1, e2, e3⟩ := hp.ends hc hs hx h0
  rw [cS_of hs hx, e2, e3]
  by_cases ha : 0 < a <;> cases b <;> simp [ha, e1, hi] <;> congr 1 <;> exact propext ⟨Eq.symm, Eq.symm⟩
 ·rw [if_neg (fun h => hi h.1)]
  cases h : Go.Proofs.YtaliejncdnegeaaGreat.cS n p v b i with
  | none => rfl
  | some y => obtain ⟨s, r, hf, _⟩ := cS_some h; exact absurd hf.lt (by rw [hc.ns]; exact hi)
theorem Wpl.cP (hc : Chain n m) (hp : Wpl n a p) (h0 : a ≠ 0) (v : Int) (b : Bool) (k : Nat) :
  Go.Proofs.YtaliejncdnegeaaGreat.cP n p v b k = if (k = 0 ∧ v = 0 ∧ decide (0 < a) = b) ∨ (k = 1 ∧ v = (m : Int) ∧ decide (a < 0) = b) then some (max a (-a)) else none := by
 obtain ⟨x0, hx0, hn0⟩ := hc.p0
 obtain ⟨x1, hx1, hn1⟩ := hc.p1
 rcases k with _ | _ | k
 ·rw [cP_of hx0 (r := a) (by rw [hp.ports]; rfl), hn0]
  have : (0 = v ∧ a ≠ 0 ∧ decide (a > 0) = b) ↔ ((0 : Nat) = 0 ∧ v = 0 ∧ decide (0 < a) = b) ∨ ((0 : Nat) = 1 ∧ v = (m : Int) ∧ decide (a < 0) = b) :=
   ⟨fun h => .inl ⟨rfl, h.1.symm, h.2.2⟩, fun h => by rcases h with h | h; exact ⟨h.2.1.symm, h0, h.2.2⟩; exact absurd h.1 (by omega)⟩
  simp only [this]
 ·rw [cP_of hx1 (r := -a) (by rw [hp.ports]; rfl), hn1, Int.neg_neg, show max (-a) a = max a (-a) by omega]
  have hd : decide (-a > 0) = decide (a < 0) := by simp
  have : ((m : Int) = v ∧ -a ≠ 0 ∧ decide (-a > 0) = b) ↔ (0 + 1 = 0 ∧ v = 0 ∧ decide (0 < a) = b) ∨ (0 + 1 = 1 ∧ v = (m : Int) ∧ decide (a < 0) = b) :=
   ⟨fun h => .inr ⟨rfl, h.1.symm, by rw [← hd]; exact h.2.2⟩, fun h => by rcases h with h | h; exact absurd h.1 (by omega); exact ⟨h.2.1.symm, by omega, by rw [hd]; exact h.2.2⟩⟩
  simp only [this]
 ·rw [if_neg (by omega)]
  cases h : Go.Proofs.YtaliejncdnegeaaGreat.cP n p v b (k + 1 + 1) with
  | none => rfl
  | some y =>
   obtain ⟨x, r, hx, _⟩ := cP_some h
   have := (gs hx).1
   have := hc.np
   omega
theorem Wpl.way (hc : Chain n m) (hp : Wpl n a p) (h1 : 1 ≤ a) : Way n p m (fun j => (j : Int)) (fun j => j) a 0 1 := by
 have h0 : a ≠ 0 := by omega
 have hm : max a (-a) = a := by omega
 have hns := hc.ns
 have ha : 0 < a := by omega
 refine ⟨h1, by rw [hc.np]; omega, by rw [hc.np]; omega, fun j hj => by omega, fun j k hj => ?_, fun j k hj => ?_, fun j i hj => ?_, fun j i hj => ?_, fun i j _ _ h => by omega, fun i j _ _ h => h, fun v v0 v1 => ?_, fun j hj => ?_⟩
 ·rw [hp.cP hc h0, hm]
  have : ((k = 0 ∧ (j : Int) = 0 ∧ decide (0 < a) = true) ∨ (k = 1 ∧ (j : Int) = (m : Int) ∧ decide (a < 0) = true)) ↔ (j = 0 ∧ k = 0) := by
   simp only [decide_eq_true_eq]; omega
  exact ite_congr (propext this) (fun _ => rfl) (fun _ => rfl)
 ·rw [hp.cP hc h0, hm]
  have : ((k = 0 ∧ (j : Int) = 0 ∧ decide (0 < a) = false) ∨ (k = 1 ∧ (j : Int) = (m : Int) ∧ decide (a < 0) = false)) ↔ (j = m ∧ k = 1) := by
   simp only [decide_eq_false_iff_not]; omega
  exact ite_congr (propext this) (fun _ => rfl) (fun _ => rfl)
 ·rw [hp.cS hc h0, hm]
  have : (i < m ∧ (j : Int) = (if (0 < a) = (true = true) then (i : Int) + 1 else (i : Int))) ↔ (0 < j ∧ i = j - 1) := by
   rw [if_pos (by simp [ha])]; omega
  exact ite_congr (propext this) (fun _ => rfl) (fun _ => rfl)
 ·rw [hp.cS hc h0, hm]
  have : (i < m ∧ (j : Int) = (if (0 < a) = (false = true) then (i : Int) + 1 else (i : Int))) ↔ (j < m ∧ i = j) := by
   rw [if_neg (by simp [ha])]; omega
  exact ite_congr (propext this) (fun _ => rfl) (fun _ => rfl)
 ·rw [hc.nn] at v1
  exact ⟨v.toNat, by omega, by omega⟩
 ·obtain ⟨s, hs⟩ := get_of (l := n.Segments) (k := j) (by omega)
  obtain ⟨x, hx⟩ := get_of (l := p.Rates) (k := j) (by have := hp.rl; omega)
  obtain ⟨e1, _, e3⟩ := hp.ends hc hs hx h0
  rw [if_pos ha] at e3
  exact ⟨s, x, ⟨hs, hx, e1⟩, by rw [e3], by rw [e3]; simp⟩
theorem Wpl.back (hc : Chain n m) (hp : Wpl n (-a) p) (h1 : 1 ≤ a) : Way n p m (fun j => (m : Int) - j) (fun j => m - 1 - j) a 1 0 := by
 have h0 : -a ≠ 0 := by omega
 have hm : max (-a) (- -a) = a := by omega
 have hns := hc.ns
 have ha : ¬ 0 < -a := by omega
 refine ⟨h1, by rw [hc.np]; omega, by rw [hc.np]; omega, fun j hj => by omega, fun j k hj => ?_, fun j k hj => ?_, fun j i hj => ?_, fun j i hj => ?_, fun i j hi hj h => by omega, fun i j hi hj h => by omega, fun v v0 v1 => ?_, fun j hj => ?_⟩
 ·rw [hp.cP hc h0, hm]
  have : ((k = 0 ∧ (m : Int) - j = 0 ∧ decide (0 < -a) = true) ∨ (k = 1 ∧ (m : Int) - j = (m : Int) ∧ decide (-a < 0) = true)) ↔ (j = 0 ∧ k = 1) := by
   simp only [decide_eq_true_eq]; omega
  exact ite_congr (propext this) (fun _ => rfl) (fun _ => rfl)
 ·rw [hp.cP hc h0, hm]
  have : ((k = 0 ∧ (m : Int) - j = 0 ∧ decide (0 < -a) = false) ∨ (k = 1 ∧ (m : Int) - j = (m : Int) ∧ decide (-a < 0) = false)) ↔ (j = m ∧ k = 0) := by
   simp only [decide_eq_false_iff_not]; omega
  exact ite_congr (propext this) (fun _ => rfl) (fun _ => rfl)
 ·rw [hp.cS hc h0, hm]
  have : (i < m ∧ (m : Int) - j = (if (0 < -a) = (true = true) then (i : Int) + 1 else (i : Int))) ↔ (0 < j ∧ i = m - 1 - (j - 1)) := by
   rw [if_neg (by simp; omega)]; omega
  exact ite_congr (propext this) (fun _ => rfl) (fun _ => rfl)
 ·rw [hp.cS hc h0, hm]
  have : (i < m ∧ (m : Int) - j = (if (0 < -a) = (false = true) then (i : Int) + 1 else (i : Int))) ↔ (j < m ∧ i = m - 1 - j) := by
   rw [if_pos (by simp; omega)]; omega
  exact ite_congr (propext this) (fun _ => rfl) (fun _ => rfl)
 ·rw [hc.nn] at v1
  exact ⟨m - v.toNat, by omega, by omega⟩
 ·obtain ⟨s, hs⟩ := get_of (l := n.Segments) (k := m - 1 - j) (by omega)
  obtain ⟨x, hx⟩ := get_of (l := p.Rates) (k := m - 1 - j) (by have := hp.rl; omega)
  obtain ⟨e1, _, e3⟩ := hp.ends hc hs hx h0
  rw [if_neg ha] at e3
  exact ⟨s, x, ⟨hs, hx, e1⟩, by rw [e3]; dsimp only; omega, by rw [e3]; dsimp only; omega⟩
end
theorem turned14 {f : List Piece} (hl : f.length ≤ 100000) : L.zyjz f = some f.reverse := by
 have : Ok (L.zyjz f) fun r => r = f.reverse := by
  unfold L.zyjz
  rw [wr_id (by omega)]
  refine .bind (Q := fun r => r = f.reverse) (.loop (fun st => ∃ k : Nat, k ≤ f.length ∧ st.2 = (k : Int) - 1 ∧ st.1 = (f.drop k).reverse) (fun st => (st.2 + 1).toNat) ⟨f.length, by omega, rfl, by simp⟩ (by dsimp only; omega) ?_) (by rintro _ rfl; exact .pure rfl)
  rintro ⟨o, i⟩ ⟨k, hk, h1, h2⟩
  dsimp only at h1 h2
  subst h1; subst h2
  unfold L.zyjz.B2
  refine Ok.iteD (fun h => ?_) fun h => .pure ?_
  ·dsimp only at h ⊢
   obtain ⟨j, rfl⟩ : ∃ j, k = j + 1 := ⟨k - 1, by omega⟩
   obtain ⟨x, hx⟩ := get_of (l := f) (k := j) (by omega)
   rw [show ((j + 1 : Nat) : Int) - 1 = (j : Int) by omega]
   refine .bind' (.eq (ix_nat hx) (.bind' (.app (by simp; omega) (.pure ⟨⟨j, by omega, ?_, ?_⟩, ?_⟩))))
   ·dsimp only; rw [wr_id (by omega)]
   ·dsimp only
    have hj := (gs hx).1
    have e : f.drop j = x :: f.drop (j + 1) := by
     rw [List.drop_eq_getElem_cons hj]; congr 1
     exact (gs hx).2
    rw [e]; simp
   ·dsimp only; rw [wr_id (by omega)]; omega
  ·dsimp only at h ⊢
   obtain rfl : k = 0 := by omega
   simp
 obtain ⟨r, h1, rfl⟩ := this
 exact h1
theorem split14 {f : List Piece} (hf : ∀ p, p ∈ f → 0 ≤ p.Volume) (hl : vol f ≤ 100000000) (hlen : f.length ≤ 100000) {m : Nat} (hm : m ≤ 100000000) : L.zewb f (m : Int) = some (rle ((lit f).take m), rle ((lit f).drop m)) := by
 have : Ok (L.zewb f (m : Int)) fun r => r = (rle ((lit f).take m), rle ((lit f).drop m)) := by
  unfold L.zewb
  refine .bind (Q := fun st : Int × List Piece × List Piece => (lit st.2.1 = (lit f).take m ∧ (∀ p, p ∈ st.2.1 → 0 ≤ p.Volume)) ∧ (lit st.2.2 = (lit f).drop m ∧ ∀ p, p ∈ st.2.2 → 0 ≤ p.Volume))
   (.forS (fun k st => st.1 = ((m - (lit (f.take k)).length : Nat) : Int) ∧ st.2.1.length = k ∧ st.2.2.length = k ∧ (lit st.2.1 = (lit (f.take k)).take m ∧ (∀ p, p ∈ st.2.1 → 0 ≤ p.Volume)) ∧ (lit st.2.2 = (lit (f.take k)).drop m ∧ ∀ p, p ∈ st.2.2 → 0 ≤ p.Volume))
    ⟨by simp [lit_nil], rfl, rfl, by simp [lit_nil], by simp [lit_nil]⟩ ?_ ?_) ?_
  ·rintro k x ⟨rem, a, b⟩ hx ⟨h0, ha, hb, ⟨h1, h1'⟩, h2, h2'⟩
   dsimp only at h0 ha hb h1 h1' h2 h2'
   subst h0
   have hx0 := hf x (mg hx)
   have hxv := vol_mem hf (mg hx)
   have hkl := (gs hx).1
   have hlk : lit (f.take (k + 1)) = lit (f.take k) ++ List.replicate x.Volume.toNat x.Batch := by
    rw [List.take_add_one, hx]; simp [lit_app, lit_one]
   unfold L.zewb.B2
   dsimp only
   refine .bind' (.app (by simp; omega) (.bind' (.app (by simp; omega) ?_)))
   unfold L.zewb.J3
   rw [wr_id (by omega), wr_id (by omega)]
   refine .pure ⟨?_, by simp [ha], by simp [hb], ⟨?_, ?_⟩, ?_, ?_⟩
   ·dsimp only; rw [hlk, List.length_append, List.length_replicate]; omega
   ·dsimp only; rw [lit_app, lit_one, h1, hlk, List.take_append]
    congr 1
    rw [List.take_replicate]; dsimp only; congr 1; omega
   ·intro p hp
    rcases List.mem_append.1 hp with hp | hp
    ·exact h1' p hp
    ·simp at hp; subst hp; dsimp only; omega
   ·dsimp only; rw [lit_app, lit_one, h2, hlk, List.drop_append]
    congr 1
    rw [List.drop_replicate]; dsimp only; congr 1; omega
   ·intro p hp
    rcases List.mem_append.1 hp with hp | hp
    ·exact h2' p hp
    ·simp at hp; subst hp; dsimp only; omega
  ·rintro ⟨_, a, b⟩ ⟨_, _, _, ⟨h1, h1'⟩, h2, h2'⟩
   rw [List.take_length] at h1 h2
   exact ⟨⟨h1, h1'⟩, h2, h2'⟩
  ·rintro ⟨_, a, b⟩ ⟨⟨h1, h1'⟩, h2, h2'⟩
   dsimp only at h1 h1' h2 h2'
   have hl' := lit_len hf
   have va := lit_len h1'
   have vb := lit_len h2'
   rw [h1, List.length_take] at va
   rw [h2, List.length_drop] at vb
   unfold L.zewb.J1
   dsimp only
   refine .bind' (.eq (joined_rle h1' (by omega)) (.bind' (.eq (joined_rle h2' (by omega)) (.pure ?_))))
   rw [h1, h2]
 obtain ⟨r, h1, rfl⟩ := this
 exact h1
theorem psh_ge (l : List Piece) (x : Piece) : l.length ≤ (psh l x).length := by
 rcases snoc_cases l with rfl | ⟨a, q, rfl⟩
 ·simp
 ·rw [psh_snoc]; split <;> simp
theorem rle_pre (X Y : List Int) : (rle X).length ≤ (rle (X ++ Y)).length := by
 induction Y using snoc_ind with
 | h0 => simp
 | h1 a x ih => rw [← List.append_assoc, rle_snoc]; have := psh_ge (rle (X ++ a)) ⟨x, 1⟩; omega
theorem rle_revl (X : List Int) : (rle X.reverse).length = (rle X).length := by rw [← rle_rev, List.length_reverse]
theorem rle_suf (X Y : List Int) : (rle Y).length ≤ (rle (X ++ Y)).length := by
 rw [← rle_revl Y, ← rle_revl (X ++ Y), List.reverse_append]; exact rle_pre _ _
theorem rle_add (X Y : List Int) : (rle (X ++ Y)).length ≤ (rle X).length + (rle Y).length := by
 have := rle_lit_len (f := rle X ++ rle Y) fun p hp => by
  rcases List.mem_append.1 hp with hp | hp
  ·have := (rle_can X).pos p hp; omega
  ·have := (rle_can Y).pos p hp; omega
 rw [lit_app, lit_rle, lit_rle, List.length_append] at this; exact this
theorem rle_replicate (v : Nat) (b : Int) : (rle (List.replicate v b)).length ≤ 1 := by
 cases v with
 | zero => simp [rle_nil]
 | succ v =>
  have := rle_rep [] b (v + 1) (by omega)
  rw [List.nil_append, rle_nil, psh_nil] at this
  rw [this]; simp
section
variable {n : Network} {p : Plan} {g od : List Int} {F0 : Nat → List Int} {m : Nat} {vs : Nat → Int} {sg : Nat → Nat} {r : Int} {ip op : Nat}
end
def up (R : Nat → List Int) (c : Nat) : Nat → List Int
 | 0 => []
 | m + 1 => R c ++ up R (c + 1) m
end Go.Proofs.YtaliejncdnegeaaGreat
