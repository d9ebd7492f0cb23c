/- Plain proofs. No condition. -/
import Derived.Test.YtmaamhgjeampmaaGreatYsB2
import Derived.Test.YtmaamhgjeampmaaGreatYsD
set_option maxRecDepth 100000
namespace Go.Aw
set_option linter.unusedVariables false
set_option linter.unusedSimpArgs false
def Ok {α : Type} (o : Option α) (P : α → Prop) : Prop := ∃ r, o = some r ∧ P r
section
variable {α β S B : Type}
theorem Ok.pure {x : α} {P : α → Prop} (h : P x) : Ok (some x) P := ⟨x, rfl, h⟩
theorem Ok.get {o : Option α} {P : α → Prop} (h : Ok o P) : ∃ r, o = some r ∧ P r := h
theorem Ok.mono {o : Option α} {P Q : α → Prop} (h : Ok o P) (k : ∀ x, P x → Q x) : Ok o Q := let ⟨r, h1, h2⟩ := h; ⟨r, h1, k r h2⟩
theorem Ok.bind {o : Option α} {f : α → Option β} {P : β → Prop} {Q : α → Prop} (h : Ok o Q) (k : ∀ x, Q x → Ok (f x) P) : Ok (o.bind f) P := by
 obtain ⟨r, rfl, hr⟩ := h; exact k r hr
theorem Ok.bind' {o : Option α} {f : α → Option β} {P : β → Prop} (h : Ok o fun x => Ok (f x) P) : Ok (o.bind f) P := h.bind fun _ k => k
theorem Ok.eq {o : Option α} {P : α → Prop} {x : α} (h : o = some x) (k : P x) : Ok o P := ⟨x, h, k⟩
theorem Ok.and {o : Option α} {P Q : α → Prop} (h : Ok o P) (k : Ok o Q) : Ok o fun x => P x ∧ Q x := by
 obtain ⟨r, rfl, hr⟩ := h; obtain ⟨r', h', hr'⟩ := k; cases h'; exact ⟨r, rfl, hr, hr'⟩
theorem Ok.map {o : Option α} {f : α → β} {P : β → Prop} (h : Ok o fun x => P (f x)) : Ok (o.map f) P := by
 obtain ⟨r, rfl, hr⟩ := h; exact ⟨_, rfl, hr⟩
theorem Ok.chk {p : Prop} [Decidable p] {P : Unit → Prop} (h : p) (k : P ()) : Ok (chk p) P := ⟨(), chk_eq h, k⟩
theorem Ok.ix {l : List α} {i : Int} {P : Nat × α → Prop} (k : Nat) (hi : i = (k : Int)) (hk : k < l.length) (h : P (k, l[k])) : Ok (ix l i) P := by
 subst hi; exact ⟨_, ix_nat (gq hk), h⟩
theorem Ok.ix' {l : List α} {i : Int} {P : Nat × α → Prop} (h0 : 0 ≤ i) (hk : i < (l.length : Int)) (h : ∀ (k : Nat) (x : α), i = (k : Int) → l[k]? = some x → P (k, x)) : Ok (Aw.ix l i) P := by
 obtain ⟨k, rfl⟩ : ∃ k : Nat, i = (k : Int) := ⟨i.toNat, by omega⟩
 have hk' : k < l.length := by omega
 exact ⟨_, ix_nat (gq hk'), h k _ rfl (gq hk')⟩
theorem Ok.app {l m : List α} {P : List α → Prop} (hl : l.length + m.length ≤ 68719476736) (h : P (l ++ m)) : Ok (app? l m) P := ⟨_, app?_eq hl, h⟩
theorem Ok.mk {n : Int} {z : α} {P : List α → Prop} (m : Nat) (hm : n = (m : Int)) (hl : m ≤ 68719476736) (h : P (List.replicate m z)) : Ok (mk? n z) P := by
 subst hm; exact ⟨_, mk?_eq z hl, h⟩
theorem Ok.quo {a b : Int} {P : Int → Prop} (hb : b ≠ 0) (h : P (wr (a.tdiv b))) : Ok (quo? a b) P := ⟨_, if_pos hb, h⟩
theorem Ok.rem {a b : Int} {P : Int → Prop} (hb : b ≠ 0) (h : P (a.tmod b)) : Ok (rem? a b) P := ⟨_, if_pos hb, h⟩
theorem Ok.sub {l : List α} {a b : Int} {P : List α → Prop} (x y : Nat) (ha : a = (x : Int)) (hb : b = (y : Int)) (hxy : x ≤ y) (hl : y ≤ l.length) (h : P ((l.drop x).take (y - x))) : Ok (sub? l a b) P := by
 subst ha; subst hb
 exact ⟨_, if_pos ⟨by omega, by omega, by omega⟩, by simpa using h⟩
theorem Ok.forS_from {f : Nat → α → S → Option S} (I : Nat → S → Prop) (l : List α) : ∀ (m : List α) (k : Nat), l.drop k = m → ∀ st, I k st →
  (∀ k x st, l[k]? = some x → I k st → Ok (f k x st) (I (k + 1))) → k ≤ l.length → Ok (forS f k m st) (I l.length)
 | [], k, hm, st, hi, _, hk => by
  have : l.length - k = 0 := by simpa using congrArg List.length hm
  have : k = l.length := by omega
  subst this; exact .pure hi
 | x :: m, k, hm, st, hi, hf, hk => by
  have hx : l[k]? = some x := by have := congrArg (fun z => z[0]?) hm; simpa using this
  have hm' : l.drop (k + 1) = m := by have := congrArg (List.drop 1) hm; simpa [Nat.add_comm] using this
  obtain ⟨s', h1, h2⟩ := hf k x st hx hi
  simp only [forS, h1]
  exact Ok.forS_from I l m (k + 1) hm' s' h2 hf (by have := (gs hx).1; omega)
theorem Ok.forS {f : Nat → α → S → Option S} {l : List α} {st : S} {P : S → Prop} (I : Nat → S → Prop) (h0 : I 0 st)
  (hf : ∀ k x st, l[k]? = some x → I k st → Ok (f k x st) (I (k + 1))) (hP : ∀ st, I l.length st → P st) : Ok (forS f 0 l st) P :=
 (Ok.forS_from I l l 0 rfl st h0 hf (Nat.zero_le _)).mono hP
theorem Ok.forL_from {f : Nat → α → S → Option (S ⊕ B)} (I : Nat → S → Prop) (R : B → Prop) (l : List α) : ∀ (m : List α) (k : Nat), l.drop k = m → ∀ st, I k st →
  (∀ k x st, l[k]? = some x → I k st → Ok (f k x st) (Sum.elim (fun s => I (k + 1) s) R)) → k ≤ l.length → Ok (forL f k m st) (Sum.elim (fun s => I l.length s) R)
 | [], k, hm, st, hi, _, hk => by
  have : l.length - k = 0 := by simpa using congrArg List.length hm
  have : k = l.length := by omega
  subst this; exact .pure hi
 | x :: m, k, hm, st, hi, hf, hk => by
  have hx : l[k]? = some x := by have := congrArg (fun z => z[0]?) hm; simpa using this
  have hm' : l.drop (k + 1) = m := by have := congrArg (List.drop 1) hm; simpa [Nat.add_comm] using this
  obtain ⟨s', h1, h2⟩ := hf k x st hx hi
  cases s' with
  | inl s' =>
   simp only [forL, h1]
   exact Ok.forL_from I R l m (k + 1) hm' s' h2 hf (by have := (gs hx).1; omega)
  | inr b => simp only [forL, h1]; exact .pure h2
theorem Ok.forL {f : Nat → α → S → Option (S ⊕ B)} {l : List α} {st : S} {P : S ⊕ B → Prop} (I : Nat → S → Prop) (R : B → Prop) (h0 : I 0 st)
  (hf : ∀ k x st, l[k]? = some x → I k st → Ok (f k x st) (Sum.elim (fun s => I (k + 1) s) R)) (hP : ∀ st, I l.length st → P (.inl st)) (hR : ∀ b, R b → P (.inr b)) : Ok (forL f 0 l st) P :=
 (Ok.forL_from I R l l 0 rfl st h0 hf (Nat.zero_le _)).mono fun x h => by cases x with | inl s => exact hP s h | inr b => exact hR b h
theorem Ok.forJ_from {f : Nat → S → Option S} (I : Nat → S → Prop) (n : Nat) : ∀ (m k : Nat), k + m = n → ∀ st, I k st →
  (∀ k st, k < n → I k st → Ok (f k st) (I (k + 1))) → Ok (forJ f k m st) (I n)
 | 0, k, hm, st, hi, _ => by have : k = n := (by omega); subst this; exact .pure hi
 | m + 1, k, hm, st, hi, hf => by
  obtain ⟨s', h1, h2⟩ := hf k st (by omega) hi
  simp only [forJ, h1]
  exact Ok.forJ_from I n m (k + 1) (by omega) s' h2 hf
theorem Ok.forJ {f : Nat → S → Option S} {n : Nat} {st : S} {P : S → Prop} (I : Nat → S → Prop) (h0 : I 0 st)
  (hf : ∀ k st, k < n → I k st → Ok (f k st) (I (k + 1))) (hP : ∀ st, I n st → P st) : Ok (forJ f 0 n st) P :=
 (Ok.forJ_from I n n 0 (by omega) st h0 hf).mono hP
theorem Ok.forI_from {f : Nat → S → Option (S ⊕ B)} (I : Nat → S → Prop) (R : B → Prop) (n : Nat) : ∀ (m k : Nat), k + m = n → ∀ st, I k st →
  (∀ k st, k < n → I k st → Ok (f k st) (Sum.elim (fun s => I (k + 1) s) R)) → Ok (forI f k m st) (Sum.elim (fun s => I n s) R)
 | 0, k, hm, st, hi, _ => by have : k = n := (by omega); subst this; exact .pure hi
 | m + 1, k, hm, st, hi, hf => by
  obtain ⟨s', h1, h2⟩ := hf k st (by omega) hi
  cases s' with
  | inl s' =>
   simp only [forI, h1]
   exact Ok.forI_from I R n m (k + 1) (by omega) s' h2 hf
  | inr b => simp only [forI, h1]; exact .pure h2
theorem Ok.forI {f : Nat → S → Option (S ⊕ B)} {n : Nat} {st : S} {P : S ⊕ B → Prop} (I : Nat → S → Prop) (R : B → Prop) (h0 : I 0 st)
  (hf : ∀ k st, k < n → I k st → Ok (f k st) (Sum.elim (fun s => I (k + 1) s) R)) (hP : ∀ st, I n st → P (.inl st)) (hR : ∀ b, R b → P (.inr b)) : Ok (forI f 0 n st) P :=
 (Ok.forI_from I R n n 0 (by omega) st h0 hf).mono fun x h => by cases x with | inl s => exact hP s h | inr b => exact hR b h
theorem Ok.loop_from {f : S → Option (S ⊕ B)} {P : B → Prop} (I : S → Prop) (μ : S → Nat) (hf : ∀ st, I st → Ok (f st) (Sum.elim (fun s => I s ∧ μ s < μ st) P)) :
  ∀ (n : Nat) (st : S), I st → μ st < n → Ok (loopN f n st) P
 | 0, st, _, h => absurd h (Nat.not_lt_zero _)
 | n + 1, st, hi, h => by
  obtain ⟨r, h1, h2⟩ := hf st hi
  cases r with
  | inl s =>
   simp only [loopN, h1]
   exact Ok.loop_from I μ hf n s h2.1 (by have := h2.2; omega)
  | inr b => simp only [loopN, h1]; exact .pure h2
theorem Ok.loop {f : S → Option (S ⊕ B)} {P : B → Prop} {st : S} (I : S → Prop) (μ : S → Nat) (h0 : I st) (hm : μ st < 18446744073709551616)
  (hf : ∀ st, I st → Ok (f st) (Sum.elim (fun s => I s ∧ μ s < μ st) P)) : Ok (loopN f lots st) P :=
 Ok.loop_from I μ hf _ st h0 hm
end
def dot : List Int → List Int → Int
 | w :: ws, x :: xs => w * x + dot ws xs
 | _, _ => 0
theorem dot_nil (w : List Int) : dot w [] = 0 := by cases w <;> rfl
theorem dot_zero (w : List Int) (n : Nat) : dot w (List.replicate n 0) = 0 := by
 induction n generalizing w with
 | zero => exact dot_nil w
 | succ n ih => cases w with
  | nil => rfl
  | cons a w => simp [List.replicate_succ, dot, ih]
theorem dot_set {w l : List Int} {k : Nat} {a x y : Int} (hw : w[k]? = some a) (hl : l[k]? = some x) : dot w (l.set k y) = dot w l + a * (y - x) := by
 induction w generalizing l k with
 | nil => simp at hw
 | cons b w ih =>
  cases l with
  | nil => simp at hl
  | cons z l =>
   cases k with
   | zero =>
    simp at hw hl
    subst hw; subst hl
    simp only [List.set_cons_zero, dot, Int.mul_sub]; omega
   | succ k =>
    simp at hw hl
    simp only [List.set_cons_succ, dot, ih hw hl]; omega
theorem dot_neg (w l : List Int) : dot w (l.map fun x => -x) = -dot w l := by
 induction w generalizing l with
 | nil => rfl
 | cons b w ih =>
  cases l with
  | nil => rfl
  | cons z l => simp only [List.map_cons, dot, ih, Int.mul_neg]; omega
theorem dot_take_succ {w l : List Int} {k : Nat} {a x : Int} (hw : w[k]? = some a) (hl : l[k]? = some x) : dot w (l.take (k + 1)) = dot w (l.take k) + a * x := by
 induction w generalizing l k with
 | nil => simp at hw
 | cons b w ih =>
  cases l with
  | nil => simp at hl
  | cons z l =>
   cases k with
   | zero => simp at hw hl; subst hw; subst hl; simp [dot, dot_nil]
   | succ k =>
    simp at hw hl
    simp only [List.take_succ_cons, dot, ih hw hl]; omega
theorem get_set {α : Type} {l : List α} {k i : Nat} {x : α} : (l.set k x)[i]? = if k = i ∧ i < l.length then some x else l[i]? := by
 rw [List.getElem?_set]
 by_cases h : k = i
 ·subst h
  by_cases h2 : k < l.length
  ·simp [h2]
  ·simp [h2]
 ·simp [h]
theorem inj_some {a b : Nat} (h : some (a : Int) = some (b : Int)) : a = b := Int.ofNat.inj (Option.some.inj h)
inductive Rep (u : List Int) : Nat → Nat → Nat → Prop
 | root {k : Nat} : u[k]? = some (k : Int) → Rep u 0 k k
 | step {k j m r : Nat} : u[k]? = some (j : Int) → k ≠ j → Rep u m j r → Rep u (m + 1) k r
theorem Rep.det {u : List Int} {m k r : Nat} (h : Rep u m k r) : ∀ {m' r' : Nat}, Rep u m' k r' → m = m' ∧ r = r' := by
 induction h with
 | root h =>
  intro m' r' h'
  cases h' with
  | root _ => exact ⟨rfl, rfl⟩
  | step h1 h2 _ => rw [h] at h1; have := inj_some h1; omega
 | step h1 h2 h3 ih =>
  intro m' r' h'
  cases h' with
  | root h => rw [h] at h1; have := inj_some h1; omega
  | step h4 h5 h6 =>
   rw [h1] at h4; have h4 := inj_some h4
   subst h4
   obtain ⟨rfl, rfl⟩ := ih h6
   exact ⟨rfl, rfl⟩
theorem Rep.halve {u : List Int} {k j i : Nat} (hk : u[k]? = some (j : Int)) (hne : k ≠ j) (hj : u[j]? = some (i : Int)) :
  ∀ (m x r : Nat), Rep u m x r → ∃ m', m' ≤ m ∧ Rep (u.set k (i : Int)) m' x r := by
 intro m
 induction m using Nat.strongRecOn with
 | ind m ih =>
  intro x r h
  have hkl : k < u.length := (gs hk).1
  cases h with
  | root h =>
   refine ⟨0, Nat.le_refl _, .root ?_⟩
   rw [List.getElem?_set]
   by_cases hx : k = x
   ·subst hx; rw [h] at hk; have := inj_some hk; omega
   ·simp [hx, h]
  | @step _ y m' _ h1 h2 h3 =>
   by_cases hx : k = x
   ·subst hx
    rw [hk] at h1; have h1 := inj_some h1
    subst h1
    cases h3 with
    | root h4 =>
     rw [hj] at h4; have h4 := inj_some h4
     subst h4
     obtain ⟨m2, hm2, hr2⟩ := ih 0 (by omega) i i (.root hj)
     have : m2 = 0 := by omega
     subst this
     exact ⟨1, by omega, .step (by simp [hkl]) h2 hr2⟩
    | @step _ z m'' _ h4 h5 h6 =>
     rw [hj] at h4; have h4 := inj_some h4
     subst h4
     have hki : k ≠ i := by
      rintro rfl
      have := (Rep.det h6 (.step hk hne (.step hj h5 h6))).1
      omega
     obtain ⟨m2, hm2, hr2⟩ := ih m'' (by omega) i r h6
     exact ⟨m2 + 1, by omega, .step (by simp [hkl]) hki hr2⟩
   ·obtain ⟨m2, hm2, hr2⟩ := ih m' (by omega) y r h3
    exact ⟨m2 + 1, by omega, .step (by rw [List.getElem?_set]; simp [hx, h1]) h2 hr2⟩
structure Uni (n : Nat) (u : List Int) (d : Nat) (ρ : Nat → Nat) : Prop where
 len : u.length = n
 lt : ∀ k, k < n → ρ k < n
 rep : ∀ k, k < n → ∃ m, m ≤ d ∧ Rep u m k (ρ k)
theorem Uni.at_ {n d : Nat} {u : List Int} {ρ : Nat → Nat} (h : Uni n u d ρ) {k : Nat} (hk : k < n) : ∃ j : Nat, u[k]? = some (j : Int) ∧ j < n ∧ ρ j = ρ k := by
 obtain ⟨m, _, hr⟩ := h.rep k hk
 generalize he : ρ k = r at hr
 cases hr with
 | root h1 => exact ⟨k, h1, hk, he⟩
 | @step _ j _ _ h1 h2 h3 =>
  have hj : j < n := by
   rw [← h.len]
   cases h3 with
   | root h => exact (gs h).1
   | step h _ _ => exact (gs h).1
  refine ⟨j, h1, hj, ?_⟩
  obtain ⟨m', _, hr'⟩ := h.rep j hj
  exact (hr'.det h3).2
theorem Uni.halve {n d : Nat} {u : List Int} {ρ : Nat → Nat} (h : Uni n u d ρ) {k j i : Nat} (hk : u[k]? = some (j : Int)) (hne : k ≠ j) (hj : u[j]? = some (i : Int)) :
  Uni n (u.set k (i : Int)) d ρ :=
 ⟨by simp [h.len], h.lt, fun x hx => let ⟨m, h1, h2⟩ := h.rep x hx; let ⟨m', h3, h4⟩ := Rep.halve hk hne hj m x _ h2; ⟨m', by omega, h4⟩⟩
theorem Uni.step {n d : Nat} {u : List Int} {ρ : Nat → Nat} (h : Uni n u d ρ) {k j i m : Nat} (hk : u[k]? = some (j : Int)) (hne : k ≠ j) (hj : u[j]? = some (i : Int)) (hr : Rep u m k (ρ k)) :
  ∃ m', m' < m ∧ Rep (u.set k (i : Int)) m' i (ρ i) ∧ ρ i = ρ k := by
 have hj' : j < n := by rw [← h.len]; exact (gs hj).1
 have hk' : k < n := by rw [← h.len]; exact (gs hk).1
 obtain ⟨y, e1, hy, e2⟩ := h.at_ hj'
 obtain ⟨y2, e3, hy2, e4⟩ := h.at_ hk'
 rw [hj] at e1; have e1 := inj_some e1; subst e1
 rw [hk] at e3; have e3 := inj_some e3; subst e3
 have hik : ρ i = ρ k := by rw [e2, e4]
 generalize ρ k = r at hr hik
 cases hr with
 | root h1 => rw [h1] at hk; have := inj_some hk; omega
 | @step _ y m1 _ h1 h2 h3 =>
  rw [hk] at h1; have h1 := inj_some h1
  subst h1
  have : ∃ m2, m2 ≤ m1 ∧ Rep u m2 i r := by
   cases h3 with
   | root h4 => rw [hj] at h4; have h4 := inj_some h4; exact ⟨0, by omega, by rw [h4]; rw [h4] at hj; exact .root hj⟩
   | step h4 h5 h6 => rw [hj] at h4; have h4 := inj_some h4; subst h4; exact ⟨_, by omega, h6⟩
  obtain ⟨m2, h4, h5⟩ := this
  obtain ⟨m3, h6, h7⟩ := Rep.halve hk hne hj m2 i _ h5
  exact ⟨m3, by omega, by rw [hik]; exact h7, hik⟩
inductive Conn (R : Nat → Nat → Prop) : Nat → Nat → Prop
 | refl (x : Nat) : Conn R x x
 | edge {x y : Nat} : R x y → Conn R x y
 | symm {x y : Nat} : Conn R x y → Conn R y x
 | trans {x y z : Nat} : Conn R x y → Conn R y z → Conn R x z
theorem Conn.mono {R R' : Nat → Nat → Prop} (h : ∀ x y, R x y → Conn R' x y) {x y : Nat} (c : Conn R x y) : Conn R' x y := by
 induction c with
 | refl x => exact .refl x
 | edge e => exact h _ _ e
 | symm _ ih => exact ih.symm
 | trans _ _ i1 i2 => exact i1.trans i2
end Go.Aw
namespace Go.Proofs.YtmaamhgjeampmaaGreat
set_option linter.unusedVariables false
set_option linter.unusedSimpArgs false
open Go.Aw
abbrev Src := KS
structure SrcOk (s : Src) : Prop where
 at0 : 0 ≤ s.At
 at1 : s.At ≤ (s.L_.length : Int)
 len : s.L_.length ≤ 2000
theorem Ok.iteD {α : Type} {c : Prop} [Decidable c] {a b : Option α} {P : α → Prop} (h1 : c → Ok a P) (h2 : ¬ c → Ok b P) : Ok (if decide c = true then a else b) P := by
 by_cases hc : c
 ·rw [if_pos (by simp [hc])]; exact h1 hc
 ·rw [if_neg (by simp [hc])]; exact h2 hc
theorem Ok.iteB {α : Type} {c : Bool} {a b : Option α} {P : α → Prop} (h1 : c = true → Ok a P) (h2 : c = false → Ok b P) : Ok (if c = true then a else b) P := by
 cases c
 ·rw [if_neg (by simp)]; exact h2 rfl
 ·rw [if_pos rfl]; exact h1 rfl
theorem Ok.iteN {α : Type} {c : Bool} {a b : Option α} {P : α → Prop} (h1 : c = false → Ok a P) (h2 : c = true → Ok b P) : Ok (if (!c) = true then a else b) P := by
 cases c
 ·exact h1 rfl
 ·exact h2 rfl
theorem Ok.iteE {α : Type} {x y : Int} {a b : Option α} {P : α → Prop} (h1 : x = y → Ok a P) (h2 : x ≠ y → Ok b P) : Ok (if (x == y) = true then a else b) P := by
 by_cases h : x = y
 ·rw [if_pos (by simp [h])]; exact h1 h
 ·rw [if_neg (by simp [h])]; exact h2 h
theorem Ok.iteU {α : Type} {x y : Int} {a b : Option α} {P : α → Prop} (h1 : x ≠ y → Ok a P) (h2 : x = y → Ok b P) : Ok (if (x != y) = true then a else b) P := by
 by_cases h : x = y
 ·rw [if_neg (by simp [h])]; exact h2 h
 ·rw [if_pos (by simp [h])]; exact h1 h
theorem mod_ok (x : Int) {n : Int} (h1 : 1 ≤ n) (h2 : n ≤ 9223372036854775807) : Ok (L.zbjp x n) fun r => 0 ≤ r ∧ r < n := by
 unfold L.zbjp L.zbjp.J1
 have ha := Int.tmod_lt_of_pos x (show 0 < n by omega)
 have hb : -n < x.tmod n := by
  have := Int.tmod_lt_of_pos (-x) (show 0 < n by omega)
  rw [Int.neg_tmod] at this; omega
 refine Ok.iteD (fun h => by omega) fun _ => .bind' (.rem (by omega) ?_)
 refine Ok.iteD (fun h => .pure ?_) (fun h => .pure ?_)
 ·rw [wr_id (by omega)]; omega
 ·omega
theorem new_ok (l : List Int) : Ok (L.ziti l) SrcOk := by
 unfold L.ziti
 refine .bind' (.sub 0 (min l.length 2000) rfl (by omega) (by omega) (by omega) (.pure ?_))
 exact ⟨Int.le_refl _, by simp, by simp; omega⟩
theorem raw_ok {s : Src} (h : SrcOk s) : Ok (L.zxpl s) fun r => SrcOk r.2 := by
 obtain ⟨h1, h2, h3⟩ := h
 unfold L.zxpl
 refine Ok.iteD (fun _ => .pure ⟨h1, h2, h3⟩) fun h => ?_
 simp (disch := omega) only [wr_id]
 refine .bind' (.ix' (by omega) (by omega) fun k x _ _ => .pure ⟨by dsimp only; omega, by dsimp only; omega, h3⟩)
theorem n_ok {s : Src} (h : SrcOk s) {n : Int} (h1 : 1 ≤ n) (h2 : n ≤ 9223372036854775807) : Ok (L.zdjb s n) fun r => SrcOk r.2 ∧ 0 ≤ r.1 ∧ r.1 < n := by
 unfold L.zdjb
 exact .bind (raw_ok h) fun x hx => .bind (mod_ok _ h1 h2) fun y hy => .pure ⟨hx, hy⟩
theorem range_ok {s : Src} (h : SrcOk s) {lo hi : Int} (h1 : lo ≤ hi) (h2 : -1000000000 ≤ lo) (h3 : hi ≤ 1000000000) : Ok (L.ziuk s lo hi) fun r => SrcOk r.2 ∧ lo ≤ r.1 ∧ r.1 ≤ hi := by
 unfold L.ziuk
 simp (disch := omega) only [wr_id]
 refine .bind (n_ok h (by omega) (by omega)) fun x hx => .pure ⟨hx.1, ?_⟩
 dsimp only
 rw [wr_id (by omega)]; omega
theorem pick_ok {s : Src} (h : SrcOk s) {l : List Int} (h1 : 1 ≤ l.length) (h2 : l.length ≤ 1000) : Ok (L.ztqk s l) fun r => SrcOk r.2 ∧ r.1 ∈ l := by
 unfold L.ztqk
 refine .bind (n_ok h (by omega) (by omega)) fun x hx => .bind' (.ix' hx.2.1 hx.2.2 fun k y _ hy => .pure ⟨hx.1, mg hy⟩)
def nm (c : UInt8) (k : Nat) : ByteArray := ⟨#[c, 97 + UInt8.ofNat k]⟩
theorem name_ok {c : UInt8} {k : Nat} (hk : k < 26) : L.zeyi ⟨#[c]⟩ (k : Int) = some (nm c k) := by
 unfold L.zeyi
 have hm : ((k : Int).tmod 26) = (k : Int) := by rw [Int.tmod_eq_emod_of_nonneg (by omega)]; omega
 rw [hm, wr_id (by omega)]
 have : k = 0 ∨ k = 1 ∨ k = 2 ∨ k = 3 ∨ k = 4 ∨ k = 5 ∨ k = 6 ∨ k = 7 ∨ k = 8 ∨ k = 9 ∨ k = 10 ∨ k = 11 ∨ k = 12 ∨ k = 13 ∨ k = 14 ∨ k = 15 ∨ k = 16 ∨ k = 17 ∨ k = 18 ∨ k = 19 ∨ k = 20 ∨ k = 21 ∨ k = 22 ∨ k = 23 ∨ k = 24 ∨ k = 25 := by omega
 rcases this with rfl | rfl | rfl | rfl | rfl | rfl | rfl | rfl | rfl | rfl | rfl | rfl | rfl | rfl | rfl | rfl | rfl | rfl | rfl | rfl | rfl | rfl | rfl | rfl | rfl | rfl <;> rfl
structure PointsOk (cap : Int) (l : List Point) : Prop where
 len : 2 ≤ l.length ∧ l.length ≤ 8
 first : ∀ p, l[0]? = some p → p.At = 0
 last : ∀ p, l[l.length - 1]? = some p → p.At = cap
 up : ∀ i p q, l[i]? = some p → l[i + 1]? = some q → p.At < q.At
 height : ∀ p, p ∈ l → -500 ≤ p.Height ∧ p.Height ≤ 5000
 limit : ∀ p, p ∈ l → 0 ≤ p.Limit ∧ p.Limit ≤ 100000000
structure SegOk (nodes k : Nat) (s : Segment) : Prop where
 name : s.Name = nm 103 k
 ends : 0 ≤ s.From ∧ s.From < (nodes : Int) ∧ 0 ≤ s.To ∧ s.To < (nodes : Int) ∧ s.From ≠ s.To
 cap : 1 ≤ s.Capacity ∧ s.Capacity ≤ 1000
 resist : 0 ≤ s.Resist ∧ s.Resist ≤ 1000
 wave : 0 ≤ s.Wave ∧ s.Wave ≤ 100000
 points : PointsOk s.Capacity s.Points
structure PortOk (nodes k : Nat) (p : Port) : Prop where
 name : p.Name = nm 113 k
 node : 0 ≤ p.Node ∧ p.Node < (nodes : Int)
 pressure : 0 ≤ p.Pressure ∧ p.Pressure ≤ 100000000
structure StOk (nodes k : Nat) (p : Station) : Prop where
 name : p.Name = nm 115 k
 node : 0 ≤ p.Node ∧ p.Node < (nodes : Int)
 head : 0 ≤ p.Head ∧ p.Head ≤ 2000000
 fall : 0 ≤ p.Fall ∧ p.Fall ≤ 100000
 suction : 0 ≤ p.Suction ∧ p.Suction ≤ 400000
structure NetOk (n : Network) : Prop where
 nodes : 2 ≤ n.Nodes.length ∧ n.Nodes.length ≤ 6
 names : ∀ k x, n.Nodes[k]? = some x → x = nm 110 k
 segs1 : n.Nodes.length - 1 ≤ n.Segments.length ∧ n.Segments.length ≤ 8
 segs : ∀ k s, n.Segments[k]? = some s → SegOk n.Nodes.length k s
 ports1 : 2 ≤ n.Ports.length ∧ n.Ports.length ≤ 6
 ports : ∀ k s, n.Ports[k]? = some s → PortOk n.Nodes.length k s
 portsUp : ∀ (i j : Nat) (p q : Port), i < j → n.Ports[i]? = some p → n.Ports[j]? = some q → p.Node < q.Node
 sts1 : n.Stations.length ≤ 6
 sts : ∀ k s, n.Stations[k]? = some s → StOk n.Nodes.length k s
 stsUp : ∀ (i j : Nat) (p q : Station), i < j → n.Stations[i]? = some p → n.Stations[j]? = some q → p.Node < q.Node
 vapour : -100000 ≤ n.Vapour ∧ n.Vapour ≤ 50000
 settle : 0 ≤ n.Settle ∧ n.Settle ≤ 100
structure PInv (l : List Point) (at_ : Int) : Prop where
 len : 1 ≤ l.length
 first : ∀ p, l[0]? = some p → p.At = 0
 last : ∀ p, l[l.length - 1]? = some p → p.At = at_
 up : ∀ i p q, l[i]? = some p → l[i + 1]? = some q → p.At < q.At
 height : ∀ p, p ∈ l → -500 ≤ p.Height ∧ p.Height ≤ 5000
 limit : ∀ p, p ∈ l → 0 ≤ p.Limit ∧ p.Limit ≤ 100000000
theorem PInv.append {l : List Point} {at_ : Int} (h : PInv l at_) {p : Point} (h1 : at_ < p.At) (h2 : -500 ≤ p.Height ∧ p.Height ≤ 5000) (h3 : 0 ≤ p.Limit ∧ p.Limit ≤ 100000000) : PInv (l ++ [p]) p.At := by
 have hl := h.len
 refine ⟨by simp, fun q hq => h.first q ?_, fun q hq => ?_, fun i a b ha hb => ?_, fun q hq => ?_, fun q hq => ?_⟩
 ·rw [List.getElem?_append_left (by omega)] at hq; exact hq
 ·rw [List.getElem?_append_right (by simp)] at hq; simp at hq; rw [hq]
 ·rw [List.getElem?_append] at ha hb
  split at hb
  ·rw [if_pos (by omega)] at ha; exact h.up i a b ha hb
  ·rename_i hi
   have hb' := (gs hb).1
   simp at hb'
   have : i + 1 = l.length := by omega
   rw [if_pos (by omega)] at ha
   have h4 := h.last a (by rw [show l.length - 1 = i by omega]; exact ha)
   simp [this] at hb
   rw [← hb]; omega
 ·rcases List.mem_append.1 hq with hq | hq
  ·exact h.height q hq
  ·simp at hq; subst hq; exact h2
 ·rcases List.mem_append.1 hq with hq | hq
  ·exact h.limit q hq
  ·simp at hq; subst hq; exact h3
theorem PInv.done {l : List Point} {at_ : Int} (h : PInv l at_) (h1 : 2 ≤ l.length ∧ l.length ≤ 8) : PointsOk at_ l := ⟨h1, h.first, h.last, h.up, h.height, h.limit⟩
theorem nat_of {n : Int} (h : 0 ≤ n) : ∃ k : Nat, n = (k : Int) := ⟨n.toNat, by omega⟩
theorem seg_ok {s : Src} (hs : SrcOk s) {nodes k : Nat} (hk : k < 26) {a b : Int} (ha : 0 ≤ a ∧ a < (nodes : Int)) (hb : 0 ≤ b ∧ b < (nodes : Int)) (hab : a ≠ b) :
  Ok (L.zsex s (k : Int) a b) fun r => SegOk nodes k r.1 ∧ SrcOk r.2 := by
 have main : ∀ (j : List Int × Int × Int × Int), SrcOk ⟨j.1, j.2.1⟩ → 0 ≤ j.2.2.1 ∧ j.2.2.1 < (nodes : Int) → 0 ≤ j.2.2.2 ∧ j.2.2.2 < (nodes : Int) → j.2.2.1 ≠ j.2.2.2 →
   Ok (L.zsex.J1 (k : Int) j) fun r => SegOk nodes k r.1 ∧ SrcOk r.2 := by
  intro j hs h1 h2 h3
  unfold L.zsex.J1
  refine .bind' (.eq (name_ok hk) ?_)
  refine .bind (pick_ok hs (by decide) (by decide)) fun r11 h11 => ?_
  refine .bind (pick_ok h11.1 (by decide) (by decide)) fun r14 h14 => ?_
  refine .bind (pick_ok h14.1 (by decide) (by decide)) fun r17 h17 => ?_
  refine .bind (pick_ok h17.1 (by decide) (by decide)) fun r22 h22 => ?_
  refine .bind (range_ok h22.1 (by decide) (by decide) (by decide)) fun r25 h25 => ?_
  have c11 := h11.2; have c14 := h14.2; have c17 := h17.2; have c22 := h22.2
  simp only [List.mem_cons, List.not_mem_nil, or_false] at c11 c14 c17 c22
  refine .bind' (.app (by simp) ?_)
  refine .bind (Q := fun d : List Int × Int × List Point => SrcOk ⟨d.1, d.2.1⟩ ∧ ∃ at_, PInv d.2.2 at_ ∧ at_ < r11.1 ∧ d.2.2.length ≤ 7) ?_ ?_
  ·refine .loop (fun st => SrcOk ⟨st.1, st.2.1⟩ ∧ PInv st.2.2.1 st.2.2.2 ∧ 0 ≤ st.2.2.2 ∧ st.2.2.2 < r11.1 ∧ st.2.2.1.length ≤ 7) (fun st => 7 - st.2.2.1.length)
    ⟨h25.1, ⟨by simp, by simp, by simp, by simp, by simp; omega, by simp; omega⟩, by simp, by simp; omega, by simp⟩ (by dsimp only; omega) ?_
   rintro ⟨L_, At, pts, at_⟩ ⟨i1, i2, i3, i4, i5⟩
   dsimp only at i1 i2 i3 i4 i5 ⊢
   have j4 : ∀ (x : List Int × Int × Bool), SrcOk ⟨x.1, x.2.1⟩ → (x.2.2 = true → pts.length < 7) → Ok (L.zsex.J4 r11 r22 (L_, At, pts, at_) x) (Sum.elim (fun st => (SrcOk ⟨st.1, st.2.1⟩ ∧ PInv st.2.2.1 st.2.2.2 ∧ 0 ≤ st.2.2.2 ∧ st.2.2.2 < r11.1 ∧ st.2.2.1.length ≤ 7) ∧ 7 - st.2.2.1.length < 7 - pts.length) fun d => SrcOk ⟨d.1, d.2.1⟩ ∧ ∃ at_, PInv d.2.2 at_ ∧ at_ < r11.1 ∧ d.2.2.length ≤ 7) := by
    intro x hx hl
    unfold L.zsex.J4
    refine Ok.iteB (fun hb => ?_) fun _ => .pure ⟨hx, at_, i2, i4, i5⟩
    have hl := hl hb
    refine .bind (range_ok hx (by decide) (by decide) (by decide)) fun r197 h197 => ?_
    dsimp only
    rw [wr_id (by omega)]
    refine Ok.iteD (fun _ => .pure ⟨h197.1, at_, i2, i4, i5⟩) fun hlt => ?_
    refine .bind (range_ok h197.1 (by decide) (by decide) (by decide)) fun r201 h201 => ?_
    refine .bind (pick_ok h201.1 (by decide) (by decide)) fun r204 h204 => ?_
    have c204 := h204.2
    simp only [List.mem_cons, List.not_mem_nil, or_false] at c204
    refine .bind (n_ok h204.1 (by decide) (by decide)) fun r206 h206 => ?_
    refine .bind' (.app (by simp; omega) (.pure ⟨⟨h206.1, ?_, by dsimp only; omega, by dsimp only; omega, by simp; omega⟩, by simp; omega⟩))
    have hh : -50 ≤ r201.1 * r204.1 ∧ r201.1 * r204.1 ≤ 600 := by
     rcases c204 with h | h | h <;> rw [h] <;> omega
    refine i2.append ?_ ?_ ?_ <;> simp (disch := omega) only [wr_id] <;> omega
   unfold L.zsex.B3
   refine Ok.iteD (fun h => ?_) fun h => ?_
   ·refine .bind (n_ok i1 (by decide) (by decide)) fun r213 h213 => j4 (_, _, _) h213.1 fun _ => by dsimp only at h; omega
   ·exact j4 (_, _, _) i1 (by simp)
  ·rintro ⟨dl, da, dp⟩ ⟨hd, at_, hp, hlt, hlen⟩
   dsimp only at hd hp hlen
   unfold L.zsex.J2
   refine .bind (range_ok hd (by decide) (by decide) (by decide)) fun r106 h106 => ?_
   have h1l := hp.len
   refine .bind' (.app (by simp; omega) (.pure ⟨⟨rfl, ⟨h1.1, h1.2, h2.1, h2.2, h3⟩, by dsimp only; omega, by dsimp only; omega, by dsimp only; omega, ?_⟩, h106.1⟩))
   exact (hp.append (p := ⟨r11.1, r106.1, r22.1⟩) hlt (by dsimp only; omega) (by dsimp only; omega)).done (by simp; omega)
 unfold L.zsex
 refine .bind (n_ok hs (by decide) (by decide)) fun r hr => ?_
 exact Ok.iteE (fun _ => main _ hr.1 hb ha (Ne.symm hab)) fun _ => main _ hr.1 ha hb hab
theorem indexFunc_int_int {s : List Int} {g : Int → Option Bool} {P : Int → Bool} (hg : ∀ (k : Nat) (x : Int), s[k]? = some x → g x = some (P x)) :
  Ok (L.zapw s g) fun r => (r = -1 ∧ ∀ (j : Nat) (y : Int), s[j]? = some y → P y = false) ∨ ∃ (k : Nat) (x : Int), r = (k : Int) ∧ s[k]? = some x ∧ P x = true ∧ ∀ (j : Nat) (y : Int), j < k → s[j]? = some y → P y = false := by
 unfold L.zapw
 refine .bind' (.forL (fun k _ => ∀ (j : Nat) (y : Int), j < k → s[j]? = some y → P y = false) (fun r => ∃ (k : Nat) (x : Int), r = (k : Int) ∧ s[k]? = some x ∧ P x = true ∧ ∀ (j : Nat) (y : Int), j < k → s[j]? = some y → P y = false) (fun j y h => absurd h (Nat.not_lt_zero _)) ?_ ?_ ?_)
 ·intro k x _ hx hi
  unfold L.zapw.B2
  refine .bind' (.eq (hg k x hx) (Ok.iteB (fun hp => .pure ⟨k, x, rfl, hx, hp, hi⟩) fun hp => .pure fun j y hj hy => ?_))
  by_cases h : j < k
  ·exact hi j y h hy
  ·have : j = k := by omega
   subst this
   rw [hx] at hy; simp at hy; subst hy; exact hp
 ·intro _ hi
  simp only [Sum.elim_inl]
  unfold L.zapw.J1
  exact .pure (.inl ⟨rfl, fun j y hy => hi j y (gs hy).1 hy⟩)
 ·intro b hb
  exact .pure (.inr hb)
theorem containsFunc_int_int {s : List Int} {g : Int → Option Bool} {P : Int → Bool} (hg : ∀ (k : Nat) (x : Int), s[k]? = some x → g x = some (P x)) :
  L.zvoj s g = some (s.any P) := by
 have : Ok (L.zvoj s g) fun r => r = s.any P := by
  unfold L.zvoj
  refine .bind (indexFunc_int_int hg) fun r hr => .pure ?_
  rcases hr with ⟨rfl, h⟩ | ⟨k, x, rfl, hx, hp, _⟩
  ·have : s.any P = false := by
    rw [List.any_eq_false]
    intro x hx
    obtain ⟨j, hj⟩ := List.getElem?_of_mem hx
    rw [h j x hj]; simp
   rw [this]; rfl
  ·have : s.any P = true := List.any_eq_true.2 ⟨x, mg hx, hp⟩
   rw [this]; simp
 obtain ⟨r, h, rfl⟩ := this
 exact h
theorem indexFunc_string_string {s : List ByteArray} {g : ByteArray → Option Bool} {P : ByteArray → Bool} (hg : ∀ (k : Nat) (x : ByteArray), s[k]? = some x → g x = some (P x)) :
  Ok (L.zqyu s g) fun r => (r = -1 ∧ ∀ (j : Nat) (y : ByteArray), s[j]? = some y → P y = false) ∨ ∃ (k : Nat) (x : ByteArray), r = (k : Int) ∧ s[k]? = some x ∧ P x = true ∧ ∀ (j : Nat) (y : ByteArray), j < k → s[j]? = some y → P y = false := by
 unfold L.zqyu
 refine .bind' (.forL (fun k _ => ∀ (j : Nat) (y : ByteArray), j < k → s[j]? = some y → P y = false) (fun r => ∃ (k : Nat) (x : ByteArray), r = (k : Int) ∧ s[k]? = some x ∧ P x = true ∧ ∀ (j : Nat) (y : ByteArray), j < k → s[j]? = some y → P y = false) (fun j y h => absurd h (Nat.not_lt_zero _)) ?_ ?_ ?_)
 ·intro k x _ hx hi
  unfold L.zqyu.B2
  refine .bind' (.eq (hg k x hx) (Ok.iteB (fun hp => .pure ⟨k, x, rfl, hx, hp, hi⟩) fun hp => .pure fun j y hj hy => ?_))
  by_cases h : j < k
  ·exact hi j y h hy
  ·have : j = k := by omega
   subst this
   rw [hx] at hy; simp at hy; subst hy; exact hp
 ·intro _ hi
  simp only [Sum.elim_inl]
  unfold L.zqyu.J1
  exact .pure (.inl ⟨rfl, fun j y hy => hi j y (gs hy).1 hy⟩)
 ·intro b hb
  exact .pure (.inr hb)
theorem containsFunc_string_string {s : List ByteArray} {g : ByteArray → Option Bool} {P : ByteArray → Bool} (hg : ∀ (k : Nat) (x : ByteArray), s[k]? = some x → g x = some (P x)) :
  L.zmkj s g = some (s.any P) := by
 have : Ok (L.zmkj s g) fun r => r = s.any P := by
  unfold L.zmkj
  refine .bind (indexFunc_string_string hg) fun r hr => .pure ?_
  rcases hr with ⟨rfl, h⟩ | ⟨k, x, rfl, hx, hp, _⟩
  ·have : s.any P = false := by
    rw [List.any_eq_false]
    intro x hx
    obtain ⟨j, hj⟩ := List.getElem?_of_mem hx
    rw [h j x hj]; simp
   rw [this]; rfl
  ·have : s.any P = true := List.any_eq_true.2 ⟨x, mg hx, hp⟩
   rw [this]; simp
 obtain ⟨r, h, rfl⟩ := this
 exact h
theorem indexFunc_api_Segment_api_Segment {s : List Segment} {g : Segment → Option Bool} {P : Segment → Bool} (hg : ∀ (k : Nat) (x : Segment), s[k]? = some x → g x = some (P x)) :
  Ok (L.zbuy s g) fun r => (r = -1 ∧ ∀ (j : Nat) (y : Segment), s[j]? = some y → P y = false) ∨ ∃ (k : Nat) (x : Segment), r = (k : Int) ∧ s[k]? = some x ∧ P x = true ∧ ∀ (j : Nat) (y : Segment), j < k → s[j]? = some y → P y = false := by
 unfold L.zbuy
 refine .bind' (.forL (fun k _ => ∀ (j : Nat) (y : Segment), j < k → s[j]? = some y → P y = false) (fun r => ∃ (k : Nat) (x : Segment), r = (k : Int) ∧ s[k]? = some x ∧ P x = true ∧ ∀ (j : Nat) (y : Segment), j < k → s[j]? = some y → P y = false) (fun j y h => absurd h (Nat.not_lt_zero _)) ?_ ?_ ?_)
 ·intro k x _ hx hi
  unfold L.zbuy.B2
  refine .bind' (.eq (hg k x hx) (Ok.iteB (fun hp => .pure ⟨k, x, rfl, hx, hp, hi⟩) fun hp => .pure fun j y hj hy => ?_))
  by_cases h : j < k
  ·exact hi j y h hy
  ·have : j = k := by omega
   subst this
   rw [hx] at hy; simp at hy; subst hy; exact hp
 ·intro _ hi
  simp only [Sum.elim_inl]
  unfold L.zbuy.J1
  exact .pure (.inl ⟨rfl, fun j y hy => hi j y (gs hy).1 hy⟩)
 ·intro b hb
  exact .pure (.inr hb)
theorem containsFunc_api_Segment_api_Segment {s : List Segment} {g : Segment → Option Bool} {P : Segment → Bool} (hg : ∀ (k : Nat) (x : Segment), s[k]? = some x → g x = some (P x)) :
  L.zwuu s g = some (s.any P) := by
 have : Ok (L.zwuu s g) fun r => r = s.any P := by
  unfold L.zwuu
  refine .bind (indexFunc_api_Segment_api_Segment hg) fun r hr => .pure ?_
  rcases hr with ⟨rfl, h⟩ | ⟨k, x, rfl, hx, hp, _⟩
  ·have : s.any P = false := by
    rw [List.any_eq_false]
    intro x hx
    obtain ⟨j, hj⟩ := List.getElem?_of_mem hx
    rw [h j x hj]; simp
   rw [this]; rfl
  ·have : s.any P = true := List.any_eq_true.2 ⟨x, mg hx, hp⟩
   rw [this]; simp
 obtain ⟨r, h, rfl⟩ := this
 exact h
theorem indexFunc_api_Port_api_Port {s : List Port} {g : Port → Option Bool} {P : Port → Bool} (hg : ∀ (k : Nat) (x : Port), s[k]? = some x → g x = some (P x)) :
  Ok (L.zobp s g) fun r => (r = -1 ∧ ∀ (j : Nat) (y : Port), s[j]? = some y → P y = false) ∨ ∃ (k : Nat) (x : Port), r = (k : Int) ∧ s[k]? = some x ∧ P x = true ∧ ∀ (j : Nat) (y : Port), j < k → s[j]? = some y → P y = false := by
 unfold L.zobp
 refine .bind' (.forL (fun k _ => ∀ (j : Nat) (y : Port), j < k → s[j]? = some y → P y = false) (fun r => ∃ (k : Nat) (x : Port), r = (k : Int) ∧ s[k]? = some x ∧ P x = true ∧ ∀ (j : Nat) (y : Port), j < k → s[j]? = some y → P y = false) (fun j y h => absurd h (Nat.not_lt_zero _)) ?_ ?_ ?_)
 ·intro k x _ hx hi
  unfold L.zobp.B2
  refine .bind' (.eq (hg k x hx) (Ok.iteB (fun hp => .pure ⟨k, x, rfl, hx, hp, hi⟩) fun hp => .pure fun j y hj hy => ?_))
  by_cases h : j < k
  ·exact hi j y h hy
  ·have : j = k := by omega
   subst this
   rw [hx] at hy; simp at hy; subst hy; exact hp
 ·intro _ hi
  simp only [Sum.elim_inl]
  unfold L.zobp.J1
  exact .pure (.inl ⟨rfl, fun j y hy => hi j y (gs hy).1 hy⟩)
 ·intro b hb
  exact .pure (.inr hb)
theorem containsFunc_api_Port_api_Port {s : List Port} {g : Port → Option Bool} {P : Port → Bool} (hg : ∀ (k : Nat) (x : Port), s[k]? = some x → g x = some (P x)) :
  L.zdru s g = some (s.any P) := by
 have : Ok (L.zdru s g) fun r => r = s.any P := by
  unfold L.zdru
  refine .bind (indexFunc_api_Port_api_Port hg) fun r hr => .pure ?_
  rcases hr with ⟨rfl, h⟩ | ⟨k, x, rfl, hx, hp, _⟩
  ·have : s.any P = false := by
    rw [List.any_eq_false]
    intro x hx
    obtain ⟨j, hj⟩ := List.getElem?_of_mem hx
    rw [h j x hj]; simp
   rw [this]; rfl
  ·have : s.any P = true := List.any_eq_true.2 ⟨x, mg hx, hp⟩
   rw [this]; simp
 obtain ⟨r, h, rfl⟩ := this
 exact h
theorem indexFunc_api_Station_api_Station {s : List Station} {g : Station → Option Bool} {P : Station → Bool} (hg : ∀ (k : Nat) (x : Station), s[k]? = some x → g x = some (P x)) :
  Ok (L.zywf s g) fun r => (r = -1 ∧ ∀ (j : Nat) (y : Station), s[j]? = some y → P y = false) ∨ ∃ (k : Nat) (x : Station), r = (k : Int) ∧ s[k]? = some x ∧ P x = true ∧ ∀ (j : Nat) (y : Station), j < k → s[j]? = some y → P y = false := by
 unfold L.zywf
 refine .bind' (.forL (fun k _ => ∀ (j : Nat) (y : Station), j < k → s[j]? = some y → P y = false) (fun r => ∃ (k : Nat) (x : Station), r = (k : Int) ∧ s[k]? = some x ∧ P x = true ∧ ∀ (j : Nat) (y : Station), j < k → s[j]? = some y → P y = false) (fun j y h => absurd h (Nat.not_lt_zero _)) ?_ ?_ ?_)
 ·intro k x _ hx hi
  unfold L.zywf.B2
  refine .bind' (.eq (hg k x hx) (Ok.iteB (fun hp => .pure ⟨k, x, rfl, hx, hp, hi⟩) fun hp => .pure fun j y hj hy => ?_))
  by_cases h : j < k
  ·exact hi j y h hy
  ·have : j = k := by omega
   subst this
   rw [hx] at hy; simp at hy; subst hy; exact hp
 ·intro _ hi
  simp only [Sum.elim_inl]
  unfold L.zywf.J1
  exact .pure (.inl ⟨rfl, fun j y hy => hi j y (gs hy).1 hy⟩)
 ·intro b hb
  exact .pure (.inr hb)
theorem containsFunc_api_Station_api_Station {s : List Station} {g : Station → Option Bool} {P : Station → Bool} (hg : ∀ (k : Nat) (x : Station), s[k]? = some x → g x = some (P x)) :
  L.ztlc s g = some (s.any P) := by
 have : Ok (L.ztlc s g) fun r => r = s.any P := by
  unfold L.ztlc
  refine .bind (indexFunc_api_Station_api_Station hg) fun r hr => .pure ?_
  rcases hr with ⟨rfl, h⟩ | ⟨k, x, rfl, hx, hp, _⟩
  ·have : s.any P = false := by
    rw [List.any_eq_false]
    intro x hx
    obtain ⟨j, hj⟩ := List.getElem?_of_mem hx
    rw [h j x hj]; simp
   rw [this]; rfl
  ·have : s.any P = true := List.any_eq_true.2 ⟨x, mg hx, hp⟩
   rw [this]; simp
 obtain ⟨r, h, rfl⟩ := this
 exact h
theorem index_string_string {s : List ByteArray} {v : ByteArray} :
  Ok (L.zsbv s v) fun r => (r = -1 ∧ ∀ (j : Nat) (y : ByteArray), s[j]? = some y → (sEq v y) = false) ∨ ∃ (k : Nat) (y : ByteArray), r = (k : Int) ∧ s[k]? = some y ∧ (sEq v y) = true ∧ ∀ (j : Nat) (y : ByteArray), j < k → s[j]? = some y → (sEq v y) = false := by
 unfold L.zsbv
 refine .bind' (.forL (fun k _ => ∀ (j : Nat) (y : ByteArray), j < k → s[j]? = some y → (sEq v y) = false) (fun r => ∃ (k : Nat) (y : ByteArray), r = (k : Int) ∧ s[k]? = some y ∧ (sEq v y) = true ∧ ∀ (j : Nat) (y : ByteArray), j < k → s[j]? = some y → (sEq v y) = false) (fun j y h => absurd h (Nat.not_lt_zero _)) ?_ ?_ ?_)
 ·intro k x _ hx hi
  unfold L.zsbv.B2
  refine Ok.iteB (fun hp => .pure ⟨k, x, rfl, hx, hp, hi⟩) fun hp => .pure fun j y hj hy => ?_
  by_cases h : j < k
  ·exact hi j y h hy
  ·have : j = k := by omega
   subst this
   rw [hx] at hy; simp at hy; subst hy; exact hp
 ·intro _ hi
  simp only [Sum.elim_inl]
  unfold L.zsbv.J1
  exact .pure (.inl ⟨rfl, fun j y hy => hi j y (gs hy).1 hy⟩)
 ·intro b hb
  exact .pure (.inr hb)
theorem maps_ok {α β : Type} {l : List α} {g : α → β} {f : Nat → α → List β → Option (List β)} (hf : ∀ k x st, f k x st = (app? st [g x]).bind fun y => some y) (hl : l.length ≤ 1000) :
  Ok (forS f 0 l []) fun r => r = l.map g := by
 refine .forS (fun k st => st = (l.take k).map g) (by simp) ?_ fun st h => by rw [h]; simp
 rintro k x st hx rfl
 rw [hf]
 have hk := (gs hx).1
 refine .bind' (.app (by simp; omega) (.pure ?_))
 rw [List.take_add_one, hx]
 simp
theorem names_ok {n : Network} (h1 : n.Segments.length ≤ 1000) (h2 : n.Ports.length ≤ 1000) (h3 : n.Stations.length ≤ 1000) :
  Ok (L.zalp n) fun r => r.l = [n.Nodes, n.Segments.map (·.Name), n.Ports.map (·.Name), n.Stations.map (·.Name)] := by
 unfold L.zalp
 refine .bind (maps_ok (g := (·.Name)) (fun _ _ _ => rfl) h1) ?_
 rintro _ rfl
 unfold L.zalp.J1
 refine .bind (maps_ok (g := (·.Name)) (fun _ _ _ => rfl) h2) ?_
 rintro _ rfl
 unfold L.zalp.J2
 refine .bind (maps_ok (g := (·.Name)) (fun _ _ _ => rfl) h3) ?_
 rintro _ rfl
 unfold L.zalp.J3
 exact .pure rfl
def Named (c : UInt8) (l : List ByteArray) : Prop := l.length ≤ 26 ∧ ∀ (k : Nat) (x : ByteArray), l[k]? = some x → x = nm c k
theorem NetOk.named {n : Network} (h : NetOk n) : ∀ l, l ∈ [n.Nodes, n.Segments.map (·.Name), n.Ports.map (·.Name), n.Stations.map (·.Name)] → ∃ c, (c = 110 ∨ c = 103 ∨ c = 113 ∨ c = 115) ∧ Named c l := by
 have h1 := h.nodes; have h2 := h.segs1; have h3 := h.ports1; have h4 := h.sts1
 intro l hl
 simp only [List.mem_cons, List.not_mem_nil, or_false] at hl
 rcases hl with rfl | rfl | rfl | rfl
 ·exact ⟨110, by simp, by omega, h.names⟩
 ·refine ⟨103, by simp, by simp; omega, fun k x hx => ?_⟩
  rw [List.getElem?_map] at hx
  obtain ⟨s, hs, rfl⟩ := Option.map_eq_some_iff.1 hx
  exact (h.segs k s hs).name
 ·refine ⟨113, by simp, by simp; omega, fun k x hx => ?_⟩
  rw [List.getElem?_map] at hx
  obtain ⟨s, hs, rfl⟩ := Option.map_eq_some_iff.1 hx
  exact (h.ports k s hs).name
 ·refine ⟨115, by simp, by simp; omega, fun k x hx => ?_⟩
  rw [List.getElem?_map] at hx
  obtain ⟨s, hs, rfl⟩ := Option.map_eq_some_iff.1 hx
  exact (h.sts k s hs).name
theorem lt26 {k : Nat} (h : k < 26) : k = 0 ∨ k = 1 ∨ k = 2 ∨ k = 3 ∨ k = 4 ∨ k = 5 ∨ k = 6 ∨ k = 7 ∨ k = 8 ∨ k = 9 ∨ k = 10 ∨ k = 11 ∨ k = 12 ∨ k = 13 ∨ k = 14 ∨ k = 15 ∨ k = 16 ∨ k = 17 ∨ k = 18 ∨ k = 19 ∨ k = 20 ∨ k = 21 ∨ k = 22 ∨ k = 23 ∨ k = 24 ∨ k = 25 := by omega
theorem nameOk {c : UInt8} (hc : c = 110 ∨ c = 103 ∨ c = 113 ∨ c = 115) {k : Nat} (hk : k < 26) : L.zcvq (nm c k) = some true := by
 rcases hc with rfl | rfl | rfl | rfl <;>
  rcases lt26 hk with rfl | rfl | rfl | rfl | rfl | rfl | rfl | rfl | rfl | rfl | rfl | rfl | rfl | rfl | rfl | rfl | rfl | rfl | rfl | rfl | rfl | rfl | rfl | rfl | rfl | rfl <;> rfl
theorem nm_inj {c : UInt8} {i j : Nat} (hi : i < 26) (hj : j < 26) (h : sEq (nm c i) (nm c j) = true) : i = j := by
 have h1 : (nm c i).toList = (nm c j).toList := by simpa [sEq] using h
 have h2 : [c, 97 + UInt8.ofNat i] = [c, 97 + UInt8.ofNat j] := by simpa [nm, ByteArray.toList, ByteArray.toList.loop, ByteArray.size, ByteArray.get!] using h1
 simp only [List.cons.injEq, and_true, true_and] at h2
 have h3 := congrArg UInt8.toNat h2
 simp only [UInt8.toNat_add, UInt8.toNat_ofNat'] at h3
 have : (97 : UInt8).toNat = 97 := rfl
 rw [this] at h3
 omega
theorem sEq_refl (a : ByteArray) : sEq a a = true := by simp [sEq]
def Nmd (l : List ByteArray) : Prop := l.length ≤ 26 ∧ (∀ (k : Nat) (x : ByteArray), l[k]? = some x → L.zcvq x = some true) ∧ ∀ (i j : Nat) (x y : ByteArray), l[i]? = some x → l[j]? = some y → sEq x y = true → i = j
theorem Named.nmd {c : UInt8} (hc : c = 110 ∨ c = 103 ∨ c = 113 ∨ c = 115) {l : List ByteArray} (h : Named c l) : Nmd l := by
 obtain ⟨h1, h2⟩ := h
 refine ⟨h1, fun k x hk => ?_, fun i j x y hi hj he => ?_⟩
 ·have := (gs hk).1
  rw [h2 k x hk]; exact nameOk hc (by omega)
 ·have hi' := (gs hi).1
  have hj' := (gs hj).1
  have hx := h2 i x hi; have hy := h2 j y hj
  subst hx; subst hy
  exact nm_inj (by omega) (by omega) he
theorem twice_names {l : List ByteArray} (h : Nmd l) {k : Nat} {x : ByteArray} (hk : l[k]? = some x) : Ok (L.zsbv l x) fun r => r = (k : Int) := by
 obtain ⟨h1, _, h2⟩ := h
 refine index_string_string.mono ?_
 rintro r (⟨rfl, h⟩ | ⟨j, y, rfl, hj, he, hlt⟩)
 ·have := h k x hk
  rw [sEq_refl] at this; cases this
 ·have := h2 k j x y hk hj he
  omega
structure SegB (nodes : Nat) (s : Segment) : Prop where
 ends : 0 ≤ s.From ∧ s.From < (nodes : Int) ∧ 0 ≤ s.To ∧ s.To < (nodes : Int) ∧ s.From ≠ s.To
 cap : 1 ≤ s.Capacity ∧ s.Capacity ≤ 1000
 resist : 0 ≤ s.Resist ∧ s.Resist ≤ 1000
 wave : 0 ≤ s.Wave ∧ s.Wave ≤ 100000
 points : PointsOk s.Capacity s.Points
theorem SegOk.b {nodes k : Nat} {s : Segment} (h : SegOk nodes k s) : SegB nodes s := ⟨h.ends, h.cap, h.resist, h.wave, h.points⟩
theorem pipe_ok {nodes : Nat} {s : Segment} (h : SegB nodes s) : L.zcxq s = some true := by
 have : Ok (L.zcxq s) fun r => r = true := by
  have hp := h.points
  have h1 := h.ends; have h2 := h.cap; have h3 := h.resist; have h4 := h.wave; have h5 := hp.len
  unfold L.zcxq
  refine Ok.iteB (fun hb => ?_) fun _ => ?_
  ·simp [L.zvhs] at hb
   omega
  refine .bind' (.forL (fun _ _ => True) (fun _ => False) trivial ?_ ?_ fun _ h => h.elim)
  ·intro i p _ hi _
   have hm := mg hi
   have g1 := hp.height p hm; have g2 := hp.limit p hm
   unfold L.zcxq.B3
   refine Ok.iteB (fun hb => ?_) fun _ => Ok.iteB (fun hb => ?_) fun _ => Ok.iteD (fun h0 => ?_) fun h0 => ?_
   ·simp [L.zvhs] at hb; omega
   ·simp [L.zvhs] at hb; omega
   ·rw [wr_id (by have := (gs hi).1; omega)]
    obtain ⟨j, rfl⟩ : ∃ j, i = j + 1 := ⟨i - 1, by omega⟩
    have hjl : j < s.Points.length := by have := (gs hi).1; omega
    have hj : s.Points[j]? = some s.Points[j] := gq hjl
    have hup := hp.up j _ p hj hi
    refine .bind' (.ix j (by omega) hjl ?_)
    unfold L.zcxq.J4
    refine Ok.iteD (fun h => ?_) fun _ => .pure trivial
    dsimp only at h; omega
   ·unfold L.zcxq.J4
    exact .pure trivial
  ·intro _ _
   simp only [Sum.elim_inl]
   unfold L.zcxq.J1 L.zcxq.J2
   have e0 : s.Points[0]? = some s.Points[0] := gq (by omega)
   have el : s.Points[s.Points.length - 1]? = some s.Points[s.Points.length - 1] := gq (by omega)
   refine .bind' (.ix 0 rfl (by omega) (Ok.iteB (fun _ => ?_) fun hb => ?_))
   ·rw [wr_id (by omega)]
    refine .bind' (.ix (s.Points.length - 1) (by omega) (by omega) (.pure ?_))
    have := hp.last _ el
    dsimp only
    rw [this]; simp
   ·have := hp.first _ e0
    dsimp only at hb
    rw [this] at hb
    cases hb
 obtain ⟨r, h, rfl⟩ := this
 exact h
theorem any_false {α : Type} {l : List α} {P : α → Bool} (h : ∀ (k : Nat) (x : α), l[k]? = some x → P x = false) : l.any P = false := by
 rw [List.any_eq_false]
 intro x hx
 obtain ⟨j, hj⟩ := List.getElem?_of_mem hx
 rw [h j x hj]; simp
structure NetV (n : Network) : Prop where
 nodes : 1 ≤ n.Nodes.length ∧ n.Nodes.length ≤ 6
 segs1 : n.Segments.length ≤ 8
 segs : ∀ (k : Nat) (s : Segment), n.Segments[k]? = some s → ∃ j, SegOk n.Nodes.length j s
 ports1 : n.Ports.length ≤ 6
 ports : ∀ k s, n.Ports[k]? = some s → PortOk n.Nodes.length k s
 sts1 : n.Stations.length ≤ 6
 sts : ∀ k s, n.Stations[k]? = some s → StOk n.Nodes.length k s
 stsUp : ∀ (i j : Nat) (p q : Station), i < j → n.Stations[i]? = some p → n.Stations[j]? = some q → p.Node < q.Node
 vapour : -100000 ≤ n.Vapour ∧ n.Vapour ≤ 50000
 settle : 0 ≤ n.Settle ∧ n.Settle ≤ 100
 named : ∀ l, l ∈ [n.Nodes, n.Segments.map (·.Name), n.Ports.map (·.Name), n.Stations.map (·.Name)] → Nmd l
theorem NetOk.v {n : Network} (h : NetOk n) : NetV n :=
 ⟨by have := h.nodes; omega, h.segs1.2, fun k s hs => ⟨k, h.segs k s hs⟩, h.ports1.2, h.ports, h.sts1, h.sts, h.stsUp, h.vapour, h.settle, fun l hl => let ⟨_, hc, hn⟩ := h.named l hl; hn.nmd hc⟩
structure NetW (n : Network) : Prop where
 nodes : 1 ≤ n.Nodes.length ∧ n.Nodes.length ≤ 6
 segs1 : n.Segments.length ≤ 8
 segs : ∀ (k : Nat) (s : Segment), n.Segments[k]? = some s → SegB n.Nodes.length s
 ports1 : n.Ports.length ≤ 6
 ports : ∀ (k : Nat) s, n.Ports[k]? = some s → (0 ≤ s.Node ∧ s.Node < (n.Nodes.length : Int)) ∧ 0 ≤ s.Pressure ∧ s.Pressure ≤ 100000000
 sts1 : n.Stations.length ≤ 6
 sts : ∀ k s, n.Stations[k]? = some s → StOk n.Nodes.length k s
 stsUp : ∀ (i j : Nat) (p q : Station), i < j → n.Stations[i]? = some p → n.Stations[j]? = some q → p.Node < q.Node
 vapour : -100000 ≤ n.Vapour ∧ n.Vapour ≤ 50000
 settle : 0 ≤ n.Settle ∧ n.Settle ≤ 100
 named : ∀ l, l ∈ [n.Nodes, n.Segments.map (·.Name), n.Ports.map (·.Name), n.Stations.map (·.Name)] → Nmd l
theorem NetV.w {n : Network} (h : NetV n) : NetW n :=
 ⟨h.nodes, h.segs1, fun k s hs => (h.segs k s hs).choose_spec.b, h.ports1, fun k s hs => ⟨(h.ports k s hs).node, (h.ports k s hs).pressure⟩, h.sts1, h.sts, h.stsUp, h.vapour, h.settle, h.named⟩
theorem netCheckW {n : Network} (h : NetW n) : L.zfta n = some 0 := by
 have : Ok (L.zfta n) fun r => r = 0 := by
  have h1 := h.nodes; have h2 := h.segs1; have h3 := h.ports1; have h4 := h.sts1; have h5 := h.vapour; have h6 := h.settle
  unfold L.zfta
  refine .bind (Q := fun r => r = true) ?_ ?_
  ·unfold L.znhd
   refine Ok.iteB (fun hb => ?_) fun _ => .bind' (.eq (containsFunc_api_Segment_api_Segment (P := fun x => L.zzec x) fun _ _ _ => rfl) (.pure ?_))
   ·simp at hb; omega
   ·rw [any_false]; rfl
    intro k x hx
    have := (h.segs k x hx).points.len
    simp [L.zzec]; omega
  rintro _ rfl
  refine Ok.iteN (fun hb => by cases hb) fun _ => ?_
  refine .bind (names_ok (by omega) (by omega) (by omega)) fun r45 hr => ?_
  refine .bind' (.forI (fun _ _ => True) (fun _ => False) trivial ?_ ?_ fun _ h => h.elim)
  ·intro k _ hk _
   unfold L.zfta.B2
   refine .bind' (.ix k rfl (by rw [hr]; exact hk) ?_)
   have hkl : k < r45.l.length := by rw [hr]; exact hk
   have hl := h.named r45.l[k] (by rw [← hr]; exact List.getElem_mem _)
   refine .bind' (.eq (containsFunc_string_string (P := fun _ => false) fun j x hx => ?_) ?_)
   ·unfold L.zqbg
    rw [hl.2.1 j x hx]; rfl
   ·rw [any_false fun _ _ _ => rfl]
    exact .pure trivial
  ·intro _ _
   simp only [Sum.elim_inl]
   unfold L.zfta.J1
   refine .bind (Q := fun r => r = false) ?_ ?_
   ·unfold L.zybm
    refine .bind (names_ok (by omega) (by omega) (by omega)) fun r45 hr => ?_
    refine .bind' (.forI (fun _ _ => True) (fun _ => False) trivial ?_ ?_ fun _ h => h.elim)
    ·intro k _ hk _
     unfold L.zybm.B4
     refine .bind' (.ix k rfl (by rw [hr]; exact hk) ?_)
     have hkl : k < r45.l.length := by rw [hr]; exact hk
     have hl := h.named r45.l[k] (by rw [← hr]; exact List.getElem_mem _)
     refine .bind' (.forL (fun _ _ => True) (fun _ => False) trivial ?_ ?_ fun _ h => h.elim)
     ·intro j x _ hj _
      unfold L.zybm.B6
      refine .bind (twice_names hl hj) ?_
      rintro _ rfl
      refine Ok.iteD (fun h => by omega) fun _ => .pure trivial
     ·intro _ _
      exact .pure trivial
    ·intro _ _
     simp only [Sum.elim_inl]
     unfold L.zybm.J1
     refine .bind' (.forL (fun _ _ => True) (fun _ => False) trivial ?_ ?_ fun _ h => h.elim)
     ·intro j x _ hj _
      unfold L.zybm.B3
      refine .bind (Q := fun r => r = (j : Int)) ((indexFunc_api_Station_api_Station (P := fun y => L.zsgv y x) fun _ _ _ => rfl).mono ?_) ?_
      ·rintro r (⟨rfl, hh⟩ | ⟨k, y, rfl, hk, he, hlt⟩)
       ·have := hh j x hj
        simp [L.zsgv] at this
       ·simp [L.zsgv] at he
        by_cases hkj : k = j
        ·omega
        ·rcases Nat.lt_or_gt_of_ne hkj with hlt2 | hlt2
         ·have := h.stsUp k j y x hlt2 hk hj; omega
         ·have := h.stsUp j k x y hlt2 hj hk; omega
      ·rintro _ rfl
       refine Ok.iteD (fun h => by omega) fun _ => .pure trivial
     ·intro _ _
      exact .pure rfl
   rintro _ rfl
   refine Ok.iteB (fun h => by cases h) fun _ => ?_
   refine .bind (Q := fun r => r = true) ?_ ?_
   ·unfold L.zctd
    let good : List Int → Prop := fun l => ∀ x, x ∈ l → 0 ≤ x ∧ x < (n.Nodes.length : Int)
    have app : ∀ {l m : List Int}, good l → good m → good (l ++ m) := fun h1 h2 x hx => by
     rcases List.mem_append.1 hx with hx | hx
     ·exact h1 x hx
     ·exact h2 x hx
    refine .bind (Q := fun l => l.length ≤ 100 ∧ good l) (.forS (fun k l => l.length ≤ 2 * k ∧ good l) ⟨by simp, by intro x hx; cases hx⟩ ?_ fun l hl => ⟨by omega, hl.2⟩) ?_
    ·rintro k s l hs ⟨l1, l2⟩
     have hkl := (gs hs).1
     have he := (h.segs k s hs).ends
     unfold L.zctd.B6
     refine .bind' (.app (by simp; omega) (.pure ⟨by simp; omega, app l2 ?_⟩))
     intro x hx
     simp at hx
     rcases hx with rfl | rfl <;> omega
    rintro l ⟨l1, l2⟩
    unfold L.zctd.J1
    refine .bind (Q := fun l => l.length ≤ 200 ∧ good l) (.forS (fun k l => l.length ≤ 100 + k ∧ good l) ⟨by omega, l2⟩ ?_ fun l hl => ⟨by omega, hl.2⟩) ?_
    ·rintro k s l hs ⟨l1, l2⟩
     have hkl := (gs hs).1
     have he := (h.ports k s hs).1
     unfold L.zctd.B5
     refine .bind' (.app (by simp; omega) (.pure ⟨by simp; omega, app l2 ?_⟩))
     intro x hx
     simp at hx; subst hx; omega
    rintro l ⟨l1, l2⟩
    unfold L.zctd.J2
    refine .bind (Q := fun l => l.length ≤ 300 ∧ good l) (.forS (fun k l => l.length ≤ 200 + k ∧ good l) ⟨by omega, l2⟩ ?_ fun l hl => ⟨by omega, hl.2⟩) ?_
    ·rintro k s l hs ⟨l1, l2⟩
     have hkl := (gs hs).1
     have he := (h.sts k s hs).node
     unfold L.zctd.B4
     refine .bind' (.app (by simp; omega) (.pure ⟨by simp; omega, app l2 ?_⟩))
     intro x hx
     simp at hx; subst hx; omega
    rintro l ⟨l1, l2⟩
    unfold L.zctd.J3
    refine .bind' (.eq (containsFunc_int_int (P := fun x => L.zxqi x n) fun _ _ _ => rfl) (.pure ?_))
    rw [any_false]; rfl
    intro k x hx
    have := l2 x (mg hx)
    simp [L.zxqi]; omega
   rintro _ rfl
   refine Ok.iteN (fun h => by cases h) fun _ => ?_
   refine .bind (Q := fun r => r = true) ?_ ?_
   ·unfold L.zdqn
    refine .bind' (.eq (containsFunc_api_Segment_api_Segment (P := fun _ => false) fun k x hx => by unfold L.zyto; rw [pipe_ok (h.segs k x hx)]; rfl) ?_)
    rw [any_false fun _ _ _ => rfl]
    refine Ok.iteB (fun h => by cases h) fun _ => ?_
    refine .bind' (.eq (containsFunc_api_Port_api_Port (P := fun x => L.zxcm x) fun _ _ _ => rfl) ?_)
    rw [any_false]
    ·refine Ok.iteB (fun h => by cases h) fun _ => ?_
     refine .bind' (.eq (containsFunc_api_Station_api_Station (P := fun x => L.zeku x) fun _ _ _ => rfl) ?_)
     rw [any_false]
     ·refine Ok.iteB (fun h => by cases h) fun _ => .pure ?_
      simp [L.zvhs]; omega
     ·intro k x hx
      have h1 := (h.sts k x hx).head; have h2 := (h.sts k x hx).fall; have h3 := (h.sts k x hx).suction
      simp [L.zeku, L.zvhs]; omega
    ·intro k x hx
     have h1 := (h.ports k x hx).2
     simp [L.zxcm, L.zvhs]; omega
   rintro _ rfl
   exact Ok.iteN (fun h => by cases h) fun _ => .pure rfl
 obtain ⟨r, h, rfl⟩ := this
 exact h
theorem netCheckV {n : Network} (h : NetV n) : L.zfta n = some 0 := netCheckW h.w
theorem netCheck {n : Network} (h : NetOk n) : L.zfta n = some 0 := netCheckV h.v
structure NetG (n : Network) : Prop where
 nodes : 1 ≤ n.Nodes.length ∧ n.Nodes.length ≤ 6
 segs1 : n.Nodes.length - 1 ≤ n.Segments.length ∧ n.Segments.length ≤ 8
 segs : ∀ (k : Nat) (s : Segment), n.Segments[k]? = some s → SegB n.Nodes.length s
 ports1 : 2 ≤ n.Ports.length ∧ n.Ports.length ≤ 6
 ports : ∀ (k : Nat) s, n.Ports[k]? = some s → 0 ≤ s.Node ∧ s.Node < (n.Nodes.length : Int)
 sts1 : n.Stations.length ≤ 6
 check : L.zfta n = some 0
theorem NetOk.g {n : Network} (h : NetOk n) : NetG n :=
 ⟨by have := h.nodes; omega, h.segs1, fun k s hs => (h.segs k s hs).b, h.ports1, fun k s hs => (h.ports k s hs).node, h.sts1, netCheck h⟩
theorem NetW.g {n : Network} (h : NetW n) (h1 : n.Nodes.length - 1 ≤ n.Segments.length) (h2 : 2 ≤ n.Ports.length) : NetG n :=
 ⟨h.nodes, ⟨h1, h.segs1⟩, h.segs, ⟨h2, h.ports1⟩, fun k s hs => (h.ports k s hs).1, h.sts1, netCheckW h⟩
theorem app_all {α : Type} {P : Nat → α → Prop} {l : List α} {x : α} (h : ∀ k s, l[k]? = some s → P k s) (hx : P l.length x) : ∀ k s, (l ++ [x])[k]? = some s → P k s := by
 intro k s hs
 rw [List.getElem?_append] at hs
 split at hs
 ·exact h k s hs
 ·have h2 := (gs hs).1
  simp at h2
  have : k = l.length := by omega
  subst this
  simp at hs; subst hs; exact hx
theorem app_up {α : Type} {f : α → Int} {l : List α} {x : α} (h : ∀ (i j : Nat) (p q : α), i < j → l[i]? = some p → l[j]? = some q → f p < f q) (hx : ∀ (k : Nat) (p : α), l[k]? = some p → f p < f x) :
  ∀ (i j : Nat) (p q : α), i < j → (l ++ [x])[i]? = some p → (l ++ [x])[j]? = some q → f p < f q := by
 intro i j p q hij hp hq
 have hj := (gs hq).1
 simp at hj
 rw [List.getElem?_append_left (by omega)] at hp
 rw [List.getElem?_append] at hq
 split at hq
 ·exact h i j p q hij hp hq
 ·have : j = l.length := by omega
  subst this
  simp at hq; subst hq; exact hx i p hp
structure PortsInv (nodes : Nat) (i : Int) (ports : List Port) (sts : List Station) : Prop where
 i0 : 0 ≤ i ∧ i ≤ (nodes : Int)
 pl : (ports.length : Int) ≤ i
 p1 : 0 < i → 1 ≤ ports.length
 p2 : i = (nodes : Int) → 2 ≤ ports.length
 po : ∀ k s, ports[k]? = some s → PortOk nodes k s ∧ s.Node < i
 pu : ∀ (i j : Nat) (p q : Port), i < j → ports[i]? = some p → ports[j]? = some q → p.Node < q.Node
 sl : (sts.length : Int) ≤ i
 so : ∀ k s, sts[k]? = some s → StOk nodes k s ∧ s.Node < i
 su : ∀ (i j : Nat) (p q : Station), i < j → sts[i]? = some p → sts[j]? = some q → p.Node < q.Node
theorem net_ok {s : Src} (hs : SrcOk s) : Ok (L.zeju s) fun r => NetOk r.1 ∧ SrcOk r.2 := by
 unfold L.zeju
 refine .bind (pick_ok hs (by decide) (by decide)) fun r5 h5 => ?_
 refine .bind (pick_ok h5.1 (by decide) (by decide)) fun r8 h8 => ?_
 refine .bind (range_ok h8.1 (by decide) (by decide) (by decide)) fun r650 h650 => ?_
 have c5 := h5.2; have c8 := h8.2
 simp only [List.mem_cons, List.not_mem_nil, or_false] at c5 c8
 refine .bind (Q := fun d : List Int × Int × List ByteArray => SrcOk ⟨d.1, d.2.1⟩ ∧ (2 ≤ d.2.2.length ∧ d.2.2.length ≤ 6) ∧ ∀ k x, d.2.2[k]? = some x → x = nm 110 k) ?_ ?_
 ·refine .loop (fun st : List ByteArray × Int => 0 ≤ st.2 ∧ (st.1.length : Int) + st.2 = r650.1 ∧ ∀ k x, st.1[k]? = some x → x = nm 110 k) (fun st => st.2.toNat) ⟨by dsimp only; omega, by simp, by simp⟩ (by dsimp only; omega) ?_
  rintro ⟨nodes, c⟩ ⟨i1, i2, i3⟩
  dsimp only at i1 i2 i3
  unfold L.zeju.B12
  refine Ok.iteD (fun h => ?_) fun h => .pure ⟨h650.1, by dsimp only at h ⊢; omega, i3⟩
  dsimp only at h ⊢
  refine .bind' (.eq (name_ok (by omega)) (.bind' (.app (by simp; omega) (.pure ?_))))
  rw [wr_id (by omega)]
  exact ⟨⟨by dsimp only; omega, by simp; omega, app_all i3 rfl⟩, by dsimp only; omega⟩
 rintro ⟨L_, At, nodes⟩ ⟨hs, hn, hnm⟩
 dsimp only at hs hn hnm
 unfold L.zeju.J1
 refine .bind (Q := fun d : List Int × Int × List Segment => SrcOk ⟨d.1, d.2.1⟩ ∧ d.2.2.length = nodes.length - 1 ∧ ∀ k x, d.2.2[k]? = some x → SegOk nodes.length k x) ?_ ?_
 ·refine .loop (fun st : List Int × Int × List Segment × Int => SrcOk ⟨st.1, st.2.1⟩ ∧ (st.2.2.1.length : Int) = st.2.2.2 ∧ st.2.2.1.length ≤ nodes.length - 1 ∧ ∀ k x, st.2.2.1[k]? = some x → SegOk nodes.length k x) (fun st => nodes.length - st.2.2.1.length) ⟨hs, by simp, by simp, by simp⟩ (by dsimp only; omega) ?_
  rintro ⟨L_, At, segs, i⟩ ⟨i1, i2, i3, i4⟩
  dsimp only at i1 i2 i3 i4
  unfold L.zeju.B11
  dsimp only
  simp (disch := omega) only [wr_id]
  refine Ok.iteD (fun h => ?_) fun h => .pure ⟨i1, by dsimp only; omega, i4⟩
  refine .bind (seg_ok i1 (nodes := nodes.length) (by omega) (by omega) (by omega) (by omega)) fun r641 h641 => ?_
  refine .bind' (.app (by simp; omega) (.pure ⟨⟨h641.2, by simp; omega, by simp; omega, app_all i4 h641.1⟩, by simp; omega⟩))
 rintro ⟨L_, At, segs⟩ ⟨hs, hsl, hss⟩
 dsimp only at hs hsl hss
 unfold L.zeju.J2
 refine .bind (n_ok hs (by decide) (by decide)) fun r531 h531 => ?_
 refine .bind (Q := fun d : List Int × Int × List Segment => SrcOk ⟨d.1, d.2.1⟩ ∧ (nodes.length - 1 ≤ d.2.2.length ∧ d.2.2.length ≤ 8) ∧ ∀ k x, d.2.2[k]? = some x → SegOk nodes.length k x) ?_ ?_
 ·refine .loop (fun st : List Int × Int × List Segment × Int => SrcOk ⟨st.1, st.2.1⟩ ∧ 0 ≤ st.2.2.2 ∧ (st.2.2.1.length : Int) + st.2.2.2 ≤ 8 ∧ nodes.length - 1 ≤ st.2.2.1.length ∧ ∀ k x, st.2.2.1[k]? = some x → SegOk nodes.length k x) (fun st => st.2.2.2.toNat)
   ⟨h531.1, h531.2.1, by dsimp only; omega, by dsimp only; omega, hss⟩ (by dsimp only; omega) ?_
  rintro ⟨L_, At, segs, i⟩ ⟨i1, i2, i3, i4, i5⟩
  dsimp only at i1 i2 i3 i4 i5
  unfold L.zeju.B10
  dsimp only
  simp (disch := omega) only [wr_id]
  refine Ok.iteD (fun h => ?_) fun h => .pure ⟨i1, by dsimp only; omega, i5⟩
  refine .bind (n_ok i1 (by omega) (by omega)) fun r589 h589 => ?_
  simp (disch := omega) only [wr_id]
  refine .bind (range_ok h589.1 (by omega) (by omega) (by omega)) fun r591 h591 => ?_
  refine .bind (seg_ok h591.1 (nodes := nodes.length) (by omega) (by omega) (by omega) (by omega)) fun r593 h593 => ?_
  refine .bind' (.app (by simp; omega) (.pure ⟨⟨h593.2, by dsimp only; omega, by simp; omega, by simp; omega, app_all i5 h593.1⟩, by dsimp only; omega⟩))
 rintro ⟨L_, At, segs⟩ ⟨hs, hsl, hss⟩
 dsimp only at hs hsl hss
 unfold L.zeju.J3
 refine .bind (Q := fun d : List Int × Int × List Port × List Station => SrcOk ⟨d.1, d.2.1⟩ ∧ PortsInv nodes.length (nodes.length : Int) d.2.2.1 d.2.2.2) ?_ ?_
 ·refine .loop (fun st : List Int × Int × List Port × List Station × Int => SrcOk ⟨st.1, st.2.1⟩ ∧ PortsInv nodes.length st.2.2.2.2 st.2.2.1 st.2.2.2.1) (fun st => nodes.length - st.2.2.2.2.toNat)
   ⟨hs, by dsimp only; omega, by simp, by simp, by dsimp only; omega, by simp, by simp, by simp, by simp, by simp⟩ (by dsimp only; omega) ?_
  rintro ⟨L_, At, ports, sts, i⟩ ⟨i1, iv⟩
  dsimp only at i1 iv
  have hi := iv.i0
  have j6 : ∀ (j : List Int × Int × List Port × List Station), SrcOk ⟨j.1, j.2.1⟩ → PortsInv nodes.length (i + 1) j.2.2.1 j.2.2.2 → i < (nodes.length : Int) →
    Ok (L.zeju.J6 (L_, At, ports, sts, i) j) (Sum.elim (fun st => (SrcOk ⟨st.1, st.2.1⟩ ∧ PortsInv nodes.length st.2.2.2.2 st.2.2.1 st.2.2.2.1) ∧ nodes.length - st.2.2.2.2.toNat < nodes.length - i.toNat) fun d => SrcOk ⟨d.1, d.2.1⟩ ∧ PortsInv nodes.length (nodes.length : Int) d.2.2.1 d.2.2.2) := by
   intro j h1 h2 h3
   unfold L.zeju.J6
   dsimp only
   rw [wr_id (by omega)]
   exact .pure ⟨⟨h1, h2⟩, by dsimp only; omega⟩
  have j7 : ∀ (j : List Int × Int × List Port), SrcOk ⟨j.1, j.2.1⟩ → ((∀ sts', (sts'.length : Int) ≤ i + 1 → (∀ k s, sts'[k]? = some s → StOk nodes.length k s ∧ s.Node < i + 1) →
     (∀ (i j : Nat) (p q : Station), i < j → sts'[i]? = some p → sts'[j]? = some q → p.Node < q.Node) → PortsInv nodes.length (i + 1) j.2.2 sts')) → i < (nodes.length : Int) →
    Ok (L.zeju.J7 (L_, At, nodes) (L_, At, ports, sts, i) j) (Sum.elim (fun st => (SrcOk ⟨st.1, st.2.1⟩ ∧ PortsInv nodes.length st.2.2.2.2 st.2.2.1 st.2.2.2.1) ∧ nodes.length - st.2.2.2.2.toNat < nodes.length - i.toNat) fun d => SrcOk ⟨d.1, d.2.1⟩ ∧ PortsInv nodes.length (nodes.length : Int) d.2.2.1 d.2.2.2) := by
   intro j h1 h2 h3
   have old := h2 sts (by have := iv.sl; omega) (fun k s hk => ⟨(iv.so k s hk).1, by have := (iv.so k s hk).2; omega⟩) iv.su
   unfold L.zeju.J7
   refine Ok.iteD (fun h => ?_) fun h => ?_
   ·refine .bind (n_ok h1 (by decide) (by decide)) fun r507 h507 => ?_
    unfold L.zeju.J8
    refine Ok.iteB (fun _ => ?_) fun _ => j6 (_, _, _, _) h507.1 old h3
    have hsl' := iv.sl
    refine .bind' (.eq (name_ok (by dsimp only; omega)) ?_)
    refine .bind (pick_ok h507.1 (by decide) (by decide)) fun r493 h493 => ?_
    refine .bind (pick_ok h493.1 (by decide) (by decide)) fun r496 h496 => ?_
    refine .bind (pick_ok h496.1 (by decide) (by decide)) fun r499 h499 => ?_
    have c1 := h493.2; have c2 := h496.2; have c3 := h499.2
    simp only [List.mem_cons, List.not_mem_nil, or_false] at c1 c2 c3
    refine .bind' (.app (by simp; omega) (j6 (_, _, _, _) h499.1 (h2 _ (by simp; omega) ?_ ?_) h3))
    ·exact app_all (P := fun k s => StOk nodes.length k s ∧ s.Node < i + 1) (fun k s hk => ⟨(iv.so k s hk).1, by have := (iv.so k s hk).2; omega⟩) ⟨⟨rfl, ⟨by dsimp only; omega, by dsimp only; omega⟩, by dsimp only; omega, by dsimp only; omega, by dsimp only; omega⟩, by dsimp only; omega⟩
    ·exact app_up (f := Station.Node) iv.su fun k p hk => (iv.so k p hk).2
   ·unfold L.zeju.J8
    refine Ok.iteB (fun h => by cases h) fun _ => j6 (_, _, _, _) h1 old h3
  have j9 : ∀ (j : List Int × Int × Bool), SrcOk ⟨j.1, j.2.1⟩ → (i = 0 ∨ i = (nodes.length : Int) - 1 → j.2.2 = true) → i < (nodes.length : Int) →
    Ok (L.zeju.J9 (L_, At, nodes) (L_, At, ports, sts, i) j) (Sum.elim (fun st => (SrcOk ⟨st.1, st.2.1⟩ ∧ PortsInv nodes.length st.2.2.2.2 st.2.2.1 st.2.2.2.1) ∧ nodes.length - st.2.2.2.2.toNat < nodes.length - i.toNat) fun d => SrcOk ⟨d.1, d.2.1⟩ ∧ PortsInv nodes.length (nodes.length : Int) d.2.2.1 d.2.2.2) := by
   intro j h1 h2 h3
   have hpl := iv.pl
   have hp1 := iv.p1
   unfold L.zeju.J9
   refine Ok.iteB (fun _ => ?_) fun hb => j7 (_, _, _) h1 (fun sts' q1 q2 q3 => ?_) h3
   ·refine .bind' (.eq (name_ok (by dsimp only; omega)) ?_)
    refine .bind (pick_ok h1 (by decide) (by decide)) fun r518 h518 => ?_
    have c1 := h518.2
    simp only [List.mem_cons, List.not_mem_nil, or_false] at c1
    refine .bind' (.app (by simp; omega) (j7 (_, _, _) h518.1 (fun sts' q1 q2 q3 => ⟨by omega, by simp; omega, by simp, fun _ => by simp; omega, ?_, ?_, q1, q2, q3⟩) h3))
    ·exact app_all (P := fun k s => PortOk nodes.length k s ∧ s.Node < i + 1) (fun k s hk => ⟨(iv.po k s hk).1, by have := (iv.po k s hk).2; omega⟩) ⟨⟨rfl, ⟨by dsimp only; omega, by dsimp only; omega⟩, by dsimp only; omega⟩, by dsimp only; omega⟩
    ·exact app_up (f := Port.Node) iv.pu fun k p hk => (iv.po k p hk).2
   ·have hi0 : ¬ (i = 0 ∨ i = (nodes.length : Int) - 1) := fun h => by rw [h2 h] at hb; cases hb
    exact ⟨by omega, by dsimp only; omega, fun _ => by dsimp only; omega, fun _ => by omega, fun k s hk => ⟨(iv.po k s hk).1, by have := (iv.po k s hk).2; omega⟩, iv.pu, q1, q2, q3⟩
  unfold L.zeju.B5
  dsimp only
  rw [wr_id (by omega)]
  refine Ok.iteD (fun h => ?_) fun h => .pure ⟨i1, ?_⟩
  ·refine Ok.iteE (fun h0 => j9 (_, _, _) i1 (fun _ => rfl) (by omega)) fun h0 => Ok.iteE (fun h1 => j9 (_, _, _) i1 (fun _ => rfl) (by omega)) fun h1 => ?_
   refine .bind (n_ok i1 (by decide) (by decide)) fun r527 h527 => j9 (_, _, _) h527.1 (fun h => by omega) (by omega)
  ·have : i = (nodes.length : Int) := by omega
   rw [← this]; exact iv
 rintro ⟨L_, At, ports, sts⟩ ⟨hs, iv⟩
 dsimp only at hs iv
 unfold L.zeju.J4
 have := iv.pl; have := iv.sl
 exact .pure ⟨⟨hn, hnm, hsl, hss, ⟨iv.p2 rfl, by dsimp only; omega⟩, fun k s hk => (iv.po k s hk).1, iv.pu, by dsimp only; omega, fun k s hk => (iv.so k s hk).1, iv.su, by dsimp only; omega, by dsimp only; omega⟩, hs⟩
def ind (a v : Int) : Int := if a = v then 1 else 0
def wt (n : Network) (v : Int) : List Int := n.Segments.map fun s => ind s.To v - ind s.From v
def wp (n : Network) (v : Int) : List Int := n.Ports.map fun p => ind p.Node v
structure RateOk (s : Segment) (r : Int) : Prop where
 rng : -1000 ≤ r ∧ r ≤ 1000 ∧ -s.Capacity ≤ r ∧ r ≤ s.Capacity
 up : s.From < s.To → 0 ≤ r
 down : s.To < s.From → r ≤ 0
structure PlInv (n : Network) (rates ports : List Int) : Prop where
 rl : rates.length = n.Segments.length
 pl : ports.length = n.Ports.length
 rng : ∀ (k : Nat) (r : Int) (s : Segment), rates[k]? = some r → n.Segments[k]? = some s → RateOk s r
 prt : ∀ (k : Nat) (x : Int), ports[k]? = some x → -1000 ≤ x ∧ x ≤ 1000
 bal : ∀ v, dot (wt n v) rates + dot (wp n v) ports = 0
structure Hop1 (n : Network) (rates : List Int) (rate a : Int) (i : Nat) (x : Segment) (r b : Int) : Prop where
 seg : n.Segments[i]? = some x
 old : rates[i]? = some r
 lt : a < b
 ends : x.From = a ∧ x.To = b ∨ x.To = a ∧ x.From = b
 rng : r + rate ≤ 1000 ∧ rate - r ≤ 1000 ∧ r + rate ≤ x.Capacity ∧ rate - r ≤ x.Capacity
def HopAt (n : Network) (rates : List Int) (rate a k b : Int) : Prop := ∃ (i : Nat) (x : Segment) (r : Int), k = (i : Int) ∧ Hop1 n rates rate a i x r b
theorem carry_ok {n : Network} {rates ports way : List Int} {rate : Int} {s : Src} {l : List Int} {q e : Int} {nd : Nat → Int} (h : PlInv n rates ports) (hr : 1 ≤ rate ∧ rate ≤ 300)
  (hw : ∀ (j : Nat) (k : Int), way[j]? = some k → HopAt n rates rate (nd j) k (nd (j + 1))) :
  Ok (forJ (L.zjbu.B9 n (rate, s) (l, q, way, e)) 0 way.length rates) fun st => st.length = rates.length ∧ (∀ (k : Nat) (r : Int) (s : Segment), st[k]? = some r → n.Segments[k]? = some s → RateOk s r) ∧
   ∀ v, dot (wt n v) st = dot (wt n v) rates + (rate * ind (nd way.length) v - rate * ind (nd 0) v) := by
 refine .forJ (fun j st => st.length = rates.length ∧ (∀ (k : Nat) (r : Int) (s : Segment), st[k]? = some r → n.Segments[k]? = some s → RateOk s r) ∧
   (∀ (k : Nat) (s : Segment), n.Segments[k]? = some s → nd j ≤ s.From → nd j ≤ s.To → st[k]? = rates[k]?) ∧
   ∀ v, dot (wt n v) st = dot (wt n v) rates + (rate * ind (nd j) v - rate * ind (nd 0) v)) ⟨rfl, h.rng, fun _ _ _ _ _ => rfl, fun v => by omega⟩ ?_ fun st ⟨h1, h2, _, h4⟩ => ⟨h1, h2, h4⟩
 rintro j st hj ⟨h1, h2, h3, h4⟩
 obtain ⟨i, x, r, hk, hs, hold, hlt, hends, hrng⟩ := hw j way[j] (gq hj)
 have hil := (gs hs).1
 have hst : st[i]? = some r := by
  rw [h3 i x hs (by rcases hends with h | h <;> omega) (by rcases hends with h | h <;> omega)]; exact hold
 have hok := h.rng i r x hold hs
 have o1 := hok.rng; have o2 := hok.up; have o3 := hok.down
 have hw : ∀ v, (wt n v)[i]? = some (ind x.To v - ind x.From v) := fun v => by unfold wt; rw [List.getElem?_map, hs]; rfl
 have fin : ∀ y : Int, RateOk x y → (∀ v, (ind x.To v - ind x.From v) * (y - r) = rate * ind (nd (j + 1)) v - rate * ind (nd j) v) → Ok (L.zjbu.J10 (st.set i y)) fun st => st.length = rates.length ∧ (∀ (k : Nat) (r : Int) (s : Segment), st[k]? = some r → n.Segments[k]? = some s → RateOk s r) ∧
   (∀ (k : Nat) (s : Segment), n.Segments[k]? = some s → nd (j + 1) ≤ s.From → nd (j + 1) ≤ s.To → st[k]? = rates[k]?) ∧
   ∀ v, dot (wt n v) st = dot (wt n v) rates + (rate * ind (nd (j + 1)) v - rate * ind (nd 0) v) := by
  intro y hy hyv
  unfold L.zjbu.J10
  refine .pure ⟨by simp [h1], fun k r' s' hk' hs' => ?_, fun k s' hs' a1 a2 => ?_, fun v => ?_⟩
  ·rw [get_set] at hk'
   split at hk'
   ·rename_i hik
    obtain ⟨rfl, _⟩ := hik
    simp at hk'; subst hk'
    rw [hs] at hs'; simp at hs'; subst hs'; exact hy
   ·exact h2 k r' s' hk' hs'
  ·have hne : i ≠ k := by
    rintro rfl
    rw [hs] at hs'; simp at hs'; subst hs'
    rcases hends with h | h <;> omega
   rw [List.getElem?_set_ne hne]
   exact h3 k s' hs' (by omega) (by omega)
  ·rw [dot_set (hw v) hst, h4 v, hyv v]; omega
 unfold L.zjbu.B9
 refine .bind' (.ix j rfl hj ?_)
 dsimp only
 rw [hk]
 refine .bind' (.ix i rfl hil ?_)
 have hx : n.Segments[i] = x := by
  have := gq hil
  rw [hs] at this; exact (Option.some.inj this).symm
 have hil2 := (gs hst).1
 have hsr : st[i] = r := by
  have := gq hil2
  rw [hst] at this; exact (Option.some.inj this).symm
 dsimp only
 rw [hx]
 refine Ok.iteD (fun hft => ?_) fun hft => ?_
 ·refine .bind' (.ix i rfl hil2 ?_)
  dsimp only
  rw [hsr, wr_id (by omega)]
  have he : x.From = nd j ∧ x.To = nd (j + 1) := by rcases hends with h | h <;> omega
  have := o2 hft
  refine fin _ ⟨by omega, fun _ => by omega, fun _ => by omega⟩ fun v => ?_
  rw [he.1, he.2, show r + rate - r = rate by omega, Int.sub_mul, Int.mul_comm, Int.mul_comm (ind (nd j) v)]
 ·refine .bind' (.ix i rfl hil2 ?_)
  dsimp only
  rw [hsr, wr_id (by omega)]
  have he : x.To = nd j ∧ x.From = nd (j + 1) := by rcases hends with h | h <;> omega
  have := o3 (by omega)
  refine fin _ ⟨by omega, fun _ => by omega, fun _ => by omega⟩ fun v => ?_
  rw [he.1, he.2, show r - rate - r = -rate by omega, Int.sub_mul, Int.mul_neg, Int.mul_neg, Int.mul_comm, Int.mul_comm (ind (nd (j + 1)) v)]; omega
theorem abs_eq {x : Int} (h : -1000000 ≤ x ∧ x ≤ 1000000) : L.zhea x = max x (-x) := by
 unfold L.zhea
 rw [wr_id (by omega), Int.zero_sub]
theorem neg_ok {l : List Int} {f : Nat → Int → List Int → Option (List Int)} (hf : ∀ k x st, f k x st = (app? st [wr (0 - x)]).bind fun y => some y) (hl : l.length ≤ 1000) (hr : ∀ (k : Nat) (x : Int), l[k]? = some x → -1000000 ≤ x ∧ x ≤ 1000000) :
  Ok (forS f 0 l []) fun r => r = l.map fun x => -x := by
 refine .forS (fun k st => st = (l.take k).map fun x => -x) (by simp) ?_ fun st h => by rw [h]; simp
 rintro k x st hx rfl
 rw [hf]
 have hk := (gs hx).1
 have := hr k x hx
 refine .bind' (.app (by simp; omega) (.pure ?_))
 rw [List.take_add_one, hx, wr_id (by omega)]
 simp
theorem negated_ok {p : Plan} (h1 : p.Rates.length ≤ 1000) (h2 : p.Ports.length ≤ 1000) (h3 : p.Pumps.length ≤ 1000) (h4 : ∀ (k : Nat) (x : Int), p.Rates[k]? = some x → -1000000 ≤ x ∧ x ≤ 1000000)
  (h5 : ∀ (k : Nat) (x : Int), p.Ports[k]? = some x → -1000000 ≤ x ∧ x ≤ 1000000) : L.znbg p = some ⟨p.Rates.map fun x => -x, p.Ports.map fun x => -x, p.Pumps⟩ := by
 have : Ok (L.znbg p) fun r => r = ⟨p.Rates.map fun x => -x, p.Ports.map fun x => -x, p.Pumps⟩ := by
  unfold L.znbg
  refine .bind' (.app (by simp; omega) (.bind (neg_ok (fun _ _ _ => rfl) h1 h4) ?_))
  rintro _ rfl
  unfold L.znbg.J1
  refine .bind (neg_ok (fun _ _ _ => rfl) h2 h5) ?_
  rintro _ rfl
  unfold L.znbg.J2
  exact .pure (by simp)
 obtain ⟨r, h, rfl⟩ := this
 exact h
def WayTo (n : Network) (rates : List Int) (rate s0 : Int) (way : List Int) (t : Int) : Prop :=
 ∃ nd : Nat → Int, nd 0 = s0 ∧ nd way.length = t ∧ ∀ (j : Nat) (k : Int), way[j]? = some k → HopAt n rates rate (nd j) k (nd (j + 1))
theorem WayTo.snoc {n : Network} {rates : List Int} {rate s0 : Int} {way : List Int} {m k t : Int} (h : WayTo n rates rate s0 way m) (hk : HopAt n rates rate m k t) : WayTo n rates rate s0 (way ++ [k]) t := by
 obtain ⟨nd, h1, h2, h3⟩ := h
 refine ⟨fun i => if i ≤ way.length then nd i else t, by simp [h1], by simp; omega, fun j k' hj => ?_⟩
 rw [List.getElem?_append] at hj
 split at hj
 ·rename_i hjl
  have := h3 j k' hj
  dsimp only
  rw [if_pos (by omega), if_pos (by omega)]; exact this
 ·have hb := (gs hj).1
  simp at hb
  have : j = way.length := by omega
  subst this
  simp at hj; subst hj
  dsimp only
  rw [if_pos (by omega), if_neg (by omega), h2]; exact hk
def EndAt (n : Network) (ports : List Int) (rate : Int) (a : Nat) (t e : Int) : Prop :=
 ∃ (kk : Nat) (p : Port) (x : Int), e = (kk : Int) ∧ kk ≠ a ∧ n.Ports[kk]? = some p ∧ p.Node = t ∧ ports[kk]? = some x ∧ x ≤ 0 ∧ x - rate ≥ -1000
theorem way_ok {n : Network} (hn : NetOk n) {rates ports : List Int} {rate : Int} {a : Nat} {l0 : List Int} {q0 c0 s0 : Int} {sa s : Src} (h : PlInv n rates ports) (hr : 1 ≤ rate ∧ rate ≤ 300) (hs : SrcOk s)
  (h0 : 0 ≤ s0 ∧ s0 < (n.Nodes.length : Int)) :
  Ok (loopN (L.zjbu.B11 n (l0, q0, rates, ports, c0) ((a : Int), sa) (rate, s)) lots (s.L_, s.At, s0, [], -1)) fun d => SrcOk ⟨d.1, d.2.1⟩ ∧ (d.2.2.2 < 0 ∨ ∃ t, WayTo n rates rate s0 d.2.2.1 t ∧ EndAt n ports rate a t d.2.2.2) := by
 have hnn := hn.nodes
 have hsn := hn.segs1
 refine .loop (fun st : List Int × Int × Int × List Int × Int => SrcOk ⟨st.1, st.2.1⟩ ∧ st.2.2.2.2 = -1 ∧ (0 ≤ st.2.2.1 ∧ st.2.2.1 < (n.Nodes.length : Int)) ∧ (st.2.2.2.1.length : Int) ≤ st.2.2.1 ∧ WayTo n rates rate s0 st.2.2.2.1 st.2.2.1) (fun st => n.Nodes.length - st.2.2.1.toNat)
  ⟨hs, rfl, h0, by simp; omega, fun _ => s0, rfl, rfl, by simp⟩ (by dsimp only; omega) ?_
 rintro ⟨L_, At, at_, way, e⟩ ⟨i1, i2, i3, i4, i5⟩
 dsimp only at i1 i2 i3 i4 i5
 subst i2
 unfold L.zjbu.B11
 refine Ok.iteD (fun _ => ?_) fun h => absurd (show (-1 : Int) < 0 by decide) h
 refine .bind (Q := fun d : List Int × Int × Int => SrcOk ⟨d.1, d.2.1⟩ ∧ (d.2.2 = -1 ∨ EndAt n ports rate a at_ d.2.2)) ?_ ?_
 ·refine .forS (fun _ d => SrcOk ⟨d.1, d.2.1⟩ ∧ (d.2.2 = -1 ∨ EndAt n ports rate a at_ d.2.2)) ⟨i1, .inl rfl⟩ ?_ fun _ h => h
  rintro k p ⟨L2, A2, e2⟩ hp ⟨j1, j2⟩
  dsimp only at j1 j2
  have no : ∀ {x : List Int × Int × Bool}, SrcOk ⟨x.1, x.2.1⟩ → x.2.2 = false → Ok (L.zjbu.J19 k (L2, A2, e2) x) fun d => SrcOk ⟨d.1, d.2.1⟩ ∧ (d.2.2 = -1 ∨ EndAt n ports rate a at_ d.2.2) := by
   intro x h1 h2
   unfold L.zjbu.J19 L.zjbu.J18
   rw [h2]
   exact .pure ⟨h1, j2⟩
  have hkl := (gs hp).1
  have hpl := h.pl
  unfold L.zjbu.B17
  refine Ok.iteE (fun he => ?_) fun _ => no j1 rfl
  refine Ok.iteU (fun hka => ?_) fun _ => no j1 rfl
  refine .bind' (.ix k rfl (by dsimp only; omega) ?_)
  have hx : ports[k]? = some ports[k] := gq (by omega)
  have hxr := h.prt k _ hx
  dsimp only
  rw [wr_id (by omega)]
  refine Ok.iteD (fun hx0 => ?_) fun _ => no j1 rfl
  refine Ok.iteD (fun hxm => ?_) fun _ => no j1 rfl
  refine Ok.iteD (fun _ => ?_) fun _ => no j1 rfl
  refine .bind (n_ok j1 (by decide) (by decide)) fun r hr5 => ?_
  unfold L.zjbu.J19 L.zjbu.J18
  refine Ok.iteB (fun _ => .pure ⟨hr5.1, .inr ⟨k, p, ports[k], rfl, fun h => by omega, hp, he, hx, hx0, hxm⟩⟩) fun _ => .pure ⟨hr5.1, j2⟩
 rintro ⟨L2, A2, e2⟩ ⟨j1, j2⟩
 dsimp only at j1 j2
 unfold L.zjbu.J12
 refine Ok.iteD (fun h0 => .pure ⟨j1, .inr ⟨at_, i5, ?_⟩⟩) fun h0 => ?_
 ·rcases j2 with h | h
  ·dsimp only at h0; omega
  ·exact h
 have he2 : e2 = -1 := by
  rcases j2 with h | ⟨kk, _, _, h, _⟩
  ·exact h
  ·dsimp only at h0; omega
 subst he2
 refine .bind (Q := fun out : List Int => out.length ≤ 1000 ∧ ∀ k, k ∈ out → ∃ t, HopAt n rates rate at_ k t ∧ at_ < t ∧ t < (n.Nodes.length : Int)) ?_ ?_
 ·refine .forS (fun k out => out.length ≤ k ∧ ∀ k, k ∈ out → ∃ t, HopAt n rates rate at_ k t ∧ at_ < t ∧ t < (n.Nodes.length : Int)) ⟨by simp, by simp⟩ ?_ fun out ho => ⟨by have := ho.1; omega, ho.2⟩
  rintro k x out hx ⟨o1, o2⟩
  have hkl := (gs hx).1
  have hxo := (hn.segs k x hx).ends
  have hxc := (hn.segs k x hx).cap
  have hrl := h.rl
  have hold : rates[k]? = some rates[k] := gq (by omega)
  have hro := (h.rng k _ x hold hx).rng
  have no : ∀ {x : Bool}, x = false → Ok (L.zjbu.J16 k out x) fun out => out.length ≤ k + 1 ∧ ∀ k, k ∈ out → ∃ t, HopAt n rates rate at_ k t ∧ at_ < t ∧ t < (n.Nodes.length : Int) := by
   intro x hx
   unfold L.zjbu.J16 L.zjbu.J15
   rw [hx]
   exact .pure ⟨by omega, o2⟩
  have yes : ∀ t, (x.From = at_ ∧ x.To = t ∨ x.To = at_ ∧ x.From = t) → at_ < t → Ok (L.zjbu.J16 k out (decide ((wr ((L.zhea rates[k]) + rate)) ≤ (min 1000 x.Capacity)))) fun out => out.length ≤ k + 1 ∧ ∀ k, k ∈ out → ∃ t, HopAt n rates rate at_ k t ∧ at_ < t ∧ t < (n.Nodes.length : Int) := by
   intro t ht hlt
   unfold L.zjbu.J16 L.zjbu.J15
   refine Ok.iteD (fun hc => ?_) fun _ => .pure ⟨by omega, o2⟩
   rw [abs_eq (by omega), wr_id (by omega)] at hc
   refine .bind' (.app (by simp; omega) (.pure ⟨by simp; omega, fun k' hk' => ?_⟩))
   rcases List.mem_append.1 hk' with hk' | hk'
   ·exact o2 k' hk'
   ·simp at hk'; subst hk'
    exact ⟨t, ⟨k, x, rates[k], rfl, hx, hold, hlt, ht, by omega⟩, hlt, by rcases ht with h | h <;> omega⟩
  unfold L.zjbu.B14
  dsimp only
  simp (disch := omega) only [wr_id]
  refine Ok.iteE (fun hf => ?_) fun _ => Ok.iteE (fun hf => ?_) fun _ => no rfl
  ·refine Ok.iteD (fun ht => ?_) fun _ => no rfl
   exact .bind' (.ix k rfl (by omega) (yes x.To (.inl ⟨hf, rfl⟩) (by omega)))
  ·refine Ok.iteD (fun ht => ?_) fun _ => no rfl
   exact .bind' (.ix k rfl (by omega) (yes x.From (.inr ⟨hf, rfl⟩) (by omega)))
 rintro out ⟨o1, o2⟩
 unfold L.zjbu.J13
 refine Ok.iteE (fun _ => .pure ⟨j1, .inl (show (-1 : Int) < 0 by decide)⟩) fun hl => ?_
 refine .bind (n_ok j1 (by omega) (by omega)) fun r hr5 => ?_
 refine .bind' (.ix' hr5.2.1 hr5.2.2 fun k y _ hy => ?_)
 obtain ⟨t, hop, hlt, htn⟩ := o2 y (mg hy)
 have hop' := hop
 obtain ⟨i, x, r0, rfl, hop⟩ := hop
 refine .bind' (.app (by simp; omega) ?_)
 have hil := (gs hop.seg).1
 have hxo := (hn.segs i x hop.seg).ends
 refine .bind' (.eq (ix_nat hop.seg) ?_)
 dsimp only
 have he := hop.ends
 have hw : wr (wr (x.From + x.To) - at_) = t := by
  simp (disch := omega) only [wr_id]
  rcases he with h | h <;> omega
 rw [hw]
 exact .pure ⟨⟨hr5.1, rfl, ⟨by dsimp only; omega, htn⟩, by simp; omega, i5.snoc hop'⟩, by dsimp only; omega⟩
structure PlanOk (n : Network) (p : Plan) : Prop where
 rl : p.Rates.length = n.Segments.length
 pl : p.Ports.length = n.Ports.length
 ml : p.Pumps.length = n.Stations.length
 rng : ∀ (k : Nat) (r : Int) (s : Segment), p.Rates[k]? = some r → n.Segments[k]? = some s → -1000 ≤ r ∧ r ≤ 1000 ∧ -s.Capacity ≤ r ∧ r ≤ s.Capacity
 prt : ∀ (k : Nat) (x : Int), p.Ports[k]? = some x → -1000 ≤ x ∧ x ≤ 1000
 bal : ∀ v, dot (wt n v) p.Rates + dot (wp n v) p.Ports = 0
 dir : (∀ (k : Nat) (r : Int) (s : Segment), p.Rates[k]? = some r → n.Segments[k]? = some s → (0 < r → s.From < s.To) ∧ (r < 0 → s.To < s.From)) ∨
  (∀ (k : Nat) (r : Int) (s : Segment), p.Rates[k]? = some r → n.Segments[k]? = some s → (0 < r → s.To < s.From) ∧ (r < 0 → s.From < s.To))
theorem streams_ok {n : Network} (hn : NetOk n) {s : Src} (hs : SrcOk s) {rates ports : List Int} {c : Int} (hc : 0 ≤ c ∧ c < 5) (h : PlInv n rates ports) :
  Ok (loopN (L.zjbu.B4 n) lots (s.L_, s.At, rates, ports, c)) fun d => SrcOk ⟨d.1, d.2.1⟩ ∧ PlInv n d.2.2.1 d.2.2.2 := by
 have hpn := hn.ports1
 refine .loop (fun st : List Int × Int × List Int × List Int × Int => SrcOk ⟨st.1, st.2.1⟩ ∧ PlInv n st.2.2.1 st.2.2.2.1 ∧ 0 ≤ st.2.2.2.2 ∧ st.2.2.2.2 < 5) (fun st => st.2.2.2.2.toNat) ⟨hs, h, hc⟩ (by dsimp only; omega) ?_
 rintro ⟨L_, At, rates, ports, c⟩ ⟨i1, i2, i3⟩
 dsimp only at i1 i2 i3
 unfold L.zjbu.B4
 refine Ok.iteD (fun h0 => ?_) fun _ => .pure ⟨i1, i2⟩
 dsimp only at h0
 have j5 : ∀ j : List Int × Int × List Int × List Int, SrcOk ⟨j.1, j.2.1⟩ → PlInv n j.2.2.1 j.2.2.2 → Ok (L.zjbu.J5 (L_, At, rates, ports, c) j)
   (Sum.elim (fun st => (SrcOk ⟨st.1, st.2.1⟩ ∧ PlInv n st.2.2.1 st.2.2.2.1 ∧ 0 ≤ st.2.2.2.2 ∧ st.2.2.2.2 < 5) ∧ st.2.2.2.2.toNat < c.toNat) fun d => SrcOk ⟨d.1, d.2.1⟩ ∧ PlInv n d.2.2.1 d.2.2.2) := by
  intro j h1 h2
  unfold L.zjbu.J5
  dsimp only
  rw [wr_id (by omega)]
  exact .pure ⟨⟨h1, h2, by dsimp only; omega⟩, by dsimp only; omega⟩
 refine .bind (n_ok i1 (by omega) (by omega)) fun r4095 h4095 => ?_
 obtain ⟨ai, sa⟩ := r4095
 dsimp only at h4095
 obtain ⟨a, rfl⟩ := nat_of h4095.2.1
 have hal : a < n.Ports.length := by omega
 have hpa : n.Ports[a]? = some n.Ports[a] := gq hal
 have hpo := (hn.ports a _ hpa).node
 refine .bind' (.eq (ix_nat hpa) ?_)
 refine .bind (pick_ok h4095.1 (by decide) (by decide)) fun r4101 h4101 => ?_
 have c1 := h4101.2
 simp only [List.mem_cons, List.not_mem_nil, or_false] at c1
 refine .bind (range_ok h4101.1 (by omega) (by omega) (by omega)) fun r4103 h4103 => ?_
 obtain ⟨rate, s⟩ := r4103
 dsimp only at h4103
 have hrate : 1 ≤ rate ∧ rate ≤ 300 := by omega
 have hxl : a < ports.length := by have := i2.pl; omega
 have hx : ports[a]? = some ports[a] := gq hxl
 have hxr := i2.prt a _ hx
 refine .bind' (.eq (ix_nat hx) ?_)
 dsimp only
 have j6t : Ok (L.zjbu.J6 n (L_, At, rates, ports, c) ((a : Int), sa) (a, n.Ports[a]) (rate, s) true)
   (Sum.elim (fun st => (SrcOk ⟨st.1, st.2.1⟩ ∧ PlInv n st.2.2.1 st.2.2.2.1 ∧ 0 ≤ st.2.2.2.2 ∧ st.2.2.2.2 < 5) ∧ st.2.2.2.2.toNat < c.toNat) fun d => SrcOk ⟨d.1, d.2.1⟩ ∧ PlInv n d.2.2.1 d.2.2.2) := by
  unfold L.zjbu.J6
  exact j5 (_, _, _, _) h4103.1 i2
 rw [wr_id (by omega)]
 refine Ok.iteD (fun _ => j6t) fun hx0 => ?_
 by_cases hbig : ports[a] + rate > 1000
 ·simp only [hbig, decide_true]; exact j6t
 simp only [hbig, decide_false]
 unfold L.zjbu.J6
 refine .bind (way_ok hn i2 hrate h4103.1 hpo) ?_
 rintro ⟨L2, A2, way, e⟩ ⟨w1, w2⟩
 dsimp only at w1 w2
 unfold L.zjbu.J7
 refine Ok.iteD (fun _ => j5 (_, _, _, _) w1 i2) fun he => ?_
 dsimp only at he
 obtain ⟨t, ⟨nd, n0, n1, n2⟩, kk, p, x, rfl, hka, hp, hpt, hxk, hx0', hxm⟩ := w2.resolve_left he
 have hkl := (gs hxk).1
 have hxkr := i2.prt kk _ hxk
 refine .bind' (.eq (ix_nat hx) (.bind' (.eq (ix_nat hxk) ?_)))
 dsimp only
 rw [wr_id (by omega)]
 have hset : (ports.set a (ports[a] + rate))[kk]? = some x := by rw [List.getElem?_set_ne (Ne.symm hka)]; exact hxk
 refine .bind' (.eq (ix_nat hset) ?_)
 dsimp only
 rw [wr_id (by omega)]
 unfold L.zjbu.J8
 refine .bind (carry_ok i2 hrate n2) fun st hst => ?_
 obtain ⟨s1, s2, s3⟩ := hst
 dsimp only at s1 s2 s3
 refine j5 (_, _, _, _) w1 ⟨by dsimp only; rw [s1]; exact i2.rl, by simp [i2.pl], s2, fun k y hk => ?_, fun v => ?_⟩
 ·dsimp only at hk
  rw [get_set] at hk
  split at hk
  ·simp at hk; omega
  ·rw [get_set] at hk
   split at hk
   ·simp at hk; omega
   ·exact i2.prt k y hk
 ·have w1 : (wp n v)[a]? = some (ind n.Ports[a].Node v) := by unfold wp; rw [List.getElem?_map, hpa]; rfl
  have w2 : (wp n v)[kk]? = some (ind p.Node v) := by unfold wp; rw [List.getElem?_map, hp]; rfl
  dsimp only
  rw [dot_set w2 hset, dot_set w1 hx, s3 v, n0, n1, hpt]
  have := i2.bal v
  have e1 : ind n.Ports[a].Node v * (ports[a] + rate - ports[a]) = rate * ind n.Ports[a].Node v := by rw [show ports[a] + rate - ports[a] = rate by omega, Int.mul_comm]
  have e2 : ind t v * (x - rate - x) = -(rate * ind t v) := by rw [show x - rate - x = -rate by omega, Int.mul_neg, Int.mul_comm]
  rw [e1, e2]
  omega
theorem plan_ok {n : Network} (hn : NetOk n) {s : Src} (hs : SrcOk s) : Ok (L.zjbu s n) fun r => PlanOk n r.1 ∧ SrcOk r.2 := by
 have h1 := hn.segs1; have h2 := hn.ports1; have h3 := hn.sts1
 unfold L.zjbu
 refine .bind' (.mk n.Segments.length rfl (by omega) (.bind' (.mk n.Ports.length rfl (by omega) ?_)))
 unfold L.zjbu.J1
 refine .bind (Q := fun d : List Int × Int × List Bool => SrcOk ⟨d.1, d.2.1⟩ ∧ d.2.2.length = n.Stations.length) ?_ ?_
 ·refine .loop (fun st : List Int × Int × List Bool × Int => SrcOk ⟨st.1, st.2.1⟩ ∧ (st.2.2.1.length : Int) = st.2.2.2 ∧ st.2.2.1.length ≤ n.Stations.length) (fun st => n.Stations.length - st.2.2.1.length) ⟨hs, by simp, by simp⟩ (by dsimp only; omega) ?_
  rintro ⟨L_, At, pumps, i⟩ ⟨i1, i2, i3⟩
  dsimp only at i1 i2 i3
  unfold L.zjbu.B20
  refine Ok.iteD (fun h0 => ?_) fun h0 => .pure ⟨i1, by dsimp only at h0 ⊢; omega⟩
  dsimp only at h0 ⊢
  refine .bind (n_ok i1 (by decide) (by decide)) fun r hr => .bind' (.app (by simp; omega) (.pure ?_))
  rw [wr_id (by omega)]
  exact ⟨⟨hr.1, by simp; omega, by simp; omega⟩, by simp; omega⟩
 rintro ⟨L_, At, pumps⟩ ⟨i1, i2⟩
 dsimp only at i1 i2
 unfold L.zjbu.J2
 refine .bind (n_ok i1 (by decide) (by decide)) fun r51 h51 => .bind (n_ok h51.1 (by decide) (by decide)) fun r1787 h1787 => ?_
 refine .bind (streams_ok hn h1787.1 h1787.2 ⟨by simp, by simp, fun k r s hr hs => ?_, fun k x hx => ?_, fun v => ?_⟩) ?_
 ·have := mg hr
  simp at this
  have hc := (hn.segs k s hs).cap
  exact ⟨by omega, fun _ => by omega, fun _ => by omega⟩
 ·have := mg hx
  simp at this
  omega
 ·rw [dot_zero, dot_zero]; omega
 rintro ⟨L2, A2, rates, ports⟩ ⟨j1, j2⟩
 dsimp only at j1 j2
 have hr0 : ∀ (k : Nat) (r : Int), rates[k]? = some r → -1000000 ≤ r ∧ r ≤ 1000000 := fun k r hr => by
  have hk := (gs hr).1
  have hs : n.Segments[k]? = some _ := gq (by have := j2.rl; omega)
  have := (j2.rng k r _ hr hs).rng
  omega
 unfold L.zjbu.J3
 refine Ok.iteE (fun _ => ?_) fun _ => .pure ⟨⟨j2.rl, j2.pl, i2, fun k r s hr hs => (j2.rng k r s hr hs).rng, j2.prt, j2.bal, .inl fun k r s hr hs => ?_⟩, j1⟩
 ·refine .bind' (.eq (negated_ok (by dsimp only; have := j2.rl; omega) (by dsimp only; have := j2.pl; omega) (by dsimp only; omega) hr0 fun k x hx => by have := j2.prt k x hx; omega) (.pure ⟨⟨by simp [j2.rl], by simp [j2.pl], i2, fun k r s hr hs => ?_, fun k x hx => ?_, fun v => ?_, .inr fun k r s hr hs => ?_⟩, j1⟩))
  ·dsimp only at hr
   rw [List.getElem?_map] at hr
   obtain ⟨r', hr', rfl⟩ := Option.map_eq_some_iff.1 hr
   have := (j2.rng k r' s hr' hs).rng
   omega
  ·dsimp only at hx
   rw [List.getElem?_map] at hx
   obtain ⟨r', hr', rfl⟩ := Option.map_eq_some_iff.1 hx
   have := j2.prt k r' hr'
   omega
  ·dsimp only
   rw [dot_neg, dot_neg]
   have := j2.bal v
   omega
  ·dsimp only at hr
   rw [List.getElem?_map] at hr
   obtain ⟨r', hr', rfl⟩ := Option.map_eq_some_iff.1 hr
   have h5 := j2.rng k r' s hr' hs
   have h6 := (hn.segs k s hs).ends
   have := h5.up; have := h5.down
   omega
 ·have h5 := j2.rng k r s hr hs
  have h6 := (hn.segs k s hs).ends
  have := h5.up; have := h5.down
  omega
def val {n : Nat} (a : Arr Int n) (v : Nat) : Int := a.l.getD v 0
theorem val_set {n : Nat} {a : Arr Int n} {i v : Nat} {x : Int} (hv : v < n) : val (a.set i x) v = if i = v then x else val a v := by
 unfold val Arr.set
 dsimp only
 rw [List.getD_eq_getElem?_getD, List.getD_eq_getElem?_getD, get_set]
 have := a.h
 by_cases h : i = v
 ·rw [if_pos ⟨h, by omega⟩, if_pos h]; rfl
 ·rw [if_neg (fun h' => h h'.1), if_neg h]
theorem val_get {n : Nat} {a : Arr Int n} {i : Nat} {x : Int} (h : a.l[i]? = some x) : val a i = x := by
 unfold val; rw [List.getD_eq_getElem?_getD, h]; rfl
theorem val_rep {n v : Nat} : val (Arr.rep n (0 : Int)) v = 0 := by
 unfold val Arr.rep
 dsimp only
 rw [List.getD_eq_getElem?_getD, List.getElem?_replicate]
 split <;> rfl
structure Strm (b : Int) (s : flow_streams) (f : Nat → Int) : Prop where
 come : ∀ v, v < 24 → 0 ≤ val s.come v ∧ val s.come v ≤ b
 leave : ∀ v, v < 24 → 0 ≤ val s.leave v ∧ val s.leave v ≤ b
 diff : ∀ v, v < 24 → val s.come v - val s.leave v = f v
theorem ind_self (v : Int) : ind v v = 1 := if_pos rfl
theorem ind_ne {a v : Int} (h : a ≠ v) : ind a v = 0 := if_neg h
theorem add_ok {s : flow_streams} {b : Int} {f : Nat → Int} (h : Strm b s f) (hb : 0 ≤ b ∧ b ≤ 1000000) {from_ to_ rate : Int} (hf : from_ < 24) (ht : to_ < 24) (hft : -1 ≤ from_ ∧ -1 ≤ to_)
  (hr : -1000 ≤ rate ∧ rate ≤ 1000) : Ok (L.zuui s from_ to_ rate) fun r => Strm (b + 1000) r fun v => f v + (ind to_ v - ind from_ v) * rate := by
 have main : ∀ (from_ to_ rate : Int), from_ < 24 → to_ < 24 → -1 ≤ from_ ∧ -1 ≤ to_ → 0 ≤ rate ∧ rate ≤ 1000 → Ok (L.zuui.J1 s (from_, to_, rate)) fun r => Strm (b + 1000) r fun v => f v + (ind to_ v - ind from_ v) * rate := by
  intro from_ to_ rate hf ht hft hr
  have j2 : ∀ (lv : Arr Int 24), (∀ v, v < 24 → 0 ≤ val lv v ∧ val lv v ≤ b + 1000 ∧ val lv v = val s.leave v + ind from_ v * rate) → Ok (L.zuui.J2 s (from_, to_, rate) lv) fun r => Strm (b + 1000) r fun v => f v + (ind to_ v - ind from_ v) * rate := by
   intro lv hlv
   unfold L.zuui.J2
   refine Ok.iteD (fun h0 => ?_) fun h0 => .pure ?_
   ·dsimp only at h0
    obtain ⟨t, rfl⟩ := nat_of h0
    have hl := s.come.h
    refine .bind' (.ix t rfl (by omega) ?_)
    have hx : s.come.l[t]? = some s.come.l[t] := gq (by omega)
    have hvx := val_get hx
    have hcx := h.come t (by omega)
    dsimp only
    rw [wr_id (by omega)]
    refine .pure ⟨fun v hv => ?_, fun v hv => ⟨(hlv v hv).1, (hlv v hv).2.1⟩, fun v hv => ?_⟩
    ·have := h.come v hv
     dsimp only
     rw [val_set hv]; split <;> omega
    ·have h1 := h.diff v hv
     have h2 := (hlv v hv).2.2
     dsimp only
     rw [val_set hv, h2, Int.sub_mul]
     by_cases htv : t = v
     ·subst htv; rw [if_pos rfl, ind_self]; omega
     ·rw [if_neg htv, ind_ne (a := (t : Int)) (by omega)]; omega
   ·dsimp only at h0
    refine ⟨fun v hv => ?_, fun v hv => ⟨(hlv v hv).1, (hlv v hv).2.1⟩, fun v hv => ?_⟩
    ·have := h.come v hv
     dsimp only; omega
    ·have h1 := h.diff v hv
     have h2 := (hlv v hv).2.2
     dsimp only
     rw [h2, Int.sub_mul, ind_ne (a := to_) (by omega)]; omega
  unfold L.zuui.J1
  refine Ok.iteD (fun h0 => ?_) fun h0 => ?_
  ·dsimp only at h0
   obtain ⟨t, rfl⟩ := nat_of h0
   have hl := s.leave.h
   refine .bind' (.ix t rfl (by omega) ?_)
   have hx : s.leave.l[t]? = some s.leave.l[t] := gq (by omega)
   have hvx := val_get hx
   have hcx := h.leave t (by omega)
   dsimp only
   rw [wr_id (by omega)]
   refine j2 _ fun v hv => ?_
   have := h.leave v hv
   rw [val_set hv]
   by_cases htv : t = v
   ·subst htv; rw [if_pos rfl, ind_self]; omega
   ·rw [if_neg htv, ind_ne (by omega)]; omega
  ·dsimp only at h0
   refine j2 _ fun v hv => ?_
   have := h.leave v hv
   rw [ind_ne (by omega)]; omega
 unfold L.zuui
 refine Ok.iteD (fun h0 => ?_) fun h0 => main _ _ _ hf ht hft (by omega)
 rw [wr_id (by omega)]
 refine (main to_ from_ (0 - rate) ht hf ⟨hft.2, hft.1⟩ (by omega)).mono fun r hr => ⟨hr.come, hr.leave, fun v hv => ?_⟩
 rw [hr.diff v hv]
 have : ∀ a b r : Int, (a - b) * (0 - r) = (b - a) * r := fun a b r => by rw [Int.zero_sub, Int.mul_neg, ← Int.neg_mul]; congr 1; omega
 rw [this]
def Blocked (n : Network) (p : Plan) (there : List Bool) (j : Nat) : Prop :=
 ∃ (i : Nat) (s : Segment) (r : Int) (f : Nat), n.Segments[i]? = some s ∧ p.Rates[i]? = some r ∧ r ≠ 0 ∧ (L.ztzg s r).2 = (j : Int) ∧ (L.ztzg s r).1 = (f : Int) ∧ there[f]? = some false
def Acyc (n : Network) (p : Plan) : Prop := ∀ there : List Bool, there.length = n.Nodes.length → (∀ j : Nat, there[j]? = some false → Blocked n p there j) → ∀ k : Nat, there[k]? ≠ some false
structure FlowOk (n : Network) (p : Plan) : Prop where
 rl : p.Rates.length = n.Segments.length
 pl : p.Ports.length = n.Ports.length
 ml : p.Pumps.length = n.Stations.length
 rng : ∀ (k : Nat) (r : Int) (s : Segment), p.Rates[k]? = some r → n.Segments[k]? = some s → -1000 ≤ r ∧ r ≤ 1000 ∧ -s.Capacity ≤ r ∧ r ≤ s.Capacity
 prt : ∀ (k : Nat) (x : Int), p.Ports[k]? = some x → -1000 ≤ x ∧ x ≤ 1000
 bal : ∀ v : Nat, v < 24 → dot (wt n v) p.Rates + dot (wp n v) p.Ports = 0
 acyc : Acyc n p
theorem endsOf {s : Segment} {r : Int} (hr0 : r ≠ 0) : L.ztzg s r = (s.To, s.From) ∧ r < 0 ∨ L.ztzg s r = (s.From, s.To) ∧ 0 < r := by
 unfold L.ztzg
 by_cases hn : r < 0
 ·exact .inl ⟨by rw [if_pos (by simp [hn])], hn⟩
 ·exact .inr ⟨by rw [if_neg (by simp [hn])], by omega⟩
theorem PlanOk.flow {n : Network} {p : Plan} (h : PlanOk n p) : FlowOk n p := by
 refine ⟨h.rl, h.pl, h.ml, h.rng, h.prt, fun v _ => h.bal v, fun there hl i5 => ?_⟩
 rcases h.dir with hd | hd
 ·intro k
  induction k using Nat.strongRecOn with
  | ind k ih =>
   intro hk
   have hkl := (gs hk).1
   obtain ⟨i, s, r, f, hs, hr, hr0, hto, hfr, hf⟩ := i5 k hk
   have := hd i r s hr hs
   refine ih f ?_ hf
   rcases endsOf (s := s) hr0 with ⟨he, hr1⟩ | ⟨he, hr1⟩ <;> rw [he] at hto hfr <;> dsimp only at hto hfr <;> omega
 ·have : ∀ m k : Nat, there.length - k = m → there[k]? ≠ some false := by
   intro m
   induction m using Nat.strongRecOn with
   | ind m ih =>
    intro k hm hk
    have hkl := (gs hk).1
    obtain ⟨i, s, r, f, hs, hr, hr0, hto, hfr, hf⟩ := i5 k hk
    have hfl := (gs hf).1
    have := hd i r s hr hs
    refine ih (there.length - f) ?_ f rfl hf
    rcases endsOf (s := s) hr0 with ⟨he, hr1⟩ | ⟨he, hr1⟩ <;> rw [he] at hto hfr <;> dsimp only at hto hfr <;> omega
  exact fun k => this _ k rfl
theorem sums_okG {n : Network} (hn : NetG n) {p : Plan} (h : FlowOk n p) : Ok (L.zzkf n p) fun r => Strm 14000 r fun _ => 0 := by
 have h1 := hn.nodes; have h2 := hn.segs1; have h3 := hn.ports1; have h4 := h.rl; have h5 := h.pl
 unfold L.zzkf
 refine .bind (.forS (fun k st => Strm (1000 * k) ⟨st.1, st.2⟩ fun v => dot (wt n v) (p.Rates.take k)) ⟨fun v hv => ?_, fun v hv => ?_, fun v hv => ?_⟩ ?_ fun st h => h) ?_
 ·dsimp only; rw [val_rep]; omega
 ·dsimp only; rw [val_rep]; omega
 ·dsimp only; rw [val_rep]; simp [dot_nil]
 ·intro k s st hs hi
  have hkl := (gs hs).1
  have hr : p.Rates[k]? = some p.Rates[k] := gq (by omega)
  have hrr := h.rng k _ s hr hs
  have he := (hn.segs k s hs).ends
  unfold L.zzkf.B4
  refine .bind' (.ix k rfl (by omega) (.bind (add_ok hi (by omega) (by omega) (by omega) (by omega) (by dsimp only; omega)) fun r hr2 => .pure ?_))
  refine ⟨fun v hv => ?_, fun v hv => ?_, fun v hv => ?_⟩
  ·have := hr2.come v hv; dsimp only; omega
  ·have := hr2.leave v hv; dsimp only; omega
  ·have := hr2.diff v hv
   dsimp only at this ⊢
   rw [this, dot_take_succ (w := wt n v) (a := ind s.To v - ind s.From v) (by unfold wt; rw [List.getElem?_map, hs]; rfl) hr]
 ·intro st hi
  rw [List.take_of_length_le (by omega)] at hi
  unfold L.zzkf.J1
  refine .bind (.forS (fun k st => Strm (8000 + 1000 * k) ⟨st.1, st.2⟩ fun v => dot (wt n v) p.Rates + dot (wp n v) (p.Ports.take k)) ⟨fun v hv => ?_, fun v hv => ?_, fun v hv => ?_⟩ ?_ fun st h => h) ?_
  ·have := hi.come v hv; dsimp only at this ⊢; omega
  ·have := hi.leave v hv; dsimp only at this ⊢; omega
  ·have := hi.diff v hv; dsimp only at this ⊢; rw [this]; simp [dot_nil]
  ·intro k s st hs hi
   have hkl := (gs hs).1
   have hr : p.Ports[k]? = some p.Ports[k] := gq (by omega)
   have hrr := h.prt k _ hr
   have he := (hn.ports k s hs)
   unfold L.zzkf.B3
   refine .bind' (.ix k rfl (by omega) (.bind (add_ok hi (by omega) (by omega) (by omega) (by omega) (by dsimp only; omega)) fun r hr2 => .pure ?_))
   refine ⟨fun v hv => ?_, fun v hv => ?_, fun v hv => ?_⟩
   ·have := hr2.come v hv; dsimp only; omega
   ·have := hr2.leave v hv; dsimp only; omega
   ·have := hr2.diff v hv
    dsimp only at this ⊢
    rw [this, dot_take_succ (w := wp n v) (a := ind s.Node v) (by unfold wp; rw [List.getElem?_map, hs]; rfl) hr, ind_ne (a := -1) (by omega), Int.sub_zero]; omega
  ·intro st hi
   rw [List.take_of_length_le (by omega)] at hi
   unfold L.zzkf.J2
   refine .pure ⟨fun v hv => ?_, fun v hv => ?_, fun v hv => ?_⟩
   ·have := hi.come v hv; dsimp only at this ⊢; omega
   ·have := hi.leave v hv; dsimp only at this ⊢; omega
   ·have := hi.diff v hv; rw [h.bal v hv] at this; exact this
def cnt : List Bool → Nat
 | [] => 0
 | b :: l => (if b = true then 1 else 0) + cnt l
theorem cnt_le : ∀ l : List Bool, cnt l ≤ l.length
 | [] => Nat.le_refl _
 | b :: l => by have := cnt_le l; cases b <;> simp [cnt] <;> omega
theorem cnt_rep (n : Nat) : cnt (List.replicate n false) = 0 := by induction n with | zero => rfl | succ n ih => simp [List.replicate_succ, cnt, ih]
theorem cnt_set : ∀ {l : List Bool} {k : Nat}, l[k]? = some false → cnt (l.set k true) = cnt l + 1
 | [], k, h => by simp at h
 | b :: l, 0, h => by simp at h; subst h; simp [cnt]; omega
 | b :: l, k + 1, h => by simp at h; simp [cnt, cnt_set h]; omega
theorem cnt_all : ∀ {l : List Bool}, (∀ k : Nat, l[k]? ≠ some false) → cnt l = l.length
 | [], _ => rfl
 | b :: l, h => by
  have h0 := h 0
  have := cnt_all (l := l) fun k => by have := h (k + 1); simpa using this
  cases b <;> simp [cnt, this] at h0 ⊢; omega
theorem order_okG {n : Network} (hn : NetG n) {p : Plan} (h : FlowOk n p) : Ok (L.zsgw n p) fun r => r.length = n.Nodes.length := by
 have h1 := hn.nodes; have h2 := hn.segs1; have h4 := h.rl
 unfold L.zsgw
 refine .bind' (.mk n.Nodes.length rfl (by omega) ?_)
 refine .bind (Q := fun r : List Int => r.length = n.Nodes.length) ?_ fun r hr => .pure hr
 refine .loop (fun st : List Int × List Bool × Int => st.2.1.length = n.Nodes.length ∧ st.1.length = cnt st.2.1 ∧ 0 ≤ st.2.2 ∧ st.2.2 ≤ (n.Nodes.length : Int) ∧ ∀ j : Nat, (j : Int) < st.2.2 → st.2.1[j]? = some false → Blocked n p st.2.1 j)
  (fun st => (n.Nodes.length - cnt st.2.1) * 10 + (n.Nodes.length - st.2.2.toNat)) ⟨by simp, by simp [cnt_rep], by simp, by simp, fun j hj => by dsimp only at hj; omega⟩ (by dsimp only; rw [cnt_rep]; omega) ?_
 rintro ⟨out, there, k⟩ ⟨i1, i2, i3, i4, i5⟩
 dsimp only at i1 i2 i3 i4 i5
 have hc := cnt_le there
 unfold L.zsgw.B2
 refine Ok.iteD (fun h0 => ?_) fun h0 => ?_
 ·dsimp only at h0
  obtain ⟨kk, rfl⟩ := nat_of i3
  have hkl : kk < there.length := by omega
  have hx : there[kk]? = some there[kk] := gq hkl
  have next : Blocked n p there kk ∨ there[kk] = true → Ok (L.zsgw.J3 (out, there, (kk : Int))) (Sum.elim (fun st => (st.2.1.length = n.Nodes.length ∧ st.1.length = cnt st.2.1 ∧ 0 ≤ st.2.2 ∧ st.2.2 ≤ (n.Nodes.length : Int) ∧ ∀ j : Nat, (j : Int) < st.2.2 → st.2.1[j]? = some false → Blocked n p st.2.1 j) ∧
    (n.Nodes.length - cnt st.2.1) * 10 + (n.Nodes.length - st.2.2.toNat) < (n.Nodes.length - cnt there) * 10 + (n.Nodes.length - (kk : Int).toNat)) fun r : List Int => r.length = n.Nodes.length) := by
   intro hb
   unfold L.zsgw.J3
   dsimp only
   rw [wr_id (by omega)]
   refine .pure ⟨⟨i1, i2, by dsimp only; omega, by dsimp only; omega, fun j hj hf => ?_⟩, by dsimp only; omega⟩
   dsimp only at hj hf
   by_cases hjk : j = kk
   ·subst hjk
    rcases hb with hb | hb
    ·exact hb
    ·rw [hx, hb] at hf; cases hf
   ·exact i5 j (by omega) hf
  refine .bind' (.eq (ix_nat hx) (Ok.iteB (fun ht => next (.inr ht)) fun ht => ?_))
  dsimp only at ht
  refine .bind' (.forL (fun _ _ => True) (fun d => d = (out, there, (kk : Int)) ∧ Blocked n p there kk) trivial ?_ ?_ ?_)
  ·intro i s _ hs _
   have hil := (gs hs).1
   have hr : p.Rates[i]? = some p.Rates[i] := gq (by omega)
   have he := (hn.segs i s hs).ends
   have no : Ok (L.zsgw.J6 (out, there, (kk : Int)) false) (Sum.elim (fun _ : Unit => True) fun d => d = (out, there, (kk : Int)) ∧ Blocked n p there kk) := by
    unfold L.zsgw.J6
    exact .pure trivial
   unfold L.zsgw.B5
   refine .bind' (.eq (ix_nat hr) (Ok.iteU (fun hr0 => Ok.iteE (fun hto => ?_) fun _ => no) fun _ => no))
   dsimp only at hr0 hto ⊢
   have hfr : 0 ≤ (L.ztzg s p.Rates[i]).1 ∧ (L.ztzg s p.Rates[i]).1 < (n.Nodes.length : Int) := by
    unfold L.ztzg
    split <;> dsimp only <;> omega
   refine .bind' (.ix' hfr.1 (by omega) fun f x hf hfx => ?_)
   unfold L.zsgw.J6
   refine Ok.iteN (fun hx0 => .pure ⟨rfl, i, s, p.Rates[i], f, hs, hr, hr0, hto, hf, by dsimp only at hx0 hfx; rw [hfx, hx0]⟩) fun _ => .pure trivial
  ·intro _ _
   simp only [Sum.elim_inl]
   unfold L.zsgw.J4
   refine .bind' (.app (by simp; omega) ?_)
   unfold L.zsgw.J3
   dsimp only
   rw [wr_id (by omega)]
   have hx' : there[kk]? = some false := by rw [hx, ht]
   have hcs := cnt_set hx'
   have hcl := cnt_le (there.set kk true)
   simp at hcl
   refine .pure ⟨⟨by simp [i1], by simp [hcs, i2], by simp, by dsimp only; omega, fun j hj => by dsimp only at hj; omega⟩, ?_⟩
   dsimp only
   rw [hcs]; omega
  ·rintro _ ⟨rfl, hb⟩
   exact next (.inl hb)
 ·dsimp only at h0
  have hk : k = (n.Nodes.length : Int) := by omega
  subst hk
  have all := h.acyc there i1 fun j hj => i5 j (by have := (gs hj).1; omega) hj
  exact .pure (by simp only [Sum.elim_inr]; rw [i2, cnt_all all, i1])
theorem flowCheckG {n : Network} (hn : NetG n) {p : Plan} (h : FlowOk n p) : L.zmqu n p = some 0 := by
 have h1 := hn.nodes; have h2 := hn.segs1; have h3 := hn.ports1; have h4 := h.rl; have h5 := h.pl; have h6 := h.ml; have h7 := hn.sts1
 have : Ok (L.zmqu n p) fun r => r = 0 := by
  unfold L.zmqu
  refine .bind' (.eq (hn.check) (Ok.iteU (fun h => absurd rfl h) fun _ => Ok.iteB (fun hb => ?_) fun _ => ?_))
  ·simp [h4, h5, h6] at hb
  refine .bind' (.forL (fun _ _ => True) (fun _ => False) trivial ?_ ?_ fun _ h => h.elim)
  ·intro k s _ hs _
   have hkl := (gs hs).1
   have hr : p.Rates[k]? = some p.Rates[k] := gq (by omega)
   have hrr := h.rng k _ s hr hs
   have hc := (hn.segs k s hs).cap
   unfold L.zmqu.B2
   refine .bind' (.eq (ix_nat hr) (Ok.iteN (fun hb => ?_) fun _ => .pure trivial))
   unfold L.zqkj at hb
   rw [wr_id (by omega)] at hb
   simp at hb
   omega
  ·intro _ _
   simp only [Sum.elim_inl]
   unfold L.zmqu.J1
   refine .bind' (.eq (containsFunc_int_int (P := fun x => L.zfct x) fun _ _ _ => rfl) ?_)
   rw [any_false]
   ·refine Ok.iteB (fun h => by cases h) fun _ => .bind (sums_okG hn h) fun r hr => ?_
    have he : r.come = r.leave := by
     refine Arr.ext' (List.ext_getElem (by rw [r.come.h, r.leave.h]) fun i a b => ?_)
     have := hr.diff i (by rw [← r.come.h]; exact a)
     rw [val_get (gq a), val_get (gq b)] at this
     omega
    refine Ok.iteN (fun hb => ?_) fun _ => .bind (order_okG hn h) fun r hr => Ok.iteD (fun hb => ?_) fun _ => .pure rfl
    ·simp [he] at hb
    ·omega
   ·intro k x hx
    have := h.prt k x hx
    unfold L.zfct L.zqkj
    rw [wr_id (by omega)]
    simp; omega
 obtain ⟨r, h, rfl⟩ := this
 exact h
theorem flowCheckF {n : Network} (hn : NetOk n) {p : Plan} (h : FlowOk n p) : L.zmqu n p = some 0 := flowCheckG hn.g h
theorem flowCheck {n : Network} (hn : NetOk n) {p : Plan} (h : PlanOk n p) : L.zmqu n p = some 0 := flowCheckF hn h.flow
end Go.Proofs.YtmaamhgjeampmaaGreat
