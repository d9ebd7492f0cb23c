/- Plain proofs. No condition. -/
import Derived.Test.YtihdchjpepkpbaaGreatZiB2
import Derived.Test.YtihdchjpepkpbaaGreatZiD
set_option maxRecDepth 100000
namespace Go.Aw
set_option linter.unusedVariables false
set_option linter.defProp false
set_option linter.unusedSimpArgs false
def Ok {α : Type} (o : Option α) (P : α → Prop) : Prop := ∃ r, o = some r ∧ P r
section
variable {α β S B : Type}
theorem Ok.pure {x : α} {P : α → Prop} (h : P x) : Ok (some x) P := ⟨x, rfl, h⟩
theorem hY {o : Option α} {v : α} (h : Ok o fun r => r = v) : o = some v := by obtain ⟨r, h, rfl⟩ := h; exact h
theorem Ok.get {o : Option α} {P : α → Prop} (h : Ok o P) : ∃ r, o = some r ∧ P r := h
theorem Ok.mono {o : Option α} {P Q : α → Prop} (h : Ok o P) (k : ∀ x, P x → Q x) : Ok o Q := let ⟨r, h1, h2⟩ := h; ⟨r, h1, k r h2⟩
theorem Ok.bind {o : Option α} {f : α → Option β} {P : β → Prop} {Q : α → Prop} (h : Ok o Q) (k : ∀ x, Q x → Ok (f x) P) : Ok (o.bind f) P := by
 obtain ⟨r, rfl, G⟩ := h; exact k r G
theorem Ok.bind' {o : Option α} {f : α → Option β} {P : β → Prop} (h : Ok o fun x => Ok (f x) P) : Ok (o.bind f) P := h.bind fun _ k => k
theorem Ok.eq {o : Option α} {P : α → Prop} {x : α} (h : o = some x) (k : P x) : Ok o P := ⟨x, h, k⟩
theorem hE {c : Prop} [Decidable c] {a b : Option α} {P : α → Prop} (h1 : c → Ok a P) (h2 : ¬ c → Ok b P) : Ok (if c then a else b) P := by
 split <;> simp_all
theorem Ok.and {o : Option α} {P Q : α → Prop} (h : Ok o P) (k : Ok o Q) : Ok o fun x => P x ∧ Q x := by
 obtain ⟨r, rfl, O⟩ := h; obtain ⟨W, M, G⟩ := k; cases M; exact ⟨r, rfl, O, G⟩
theorem Ok.map {o : Option α} {f : α → β} {P : β → Prop} (h : Ok o fun x => P (f x)) : Ok (o.map f) P := by
 obtain ⟨r, rfl, G⟩ := h; exact ⟨_, rfl, G⟩
theorem Ok.chk {p : Prop} [Decidable p] {P : Unit → Prop} (h : p) (k : P ()) : Ok (chk p) P := ⟨(), gX h, k⟩
theorem Ok.ix {l : List α} {i : Int} {P : Nat × α → Prop} (k : Nat) (hi : i = (k : Int)) (G : k < l.length) (h : P (k, l[k])) : Ok (ix l i) P := by
 subst hi; exact ⟨_, Bg (gq G), h⟩
theorem Ok.ix' {l : List α} {i : Int} {P : Nat × α → Prop} (M : 0 ≤ i) (O : i < (l.length : Int)) (h : ∀ (k : Nat) (x : α), i = (k : Int) → l[k]? = some x → P (k, x)) : Ok (Aw.ix l i) P := by
 obtain ⟨k, rfl⟩ : ∃ k : Nat, i = (k : Int) := ⟨i.toNat, by omega⟩
 have G : k < l.length := by omega
 exact ⟨_, Bg (gq G), h k _ rfl (gq G)⟩
theorem Ok.app {l m : List α} {P : List α → Prop} (hl : l.length + m.length ≤ 68719476736) (h : P (l ++ m)) : Ok (Dg l m) P := ⟨_, Fy hl, h⟩
theorem Ok.mk {n : Int} {z : α} {P : List α → Prop} (m : Nat) (G : n = (m : Int)) (hl : m ≤ 68719476736) (h : P (List.replicate m z)) : Ok (Wl n z) P := by
 subst G; exact ⟨_, gQ z hl, h⟩
theorem Ok.quo {a b : Int} {P : Int → Prop} (hb : b ≠ 0) (h : P (wr (a.tdiv b))) : Ok (iN a b) P := ⟨_, if_pos hb, h⟩
theorem Ok.rem {a b : Int} {P : Int → Prop} (hb : b ≠ 0) (h : P (a.tmod b)) : Ok (dL a b) P := ⟨_, if_pos hb, h⟩
theorem Ok.sub {l : List α} {a b : Int} {P : List α → Prop} (x y : Nat) (G : a = (x : Int)) (hb : b = (y : Int)) (M : x ≤ y) (hl : y ≤ l.length) (h : P ((l.drop x).take (y - x))) : Ok (Qy l a b) P := by
 subst G; subst hb
 exact ⟨_, if_pos ⟨by omega, by omega, by omega⟩, by simpa using h⟩
theorem Kd {f : Nat → α → S → Option S} (I : Nat → S → Prop) (l : List α) : ∀ (m : List α) (k : Nat), l.drop k = m → ∀ st, I k st →
  (∀ k x st, l[k]? = some x → I k st → Ok (f k x st) (I (k + 1))) → k ≤ l.length → Ok (forS f k m st) (I l.length)
 | [], k, hm, st, hi, _, hk => by
  have : l.length - k = 0 := by simpa using congrArg List.length hm
  have : k = l.length := by omega
  subst this; exact .pure hi
 | x :: m, k, hm, st, hi, hf, hk => by
  have M : l[k]? = some x := by have := congrArg (fun z => z[0]?) hm; simpa using this
  have G : l.drop (k + 1) = m := by have := congrArg (List.drop 1) hm; simpa [Nat.add_comm] using this
  obtain ⟨X, O, W⟩ := hf k x st M hi
  simp only [forS, O]
  exact Kd I l m (k + 1) G X W hf (by have := (gs M).1; omega)
theorem Ok.forS {f : Nat → α → S → Option S} {l : List α} {st : S} {P : S → Prop} (I : Nat → S → Prop) (G : I 0 st)
  (hf : ∀ k x st, l[k]? = some x → I k st → Ok (f k x st) (I (k + 1))) (M : ∀ st, I l.length st → P st) : Ok (forS f 0 l st) P :=
 (Kd I l l 0 rfl st G hf (Nat.zero_le _)).mono M
theorem Ke {f : Nat → α → S → Option (S ⊕ B)} (I : Nat → S → Prop) (R : B → Prop) (l : List α) : ∀ (m : List α) (k : Nat), l.drop k = m → ∀ st, I k st →
  (∀ k x st, l[k]? = some x → I k st → Ok (f k x st) (Sum.elim (fun s => I (k + 1) s) R)) → k ≤ l.length → Ok (forL f k m st) (Sum.elim (fun s => I l.length s) R)
 | [], k, hm, st, hi, _, hk => by
  have : l.length - k = 0 := by simpa using congrArg List.length hm
  have : k = l.length := by omega
  subst this; exact .pure hi
 | x :: m, k, hm, st, hi, hf, hk => by
  have X : l[k]? = some x := by have := congrArg (fun z => z[0]?) hm; simpa using this
  have G : l.drop (k + 1) = m := by have := congrArg (List.drop 1) hm; simpa [Nat.add_comm] using this
  obtain ⟨M, O, W⟩ := hf k x st X hi
  cases M with
  | inl M =>
   simp only [forL, O]
   exact Ke I R l m (k + 1) G M W hf (by have := (gs X).1; omega)
  | inr b => simp only [forL, O]; exact .pure W
theorem Ok.forL {f : Nat → α → S → Option (S ⊕ B)} {l : List α} {st : S} {P : S ⊕ B → Prop} (I : Nat → S → Prop) (R : B → Prop) (G : I 0 st)
  (hf : ∀ k x st, l[k]? = some x → I k st → Ok (f k x st) (Sum.elim (fun s => I (k + 1) s) R)) (M : ∀ st, I l.length st → P (.inl st)) (O : ∀ b, R b → P (.inr b)) : Ok (forL f 0 l st) P :=
 (Ke I R l l 0 rfl st G hf (Nat.zero_le _)).mono fun x h => by cases x with | inl s => exact M s h | inr b => exact O b h
theorem Kf {f : Nat → S → Option S} (I : Nat → S → Prop) (n : Nat) : ∀ (m k : Nat), k + m = n → ∀ st, I k st →
  (∀ k st, k < n → I k st → Ok (f k st) (I (k + 1))) → Ok (forJ f k m st) (I n)
 | 0, k, hm, st, hi, _ => by have : k = n := (by omega); subst this; exact .pure hi
 | m + 1, k, hm, st, hi, hf => by
  obtain ⟨O, G, M⟩ := hf k st (by omega) hi
  simp only [forJ, G]
  exact Kf I n m (k + 1) (by omega) O M hf
theorem Ok.forJ {f : Nat → S → Option S} {n : Nat} {st : S} {P : S → Prop} (I : Nat → S → Prop) (G : I 0 st)
  (hf : ∀ k st, k < n → I k st → Ok (f k st) (I (k + 1))) (M : ∀ st, I n st → P st) : Ok (forJ f 0 n st) P :=
 (Kf I n n 0 (by omega) st G hf).mono M
theorem Kg {f : Nat → S → Option (S ⊕ B)} (I : Nat → S → Prop) (R : B → Prop) (n : Nat) : ∀ (m k : Nat), k + m = n → ∀ st, I k st →
  (∀ k st, k < n → I k st → Ok (f k st) (Sum.elim (fun s => I (k + 1) s) R)) → Ok (forI f k m st) (Sum.elim (fun s => I n s) R)
 | 0, k, hm, st, hi, _ => by have : k = n := (by omega); subst this; exact .pure hi
 | m + 1, k, hm, st, hi, hf => by
  obtain ⟨G, M, O⟩ := hf k st (by omega) hi
  cases G with
  | inl G =>
   simp only [forI, M]
   exact Kg I R n m (k + 1) (by omega) G O hf
  | inr b => simp only [forI, M]; exact .pure O
theorem Ok.forI {f : Nat → S → Option (S ⊕ B)} {n : Nat} {st : S} {P : S ⊕ B → Prop} (I : Nat → S → Prop) (R : B → Prop) (G : I 0 st)
  (hf : ∀ k st, k < n → I k st → Ok (f k st) (Sum.elim (fun s => I (k + 1) s) R)) (M : ∀ st, I n st → P (.inl st)) (O : ∀ b, R b → P (.inr b)) : Ok (forI f 0 n st) P :=
 (Kg I R n n 0 (by omega) st G hf).mono fun x h => by cases x with | inl s => exact M s h | inr b => exact O b h
theorem Kc {f : S → Option (S ⊕ B)} {P : B → Prop} (I : S → Prop) (μ : S → Nat) (hf : ∀ st, I st → Ok (f st) (Sum.elim (fun s => I s ∧ μ s < μ st) P)) :
  ∀ (n : Nat) (st : S), I st → μ st < n → Ok (C5 f n st) P
 | 0, st, _, h => absurd h (Nat.not_lt_zero _)
 | n + 1, st, hi, h => by
  obtain ⟨r, M, G⟩ := hf st hi
  cases r with
  | inl s =>
   simp only [C5, M]
   exact Kc I μ hf n s G.1 (by have := G.2; omega)
  | inr b => simp only [C5, M]; exact .pure G
theorem Ok.loop {f : S → Option (S ⊕ B)} {P : B → Prop} {st : S} (I : S → Prop) (μ : S → Nat) (G : I st) (M : μ st < 18446744073709551616)
  (hf : ∀ st, I st → Ok (f st) (Sum.elim (fun s => I s ∧ μ s < μ st) P)) : Ok (C5 f El st) P :=
 Kc I μ hf _ st G M
end
def D5 : Li → Li → Int
 | w :: ws, x :: xs => w * x + D5 ws xs
 | _, _ => 0
theorem Hz (w : Li) : D5 w [] = 0 := by cases w <;> rfl
theorem Jt (w : Li) (n : Nat) : D5 w (List.replicate n 0) = 0 := by
 induction n generalizing w with
 | zero => exact Hz w
 | succ n ih => cases w with
  | nil => rfl
  | cons a w => simp [List.replicate_succ, D5, ih]
theorem Fe {w l : Li} {k : Nat} {a x y : Int} (G : w[k]? = some a) (hl : l[k]? = some x) : D5 w (l.set k y) = D5 w l + a * (y - x) := by
 induction w generalizing l k with
 | nil => simp at G
 | cons b w ih =>
  cases l with
  | nil => simp at hl
  | cons z l =>
   cases k with
   | zero =>
    simp at G hl
    subst G; subst hl
    simp only [List.set_cons_zero, D5, Int.mul_sub]; omega
   | succ k =>
    simp at G hl
    simp only [List.set_cons_succ, D5, ih G hl]; omega
theorem Mf (w l : Li) : D5 w (l.map fun x => -x) = -D5 w l := by
 induction w generalizing l with
 | nil => rfl
 | cons b w ih =>
  cases l with
  | nil => rfl
  | cons z l => simp only [List.map_cons, D5, ih, Int.mul_neg]; omega
theorem E2 {w l : Li} {k : Nat} {a x : Int} (G : w[k]? = some a) (hl : l[k]? = some x) : D5 w (l.take (k + 1)) = D5 w (l.take k) + a * x := by
 induction w generalizing l k with
 | nil => simp at G
 | cons b w ih =>
  cases l with
  | nil => simp at hl
  | cons z l =>
   cases k with
   | zero => simp at G hl; subst G; subst hl; simp [D5, Hz]
   | succ k =>
    simp at G hl
    simp only [List.take_succ_cons, D5, ih G hl]; omega
theorem Du {α : Type} {l : List α} {k i : Nat} {x : α} : (l.set k x)[i]? = if k = i ∧ i < l.length then some x else l[i]? := by
 rw [List.getElem?_set]
 by_cases h : k = i
 ·subst h
  by_cases G : k < l.length
  ·simp [G]
  ·simp [G]
 ·simp [h]
theorem Dr {a b : Nat} (h : some (a : Int) = some (b : Int)) : a = b := Int.ofNat.inj (Option.some.inj h)
inductive Rep (u : List Int) : Nat → Nat → Nat → Prop
 | root {k : Nat} : u[k]? = some (k : Int) → Rep u 0 k k
 | step {k j m r : Nat} : u[k]? = some (j : Int) → k ≠ j → Rep u m j r → Rep u (m + 1) k r
theorem Rep.det {u : Li} {m k r : Nat} (h : Rep u m k r) : ∀ {M r' : Nat}, Rep u M k r' → m = M ∧ r = r' := by
 induction h with
 | root h =>
  intro M r' O
  cases O with
  | root _ => exact ⟨rfl, rfl⟩
  | step h1 h2 _ => rw [h] at h1; have := Dr h1; omega
 | step h1 h2 h3 ih =>
  intro M r' O
  cases O with
  | root h => rw [h] at h1; have := Dr h1; omega
  | step G h5 h6 =>
   rw [h1] at G; have G := Dr G
   subst G
   obtain ⟨rfl, rfl⟩ := ih h6
   exact ⟨rfl, rfl⟩
theorem X3 {u : Li} {k j i : Nat} (W : u[k]? = some (j : Int)) (hne : k ≠ j) (hj : u[j]? = some (i : Int)) :
  ∀ (m x r : Nat), Rep u m x r → ∃ m', m' ≤ m ∧ Rep (u.set k (i : Int)) m' x r := by
 intro m
 induction m using Nat.strongRecOn with
 | ind m ih =>
  intro x r h
  have X : k < u.length := (gs W).1
  cases h with
  | root h =>
   refine ⟨0, Nat.le_refl _, .root ?_⟩
   rw [List.getElem?_set]
   by_cases Z : k = x
   ·subst Z; rw [h] at W; have := Dr W; omega
   ·simp [Z, h]
  | @step _ y m' _ O h2 h3 =>
   by_cases Z : k = x
   ·subst Z
    rw [W] at O; have O := Dr O
    subst O
    cases h3 with
    | root M =>
     rw [hj] at M; have M := Dr M
     subst M
     obtain ⟨m2, Y, G⟩ := ih 0 (by omega) i i (.root hj)
     have : m2 = 0 := by omega
     subst this
     exact ⟨1, by omega, .step (by simp [X]) h2 G⟩
    | @step _ z m'' _ M h5 h6 =>
     rw [hj] at M; have M := Dr M
     subst M
     have hki : k ≠ i := by
      rintro rfl
      have := (Rep.det h6 (.step W hne (.step hj h5 h6))).1
      omega
     obtain ⟨m2, Y, G⟩ := ih m'' (by omega) i r h6
     exact ⟨m2 + 1, by omega, .step (by simp [X]) hki G⟩
   ·obtain ⟨m2, Y, G⟩ := ih m' (by omega) y r h3
    exact ⟨m2 + 1, by omega, .step (by rw [List.getElem?_set]; simp [Z, O]) h2 G⟩
structure Uni (n : Nat) (u : List Int) (d : Nat) (ρ : Nat → Nat) : Prop where
 len : u.length = n
 lt : ∀ k, k < n → ρ k < n
 rep : ∀ k, k < n → ∃ m, m ≤ d ∧ Rep u m k (ρ k)
theorem Uni.at_ {n d : Nat} {u : Li} {ρ : Nat → Nat} (h : Uni n u d ρ) {k : Nat} (O : k < n) : ∃ j : Nat, u[k]? = some (j : Int) ∧ j < n ∧ ρ j = ρ k := by
 obtain ⟨m, _, W⟩ := h.rep k O
 generalize X : ρ k = r at W
 cases W with
 | root h1 => exact ⟨k, h1, O, X⟩
 | @step _ j _ _ h1 h2 h3 =>
  have M : j < n := by
   rw [← h.len]
   cases h3 with
   | root h => exact (gs h).1
   | step h _ _ => exact (gs h).1
  refine ⟨j, h1, M, ?_⟩
  obtain ⟨Y, _, G⟩ := h.rep j M
  exact (G.det h3).2
theorem Uni.step {n d : Nat} {u : Li} {ρ : Nat → Nat} (h : Uni n u d ρ) {k j i m : Nat} (X : u[k]? = some (j : Int)) (hne : k ≠ j) (O : u[j]? = some (i : Int)) (hr : Rep u m k (ρ k)) :
  ∃ m', m' < m ∧ Rep (u.set k (i : Int)) m' i (ρ i) ∧ ρ i = ρ k := by
 have hj' : j < n := by rw [← h.len]; exact (gs O).1
 have hk' : k < n := by rw [← h.len]; exact (gs X).1
 obtain ⟨y, Y, hy, e2⟩ := h.at_ hj'
 obtain ⟨y2, Z, hy2, e4⟩ := h.at_ hk'
 rw [O] at Y; have Y := Dr Y; subst Y
 rw [X] at Z; have Z := Dr Z; subst Z
 have M : ρ i = ρ k := by rw [e2, e4]
 generalize ρ k = r at hr M
 cases hr with
 | root W => rw [W] at X; have := Dr X; omega
 | @step _ y m1 _ W h2 h3 =>
  rw [X] at W; have W := Dr W
  subst W
  have : ∃ m2, m2 ≤ m1 ∧ Rep u m2 i r := by
   cases h3 with
   | root G => rw [O] at G; have G := Dr G; exact ⟨0, by omega, by rw [G]; rw [G] at O; exact .root O⟩
   | step G h5 h6 => rw [O] at G; have G := Dr G; subst G; exact ⟨_, by omega, h6⟩
  obtain ⟨m2, G, h5⟩ := this
  obtain ⟨m3, h6, h7⟩ := X3 X hne O m2 i _ h5
  exact ⟨m3, by omega, by rw [M]; exact h7, M⟩
inductive Conn (R : Nat → Nat → Prop) : Nat → Nat → Prop
 | refl (x : Nat) : Conn R x x
 | edge {x y : Nat} : R x y → Conn R x y
 | symm {x y : Nat} : Conn R x y → Conn R y x
 | trans {x y z : Nat} : Conn R x y → Conn R y z → Conn R x z
theorem Conn.mono {R R' : Nat → Nat → Prop} (h : ∀ x y, R x y → Conn R' x y) {x y : Nat} (c : Conn R x y) : Conn R' x y := by
 induction c with
 | refl x => exact .refl x
 | edge e => exact h _ _ e
 | symm _ ih => exact ih.symm
 | trans _ _ i1 i2 => exact i1.trans i2
end Go.Aw
namespace Go.Proofs.YtihdchjpepkpbaaGreat
set_option linter.unusedVariables false
set_option linter.defProp false
set_option linter.unusedSimpArgs false
open Go.Aw
abbrev Wm := KS
structure SrcOk (s : Wm) : Prop where
 at0 : 0 ≤ s.At
 at1 : s.At ≤ (s.L_.length : Int)
 len : s.L_.length ≤ 2000
theorem A0 {α : Type} {c : Prop} [Decidable c] {a b : Option α} {P : α → Prop} (h1 : c → Ok a P) (h2 : ¬ c → Ok b P) : Ok (if decide c = true then a else b) P := by
 by_cases G : c
 ·rw [if_pos (by simp [G])]; exact h1 G
 ·rw [if_neg (by simp [G])]; exact h2 G
theorem A9 {α : Type} {c : Bool} {a b : Option α} {P : α → Prop} (h1 : c = true → Ok a P) (h2 : c = false → Ok b P) : Ok (if c = true then a else b) P := by
 cases c
 ·rw [if_neg (by simp)]; exact h2 rfl
 ·rw [if_pos rfl]; exact h1 rfl
theorem Jh {α : Type} {c : Bool} {a b : Option α} {P : α → Prop} (h1 : c = false → Ok a P) (h2 : c = true → Ok b P) : Ok (if (!c) = true then a else b) P := by
 cases c
 ·exact h1 rfl
 ·exact h2 rfl
theorem C7 {α : Type} {x y : Int} {a b : Option α} {P : α → Prop} (h1 : x = y → Ok a P) (h2 : x ≠ y → Ok b P) : Ok (if (x == y) = true then a else b) P := by
 by_cases h : x = y
 ·rw [if_pos (by simp [h])]; exact h1 h
 ·rw [if_neg (by simp [h])]; exact h2 h
theorem Cl {α : Type} {x y : Int} {a b : Option α} {P : α → Prop} (h1 : x ≠ y → Ok a P) (h2 : x = y → Ok b P) : Ok (if (x != y) = true then a else b) P := by
 by_cases h : x = y
 ·rw [if_neg (by simp [h])]; exact h2 h
 ·rw [if_pos (by simp [h])]; exact h1 h
theorem gP (x : Int) {n : Int} (h1 : 1 ≤ n) (h2 : n ≤ 9223372036854775807) : Ok (Ry x n) fun r => 0 ≤ r ∧ r < n := by
 unfold Ry Ry.J1
 have G := Int.tmod_lt_of_pos x (show 0 < n by omega)
 have M : -n < x.tmod n := by
  have := Int.tmod_lt_of_pos (-x) (show 0 < n by omega)
  rw [Int.neg_tmod] at this; omega
 refine A0 (fun h => by omega) fun _ => .bind' (.rem (by omega) ?_)
 refine A0 (fun h => .pure ?_) (fun h => .pure ?_)
 ·rw [Bc (by omega)]; omega
 ·omega
theorem gL (l : Li) : Ok (Rp l) SrcOk := by
 unfold Rp
 refine .bind' (.sub 0 (min l.length 2000) rfl (by omega) (by omega) (by omega) (.pure ?_))
 exact ⟨Int.le_refl _, by simp, by simp; omega⟩
theorem gG {s : Wm} (h : SrcOk s) : Ok (Rg s) fun r => SrcOk r.2 := by
 obtain ⟨M, O, G⟩ := h
 unfold Rg
 refine A0 (fun _ => .pure ⟨M, O, G⟩) fun h => ?_
 simp (disch := omega) only [Bc]
 refine .bind' (.ix' (by omega) (by omega) fun k x _ _ => .pure ⟨by dsimp only; omega, by dsimp only; omega, G⟩)
theorem G9 {s : Wm} (h : SrcOk s) {n : Int} (h1 : 1 ≤ n) (h2 : n ≤ 9223372036854775807) : Ok (Dq s n) fun r => SrcOk r.2 ∧ 0 ≤ r.1 ∧ r.1 < n := by
 unfold Dq
 exact .bind (gG h) fun x G => .bind (gP _ h1 h2) fun y M => .pure ⟨G, M⟩
theorem Fp {s : Wm} (h : SrcOk s) {lo hi : Int} (h1 : lo ≤ hi) (h2 : -1000000000 ≤ lo) (M : hi ≤ 1000000000) : Ok (F8 s lo hi) fun r => SrcOk r.2 ∧ lo ≤ r.1 ∧ r.1 ≤ hi := by
 unfold F8
 simp (disch := omega) only [Bc]
 refine .bind (G9 h (by omega) (by omega)) fun x G => .pure ⟨G.1, ?_⟩
 dsimp only
 rw [Bc (by omega)]; omega
theorem Ea {s : Wm} (h : SrcOk s) {l : Li} (h1 : 1 ≤ l.length) (h2 : l.length ≤ 1000) : Ok (Ed s l) fun r => SrcOk r.2 ∧ r.1 ∈ l := by
 unfold Ed
 refine .bind (G9 h (by omega) (by omega)) fun x G => .bind' (.ix' G.2.1 G.2.2 fun k y _ M => .pure ⟨G.1, mg M⟩)
def nm (c : UInt8) (k : Nat) : Bt := ⟨#[c, 97 + UInt8.ofNat k]⟩
theorem Mc {c : UInt8} {k : Nat} (M : k < 26) : It ⟨#[c]⟩ (k : Int) = some (nm c k) := by
 unfold It
 have G : ((k : Int).tmod 26) = (k : Int) := by rw [Int.tmod_eq_emod_of_nonneg (by omega)]; omega
 rw [G, Bc (by omega)]
 have : k = 0 ∨ k = 1 ∨ k = 2 ∨ k = 3 ∨ k = 4 ∨ k = 5 ∨ k = 6 ∨ k = 7 ∨ k = 8 ∨ k = 9 ∨ k = 10 ∨ k = 11 ∨ k = 12 ∨ k = 13 ∨ k = 14 ∨ k = 15 ∨ k = 16 ∨ k = 17 ∨ k = 18 ∨ k = 19 ∨ k = 20 ∨ k = 21 ∨ k = 22 ∨ k = 23 ∨ k = 24 ∨ k = 25 := by omega
 rcases this with rfl | rfl | rfl | rfl | rfl | rfl | rfl | rfl | rfl | rfl | rfl | rfl | rfl | rfl | rfl | rfl | rfl | rfl | rfl | rfl | rfl | rfl | rfl | rfl | rfl | rfl <;> rfl
structure PointsOk (cap : Int) (l : List Point) : Prop where
 len : 2 ≤ l.length ∧ l.length ≤ 8
 first : ∀ p, l[0]? = some p → p.At = 0
 last : ∀ p, l[l.length - 1]? = some p → p.At = cap
 up : ∀ i p q, l[i]? = some p → l[i + 1]? = some q → p.At < q.At
 height : ∀ p, p ∈ l → -500 ≤ p.Height ∧ p.Height ≤ 5000
 limit : ∀ p, p ∈ l → 0 ≤ p.Limit ∧ p.Limit ≤ 100000000
structure SegOk (nodes k : Nat) (s : Segment) : Prop where
 name : s.Name = nm 103 k
 ends : 0 ≤ s.From ∧ s.From < (nodes : Int) ∧ 0 ≤ s.To ∧ s.To < (nodes : Int) ∧ s.From ≠ s.To
 cap : 1 ≤ s.Capacity ∧ s.Capacity ≤ 1000
 resist : 0 ≤ s.Resist ∧ s.Resist ≤ 1000
 wave : 0 ≤ s.Wave ∧ s.Wave ≤ 100000
 points : PointsOk s.Capacity s.Points
structure PortOk (nodes k : Nat) (p : Port) : Prop where
 name : p.Name = nm 113 k
 node : 0 ≤ p.Node ∧ p.Node < (nodes : Int)
 pressure : 0 ≤ p.Pressure ∧ p.Pressure ≤ 100000000
structure StOk (nodes k : Nat) (p : Station) : Prop where
 name : p.Name = nm 115 k
 node : 0 ≤ p.Node ∧ p.Node < (nodes : Int)
 head : 0 ≤ p.Head ∧ p.Head ≤ 2000000
 fall : 0 ≤ p.Fall ∧ p.Fall ≤ 100000
 suction : 0 ≤ p.Suction ∧ p.Suction ≤ 400000
structure NetOk (n : Network) : Prop where
 nodes : 2 ≤ n.Nodes.length ∧ n.Nodes.length ≤ 6
 names : ∀ k x, n.Nodes[k]? = some x → x = nm 110 k
 segs1 : n.Nodes.length - 1 ≤ n.Segments.length ∧ n.Segments.length ≤ 8
 segs : ∀ k s, n.Segments[k]? = some s → SegOk n.Nodes.length k s
 ports1 : 2 ≤ n.Ports.length ∧ n.Ports.length ≤ 6
 ports : ∀ k s, n.Ports[k]? = some s → PortOk n.Nodes.length k s
 portsUp : ∀ (i j : Nat) (p q : Port), i < j → n.Ports[i]? = some p → n.Ports[j]? = some q → p.Node < q.Node
 sts1 : n.Stations.length ≤ 6
 sts : ∀ k s, n.Stations[k]? = some s → StOk n.Nodes.length k s
 stsUp : ∀ (i j : Nat) (p q : Sn), i < j → n.Stations[i]? = some p → n.Stations[j]? = some q → p.Node < q.Node
 vapour : -100000 ≤ n.Vapour ∧ n.Vapour ≤ 50000
 settle : 0 ≤ n.Settle ∧ n.Settle ≤ 100
structure PInv (l : List Point) (at_ : Int) : Prop where
 len : 1 ≤ l.length
 first : ∀ p, l[0]? = some p → p.At = 0
 last : ∀ p, l[l.length - 1]? = some p → p.At = at_
 up : ∀ i p q, l[i]? = some p → l[i + 1]? = some q → p.At < q.At
 height : ∀ p, p ∈ l → -500 ≤ p.Height ∧ p.Height ≤ 5000
 limit : ∀ p, p ∈ l → 0 ≤ p.Limit ∧ p.Limit ≤ 100000000
theorem PInv.append {l : List Point} {at_ : Int} (h : PInv l at_) {p : Point} (h1 : at_ < p.At) (h2 : -500 ≤ p.Height ∧ p.Height ≤ 5000) (X : 0 ≤ p.Limit ∧ p.Limit ≤ 100000000) : PInv (l ++ [p]) p.At := by
 have hl := h.len
 refine ⟨by simp, fun q G => h.first q ?_, fun q G => ?_, fun i a b O M => ?_, fun q G => ?_, fun q G => ?_⟩
 ·rw [List.getElem?_append_left (by omega)] at G; exact G
 ·rw [List.getElem?_append_right (by simp)] at G; simp at G; rw [G]
 ·rw [List.getElem?_append] at O M
  split at M
  ·rw [if_pos (by omega)] at O; exact h.up i a b O M
  ·rename_i Z
   have W := (gs M).1
   simp at W
   have : i + 1 = l.length := by omega
   rw [if_pos (by omega)] at O
   have Y := h.last a (by rw [show l.length - 1 = i by omega]; exact O)
   simp [this] at M
   rw [← M]; omega
 ·rcases List.mem_append.1 G with G | G
  ·exact h.height q G
  ·simp at G; subst G; exact h2
 ·rcases List.mem_append.1 G with G | G
  ·exact h.limit q G
  ·simp at G; subst G; exact X
theorem PInv.done {l : List Point} {at_ : Int} (h : PInv l at_) (h1 : 2 ≤ l.length ∧ l.length ≤ 8) : PointsOk at_ l := ⟨h1, h.first, h.last, h.up, h.height, h.limit⟩
theorem Ep {n : Int} (h : 0 ≤ n) : ∃ k : Nat, n = (k : Int) := ⟨n.toNat, by omega⟩
theorem aL {s : Wm} (hs : SrcOk s) {nodes k : Nat} (hk : k < 26) {a b : Int} (ha : 0 ≤ a ∧ a < (nodes : Int)) (hb : 0 ≤ b ∧ b < (nodes : Int)) (al : a ≠ b) :
  Ok (Kv s (k : Int) a b) fun r => SegOk nodes k r.1 ∧ SrcOk r.2 := by
 have Z : ∀ (j : Li × Int × Int × Int), SrcOk ⟨j.1, j.2.1⟩ → 0 ≤ j.2.2.1 ∧ j.2.2.1 < (nodes : Int) → 0 ≤ j.2.2.2 ∧ j.2.2.2 < (nodes : Int) → j.2.2.1 ≠ j.2.2.2 →
   Ok (Kv.J1 (k : Int) j) fun r => SegOk nodes k r.1 ∧ SrcOk r.2 := by
  intro j hs h1 h2 h3
  unfold Kv.J1
  refine .bind' (.eq (Mc hk) ?_)
  refine .bind (Ea hs (by decide) (by decide)) fun O ae => ?_
  refine .bind (Ea ae.1 (by decide) (by decide)) fun r14 af => ?_
  refine .bind (Ea af.1 (by decide) (by decide)) fun r17 ag => ?_
  refine .bind (Ea ag.1 (by decide) (by decide)) fun aq ak => ?_
  refine .bind (Fp ak.1 (by decide) (by decide) (by decide)) fun r25 h25 => ?_
  have c11 := ae.2; have c14 := af.2; have c17 := ag.2; have c22 := ak.2
  simp only [List.mem_cons, List.not_mem_nil, or_false] at c11 c14 c17 c22
  refine .bind' (.app (by simp) ?_)
  refine .bind (Q := fun d : Li × Int × List Point => SrcOk ⟨d.1, d.2.1⟩ ∧ ∃ G, PInv d.2.2 G ∧ G < O.1 ∧ d.2.2.length ≤ 7) ?_ ?_
  ·refine .loop (fun M => SrcOk ⟨M.1, M.2.1⟩ ∧ PInv M.2.2.1 M.2.2.2 ∧ 0 ≤ M.2.2.2 ∧ M.2.2.2 < O.1 ∧ M.2.2.1.length ≤ 7) (fun M => 7 - M.2.2.1.length)
    ⟨h25.1, ⟨by simp, by simp, by simp, by simp, by simp; omega, by simp; omega⟩, by simp, by simp; omega, by simp⟩ (by dsimp only; omega) ?_
   rintro ⟨L_, At, ac, G⟩ ⟨i1, i2, i3, i4, i5⟩
   dsimp only at i1 i2 i3 i4 i5 ⊢
   have j4 : ∀ (x : Li × Int × Bool), SrcOk ⟨x.1, x.2.1⟩ → (x.2.2 = true → ac.length < 7) → Ok (Kv.J4 O aq (L_, At, ac, G) x) (Sum.elim (fun M => (SrcOk ⟨M.1, M.2.1⟩ ∧ PInv M.2.2.1 M.2.2.2 ∧ 0 ≤ M.2.2.2 ∧ M.2.2.2 < O.1 ∧ M.2.2.1.length ≤ 7) ∧ 7 - M.2.2.1.length < 7 - ac.length) fun d => SrcOk ⟨d.1, d.2.1⟩ ∧ ∃ G, PInv d.2.2 G ∧ G < O.1 ∧ d.2.2.length ≤ 7) := by
    intro x hx hl
    unfold Kv.J4
    refine A9 (fun hb => ?_) fun _ => .pure ⟨hx, G, i2, i4, i5⟩
    have hl := hl hb
    refine .bind (Fp hx (by decide) (by decide) (by decide)) fun r197 X => ?_
    dsimp only
    rw [Bc (by omega)]
    refine A0 (fun _ => .pure ⟨X.1, G, i2, i4, i5⟩) fun an => ?_
    refine .bind (Fp X.1 (by decide) (by decide) (by decide)) fun aa ah => ?_
    refine .bind (Ea ah.1 (by decide) (by decide)) fun ab Y => ?_
    have W := Y.2
    simp only [List.mem_cons, List.not_mem_nil, or_false] at W
    refine .bind (G9 Y.1 (by decide) (by decide)) fun r206 ai => ?_
    refine .bind' (.app (by simp; omega) (.pure ⟨⟨ai.1, ?_, by dsimp only; omega, by dsimp only; omega, by simp; omega⟩, by simp; omega⟩))
    have hh : -50 ≤ aa.1 * ab.1 ∧ aa.1 * ab.1 ≤ 600 := by
     rcases W with h | h | h <;> rw [h] <;> omega
    refine i2.append ?_ ?_ ?_ <;> simp (disch := omega) only [Bc] <;> omega
   unfold Kv.B3
   refine A0 (fun h => ?_) fun h => ?_
   ·refine .bind (G9 i1 (by decide) (by decide)) fun r213 aj => j4 (_, _, _) aj.1 fun _ => by dsimp only at h; omega
   ·exact j4 (_, _, _) i1 (by simp)
  ·rintro ⟨dl, da, dp⟩ ⟨hd, G, hp, an, am⟩
   dsimp only at hd hp am
   unfold Kv.J2
   refine .bind (Fp hd (by decide) (by decide) (by decide)) fun ao ad => ?_
   have h1l := hp.len
   refine .bind' (.app (by simp; omega) (.pure ⟨⟨rfl, ⟨h1.1, h1.2, h2.1, h2.2, h3⟩, by dsimp only; omega, by dsimp only; omega, by dsimp only; omega, ?_⟩, ad.1⟩))
   exact (hp.append (p := ⟨O.1, ao.1, aq.1⟩) an (by dsimp only; omega) (by dsimp only; omega)).done (by simp; omega)
 unfold Kv
 refine .bind (G9 hs (by decide) (by decide)) fun r hr => ?_
 exact C7 (fun _ => Z _ hr.1 hb ha (Ne.symm al)) fun _ => Z _ hr.1 ha hb al
theorem Kh {s : Li} {g : Int → Option Bool} {P : Int → Bool} (hg : ∀ (k : Nat) (x : Int), s[k]? = some x → g x = some (P x)) :
  Ok (Ns s g) fun r => (r = -1 ∧ ∀ (j : Nat) (y : Int), s[j]? = some y → P y = false) ∨ ∃ (k : Nat) (x : Int), r = (k : Int) ∧ s[k]? = some x ∧ P x = true ∧ ∀ (j : Nat) (y : Int), j < k → s[j]? = some y → P y = false := by
 unfold Ns
 refine .bind' (.forL (fun k _ => ∀ (j : Nat) (y : Int), j < k → s[j]? = some y → P y = false) (fun r => ∃ (k : Nat) (x : Int), r = (k : Int) ∧ s[k]? = some x ∧ P x = true ∧ ∀ (j : Nat) (y : Int), j < k → s[j]? = some y → P y = false) (fun j y h => absurd h (Nat.not_lt_zero _)) ?_ ?_ ?_)
 ·intro k x _ W M
  unfold Ns.B2
  refine .bind' (.eq (hg k x W) (A9 (fun O => .pure ⟨k, x, rfl, W, O, M⟩) fun O => .pure fun j y Y G => ?_))
  by_cases h : j < k
  ·exact M j y h G
  ·have : j = k := by omega
   subst this
   rw [W] at G; simp at G; subst G; exact O
 ·intro _ M
  simp only [Sum.elim_inl]
  unfold Ns.J1
  exact .pure (.inl ⟨rfl, fun j y G => M j y (gs G).1 G⟩)
 ·intro b X
  exact .pure (.inr X)
theorem Fa {s : Li} {g : Int → Option Bool} {P : Int → Bool} (hg : ∀ (k : Nat) (x : Int), s[k]? = some x → g x = some (P x)) :
  Ku s g = some (s.any P) := by
 have : Ok (Ku s g) fun r => r = s.any P := by
  unfold Ku
  refine .bind (Kh hg) fun r W => .pure ?_
  rcases W with ⟨rfl, h⟩ | ⟨k, x, rfl, G, O, _⟩
  ·have : s.any P = false := by
    rw [List.any_eq_false]
    intro x G
    obtain ⟨j, M⟩ := List.getElem?_of_mem G
    rw [h j x M]; simp
   rw [this]; rfl
  ·have : s.any P = true := List.any_eq_true.2 ⟨x, mg G, O⟩
   rw [this]; simp
 obtain ⟨r, h, rfl⟩ := this
 exact h
theorem Gp {s : List Bt} {g : Bt → Option Bool} {P : Bt → Bool} (hg : ∀ (k : Nat) (x : Bt), s[k]? = some x → g x = some (P x)) :
  Ok (M7 s g) fun r => (r = -1 ∧ ∀ (j : Nat) (y : Bt), s[j]? = some y → P y = false) ∨ ∃ (k : Nat) (x : Bt), r = (k : Int) ∧ s[k]? = some x ∧ P x = true ∧ ∀ (j : Nat) (y : Bt), j < k → s[j]? = some y → P y = false := by
 unfold M7
 refine .bind' (.forL (fun k _ => ∀ (j : Nat) (y : Bt), j < k → s[j]? = some y → P y = false) (fun r => ∃ (k : Nat) (x : Bt), r = (k : Int) ∧ s[k]? = some x ∧ P x = true ∧ ∀ (j : Nat) (y : Bt), j < k → s[j]? = some y → P y = false) (fun j y h => absurd h (Nat.not_lt_zero _)) ?_ ?_ ?_)
 ·intro k x _ W M
  unfold M7.B2
  refine .bind' (.eq (hg k x W) (A9 (fun O => .pure ⟨k, x, rfl, W, O, M⟩) fun O => .pure fun j y Y G => ?_))
  by_cases h : j < k
  ·exact M j y h G
  ·have : j = k := by omega
   subst this
   rw [W] at G; simp at G; subst G; exact O
 ·intro _ M
  simp only [Sum.elim_inl]
  unfold M7.J1
  exact .pure (.inl ⟨rfl, fun j y G => M j y (gs G).1 G⟩)
 ·intro b X
  exact .pure (.inr X)
theorem Fx {s : List Bt} {g : Bt → Option Bool} {P : Bt → Bool} (hg : ∀ (k : Nat) (x : Bt), s[k]? = some x → g x = some (P x)) :
  Nc s g = some (s.any P) := by
 have : Ok (Nc s g) fun r => r = s.any P := by
  unfold Nc
  refine .bind (Gp hg) fun r W => .pure ?_
  rcases W with ⟨rfl, h⟩ | ⟨k, x, rfl, G, O, _⟩
  ·have : s.any P = false := by
    rw [List.any_eq_false]
    intro x G
    obtain ⟨j, M⟩ := List.getElem?_of_mem G
    rw [h j x M]; simp
   rw [this]; rfl
  ·have : s.any P = true := List.any_eq_true.2 ⟨x, mg G, O⟩
   rw [this]; simp
 obtain ⟨r, h, rfl⟩ := this
 exact h
theorem Ek {s : List Sg} {g : Sg → Option Bool} {P : Sg → Bool} (hg : ∀ (k : Nat) (x : Sg), s[k]? = some x → g x = some (P x)) :
  Ok (Nr s g) fun r => (r = -1 ∧ ∀ (j : Nat) (y : Sg), s[j]? = some y → P y = false) ∨ ∃ (k : Nat) (x : Sg), r = (k : Int) ∧ s[k]? = some x ∧ P x = true ∧ ∀ (j : Nat) (y : Sg), j < k → s[j]? = some y → P y = false := by
 unfold Nr
 refine .bind' (.forL (fun k _ => ∀ (j : Nat) (y : Sg), j < k → s[j]? = some y → P y = false) (fun r => ∃ (k : Nat) (x : Sg), r = (k : Int) ∧ s[k]? = some x ∧ P x = true ∧ ∀ (j : Nat) (y : Sg), j < k → s[j]? = some y → P y = false) (fun j y h => absurd h (Nat.not_lt_zero _)) ?_ ?_ ?_)
 ·intro k x _ W M
  unfold Nr.B2
  refine .bind' (.eq (hg k x W) (A9 (fun O => .pure ⟨k, x, rfl, W, O, M⟩) fun O => .pure fun j y Y G => ?_))
  by_cases h : j < k
  ·exact M j y h G
  ·have : j = k := by omega
   subst this
   rw [W] at G; simp at G; subst G; exact O
 ·intro _ M
  simp only [Sum.elim_inl]
  unfold Nr.J1
  exact .pure (.inl ⟨rfl, fun j y G => M j y (gs G).1 G⟩)
 ·intro b X
  exact .pure (.inr X)
theorem Dd {s : List Sg} {g : Sg → Option Bool} {P : Sg → Bool} (hg : ∀ (k : Nat) (x : Sg), s[k]? = some x → g x = some (P x)) :
  Kr s g = some (s.any P) := by
 have : Ok (Kr s g) fun r => r = s.any P := by
  unfold Kr
  refine .bind (Ek hg) fun r W => .pure ?_
  rcases W with ⟨rfl, h⟩ | ⟨k, x, rfl, G, O, _⟩
  ·have : s.any P = false := by
    rw [List.any_eq_false]
    intro x G
    obtain ⟨j, M⟩ := List.getElem?_of_mem G
    rw [h j x M]; simp
   rw [this]; rfl
  ·have : s.any P = true := List.any_eq_true.2 ⟨x, mg G, O⟩
   rw [this]; simp
 obtain ⟨r, h, rfl⟩ := this
 exact h
theorem Fi {s : List Port} {g : Port → Option Bool} {P : Port → Bool} (hg : ∀ (k : Nat) (x : Port), s[k]? = some x → g x = some (P x)) :
  Ok (Na s g) fun r => (r = -1 ∧ ∀ (j : Nat) (y : Port), s[j]? = some y → P y = false) ∨ ∃ (k : Nat) (x : Port), r = (k : Int) ∧ s[k]? = some x ∧ P x = true ∧ ∀ (j : Nat) (y : Port), j < k → s[j]? = some y → P y = false := by
 unfold Na
 refine .bind' (.forL (fun k _ => ∀ (j : Nat) (y : Port), j < k → s[j]? = some y → P y = false) (fun r => ∃ (k : Nat) (x : Port), r = (k : Int) ∧ s[k]? = some x ∧ P x = true ∧ ∀ (j : Nat) (y : Port), j < k → s[j]? = some y → P y = false) (fun j y h => absurd h (Nat.not_lt_zero _)) ?_ ?_ ?_)
 ·intro k x _ W M
  unfold Na.B2
  refine .bind' (.eq (hg k x W) (A9 (fun O => .pure ⟨k, x, rfl, W, O, M⟩) fun O => .pure fun j y Y G => ?_))
  by_cases h : j < k
  ·exact M j y h G
  ·have : j = k := by omega
   subst this
   rw [W] at G; simp at G; subst G; exact O
 ·intro _ M
  simp only [Sum.elim_inl]
  unfold Na.J1
  exact .pure (.inl ⟨rfl, fun j y G => M j y (gs G).1 G⟩)
 ·intro b X
  exact .pure (.inr X)
theorem E0 {s : List Port} {g : Port → Option Bool} {P : Port → Bool} (hg : ∀ (k : Nat) (x : Port), s[k]? = some x → g x = some (P x)) :
  Nl s g = some (s.any P) := by
 have : Ok (Nl s g) fun r => r = s.any P := by
  unfold Nl
  refine .bind (Fi hg) fun r W => .pure ?_
  rcases W with ⟨rfl, h⟩ | ⟨k, x, rfl, G, O, _⟩
  ·have : s.any P = false := by
    rw [List.any_eq_false]
    intro x G
    obtain ⟨j, M⟩ := List.getElem?_of_mem G
    rw [h j x M]; simp
   rw [this]; rfl
  ·have : s.any P = true := List.any_eq_true.2 ⟨x, mg G, O⟩
   rw [this]; simp
 obtain ⟨r, h, rfl⟩ := this
 exact h
theorem Dj {s : List Sn} {g : Sn → Option Bool} {P : Sn → Bool} (hg : ∀ (k : Nat) (x : Sn), s[k]? = some x → g x = some (P x)) :
  Ok (Kq s g) fun r => (r = -1 ∧ ∀ (j : Nat) (y : Sn), s[j]? = some y → P y = false) ∨ ∃ (k : Nat) (x : Sn), r = (k : Int) ∧ s[k]? = some x ∧ P x = true ∧ ∀ (j : Nat) (y : Sn), j < k → s[j]? = some y → P y = false := by
 unfold Kq
 refine .bind' (.forL (fun k _ => ∀ (j : Nat) (y : Sn), j < k → s[j]? = some y → P y = false) (fun r => ∃ (k : Nat) (x : Sn), r = (k : Int) ∧ s[k]? = some x ∧ P x = true ∧ ∀ (j : Nat) (y : Sn), j < k → s[j]? = some y → P y = false) (fun j y h => absurd h (Nat.not_lt_zero _)) ?_ ?_ ?_)
 ·intro k x _ W M
  unfold Kq.B2
  refine .bind' (.eq (hg k x W) (A9 (fun O => .pure ⟨k, x, rfl, W, O, M⟩) fun O => .pure fun j y Y G => ?_))
  by_cases h : j < k
  ·exact M j y h G
  ·have : j = k := by omega
   subst this
   rw [W] at G; simp at G; subst G; exact O
 ·intro _ M
  simp only [Sum.elim_inl]
  unfold Kq.J1
  exact .pure (.inl ⟨rfl, fun j y G => M j y (gs G).1 G⟩)
 ·intro b X
  exact .pure (.inr X)
theorem D6 {s : List Sn} {g : Sn → Option Bool} {P : Sn → Bool} (hg : ∀ (k : Nat) (x : Sn), s[k]? = some x → g x = some (P x)) :
  M4 s g = some (s.any P) := by
 have : Ok (M4 s g) fun r => r = s.any P := by
  unfold M4
  refine .bind (Dj hg) fun r W => .pure ?_
  rcases W with ⟨rfl, h⟩ | ⟨k, x, rfl, G, O, _⟩
  ·have : s.any P = false := by
    rw [List.any_eq_false]
    intro x G
    obtain ⟨j, M⟩ := List.getElem?_of_mem G
    rw [h j x M]; simp
   rw [this]; rfl
  ·have : s.any P = true := List.any_eq_true.2 ⟨x, mg G, O⟩
   rw [this]; simp
 obtain ⟨r, h, rfl⟩ := this
 exact h
theorem Ia {s : List Bt} {v : Bt} :
  Ok (M6 s v) fun r => (r = -1 ∧ ∀ (j : Nat) (y : Bt), s[j]? = some y → (Si v y) = false) ∨ ∃ (k : Nat) (y : Bt), r = (k : Int) ∧ s[k]? = some y ∧ (Si v y) = true ∧ ∀ (j : Nat) (y : Bt), j < k → s[j]? = some y → (Si v y) = false := by
 unfold M6
 refine .bind' (.forL (fun k _ => ∀ (j : Nat) (y : Bt), j < k → s[j]? = some y → (Si v y) = false) (fun r => ∃ (k : Nat) (y : Bt), r = (k : Int) ∧ s[k]? = some y ∧ (Si v y) = true ∧ ∀ (j : Nat) (y : Bt), j < k → s[j]? = some y → (Si v y) = false) (fun j y h => absurd h (Nat.not_lt_zero _)) ?_ ?_ ?_)
 ·intro k x _ W M
  unfold M6.B2
  refine A9 (fun O => .pure ⟨k, x, rfl, W, O, M⟩) fun O => .pure fun j y Y G => ?_
  by_cases h : j < k
  ·exact M j y h G
  ·have : j = k := by omega
   subst this
   rw [W] at G; simp at G; subst G; exact O
 ·intro _ M
  simp only [Sum.elim_inl]
  unfold M6.J1
  exact .pure (.inl ⟨rfl, fun j y G => M j y (gs G).1 G⟩)
 ·intro b X
  exact .pure (.inr X)
end Go.Proofs.YtihdchjpepkpbaaGreat
namespace Go.Aw
set_option linter.unusedVariables false
set_option linter.defProp false
set_option linter.unusedSimpArgs false
theorem Ok.any {α B : Type} {f : Nat → α → Unit → Option (Unit ⊕ B)} {l : List α} {d : B} (P : Nat → α → Prop)
  (hf : ∀ (k : Nat) x, l[k]? = some x → Ok (f k x ()) fun o => (P k x ∧ o = .inr d) ∨ (¬ P k x ∧ o = .inl ())) :
  Ok (Aw.forL f 0 l ()) fun o => ((∃ (k : Nat) (x : α), l[k]? = some x ∧ P k x) ∧ o = .inr d) ∨ ((∀ (k : Nat) (x : α), l[k]? = some x → ¬ P k x) ∧ o = .inl ()) := by
 refine .forL (fun m _ => ∀ (k : Nat) (x : α), k < m → l[k]? = some x → ¬ P k x) (fun b => b = d ∧ ∃ (k : Nat) (x : α), l[k]? = some x ∧ P k x) (fun k x h => absurd h (Nat.not_lt_zero _)) ?_ ?_ ?_
 ·intro k x _ G W
  refine (hf k x G).mono ?_
  rintro o (⟨h, rfl⟩ | ⟨h, rfl⟩)
  ·exact ⟨rfl, k, x, G, h⟩
  ·intro j y X O
   by_cases M : j = k
   ·subst M; rw [G] at O; cases O; exact h
   ·exact W j y (by omega) O
 ·exact fun _ h => .inr ⟨fun k x G => h k x (gs G).1 G, rfl⟩
 ·rintro b ⟨rfl, h⟩; exact .inl ⟨h, rfl⟩
def kD := @Ok.any
theorem Ji {B : Type} {f : Nat → Unit → Option (Unit ⊕ B)} {n : Nat} {d : B} (P : Nat → Prop)
  (hf : ∀ (k : Nat), k < n → Ok (f k ()) fun o => (P k ∧ o = .inr d) ∨ (¬ P k ∧ o = .inl ())) :
  Ok (Aw.forI f 0 n ()) fun o => ((∃ k, k < n ∧ P k) ∧ o = .inr d) ∨ ((∀ k, k < n → ¬ P k) ∧ o = .inl ()) := by
 refine .forI (fun m _ => ∀ k, k < m → ¬ P k) (fun b => b = d ∧ ∃ k, k < n ∧ P k) (fun k h => absurd h (Nat.not_lt_zero _)) ?_ ?_ ?_
 ·intro k _ M O
  refine (hf k M).mono ?_
  rintro o (⟨h, rfl⟩ | ⟨h, rfl⟩)
  ·exact ⟨rfl, k, M, h⟩
  ·intro j W
   by_cases G : j = k
   ·subst G; exact h
   ·exact O j (by omega)
 ·exact fun _ h => .inr ⟨h, rfl⟩
 ·rintro b ⟨rfl, h⟩; exact .inl ⟨h, rfl⟩
theorem Ok.test {B : Type} {c : Bool} {d : B} {P : Prop} (h : c = true ↔ P) : Ok (if c = true then some (.inr d) else some (.inl ()) : Option (Unit ⊕ B)) fun o => (P ∧ o = .inr d) ∨ (¬ P ∧ o = .inl ()) := by
 by_cases G : c = true
 ·rw [if_pos G]; exact .pure (.inl ⟨h.1 G, rfl⟩)
 ·rw [if_neg G]; exact .pure (.inr ⟨fun M => G (h.2 M), rfl⟩)
theorem Wg {α B : Type} {l : List α} {k : Nat} {d : B} {f : Int → Option (Int ⊕ (B ⊕ Unit))} (P : α → Prop) (hk : k ≤ l.length) (hl : l.length ≤ 1000000)
  (hf : ∀ (i : Nat) (y : α), i < k → l[i]? = some y → Ok (f (i : Int)) fun o => (P y ∧ o = .inr (.inl d)) ∨ (¬ P y ∧ o = .inl (wr ((i : Int) + 1)))) (he : f (k : Int) = some (.inr (.inr ()))) :
  Ok (C5 f El 0) fun o => ((∃ (j : Nat) (y : α), j < k ∧ l[j]? = some y ∧ P y) ∧ o = .inl d) ∨ ((¬ ∃ (j : Nat) (y : α), j < k ∧ l[j]? = some y ∧ P y) ∧ o = .inr ()) := by
 refine .loop (fun i : Int => 0 ≤ i ∧ i ≤ (k : Int) ∧ ∀ (j : Nat) (y : α), (j : Int) < i → l[j]? = some y → ¬ P y) (fun i => k - i.toNat) ⟨by omega, by omega, fun j y h => by omega⟩ (by omega) ?_
 rintro i ⟨i0, i1, X⟩
 obtain ⟨i, rfl⟩ : ∃ m : Nat, i = (m : Int) := ⟨i.toNat, by omega⟩
 by_cases O : i = k
 ·subst O
  rw [he]
  exact .pure (.inr ⟨fun ⟨j, y, Y, M, Z⟩ => X j y (by omega) M Z, rfl⟩)
 have M : l[i]? = some (l[i]'(by omega)) := gq _
 refine (hf i _ (by omega) M).mono ?_
 rintro o (⟨h, rfl⟩ | ⟨h, rfl⟩)
 ·exact .inl ⟨⟨i, _, by omega, M, h⟩, rfl⟩
 ·simp only [Sum.elim_inl]
  rw [Bc (by omega)]
  refine ⟨⟨by omega, by omega, fun j y Y G => ?_⟩, by omega⟩
  by_cases W : j = i
  ·subst W; rw [M] at G; cases G; exact h
  ·exact X j y (by omega) G
theorem R1 {α β : Type} {l : List α} {st : List β} {g : α → List β} {f : Nat → α → List β → Option (List β)} (hf : ∀ k x st, f k x st = (Dg st (g x)).bind fun y => some y) (hg : ∀ x, (g x).length ≤ 2) (hl : l.length ≤ 1000) (O : st.length ≤ 1000000) :
  Ok (Aw.forS f 0 l st) fun r => r = st ++ l.flatMap g ∧ r.length ≤ st.length + 2000 := by
 refine .forS (fun k r => r = st ++ (l.take k).flatMap g ∧ r.length ≤ st.length + 2 * k) (by simp) ?_ fun r h => ⟨by rw [h.1]; simp, by omega⟩
 rintro k x r G ⟨rfl, h⟩
 rw [hf]
 have M := (gs G).1
 have := hg x
 refine .bind' (.app (by omega) (.pure ⟨?_, by rw [List.length_append]; omega⟩))
 rw [List.take_add_one, G]; simp
theorem Cr {α : Type} {c : Bool} {Q : Prop} {x y : Option α} {P : α → Prop} (h : c = true ↔ Q) (h1 : Q → Ok x P) (h2 : ¬ Q → Ok y P) : Ok (if c = true then x else y) P :=
 hE (fun G => h1 (h.1 G)) fun G => h2 fun M => G (h.2 M)
end Go.Aw
namespace Go.Proofs.YtihdchjpepkpbaaGreat
set_option linter.unusedVariables false
set_option linter.defProp false
set_option linter.unusedSimpArgs false
open Go.Aw
theorem Hy {α β : Type} {l : List α} {g : α → β} {f : Nat → α → List β → Option (List β)} (hf : ∀ k x st, f k x st = (Dg st [g x]).bind fun y => some y) (hl : l.length ≤ 1000) :
  Ok (forS f 0 l []) fun r => r = l.map g := by
 refine .forS (fun k st => st = (l.take k).map g) (by simp) ?_ fun st h => by rw [h]; simp
 rintro k x st G rfl
 rw [hf]
 have M := (gs G).1
 refine .bind' (.app (by simp; omega) (.pure ?_))
 rw [List.take_add_one, G]
 simp
theorem S7 {n : Nw} (h1 : n.Segments.length ≤ 1000) (h2 : n.Ports.length ≤ 1000) (G : n.Stations.length ≤ 1000) :
  Ok (K1 n) fun r => r.l = [n.Nodes, n.Segments.map (·.Name), n.Ports.map (·.Name), n.Stations.map (·.Name)] := by
 unfold K1
 refine .bind (Hy (g := (·.Name)) (fun _ _ _ => rfl) h1) ?_
 rintro _ rfl
 unfold K1.J1
 refine .bind (Hy (g := (·.Name)) (fun _ _ _ => rfl) h2) ?_
 rintro _ rfl
 unfold K1.J2
 refine .bind (Hy (g := (·.Name)) (fun _ _ _ => rfl) G) ?_
 rintro _ rfl
 unfold K1.J3
 exact .pure rfl
theorem bD (a : Bt) : Si a a = true := by simp [Si]
def Z1 (n : Nw) : List (List Bt) := [n.Nodes, n.Segments.map (·.Name), n.Ports.map (·.Name), n.Stations.map (·.Name)]
def Ml (s : Sg) : Prop := 2 ≤ s.Points.length ∧ s.Points.length ≤ 8
def Lim (n : Nw) : Prop := (1 ≤ n.Nodes.length ∧ n.Nodes.length ≤ 24 ∧ n.Segments.length ≤ 32 ∧ n.Ports.length ≤ 24 ∧ n.Stations.length ≤ 12) ∧ ∀ (k : Nat) (s : Sg), n.Segments[k]? = some s → Ml s
def low (c : Int) : Prop := 97 ≤ c ∧ c ≤ 122
def ch (x : Bt) (k : Nat) : Int := ((x.data.getD k 0).toNat : Int)
def Iw (x : Bt) : Prop := (1 ≤ x.size ∧ x.size ≤ 12 ∧ low (ch x 0)) ∧ ∀ k, k < x.size → low (ch x k) ∨ (48 ≤ ch x k ∧ ch x k ≤ 57) ∨ ch x k = 45
def Um (l : List Bt) : Prop := ∃ (k : Nat) (x : Bt), l[k]? = some x ∧ ¬ Iw x
def Hm (n : Nw) : Prop := ∃ k, k < 4 ∧ ∃ l, (Z1 n)[k]? = some l ∧ Um l
def aH (l : List Bt) (k : Nat) (x : Bt) : Prop := ∃ (j : Nat) (y : Bt), j < k ∧ l[j]? = some y ∧ x.toList = y.toList
def hN (l : List Bt) : Prop := ∃ (k : Nat) (x : Bt), l[k]? = some x ∧ aH l k x
def Ul (l : List Sn) (k : Nat) (x : Sn) : Prop := ∃ (j : Nat) (y : Sn), j < k ∧ l[j]? = some y ∧ x.Node = y.Node
def Mv (n : Nw) : Prop := ∃ k, k < 4 ∧ ∃ l, (Z1 n)[k]? = some l ∧ hN l
def Mu (n : Nw) : Prop := ∃ (k : Nat) (x : Sn), n.Stations[k]? = some x ∧ Ul n.Stations k x
def At (n : Nw) (k : Int) : Prop := 0 ≤ k ∧ k < (n.Nodes.length : Int)
def Mm (n : Nw) : Prop := (∀ (k : Nat) (s : Sg), n.Segments[k]? = some s → At n s.From ∧ At n s.To) ∧ (∀ (k : Nat) (s : Port), n.Ports[k]? = some s → At n s.Node) ∧ ∀ (k : Nat) (s : Sn), n.Stations[k]? = some s → At n s.Node
def aG (p : Point) : Prop := (-500 ≤ p.Height ∧ p.Height ≤ 5000) ∧ 0 ≤ p.Limit ∧ p.Limit ≤ 100000000
def Ic (s : Sg) (k : Nat) (p : Point) : Prop := ¬ aG p ∨ ∃ q, 0 < k ∧ s.Points[k - 1]? = some q ∧ p.At ≤ q.At
structure PipeOk (s : Segment) : Prop where
 ends : s.From ≠ s.To
 cap : 1 ≤ s.Capacity ∧ s.Capacity ≤ 1000000
 resist : 0 ≤ s.Resist ∧ s.Resist ≤ 1000
 wave : 0 ≤ s.Wave ∧ s.Wave ≤ 100000
 first : ∀ p, s.Points[0]? = some p → p.At = 0
 last : ∀ p, s.Points[s.Points.length - 1]? = some p → p.At = s.Capacity
 pts : ∀ (k : Nat) (p : Point), s.Points[k]? = some p → ¬ Ic s k p
structure StnOk (s : Station) : Prop where
 head : 0 ≤ s.Head ∧ s.Head ≤ 100000000
 fall : 0 ≤ s.Fall ∧ s.Fall ≤ 100000
 suction : 0 ≤ s.Suction ∧ s.Suction ≤ 100000000
structure Proper (n : Network) : Prop where
 segs : ∀ (k : Nat) (s : Sg), n.Segments[k]? = some s → PipeOk s
 ports : ∀ (k : Nat) (s : Port), n.Ports[k]? = some s → 0 ≤ s.Pressure ∧ s.Pressure ≤ 100000000
 sts : ∀ (k : Nat) (s : Sn), n.Stations[k]? = some s → StnOk s
 vapour : -100000 ≤ n.Vapour ∧ n.Vapour ≤ 100000000
 settle : 0 ≤ n.Settle ∧ n.Settle ≤ 100
def NetRes (n : Nw) (r : Int) : Prop := (¬ Lim n ∧ r = 4) ∨ (Lim n ∧ ((Hm n ∧ r = 3) ∨ (¬ Hm n ∧ (((Mv n ∨ Mu n) ∧ r = 7) ∨ (¬ (Mv n ∨ Mu n) ∧ ((¬ Mm n ∧ r = 8) ∨ (Mm n ∧ ((¬ Proper n ∧ r = 9) ∨ (Proper n ∧ r = 0)))))))))
theorem NetRes.uniq {n : Nw} {r r' : Int} (h : NetRes n r) (G : NetRes n r') : r = r' := by
 unfold NetRes at h G
 rcases h with ⟨a, rfl⟩ | ⟨a, ⟨b, rfl⟩ | ⟨b, ⟨c, rfl⟩ | ⟨c, ⟨d, rfl⟩ | ⟨d, ⟨e, rfl⟩ | ⟨e, rfl⟩⟩⟩⟩⟩ <;>
  rcases G with ⟨M, rfl⟩ | ⟨M, ⟨O, rfl⟩ | ⟨O, ⟨W, rfl⟩ | ⟨W, ⟨X, rfl⟩ | ⟨X, ⟨Y, rfl⟩ | ⟨Y, rfl⟩⟩⟩⟩⟩ <;> first | rfl | contradiction
structure Sane (n : Network) : Prop where
 nodes : n.Nodes.length ≤ 1000
 segs : n.Segments.length ≤ 1000
 ports : n.Ports.length ≤ 1000
 sts : n.Stations.length ≤ 1000
 pts : ∀ (k : Nat) (s : Sg), n.Segments[k]? = some s → s.Points.length ≤ 1000
theorem Jc {a b : Bt} : Si a b = true ↔ a.toList = b.toList := by simp [Si]
theorem Md {x : Bt} {k : Nat} (h : k < x.size) : fK x (k : Int) = some (k, ch x k) := by
 unfold fK ch; rw [if_pos ⟨by omega, by omega⟩]; simp
theorem fF {c : Bool} {P : Prop} (h : c = true ↔ P) : (c = true ∧ P) ∨ (c = false ∧ ¬ P) := by
 cases c
 ·exact .inr ⟨rfl, fun G => by cases h.2 G⟩
 ·exact .inl ⟨rfl, h.1 rfl⟩
theorem Jn {x : Bt} : Ok (Gt x) fun r => r = true ↔ Iw x := by
 have W : ¬ (1 ≤ x.size ∧ x.size ≤ 12 ∧ low (ch x 0)) → Ok (Gt.J1 x true) fun r => r = true ↔ Iw x := fun h => by
  unfold Gt.J1
  exact .pure ⟨fun h => (by cases h), fun O => absurd O.1 h⟩
 unfold Gt
 refine A0 (fun h => W (by omega)) fun X => A0 (fun h => W (by omega)) fun Y => ?_
 refine .bind' (.eq (Md (k := 0) (by omega)) ?_)
 have e : (Hh (ch x 0) != 1) = true ↔ ¬ low (ch x 0) := by
  unfold Hh Hh.J1 low
  by_cases a : (decide (ch x 0 ≥ 97) && decide (ch x 0 ≤ 122)) = true
  ·rw [if_pos a]; simp at a ⊢; omega
  ·rw [if_neg a]
   simp at a
   refine ⟨fun _ => by omega, fun _ => ?_⟩
   split <;> (try split) <;> rfl
 rcases fF e with ⟨e, G⟩ | ⟨e, G⟩
 ·dsimp only; rw [e]; exact W (fun h => G h.2.2)
 dsimp only
 rw [e]
 unfold Gt.J1
 refine A9 (fun h => by cases h) fun _ => .bind' (.chk (by omega) ?_)
 refine .bind (Ji (d := false) (P := fun k => ¬ (low (ch x k) ∨ (48 ≤ ch x k ∧ ch x k ≤ 57) ∨ ch x k = 45)) fun k M => ?_) ?_
 ·unfold Gt.B3
  refine .bind' (.eq (Md (by simpa using M)) (.test ?_))
  dsimp only
  unfold Hh Hh.J1 low
  split
  ·rename_i h; simp at h ⊢; omega
  ·split
   ·rename_i h; simp at h ⊢; omega
   ·split
    ·rename_i h; simp at h ⊢; omega
    ·rename_i X Y G; simp at X Y G ⊢; omega
 ·rintro _ (⟨⟨k, M, h⟩, rfl⟩ | ⟨h, rfl⟩)
  ·exact .pure ⟨fun h => (by cases h), fun O => absurd (O.2 k (by simpa using M)) h⟩
  ·refine .pure ⟨fun _ => ⟨⟨by omega, by omega, Classical.not_not.1 G⟩, fun k M => Classical.not_not.1 (h k (by simpa using M))⟩, fun _ => rfl⟩
theorem Ut {k0 : Nat} {l : List Bt} : Ok (forL (My.B6 (k0, l)) 0 l ()) fun o => (hN l ∧ o = .inr true) ∨ (¬ hN l ∧ o = .inl ()) := by
 refine (Ok.any (d := true) (P := aH l) fun k x O => ?_).mono fun o h => h.imp (fun h => h) fun h => ⟨fun ⟨k, x, O, X⟩ => h.1 k x O X, h.2⟩
 unfold My.B6
 refine .bind Ia fun r hr => .test ?_
 rcases hr with ⟨rfl, h⟩ | ⟨j, y, rfl, Z, Y, M⟩
 ·have := h k x O
  rw [bD] at this; cases this
 ·simp only [decide_eq_true_eq]
  refine ⟨fun h => ⟨j, y, by omega, Z, Jc.1 Y⟩, fun ⟨i, z, hi, hz, W⟩ => ?_⟩
  by_cases G : i < j
  ·have := M i z G hz
   rw [Jc.2 W] at this; cases this
  ·omega
theorem Vz {n : Nw} {l : List (List Bt)} (h : l = Z1 n) {k : Nat} (G : k < 4) : ∃ x, l[k]? = some x ∧ (Z1 n)[k]? = some x := by
 subst h
 exact ⟨(Z1 n)[k]'G, gq _, gq _⟩
theorem aY {n : Nw} (Y : Sane n) : Ok (My n) fun r => r = true ↔ (Mv n ∨ Mu n) := by
 unfold My
 refine .bind (S7 Y.segs Y.ports Y.sts) fun r Z => .bind (Ji (d := true) (P := fun k => ∃ l, (Z1 n)[k]? = some l ∧ hN l) fun k W => ?_) ?_
 ·obtain ⟨l, h1, G⟩ := Vz Z W
  unfold My.B4
  refine .bind' (.eq (Bg h1) (.bind Ut ?_))
  rintro _ (⟨h, rfl⟩ | ⟨h, rfl⟩)
  ·exact .pure (.inl ⟨⟨l, G, h⟩, rfl⟩)
  ·refine .pure (.inr ⟨fun ⟨m, h3, h4⟩ => ?_, rfl⟩)
   rw [G] at h3; cases h3; exact h h4
 rintro _ (⟨h, rfl⟩ | ⟨h, rfl⟩)
 ·exact .pure ⟨fun _ => .inl h, fun _ => rfl⟩
 unfold My.J1
 refine .bind (Ok.any (d := true) (P := Ul n.Stations) fun k x hx => ?_) ?_
 ·unfold My.B3
  refine .bind (Dj (P := fun y => Hf y x) fun _ _ _ => rfl) fun r Z => .test ?_
  rcases Z with ⟨rfl, h⟩ | ⟨j, y, rfl, hj, he, X⟩
  ·have := h k x hx
   simp [Hf] at this
  ·simp only [decide_eq_true_eq]
   refine ⟨fun h => ⟨j, y, by omega, hj, by simp [Hf] at he; exact he.symm⟩, fun ⟨i, z, hi, hz, hxz⟩ => ?_⟩
   by_cases O : i < j
   ·have := X i z O hz
    simp [Hf, hxz] at this
   ·omega
 ·rintro _ (⟨M, rfl⟩ | ⟨M, rfl⟩)
  ·exact .pure ⟨fun _ => .inr M, fun _ => rfl⟩
  ·refine .pure ⟨fun h => (by cases h), fun G => ?_⟩
   rcases G with ⟨k, W, G⟩ | ⟨k, x, hx, hd⟩
   ·exact absurd G (h k W)
   ·exact absurd hd (M k x hx)
theorem bI {n : Nw} (W : Sane n) : Ok (Nm n) fun r => r = true ↔ Mm n := by
 unfold Nm
 refine .bind (R1 (g := fun s : Sg => [s.From, s.To]) (fun _ _ _ => rfl) (fun _ => by simp) W.segs (by simp)) ?_
 rintro l1 ⟨X, M⟩
 unfold Nm.J1
 refine .bind (R1 (g := fun s : Port => [s.Node]) (fun _ _ _ => rfl) (fun _ => by simp) W.ports (by simp at M; omega)) ?_
 rintro l2 ⟨Y, aa⟩
 unfold Nm.J2
 refine .bind (R1 (g := fun s : Sn => [s.Node]) (fun _ _ _ => rfl) (fun _ => by simp) W.sts (by simp at M; omega)) ?_
 rintro l3 ⟨Z, -⟩
 subst Z Y X
 unfold Nm.J3
 refine .bind' (.eq (Fa (P := fun x => Iq x n) fun _ _ _ => rfl) (.pure ?_))
 have e : ∀ x, Iq x n = false ↔ At n x := fun x => by unfold At; simp [Iq]
 rw [Bool.not_eq_true', List.any_eq_false]
 simp only [List.nil_append, List.mem_append, List.mem_flatMap, List.mem_cons, List.not_mem_nil, or_false, Bool.not_eq_true, e]
 refine ⟨fun h => ⟨fun k s G => ⟨h _ (.inl (.inl ⟨s, mg G, .inl rfl⟩)), h _ (.inl (.inl ⟨s, mg G, .inr rfl⟩))⟩, fun k s G => h _ (.inl (.inr ⟨s, mg G, rfl⟩)), fun k s G => h _ (.inr ⟨s, mg G, rfl⟩)⟩, fun h x hx => ?_⟩
 rcases hx with (⟨s, G, rfl | rfl⟩ | ⟨s, G, rfl⟩) | ⟨s, G, rfl⟩ <;> obtain ⟨k, O⟩ := List.getElem?_of_mem G
 ·exact (h.1 k s O).1
 ·exact (h.1 k s O).2
 ·exact h.2.1 k s O
 ·exact h.2.2 k s O
theorem Uf {a b c : Int} : Cv a b c = true ↔ b ≤ a ∧ a ≤ c := by simp [Cv]
theorem Je {a b c : Int} : (!(Cv a b c)) = true ↔ ¬ (b ≤ a ∧ a ≤ c) := by rw [← Uf]; simp
theorem V5 {s : Sg} (X : s.Points.length ≤ 1000) {k : Nat} {p : Point} (M : s.Points[k]? = some p) (O : 0 < k) : ∃ q, s.Points[k - 1]? = some q ∧ ix s.Points (wr ((k : Int) - 1)) = some (k - 1, q) := by
 have W := (gs M).1
 have G : s.Points[k - 1]? = some (s.Points[k - 1]'(by omega)) := gq _
 refine ⟨_, G, ?_⟩
 rw [Bc (by omega), show ((k : Int) - 1) = ((k - 1 : Nat) : Int) by omega]
 exact Bg G
theorem Wd {s : Sg} {k : Nat} {p q : Point} (h : aG p) (W : 0 < k) (O : s.Points[k - 1]? = some q) : Ic s k p ↔ p.At ≤ q.At := by
 refine ⟨fun G => ?_, fun G => .inr ⟨q, W, O, G⟩⟩
 rcases G with G | ⟨X, _, M, G⟩
 ·exact absurd h G
 ·rw [O] at M; cases M; exact G
theorem Wc {s : Sg} (h2 : 2 ≤ s.Points.length ∧ s.Points.length ≤ 1000) : ∃ p q, s.Points[0]? = some p ∧ s.Points[s.Points.length - 1]? = some q ∧ ix s.Points 0 = some (0, p) ∧ ix s.Points (wr ((s.Points.length : Int) - 1)) = some (s.Points.length - 1, q) := by
 have G : s.Points[0]? = some (s.Points[0]'(by omega)) := gq _
 have M : s.Points[s.Points.length - 1]? = some (s.Points[s.Points.length - 1]'(by omega)) := gq _
 refine ⟨_, _, G, M, Bg G, ?_⟩
 rw [Bc (by omega), show ((s.Points.length : Int) - 1) = ((s.Points.length - 1 : Nat) : Int) by omega]
 exact Bg M
theorem V6 {s : Sg} (h2 : 2 ≤ s.Points.length ∧ s.Points.length ≤ 1000) : Ok (Iv s) fun r => r = true ↔ PipeOk s := by
 obtain ⟨p0, pl, Y, Z, i0, il⟩ := Wc h2
 unfold Iv
 refine Cr (Q := ¬ (s.From ≠ s.To ∧ (1 ≤ s.Capacity ∧ s.Capacity ≤ 1000000) ∧ (0 ≤ s.Resist ∧ s.Resist ≤ 1000) ∧ 0 ≤ s.Wave ∧ s.Wave ≤ 100000)) ?_ (fun h => .pure ⟨fun h => (by cases h), fun G => absurd ⟨G.ends, G.cap, G.resist, G.wave⟩ h⟩) fun h => ?_
 ·simp only [Bool.or_eq_true, Je, beq_iff_eq]; omega
 obtain ⟨a1, a2, a3, a4⟩ := Classical.not_not.1 h
 refine .bind (Ok.any (d := false) (P := Ic s) fun k p G => ?_) ?_
 ·have X : ∀ b : Bool, (b = true ↔ Ic s k p) → Ok (Iv.J4 b) fun o => (Ic s k p ∧ o = .inr false) ∨ (¬ Ic s k p ∧ o = .inl ()) := fun b h => by unfold Iv.J4; exact .test h
  unfold Iv.B3
  refine Cr Je (fun h => X _ ⟨fun _ => .inl fun M => h M.1, fun _ => rfl⟩) fun h1 => Cr Je (fun h => X _ ⟨fun _ => .inl fun M => h M.2, fun _ => rfl⟩) fun h3 => ?_
  have M : aG p := ⟨Classical.not_not.1 h1, Classical.not_not.1 h3⟩
  refine A0 (fun O => ?_) fun O => X _ ⟨fun h => (by cases h), fun W => ?_⟩
  ·obtain ⟨q, hq, hi⟩ := V5 h2.2 G (by omega)
   exact .bind' (.eq hi (X _ (by rw [Wd M (by omega) hq]; simp)))
  ·rcases W with W | ⟨q, hk, _⟩
   ·exact absurd M W
   ·omega
 ·rintro _ (⟨⟨k, p, G, W⟩, rfl⟩ | ⟨h, rfl⟩)
  ·exact .pure ⟨fun h => (by cases h), fun h => absurd W (h.pts k p G)⟩
  ·simp only [Sum.elim_inl]
   unfold Iv.J1 Iv.J2
   rw [i0, il]
   refine .bind' (.pure (Cr (Q := p0.At = 0) (by simp) (fun O => .bind' (.pure (.pure ?_))) fun O => .pure ⟨fun h => (by cases h), fun h => absurd (h.first _ Y) O⟩))
   dsimp only
   rw [beq_iff_eq]
   refine ⟨fun hl => ⟨a1, a2, a3, a4, fun p G => ?_, fun p G => ?_, h⟩, fun G => G.last _ Z⟩
   ·rw [Y] at G; cases G; exact O
   ·rw [Z] at G; cases G; exact hl
theorem H4 {α : Type} {l : List α} {P : α → Bool} {Q : α → Prop} (h : ∀ (k : Nat) (x : α), l[k]? = some x → (P x = true ↔ Q x)) : l.any P = true ↔ ∃ (k : Nat) (x : α), l[k]? = some x ∧ Q x := by
 rw [List.any_eq_true]
 refine ⟨fun ⟨x, G, O⟩ => ?_, fun ⟨k, x, G, W⟩ => ⟨x, mg G, (h k x G).2 W⟩⟩
 obtain ⟨k, M⟩ := List.getElem?_of_mem G
 exact ⟨k, x, M, (h k x M).1 O⟩
theorem Lim.pts {n : Nw} (hl : Lim n) {k : Nat} {s : Sg} (G : n.Segments[k]? = some s) : 2 ≤ s.Points.length ∧ s.Points.length ≤ 1000 := by
 have := hl.2 k s G; unfold Ml at this; omega
theorem gS {n : Nw} : Ok (Nb n) fun r => r = true ↔ Lim n := by
 unfold Nb
 refine Cr (Q := ¬ (1 ≤ n.Nodes.length ∧ n.Nodes.length ≤ 24 ∧ n.Segments.length ≤ 32 ∧ n.Ports.length ≤ 24 ∧ n.Stations.length ≤ 12)) (by simp; omega) (fun h => .pure ⟨fun h => (by cases h), fun G => absurd G.1 h⟩) fun h => ?_
 refine .bind' (.eq (Dd (P := fun x => Ip x) fun _ _ _ => rfl) (.pure ?_))
 have e := H4 (l := n.Segments) (P := fun x => Ip x) (Q := fun s => ¬ Ml s) fun k s _ => by simp [Ip, Ml]; omega
 rw [Bool.not_eq_true', ← Bool.not_eq_true, e]
 exact ⟨fun W => ⟨Classical.not_not.1 h, fun k s O => Classical.not_not.1 fun M => W ⟨k, s, O, M⟩⟩, fun G ⟨k, s, O, M⟩ => M (G.2 k s O)⟩
theorem Wv {n : Nw} (hl : Lim n) : Ok (Rt n) fun r => r = true ↔ Proper n := by
 unfold Rt
 refine .bind' (.eq (Dd (P := fun s => !((Iv s).getD false)) fun k s G => ?_) ?_)
 ·obtain ⟨b, O, _⟩ := V6 (hl.pts G)
  unfold Re
  rw [O]; rfl
 have W := H4 (l := n.Segments) (P := fun s => !((Iv s).getD false)) (Q := fun s => ¬ PipeOk s) fun k s G => by
  obtain ⟨b, O, he⟩ := V6 (hl.pts G)
  rw [O, ← he]; simp
 refine Cr W (fun ⟨k, s, G, M⟩ => .pure ⟨fun h => (by cases h), fun h => absurd (h.segs k s G) M⟩) fun Z => ?_
 refine .bind' (.eq (E0 (P := fun x => Ir x) fun _ _ _ => rfl) ?_)
 have X := H4 (l := n.Ports) (P := fun x => Ir x) (Q := fun s => ¬ (0 ≤ s.Pressure ∧ s.Pressure ≤ 100000000)) fun k s G => by unfold Ir; exact Je
 refine Cr X (fun ⟨k, s, G, M⟩ => .pure ⟨fun h => (by cases h), fun h => absurd (h.ports k s G) M⟩) fun h2 => ?_
 refine .bind' (.eq (D6 (P := fun x => Iu x) fun _ _ _ => rfl) ?_)
 have Y := H4 (l := n.Stations) (P := fun x => Iu x) (Q := fun s => ¬ StnOk s) fun k s G => by
  unfold Iu
  simp only [Bool.or_eq_true, Je]
  exact ⟨fun h G => h.elim (fun h => h G.head) fun h => h.elim (fun h => h G.fall) fun h => h G.suction, fun h => Classical.byContradiction fun hn => h ⟨by omega, by omega, by omega⟩⟩
 refine Cr Y (fun ⟨k, s, G, M⟩ => .pure ⟨fun h => (by cases h), fun h => absurd (h.sts k s G) M⟩) fun h3 => .pure ?_
 rw [Bool.and_eq_true, Uf, Uf]
 exact ⟨fun h => ⟨fun k s G => Classical.not_not.1 fun M => Z ⟨k, s, G, M⟩, fun k s G => Classical.not_not.1 fun M => h2 ⟨k, s, G, M⟩, fun k s G => Classical.not_not.1 fun M => h3 ⟨k, s, G, M⟩, h.1, h.2⟩, fun h => ⟨h.vapour, h.settle⟩⟩
theorem Lim.sane {n : Nw} (h : Lim n) : Sane n := by
 have := h.1
 exact ⟨by omega, by omega, by omega, by omega, fun k s G => by have := h.2 k s G; unfold Ml at this; omega⟩
theorem eE {n : Nw} : Ok (Ee n) (NetRes n) := by
 unfold Ee
 refine .bind gS fun r1 h1 => Cr (Q := ¬ Lim n) (by rw [← h1]; simp) (fun h => .pure (.inl ⟨h, rfl⟩)) fun Y => ?_
 have M := Classical.not_not.1 Y
 have O := M.sane
 refine .bind (S7 O.segs O.ports O.sts) fun r hr => .bind (Ji (d := 3) (P := fun k => ∃ l, (Z1 n)[k]? = some l ∧ Um l) fun k G => ?_) ?_
 ·obtain ⟨l, g1, g2⟩ := Vz hr G
  unfold Ee.B2
  refine .bind' (.eq (Bg g1) (.bind' (.eq (Fx (P := fun x => !((Gt x).getD false)) fun j x hx => ?_) (.test ?_))))
  ·obtain ⟨b, X, _⟩ := Jn (x := x)
   unfold Rj
   rw [X]; rfl
  ·rw [H4 (Q := fun x => ¬ Iw x) fun j x hx => by obtain ⟨b, X, he⟩ := Jn (x := x); rw [X, ← he]; simp]
   exact ⟨fun h => ⟨l, g2, h⟩, fun ⟨m, g3, h⟩ => by rw [g2] at g3; cases g3; exact h⟩
 rintro _ (⟨h, rfl⟩ | ⟨h, rfl⟩)
 ·exact .pure (.inr ⟨M, .inl ⟨h, rfl⟩⟩)
 have W : ¬ Hm n := fun ⟨k, G, h'⟩ => h k G h'
 simp only [Sum.elim_inl]
 unfold Ee.J1
 refine .bind (aY O) fun r2 h2 => Cr h2 (fun h => .pure (.inr ⟨M, .inr ⟨W, .inl ⟨h, rfl⟩⟩⟩)) fun Z => ?_
 refine .bind (bI O) fun r3 h3 => Cr (Q := ¬ Mm n) (by rw [← h3]; simp) (fun h => .pure (.inr ⟨M, .inr ⟨W, .inr ⟨Z, .inl ⟨h, rfl⟩⟩⟩⟩)) fun G => ?_
 have G := Classical.not_not.1 G
 refine .bind (Wv M) fun r4 h4 => Cr (Q := ¬ Proper n) (by rw [← h4]; simp) (fun h => .pure (.inr ⟨M, .inr ⟨W, .inr ⟨Z, .inr ⟨G, .inl ⟨h, rfl⟩⟩⟩⟩⟩)) fun hp => ?_
 exact .pure (.inr ⟨M, .inr ⟨W, .inr ⟨Z, .inr ⟨G, .inr ⟨Classical.not_not.1 hp, rfl⟩⟩⟩⟩⟩)
theorem gN {n : Nw} (_ : Sane n) : Ok (Ee n) (NetRes n) := eE
theorem NetRes.good {n : Nw} (h : NetRes n 0) : Lim n ∧ ¬ Hm n ∧ ¬ (Mv n ∨ Mu n) ∧ Mm n ∧ Proper n := by
 rcases h with ⟨_, h⟩ | ⟨a, ⟨_, h⟩ | ⟨b, ⟨_, h⟩ | ⟨c, ⟨_, h⟩ | ⟨d, ⟨_, h⟩ | ⟨e, _⟩⟩⟩⟩⟩
 ·cases h
 ·cases h
 ·cases h
 ·cases h
 ·cases h
 ·exact ⟨a, b, c, d, e⟩
def Named (c : UInt8) (l : List Bt) : Prop := l.length ≤ 26 ∧ ∀ (k : Nat) (x : Bt), l[k]? = some x → x = nm c k
theorem NetOk.named {n : Nw} (h : NetOk n) : ∀ l, l ∈ [n.Nodes, n.Segments.map (·.Name), n.Ports.map (·.Name), n.Stations.map (·.Name)] → ∃ c, (c = 110 ∨ c = 103 ∨ c = 113 ∨ c = 115) ∧ Named c l := by
 have W := h.nodes; have X := h.segs1; have Y := h.ports1; have Z := h.sts1
 intro l O
 simp only [List.mem_cons, List.not_mem_nil, or_false] at O
 rcases O with rfl | rfl | rfl | rfl
 ·exact ⟨110, by simp, by omega, h.names⟩
 ·refine ⟨103, by simp, by simp; omega, fun k x G => ?_⟩
  rw [List.getElem?_map] at G
  obtain ⟨s, M, rfl⟩ := Option.map_eq_some_iff.1 G
  exact (h.segs k s M).name
 ·refine ⟨113, by simp, by simp; omega, fun k x G => ?_⟩
  rw [List.getElem?_map] at G
  obtain ⟨s, M, rfl⟩ := Option.map_eq_some_iff.1 G
  exact (h.ports k s M).name
 ·refine ⟨115, by simp, by simp; omega, fun k x G => ?_⟩
  rw [List.getElem?_map] at G
  obtain ⟨s, M, rfl⟩ := Option.map_eq_some_iff.1 G
  exact (h.sts k s M).name
theorem eD {c : UInt8} (hc : 97 ≤ c.toNat ∧ c.toNat ≤ 122) {k : Nat} (Y : k < 26) : Gt (nm c k) = some true := by
 obtain ⟨b, W, X⟩ := Jn (x := nm c k)
 have M : ch (nm c k) 0 = (c.toNat : Int) := rfl
 have O : ch (nm c k) 1 = 97 + k := by
  show (((97 + UInt8.ofNat k).toNat : Nat) : Int) = _
  rw [UInt8.toNat_add, UInt8.toNat_ofNat', show (97 : UInt8).toNat = 97 from rfl]
  omega
 rw [W, X.2 ⟨⟨by show 1 ≤ 2; omega, by show 2 ≤ 12; omega, by rw [M]; unfold low; omega⟩, fun j G => ?_⟩]
 have G : j < 2 := G
 refine .inl ?_
 unfold low
 match j, G with
 | 0, _ => rw [M]; omega
 | 1, _ => rw [O]; omega
theorem gO {c : UInt8} (hc : c = 110 ∨ c = 103 ∨ c = 113 ∨ c = 115) {k : Nat} (G : k < 26) : Gt (nm c k) = some true := by
 refine eD ?_ G
 rcases hc with rfl | rfl | rfl | rfl <;> decide
theorem gJ {c : UInt8} {i j : Nat} (hi : i < 26) (W : j < 26) (h : Si (nm c i) (nm c j) = true) : i = j := by
 have O : (nm c i).toList = (nm c j).toList := by simpa [Si] using h
 have G : [c, 97 + UInt8.ofNat i] = [c, 97 + UInt8.ofNat j] := by simpa [nm, ByteArray.toList, ByteArray.toList.loop, ByteArray.size, ByteArray.get!] using O
 simp only [List.cons.injEq, and_true, true_and] at G
 have M := congrArg UInt8.toNat G
 simp only [UInt8.toNat_add, UInt8.toNat_ofNat'] at M
 have : (97 : UInt8).toNat = 97 := rfl
 rw [this] at M
 omega
def iK (l : List Bt) : Prop := l.length ≤ 26 ∧ (∀ (k : Nat) (x : Bt), l[k]? = some x → Gt x = some true) ∧ ∀ (i j : Nat) (x y : Bt), l[i]? = some x → l[j]? = some y → Si x y = true → i = j
theorem Named.nmd {c : UInt8} (hc : c = 110 ∨ c = 103 ∨ c = 113 ∨ c = 115) {l : List Bt} (h : Named c l) : iK l := by
 obtain ⟨X, G⟩ := h
 refine ⟨X, fun k x W => ?_, fun i j x y M O Y => ?_⟩
 ·have := (gs W).1
  rw [G k x W]; exact gO hc (by omega)
 ·have Z := (gs M).1
  have aa := (gs O).1
  have hx := G i x M; have hy := G j y O
  subst hx; subst hy
  exact gJ (by omega) (by omega) Y
structure SegB (nodes : Nat) (s : Segment) : Prop where
 ends : 0 ≤ s.From ∧ s.From < (nodes : Int) ∧ 0 ≤ s.To ∧ s.To < (nodes : Int) ∧ s.From ≠ s.To
 cap : 1 ≤ s.Capacity ∧ s.Capacity ≤ 1000
 resist : 0 ≤ s.Resist ∧ s.Resist ≤ 1000
 wave : 0 ≤ s.Wave ∧ s.Wave ≤ 100000
 points : PointsOk s.Capacity s.Points
theorem SegOk.b {nodes k : Nat} {s : Sg} (h : SegOk nodes k s) : SegB nodes s := ⟨h.ends, h.cap, h.resist, h.wave, h.points⟩
theorem Xk {α : Type} {l : List α} {P : α → Bool} (h : ∀ (k : Nat) (x : α), l[k]? = some x → P x = false) : l.any P = false := by
 rw [List.any_eq_false]
 intro x M
 obtain ⟨j, G⟩ := List.getElem?_of_mem M
 rw [h j x G]; simp
structure NetV (n : Network) : Prop where
 nodes : 1 ≤ n.Nodes.length ∧ n.Nodes.length ≤ 6
 segs1 : n.Segments.length ≤ 8
 segs : ∀ (k : Nat) (s : Sg), n.Segments[k]? = some s → ∃ j, SegOk n.Nodes.length j s
 ports1 : n.Ports.length ≤ 6
 ports : ∀ k s, n.Ports[k]? = some s → PortOk n.Nodes.length k s
 sts1 : n.Stations.length ≤ 6
 sts : ∀ k s, n.Stations[k]? = some s → StOk n.Nodes.length k s
 stsUp : ∀ (i j : Nat) (p q : Sn), i < j → n.Stations[i]? = some p → n.Stations[j]? = some q → p.Node < q.Node
 vapour : -100000 ≤ n.Vapour ∧ n.Vapour ≤ 50000
 settle : 0 ≤ n.Settle ∧ n.Settle ≤ 100
 named : ∀ l, l ∈ [n.Nodes, n.Segments.map (·.Name), n.Ports.map (·.Name), n.Stations.map (·.Name)] → iK l
theorem NetOk.v {n : Nw} (h : NetOk n) : NetV n :=
 ⟨by have := h.nodes; omega, h.segs1.2, fun k s M => ⟨k, h.segs k s M⟩, h.ports1.2, h.ports, h.sts1, h.sts, h.stsUp, h.vapour, h.settle, fun l G => let ⟨_, hc, hn⟩ := h.named l G; hn.nmd hc⟩
structure NetW (n : Network) : Prop where
 nodes : 1 ≤ n.Nodes.length ∧ n.Nodes.length ≤ 6
 segs1 : n.Segments.length ≤ 8
 segs : ∀ (k : Nat) (s : Sg), n.Segments[k]? = some s → SegB n.Nodes.length s
 ports1 : n.Ports.length ≤ 6
 ports : ∀ (k : Nat) s, n.Ports[k]? = some s → (0 ≤ s.Node ∧ s.Node < (n.Nodes.length : Int)) ∧ 0 ≤ s.Pressure ∧ s.Pressure ≤ 100000000
 sts1 : n.Stations.length ≤ 6
 sts : ∀ k s, n.Stations[k]? = some s → StOk n.Nodes.length k s
 stsUp : ∀ (i j : Nat) (p q : Sn), i < j → n.Stations[i]? = some p → n.Stations[j]? = some q → p.Node < q.Node
 vapour : -100000 ≤ n.Vapour ∧ n.Vapour ≤ 50000
 settle : 0 ≤ n.Settle ∧ n.Settle ≤ 100
 named : ∀ l, l ∈ [n.Nodes, n.Segments.map (·.Name), n.Ports.map (·.Name), n.Stations.map (·.Name)] → iK l
theorem NetV.w {n : Nw} (h : NetV n) : NetW n :=
 ⟨h.nodes, h.segs1, fun k s G => (h.segs k s G).choose_spec.b, h.ports1, fun k s G => ⟨(h.ports k s G).node, (h.ports k s G).pressure⟩, h.sts1, h.sts, h.stsUp, h.vapour, h.settle, h.named⟩
theorem NetW.res {n : Nw} (h : NetW n) : NetRes n 0 := by
 have h1 := h.nodes; have h2 := h.segs1; have h3 := h.ports1; have h4 := h.sts1; have h5 := h.vapour; have h6 := h.settle
 refine .inr ⟨⟨by omega, fun k s G => (h.segs k s G).points.len⟩, .inr ⟨?_, .inr ⟨?_, .inr ⟨⟨fun k s G => ?_, fun k s G => (h.ports k s G).1, fun k s G => (h.sts k s G).node⟩, .inr ⟨⟨fun k s G => ?_, fun k s G => (h.ports k s G).2, fun k s G => ⟨?_, ?_, ?_⟩, by omega, h6⟩, rfl⟩⟩⟩⟩⟩
 ·rintro ⟨k, Y, l, Z, j, x, W, hn⟩
  obtain ⟨b, M, X⟩ := Jn (x := x)
  rw [(h.named l (mg Z)).2.1 j x W] at M
  cases M
  exact hn (X.1 rfl)
 ·rintro (⟨k, Y, l, Z, i, x, W, j, y, hj, hy, X⟩ | ⟨i, x, W, j, y, hj, hy, X⟩)
  ·have := (h.named l (mg Z)).2.2 i j x y W hy (Jc.2 X)
   omega
  ·have := h.stsUp j i y x hj hy W
   omega
 ·have := (h.segs k s G).ends
  exact ⟨⟨by omega, by omega⟩, by omega, by omega⟩
 ·have G := h.segs k s G
  have O := G.points
  refine ⟨G.ends.2.2.2.2, by have := G.cap; omega, G.resist, G.wave, O.first, O.last, fun k p Y M => ?_⟩
  have hm := mg Y
  rcases M with M | ⟨q, h0, hq, hle⟩
  ·exact M ⟨O.height p hm, O.limit p hm⟩
  ·have := O.up (k - 1) q p hq (by rw [show k - 1 + 1 = k by omega]; exact Y)
   omega
 ·have := (h.sts k s G).head; omega
 ·have := (h.sts k s G).fall; omega
 ·have := (h.sts k s G).suction; omega
theorem NetW.sane {n : Nw} (h : NetW n) : Sane n := by
 have M := h.nodes; have O := h.segs1; have W := h.ports1; have X := h.sts1
 exact ⟨by omega, by omega, by omega, by omega, fun k s G => by have := (h.segs k s G).points.len; omega⟩
theorem Pw {n : Nw} (h : NetW n) : Ee n = some 0 := by
 obtain ⟨r, G, M⟩ := gN h.sane
 rw [G, M.uniq h.res]
theorem Wz {n : Nw} (h : NetV n) : Ee n = some 0 := Pw h.w
theorem bG {n : Nw} (h : NetOk n) : Ee n = some 0 := Wz h.v
structure NetC (n : Network) : Prop where
 nodes : 1 ≤ n.Nodes.length ∧ n.Nodes.length ≤ 24
 segs1 : n.Segments.length ≤ 32
 segs : ∀ (k : Nat) (s : Sg), n.Segments[k]? = some s → (0 ≤ s.From ∧ s.From < (n.Nodes.length : Int) ∧ 0 ≤ s.To ∧ s.To < (n.Nodes.length : Int) ∧ s.From ≠ s.To) ∧ 1 ≤ s.Capacity ∧ s.Capacity ≤ 1000000
 ports1 : n.Ports.length ≤ 24
 ports : ∀ (k : Nat) s, n.Ports[k]? = some s → 0 ≤ s.Node ∧ s.Node < (n.Nodes.length : Int)
 sts1 : n.Stations.length ≤ 12
 check : Ee n = some 0
structure NetG (n : Network) : Prop where
 nodes : 1 ≤ n.Nodes.length ∧ n.Nodes.length ≤ 6
 segs1 : n.Nodes.length - 1 ≤ n.Segments.length ∧ n.Segments.length ≤ 8
 segs : ∀ (k : Nat) (s : Sg), n.Segments[k]? = some s → SegB n.Nodes.length s
 ports1 : 2 ≤ n.Ports.length ∧ n.Ports.length ≤ 6
 ports : ∀ (k : Nat) s, n.Ports[k]? = some s → 0 ≤ s.Node ∧ s.Node < (n.Nodes.length : Int)
 sts1 : n.Stations.length ≤ 6
 check : Ee n = some 0
theorem NetG.c {n : Nw} (h : NetG n) : NetC n := by
 have M := h.nodes; have O := h.segs1; have W := h.ports1; have X := h.sts1
 exact ⟨by omega, by omega, fun k s G => ⟨(h.segs k s G).ends, by have := (h.segs k s G).cap; omega⟩, by omega, h.ports, by omega, h.check⟩
theorem NetRes.c {n : Nw} (h : NetRes n 0) (Y : Ee n = some 0) : NetC n := by
 obtain ⟨a, b, c, d, e⟩ := h.good
 have := a.1
 refine ⟨by omega, by omega, fun k s G => ⟨?_, (e.segs k s G).cap⟩, by omega, d.2.1, by omega, Y⟩
 obtain ⟨⟨M, O⟩, W, X⟩ := d.1 k s G
 exact ⟨M, O, W, X, (e.segs k s G).ends⟩
theorem NetOk.g {n : Nw} (h : NetOk n) : NetG n :=
 ⟨by have := h.nodes; omega, h.segs1, fun k s G => (h.segs k s G).b, h.ports1, fun k s G => (h.ports k s G).node, h.sts1, bG h⟩
theorem NetW.g {n : Nw} (h : NetW n) (h1 : n.Nodes.length - 1 ≤ n.Segments.length) (h2 : 2 ≤ n.Ports.length) : NetG n :=
 ⟨h.nodes, ⟨h1, h.segs1⟩, h.segs, ⟨h2, h.ports1⟩, fun k s G => (h.ports k s G).1, h.sts1, Pw h⟩
theorem Jf {α : Type} {P : Nat → α → Prop} {l : List α} {x : α} (h : ∀ k s, l[k]? = some s → P k s) (O : P l.length x) : ∀ k s, (l ++ [x])[k]? = some s → P k s := by
 intro k s G
 rw [List.getElem?_append] at G
 split at G
 ·exact h k s G
 ·have M := (gs G).1
  simp at M
  have : k = l.length := by omega
  subst this
  simp at G; subst G; exact O
theorem aT {α : Type} {f : α → Int} {l : List α} {x : α} (h : ∀ (i j : Nat) (p q : α), i < j → l[i]? = some p → l[j]? = some q → f p < f q) (X : ∀ (k : Nat) (p : α), l[k]? = some p → f p < f x) :
  ∀ (i j : Nat) (p q : α), i < j → (l ++ [x])[i]? = some p → (l ++ [x])[j]? = some q → f p < f q := by
 intro i j p q M O G
 have W := (gs G).1
 simp at W
 rw [List.getElem?_append_left (by omega)] at O
 rw [List.getElem?_append] at G
 split at G
 ·exact h i j p q M O G
 ·have : j = l.length := by omega
  subst this
  simp at G; subst G; exact X i p O
structure PortsInv (nodes : Nat) (i : Int) (ports : List Port) (sts : List Station) : Prop where
 i0 : 0 ≤ i ∧ i ≤ (nodes : Int)
 pl : (ports.length : Int) ≤ i
 p1 : 0 < i → 1 ≤ ports.length
 p2 : i = (nodes : Int) → 2 ≤ ports.length
 po : ∀ k s, ports[k]? = some s → PortOk nodes k s ∧ s.Node < i
 pu : ∀ (i j : Nat) (p q : Port), i < j → ports[i]? = some p → ports[j]? = some q → p.Node < q.Node
 sl : (sts.length : Int) ≤ i
 so : ∀ k s, sts[k]? = some s → StOk nodes k s ∧ s.Node < i
 su : ∀ (i j : Nat) (p q : Sn), i < j → sts[i]? = some p → sts[j]? = some q → p.Node < q.Node
theorem gM {s : Wm} (Z : SrcOk s) : Ok (Rr s) fun r => NetOk r.1 ∧ SrcOk r.2 := by
 unfold Rr
 refine .bind (Ea Z (by decide) (by decide)) fun r5 h5 => ?_
 refine .bind (Ea h5.1 (by decide) (by decide)) fun r8 h8 => ?_
 refine .bind (Fp h8.1 (by decide) (by decide) (by decide)) fun r650 h650 => ?_
 have c5 := h5.2; have c8 := h8.2
 simp only [List.mem_cons, List.not_mem_nil, or_false] at c5 c8
 refine .bind (Q := fun d : Li × Int × List Bt => SrcOk ⟨d.1, d.2.1⟩ ∧ (2 ≤ d.2.2.length ∧ d.2.2.length ≤ 6) ∧ ∀ k x, d.2.2[k]? = some x → x = nm 110 k) ?_ ?_
 ·refine .loop (fun G : List Bt × Int => 0 ≤ G.2 ∧ (G.1.length : Int) + G.2 = r650.1 ∧ ∀ k x, G.1[k]? = some x → x = nm 110 k) (fun G => G.2.toNat) ⟨by dsimp only; omega, by simp, by simp⟩ (by dsimp only; omega) ?_
  rintro ⟨nodes, c⟩ ⟨Y, i2, i3⟩
  dsimp only at Y i2 i3
  unfold Rr.B12
  refine A0 (fun h => ?_) fun h => .pure ⟨h650.1, by dsimp only at h ⊢; omega, i3⟩
  dsimp only at h ⊢
  refine .bind' (.eq (Mc (by omega)) (.bind' (.app (by simp; omega) (.pure ?_))))
  rw [Bc (by omega)]
  exact ⟨⟨by dsimp only; omega, by simp; omega, Jf i3 rfl⟩, by dsimp only; omega⟩
 rintro ⟨L_, At, nodes⟩ ⟨Z, hn, hnm⟩
 dsimp only at Z hn hnm
 unfold Rr.J1
 refine .bind (Q := fun d : Li × Int × List Sg => SrcOk ⟨d.1, d.2.1⟩ ∧ d.2.2.length = nodes.length - 1 ∧ ∀ k x, d.2.2[k]? = some x → SegOk nodes.length k x) ?_ ?_
 ·refine .loop (fun G : Li × Int × List Sg × Int => SrcOk ⟨G.1, G.2.1⟩ ∧ (G.2.2.1.length : Int) = G.2.2.2 ∧ G.2.2.1.length ≤ nodes.length - 1 ∧ ∀ k x, G.2.2.1[k]? = some x → SegOk nodes.length k x) (fun G => nodes.length - G.2.2.1.length) ⟨Z, by simp, by simp, by simp⟩ (by dsimp only; omega) ?_
  rintro ⟨L_, At, ab, i⟩ ⟨Y, i2, i3, i4⟩
  dsimp only at Y i2 i3 i4
  unfold Rr.B11
  dsimp only
  simp (disch := omega) only [Bc]
  refine A0 (fun h => ?_) fun h => .pure ⟨Y, by dsimp only; omega, i4⟩
  refine .bind (aL Y (nodes := nodes.length) (by omega) (by omega) (by omega) (by omega)) fun r641 h641 => ?_
  refine .bind' (.app (by simp; omega) (.pure ⟨⟨h641.2, by simp; omega, by simp; omega, Jf i4 h641.1⟩, by simp; omega⟩))
 rintro ⟨L_, At, ab⟩ ⟨Z, hsl, aa⟩
 dsimp only at Z hsl aa
 unfold Rr.J2
 refine .bind (G9 Z (by decide) (by decide)) fun r531 h531 => ?_
 refine .bind (Q := fun d : Li × Int × List Sg => SrcOk ⟨d.1, d.2.1⟩ ∧ (nodes.length - 1 ≤ d.2.2.length ∧ d.2.2.length ≤ 8) ∧ ∀ k x, d.2.2[k]? = some x → SegOk nodes.length k x) ?_ ?_
 ·refine .loop (fun G : Li × Int × List Sg × Int => SrcOk ⟨G.1, G.2.1⟩ ∧ 0 ≤ G.2.2.2 ∧ (G.2.2.1.length : Int) + G.2.2.2 ≤ 8 ∧ nodes.length - 1 ≤ G.2.2.1.length ∧ ∀ k x, G.2.2.1[k]? = some x → SegOk nodes.length k x) (fun G => G.2.2.2.toNat)
   ⟨h531.1, h531.2.1, by dsimp only; omega, by dsimp only; omega, aa⟩ (by dsimp only; omega) ?_
  rintro ⟨L_, At, ab, i⟩ ⟨Y, i2, i3, i4, i5⟩
  dsimp only at Y i2 i3 i4 i5
  unfold Rr.B10
  dsimp only
  simp (disch := omega) only [Bc]
  refine A0 (fun h => ?_) fun h => .pure ⟨Y, by dsimp only; omega, i5⟩
  refine .bind (G9 Y (by omega) (by omega)) fun r589 h589 => ?_
  simp (disch := omega) only [Bc]
  refine .bind (Fp h589.1 (by omega) (by omega) (by omega)) fun r591 h591 => ?_
  refine .bind (aL h591.1 (nodes := nodes.length) (by omega) (by omega) (by omega) (by omega)) fun r593 h593 => ?_
  refine .bind' (.app (by simp; omega) (.pure ⟨⟨h593.2, by dsimp only; omega, by simp; omega, by simp; omega, Jf i5 h593.1⟩, by dsimp only; omega⟩))
 rintro ⟨L_, At, ab⟩ ⟨Z, hsl, aa⟩
 dsimp only at Z hsl aa
 unfold Rr.J3
 refine .bind (Q := fun d : Li × Int × List Port × List Sn => SrcOk ⟨d.1, d.2.1⟩ ∧ PortsInv nodes.length (nodes.length : Int) d.2.2.1 d.2.2.2) ?_ ?_
 ·refine .loop (fun G : Li × Int × List Port × List Sn × Int => SrcOk ⟨G.1, G.2.1⟩ ∧ PortsInv nodes.length G.2.2.2.2 G.2.2.1 G.2.2.2.1) (fun G => nodes.length - G.2.2.2.2.toNat)
   ⟨Z, by dsimp only; omega, by simp, by simp, by dsimp only; omega, by simp, by simp, by simp, by simp, by simp⟩ (by dsimp only; omega) ?_
  rintro ⟨L_, At, X, ac, i⟩ ⟨Y, M⟩
  dsimp only at Y M
  have hi := M.i0
  have j6 : ∀ (j : Li × Int × List Port × List Sn), SrcOk ⟨j.1, j.2.1⟩ → PortsInv nodes.length (i + 1) j.2.2.1 j.2.2.2 → i < (nodes.length : Int) →
    Ok (Rr.J6 (L_, At, X, ac, i) j) (Sum.elim (fun G => (SrcOk ⟨G.1, G.2.1⟩ ∧ PortsInv nodes.length G.2.2.2.2 G.2.2.1 G.2.2.2.1) ∧ nodes.length - G.2.2.2.2.toNat < nodes.length - i.toNat) fun d => SrcOk ⟨d.1, d.2.1⟩ ∧ PortsInv nodes.length (nodes.length : Int) d.2.2.1 d.2.2.2) := by
   intro j h1 h2 h3
   unfold Rr.J6
   dsimp only
   rw [Bc (by omega)]
   exact .pure ⟨⟨h1, h2⟩, by dsimp only; omega⟩
  have j7 : ∀ (j : Li × Int × List Port), SrcOk ⟨j.1, j.2.1⟩ → ((∀ O, (O.length : Int) ≤ i + 1 → (∀ k s, O[k]? = some s → StOk nodes.length k s ∧ s.Node < i + 1) →
     (∀ (i j : Nat) (p q : Sn), i < j → O[i]? = some p → O[j]? = some q → p.Node < q.Node) → PortsInv nodes.length (i + 1) j.2.2 O)) → i < (nodes.length : Int) →
    Ok (Rr.J7 (L_, At, nodes) (L_, At, X, ac, i) j) (Sum.elim (fun G => (SrcOk ⟨G.1, G.2.1⟩ ∧ PortsInv nodes.length G.2.2.2.2 G.2.2.1 G.2.2.2.1) ∧ nodes.length - G.2.2.2.2.toNat < nodes.length - i.toNat) fun d => SrcOk ⟨d.1, d.2.1⟩ ∧ PortsInv nodes.length (nodes.length : Int) d.2.2.1 d.2.2.2) := by
   intro j h1 h2 h3
   have old := h2 ac (by have := M.sl; omega) (fun k s W => ⟨(M.so k s W).1, by have := (M.so k s W).2; omega⟩) M.su
   unfold Rr.J7
   refine A0 (fun h => ?_) fun h => ?_
   ·refine .bind (G9 h1 (by decide) (by decide)) fun r507 h507 => ?_
    unfold Rr.J8
    refine A9 (fun _ => ?_) fun _ => j6 (_, _, _, _) h507.1 old h3
    have hsl' := M.sl
    refine .bind' (.eq (Mc (by dsimp only; omega)) ?_)
    refine .bind (Ea h507.1 (by decide) (by decide)) fun r493 h493 => ?_
    refine .bind (Ea h493.1 (by decide) (by decide)) fun r496 h496 => ?_
    refine .bind (Ea h496.1 (by decide) (by decide)) fun r499 h499 => ?_
    have c1 := h493.2; have c2 := h496.2; have c3 := h499.2
    simp only [List.mem_cons, List.not_mem_nil, or_false] at c1 c2 c3
    refine .bind' (.app (by simp; omega) (j6 (_, _, _, _) h499.1 (h2 _ (by simp; omega) ?_ ?_) h3))
    ·exact Jf (P := fun k s => StOk nodes.length k s ∧ s.Node < i + 1) (fun k s W => ⟨(M.so k s W).1, by have := (M.so k s W).2; omega⟩) ⟨⟨rfl, ⟨by dsimp only; omega, by dsimp only; omega⟩, by dsimp only; omega, by dsimp only; omega, by dsimp only; omega⟩, by dsimp only; omega⟩
    ·exact aT (f := Station.Node) M.su fun k p W => (M.so k p W).2
   ·unfold Rr.J8
    refine A9 (fun h => by cases h) fun _ => j6 (_, _, _, _) h1 old h3
  have j9 : ∀ (j : Li × Int × Bool), SrcOk ⟨j.1, j.2.1⟩ → (i = 0 ∨ i = (nodes.length : Int) - 1 → j.2.2 = true) → i < (nodes.length : Int) →
    Ok (Rr.J9 (L_, At, nodes) (L_, At, X, ac, i) j) (Sum.elim (fun G => (SrcOk ⟨G.1, G.2.1⟩ ∧ PortsInv nodes.length G.2.2.2.2 G.2.2.1 G.2.2.2.1) ∧ nodes.length - G.2.2.2.2.toNat < nodes.length - i.toNat) fun d => SrcOk ⟨d.1, d.2.1⟩ ∧ PortsInv nodes.length (nodes.length : Int) d.2.2.1 d.2.2.2) := by
   intro j h1 h2 h3
   have hpl := M.pl
   have hp1 := M.p1
   unfold Rr.J9
   refine A9 (fun _ => ?_) fun hb => j7 (_, _, _) h1 (fun O q1 q2 q3 => ?_) h3
   ·refine .bind' (.eq (Mc (by dsimp only; omega)) ?_)
    refine .bind (Ea h1 (by decide) (by decide)) fun r518 h518 => ?_
    have c1 := h518.2
    simp only [List.mem_cons, List.not_mem_nil, or_false] at c1
    refine .bind' (.app (by simp; omega) (j7 (_, _, _) h518.1 (fun O q1 q2 q3 => ⟨by omega, by simp; omega, by simp, fun _ => by simp; omega, ?_, ?_, q1, q2, q3⟩) h3))
    ·exact Jf (P := fun k s => PortOk nodes.length k s ∧ s.Node < i + 1) (fun k s W => ⟨(M.po k s W).1, by have := (M.po k s W).2; omega⟩) ⟨⟨rfl, ⟨by dsimp only; omega, by dsimp only; omega⟩, by dsimp only; omega⟩, by dsimp only; omega⟩
    ·exact aT (f := Port.Node) M.pu fun k p W => (M.po k p W).2
   ·have hi0 : ¬ (i = 0 ∨ i = (nodes.length : Int) - 1) := fun h => by rw [h2 h] at hb; cases hb
    exact ⟨by omega, by dsimp only; omega, fun _ => by dsimp only; omega, fun _ => by omega, fun k s W => ⟨(M.po k s W).1, by have := (M.po k s W).2; omega⟩, M.pu, q1, q2, q3⟩
  unfold Rr.B5
  dsimp only
  rw [Bc (by omega)]
  refine A0 (fun h => ?_) fun h => .pure ⟨Y, ?_⟩
  ·refine C7 (fun h0 => j9 (_, _, _) Y (fun _ => rfl) (by omega)) fun h0 => C7 (fun h1 => j9 (_, _, _) Y (fun _ => rfl) (by omega)) fun h1 => ?_
   refine .bind (G9 Y (by decide) (by decide)) fun r527 h527 => j9 (_, _, _) h527.1 (fun h => by omega) (by omega)
  ·have : i = (nodes.length : Int) := by omega
   rw [← this]; exact M
 rintro ⟨L_, At, X, ac⟩ ⟨Z, M⟩
 dsimp only at Z M
 unfold Rr.J4
 have := M.pl; have := M.sl
 exact .pure ⟨⟨hn, hnm, hsl, aa, ⟨M.p2 rfl, by dsimp only; omega⟩, fun k s W => (M.po k s W).1, M.pu, by dsimp only; omega, fun k s W => (M.so k s W).1, M.su, by dsimp only; omega, by dsimp only; omega⟩, Z⟩
def ind (a v : Int) : Int := if a = v then 1 else 0
def wt (n : Nw) (v : Int) : Li := n.Segments.map fun s => ind s.To v - ind s.From v
def wp (n : Nw) (v : Int) : Li := n.Ports.map fun p => ind p.Node v
structure RateOk (s : Segment) (r : Int) : Prop where
 rng : -1000 ≤ r ∧ r ≤ 1000 ∧ -s.Capacity ≤ r ∧ r ≤ s.Capacity
 up : s.From < s.To → 0 ≤ r
 down : s.To < s.From → r ≤ 0
structure PlInv (n : Network) (rates ports : List Int) : Prop where
 rl : rates.length = n.Segments.length
 pl : ports.length = n.Ports.length
 rng : ∀ (k : Nat) (r : Int) (s : Sg), rates[k]? = some r → n.Segments[k]? = some s → RateOk s r
 prt : ∀ (k : Nat) (x : Int), ports[k]? = some x → -1000 ≤ x ∧ x ≤ 1000
 bal : ∀ v, D5 (wt n v) rates + D5 (wp n v) ports = 0
structure Hop1 (n : Network) (rates : List Int) (rate a : Int) (i : Nat) (x : Segment) (r b : Int) : Prop where
 seg : n.Segments[i]? = some x
 old : rates[i]? = some r
 lt : a < b
 ends : x.From = a ∧ x.To = b ∨ x.To = a ∧ x.From = b
 rng : r + rate ≤ 1000 ∧ rate - r ≤ 1000 ∧ r + rate ≤ x.Capacity ∧ rate - r ≤ x.Capacity
def Mn (n : Nw) (rates : Li) (rate a k b : Int) : Prop := ∃ (i : Nat) (x : Sg) (r : Int), k = (i : Int) ∧ Hop1 n rates rate a i x r b
theorem bS {n : Nw} {rates ports way : Li} {rate : Int} {s : Wm} {l : Li} {q e : Int} {nd : Nat → Int} (h : PlInv n rates ports) (hr : 1 ≤ rate ∧ rate ≤ 300)
  (hw : ∀ (j : Nat) (k : Int), way[j]? = some k → Mn n rates rate (nd j) k (nd (j + 1))) :
  Ok (forJ (Nf.B9 n (rate, s) (l, q, way, e)) 0 way.length rates) fun st => st.length = rates.length ∧ (∀ (k : Nat) (r : Int) (s : Sg), st[k]? = some r → n.Segments[k]? = some s → RateOk s r) ∧
   ∀ v, D5 (wt n v) st = D5 (wt n v) rates + (rate * ind (nd way.length) v - rate * ind (nd 0) v) := by
 refine .forJ (fun j st => st.length = rates.length ∧ (∀ (k : Nat) (r : Int) (s : Sg), st[k]? = some r → n.Segments[k]? = some s → RateOk s r) ∧
   (∀ (k : Nat) (s : Sg), n.Segments[k]? = some s → nd j ≤ s.From → nd j ≤ s.To → st[k]? = rates[k]?) ∧
   ∀ v, D5 (wt n v) st = D5 (wt n v) rates + (rate * ind (nd j) v - rate * ind (nd 0) v)) ⟨rfl, h.rng, fun _ _ _ _ _ => rfl, fun v => by omega⟩ ?_ fun st ⟨h1, h2, _, h4⟩ => ⟨h1, h2, h4⟩
 rintro j st hj ⟨h1, h2, h3, h4⟩
 obtain ⟨i, x, r, hk, Z, X, hlt, G, hrng⟩ := hw j way[j] (gq hj)
 have hil := (gs Z).1
 have aa : st[i]? = some r := by
  rw [h3 i x Z (by rcases G with h | h <;> omega) (by rcases G with h | h <;> omega)]; exact X
 have Y := h.rng i r x X Z
 have o1 := Y.rng; have o2 := Y.up; have o3 := Y.down
 have hw : ∀ v, (wt n v)[i]? = some (ind x.To v - ind x.From v) := fun v => by unfold wt; rw [List.getElem?_map, Z]; rfl
 have ab : ∀ y : Int, RateOk x y → (∀ v, (ind x.To v - ind x.From v) * (y - r) = rate * ind (nd (j + 1)) v - rate * ind (nd j) v) → Ok (Nf.J10 (st.set i y)) fun st => st.length = rates.length ∧ (∀ (k : Nat) (r : Int) (s : Sg), st[k]? = some r → n.Segments[k]? = some s → RateOk s r) ∧
   (∀ (k : Nat) (s : Sg), n.Segments[k]? = some s → nd (j + 1) ≤ s.From → nd (j + 1) ≤ s.To → st[k]? = rates[k]?) ∧
   ∀ v, D5 (wt n v) st = D5 (wt n v) rates + (rate * ind (nd (j + 1)) v - rate * ind (nd 0) v) := by
  intro y hy hyv
  unfold Nf.J10
  refine .pure ⟨by simp [h1], fun k r' s' W M => ?_, fun k s' M a1 a2 => ?_, fun v => ?_⟩
  ·rw [Du] at W
   split at W
   ·rename_i hik
    obtain ⟨rfl, _⟩ := hik
    simp at W; subst W
    rw [Z] at M; simp at M; subst M; exact hy
   ·exact h2 k r' s' W M
  ·have hne : i ≠ k := by
    rintro rfl
    rw [Z] at M; simp at M; subst M
    rcases G with h | h <;> omega
   rw [List.getElem?_set_ne hne]
   exact h3 k s' M (by omega) (by omega)
  ·rw [Fe (hw v) aa, h4 v, hyv v]; omega
 unfold Nf.B9
 refine .bind' (.ix j rfl hj ?_)
 dsimp only
 rw [hk]
 refine .bind' (.ix i rfl hil ?_)
 have hx : n.Segments[i] = x := by
  have := gq hil
  rw [Z] at this; exact (Option.some.inj this).symm
 have O := (gs aa).1
 have hsr : st[i] = r := by
  have := gq O
  rw [aa] at this; exact (Option.some.inj this).symm
 dsimp only
 rw [hx]
 refine A0 (fun hft => ?_) fun hft => ?_
 ·refine .bind' (.ix i rfl O ?_)
  dsimp only
  rw [hsr, Bc (by omega)]
  have he : x.From = nd j ∧ x.To = nd (j + 1) := by rcases G with h | h <;> omega
  have := o2 hft
  refine ab _ ⟨by omega, fun _ => by omega, fun _ => by omega⟩ fun v => ?_
  rw [he.1, he.2, show r + rate - r = rate by omega, Int.sub_mul, Int.mul_comm, Int.mul_comm (ind (nd j) v)]
 ·refine .bind' (.ix i rfl O ?_)
  dsimp only
  rw [hsr, Bc (by omega)]
  have he : x.To = nd j ∧ x.From = nd (j + 1) := by rcases G with h | h <;> omega
  have := o3 (by omega)
  refine ab _ ⟨by omega, fun _ => by omega, fun _ => by omega⟩ fun v => ?_
  rw [he.1, he.2, show r - rate - r = -rate by omega, Int.sub_mul, Int.mul_neg, Int.mul_neg, Int.mul_comm, Int.mul_comm (ind (nd (j + 1)) v)]; omega
theorem gZ {x : Int} (h : -1000000 ≤ x ∧ x ≤ 1000000) : Gr x = max x (-x) := by
 unfold Gr
 rw [Bc (by omega), Int.zero_sub]
theorem aN {l : Li} {f : Nat → Int → Li → Option Li} (hf : ∀ k x st, f k x st = (Dg st [wr (0 - x)]).bind fun y => some y) (hl : l.length ≤ 1000) (M : ∀ (k : Nat) (x : Int), l[k]? = some x → -1000000 ≤ x ∧ x ≤ 1000000) :
  Ok (forS f 0 l []) fun r => r = l.map fun x => -x := by
 refine .forS (fun k st => st = (l.take k).map fun x => -x) (by simp) ?_ fun st h => by rw [h]; simp
 rintro k x st G rfl
 rw [hf]
 have O := (gs G).1
 have := M k x G
 refine .bind' (.app (by simp; omega) (.pure ?_))
 rw [List.take_add_one, G, Bc (by omega)]
 simp
theorem Uz {p : Plan} (h1 : p.Rates.length ≤ 1000) (h2 : p.Ports.length ≤ 1000) (O : p.Pumps.length ≤ 1000) (G : ∀ (k : Nat) (x : Int), p.Rates[k]? = some x → -1000000 ≤ x ∧ x ≤ 1000000)
  (M : ∀ (k : Nat) (x : Int), p.Ports[k]? = some x → -1000000 ≤ x ∧ x ≤ 1000000) : Rm p = some ⟨p.Rates.map fun x => -x, p.Ports.map fun x => -x, p.Pumps⟩ := by
 refine hY ?_
 unfold Rm
 refine .bind' (.app (by simp; omega) (.bind (aN (fun _ _ _ => rfl) h1 G) ?_))
 rintro _ rfl
 unfold Rm.J1
 refine .bind (aN (fun _ _ _ => rfl) h2 M) ?_
 rintro _ rfl
 unfold Rm.J2
 exact .pure (by simp)
def WayTo (n : Nw) (rates : Li) (rate s0 : Int) (way : Li) (t : Int) : Prop :=
 ∃ nd : Nat → Int, nd 0 = s0 ∧ nd way.length = t ∧ ∀ (j : Nat) (k : Int), way[j]? = some k → Mn n rates rate (nd j) k (nd (j + 1))
theorem WayTo.snoc {n : Nw} {rates : Li} {rate s0 : Int} {way : Li} {m k t : Int} (h : WayTo n rates rate s0 way m) (Z : Mn n rates rate m k t) : WayTo n rates rate s0 (way ++ [k]) t := by
 obtain ⟨nd, M, O, W⟩ := h
 refine ⟨fun i => if i ≤ way.length then nd i else t, by simp [M], by simp; omega, fun j k' G => ?_⟩
 rw [List.getElem?_append] at G
 split at G
 ·rename_i Y
  have := W j k' G
  dsimp only
  rw [if_pos (by omega), if_pos (by omega)]; exact this
 ·have X := (gs G).1
  simp at X
  have : j = way.length := by omega
  subst this
  simp at G; subst G
  dsimp only
  rw [if_pos (by omega), if_neg (by omega), O]; exact Z
def V2 (n : Nw) (ports : Li) (rate : Int) (a : Nat) (t e : Int) : Prop :=
 ∃ (G : Nat) (p : Port) (x : Int), e = (G : Int) ∧ G ≠ a ∧ n.Ports[G]? = some p ∧ p.Node = t ∧ ports[G]? = some x ∧ x ≤ 0 ∧ x - rate ≥ -1000
theorem gC {n : Nw} (hn : NetOk n) {rates ports : Li} {rate : Int} {a : Nat} {l0 : Li} {q0 c0 s0 : Int} {sa s : Wm} (h : PlInv n rates ports) (hr : 1 ≤ rate ∧ rate ≤ 300) (hs : SrcOk s)
  (h0 : 0 ≤ s0 ∧ s0 < (n.Nodes.length : Int)) :
  Ok (C5 (Nf.B11 n (l0, q0, rates, ports, c0) ((a : Int), sa) (rate, s)) El (s.L_, s.At, s0, [], -1)) fun d => SrcOk ⟨d.1, d.2.1⟩ ∧ (d.2.2.2 < 0 ∨ ∃ t, WayTo n rates rate s0 d.2.2.1 t ∧ V2 n ports rate a t d.2.2.2) := by
 have hnn := hn.nodes
 have hsn := hn.segs1
 refine .loop (fun Z : Li × Int × Int × Li × Int => SrcOk ⟨Z.1, Z.2.1⟩ ∧ Z.2.2.2.2 = -1 ∧ (0 ≤ Z.2.2.1 ∧ Z.2.2.1 < (n.Nodes.length : Int)) ∧ (Z.2.2.2.1.length : Int) ≤ Z.2.2.1 ∧ WayTo n rates rate s0 Z.2.2.2.1 Z.2.2.1) (fun Z => n.Nodes.length - Z.2.2.1.toNat)
  ⟨hs, rfl, h0, by simp; omega, fun _ => s0, rfl, rfl, by simp⟩ (by dsimp only; omega) ?_
 rintro ⟨L_, At, G, way, e⟩ ⟨i1, i2, i3, i4, i5⟩
 dsimp only at i1 i2 i3 i4 i5
 subst i2
 unfold Nf.B11
 refine A0 (fun _ => ?_) fun h => absurd (show (-1 : Int) < 0 by decide) h
 refine .bind (Q := fun d : Li × Int × Int => SrcOk ⟨d.1, d.2.1⟩ ∧ (d.2.2 = -1 ∨ V2 n ports rate a G d.2.2)) ?_ ?_
 ·refine .forS (fun _ d => SrcOk ⟨d.1, d.2.1⟩ ∧ (d.2.2 = -1 ∨ V2 n ports rate a G d.2.2)) ⟨i1, .inl rfl⟩ ?_ fun _ h => h
  rintro k p ⟨L2, A2, e2⟩ hp ⟨Y, j2⟩
  dsimp only at Y j2
  have no : ∀ {x : Li × Int × Bool}, SrcOk ⟨x.1, x.2.1⟩ → x.2.2 = false → Ok (Nf.J19 k (L2, A2, e2) x) fun d => SrcOk ⟨d.1, d.2.1⟩ ∧ (d.2.2 = -1 ∨ V2 n ports rate a G d.2.2) := by
   intro x h1 h2
   unfold Nf.J19 Nf.J18
   rw [h2]
   exact .pure ⟨h1, j2⟩
  have hkl := (gs hp).1
  have hpl := h.pl
  unfold Nf.B17
  refine C7 (fun he => ?_) fun _ => no Y rfl
  refine Cl (fun hka => ?_) fun _ => no Y rfl
  refine .bind' (.ix k rfl (by dsimp only; omega) ?_)
  have hx : ports[k]? = some ports[k] := gq (by omega)
  have hxr := h.prt k _ hx
  dsimp only
  rw [Bc (by omega)]
  refine A0 (fun hx0 => ?_) fun _ => no Y rfl
  refine A0 (fun hxm => ?_) fun _ => no Y rfl
  refine A0 (fun _ => ?_) fun _ => no Y rfl
  refine .bind (G9 Y (by decide) (by decide)) fun r X => ?_
  unfold Nf.J19 Nf.J18
  refine A9 (fun _ => .pure ⟨X.1, .inr ⟨k, p, ports[k], rfl, fun h => by omega, hp, he, hx, hx0, hxm⟩⟩) fun _ => .pure ⟨X.1, j2⟩
 rintro ⟨L2, A2, e2⟩ ⟨Y, j2⟩
 dsimp only at Y j2
 unfold Nf.J12
 refine A0 (fun h0 => .pure ⟨Y, .inr ⟨G, i5, ?_⟩⟩) fun h0 => ?_
 ·rcases j2 with h | h
  ·dsimp only at h0; omega
  ·exact h
 have he2 : e2 = -1 := by
  rcases j2 with h | ⟨kk, _, _, h, _⟩
  ·exact h
  ·dsimp only at h0; omega
 subst he2
 refine .bind (Q := fun M : Li => M.length ≤ 1000 ∧ ∀ k, k ∈ M → ∃ t, Mn n rates rate G k t ∧ G < t ∧ t < (n.Nodes.length : Int)) ?_ ?_
 ·refine .forS (fun k M => M.length ≤ k ∧ ∀ k, k ∈ M → ∃ t, Mn n rates rate G k t ∧ G < t ∧ t < (n.Nodes.length : Int)) ⟨by simp, by simp⟩ ?_ fun M ho => ⟨by have := ho.1; omega, ho.2⟩
  rintro k x M hx ⟨o1, o2⟩
  have hkl := (gs hx).1
  have hxo := (hn.segs k x hx).ends
  have hxc := (hn.segs k x hx).cap
  have hrl := h.rl
  have hold : rates[k]? = some rates[k] := gq (by omega)
  have hro := (h.rng k _ x hold hx).rng
  have no : ∀ {x : Bool}, x = false → Ok (Nf.J16 k M x) fun M => M.length ≤ k + 1 ∧ ∀ k, k ∈ M → ∃ t, Mn n rates rate G k t ∧ G < t ∧ t < (n.Nodes.length : Int) := by
   intro x hx
   unfold Nf.J16 Nf.J15
   rw [hx]
   exact .pure ⟨by omega, o2⟩
  have yes : ∀ t, (x.From = G ∧ x.To = t ∨ x.To = G ∧ x.From = t) → G < t → Ok (Nf.J16 k M (decide ((wr ((Gr rates[k]) + rate)) ≤ (min 1000 x.Capacity)))) fun M => M.length ≤ k + 1 ∧ ∀ k, k ∈ M → ∃ t, Mn n rates rate G k t ∧ G < t ∧ t < (n.Nodes.length : Int) := by
   intro t ht hlt
   unfold Nf.J16 Nf.J15
   refine A0 (fun hc => ?_) fun _ => .pure ⟨by omega, o2⟩
   rw [gZ (by omega), Bc (by omega)] at hc
   refine .bind' (.app (by simp; omega) (.pure ⟨by simp; omega, fun k' W => ?_⟩))
   rcases List.mem_append.1 W with W | W
   ·exact o2 k' W
   ·simp at W; subst W
    exact ⟨t, ⟨k, x, rates[k], rfl, hx, hold, hlt, ht, by omega⟩, hlt, by rcases ht with h | h <;> omega⟩
  unfold Nf.B14
  dsimp only
  simp (disch := omega) only [Bc]
  refine C7 (fun hf => ?_) fun _ => C7 (fun hf => ?_) fun _ => no rfl
  ·refine A0 (fun ht => ?_) fun _ => no rfl
   exact .bind' (.ix k rfl (by omega) (yes x.To (.inl ⟨hf, rfl⟩) (by omega)))
  ·refine A0 (fun ht => ?_) fun _ => no rfl
   exact .bind' (.ix k rfl (by omega) (yes x.From (.inr ⟨hf, rfl⟩) (by omega)))
 rintro M ⟨o1, o2⟩
 unfold Nf.J13
 refine C7 (fun _ => .pure ⟨Y, .inl (show (-1 : Int) < 0 by decide)⟩) fun hl => ?_
 refine .bind (G9 Y (by omega) (by omega)) fun r X => ?_
 refine .bind' (.ix' X.2.1 X.2.2 fun k y _ hy => ?_)
 obtain ⟨t, O, hlt, htn⟩ := o2 y (mg hy)
 have hop' := O
 obtain ⟨i, x, r0, rfl, O⟩ := O
 refine .bind' (.app (by simp; omega) ?_)
 have hil := (gs O.seg).1
 have hxo := (hn.segs i x O.seg).ends
 refine .bind' (.eq (Bg O.seg) ?_)
 dsimp only
 have he := O.ends
 have hw : wr (wr (x.From + x.To) - G) = t := by
  simp (disch := omega) only [Bc]
  rcases he with h | h <;> omega
 rw [hw]
 exact .pure ⟨⟨X.1, rfl, ⟨by dsimp only; omega, htn⟩, by simp; omega, i5.snoc hop'⟩, by dsimp only; omega⟩
structure PlanOk (n : Network) (p : Plan) : Prop where
 rl : p.Rates.length = n.Segments.length
 pl : p.Ports.length = n.Ports.length
 ml : p.Pumps.length = n.Stations.length
 rng : ∀ (k : Nat) (r : Int) (s : Sg), p.Rates[k]? = some r → n.Segments[k]? = some s → -1000 ≤ r ∧ r ≤ 1000 ∧ -s.Capacity ≤ r ∧ r ≤ s.Capacity
 prt : ∀ (k : Nat) (x : Int), p.Ports[k]? = some x → -1000 ≤ x ∧ x ≤ 1000
 bal : ∀ v, D5 (wt n v) p.Rates + D5 (wp n v) p.Ports = 0
 dir : (∀ (k : Nat) (r : Int) (s : Sg), p.Rates[k]? = some r → n.Segments[k]? = some s → (0 < r → s.From < s.To) ∧ (r < 0 → s.To < s.From)) ∨
  (∀ (k : Nat) (r : Int) (s : Sg), p.Rates[k]? = some r → n.Segments[k]? = some s → (0 < r → s.To < s.From) ∧ (r < 0 → s.From < s.To))
theorem Uv {n : Nw} (hn : NetOk n) {s : Wm} (hs : SrcOk s) {rates ports : Li} {c : Int} (hc : 0 ≤ c ∧ c < 5) (h : PlInv n rates ports) :
  Ok (C5 (Nf.B4 n) El (s.L_, s.At, rates, ports, c)) fun d => SrcOk ⟨d.1, d.2.1⟩ ∧ PlInv n d.2.2.1 d.2.2.2 := by
 have hpn := hn.ports1
 refine .loop (fun M : Li × Int × Li × Li × Int => SrcOk ⟨M.1, M.2.1⟩ ∧ PlInv n M.2.2.1 M.2.2.2.1 ∧ 0 ≤ M.2.2.2.2 ∧ M.2.2.2.2 < 5) (fun M => M.2.2.2.2.toNat) ⟨hs, h, hc⟩ (by dsimp only; omega) ?_
 rintro ⟨L_, At, rates, ports, c⟩ ⟨i1, X, i3⟩
 dsimp only at i1 X i3
 unfold Nf.B4
 refine A0 (fun h0 => ?_) fun _ => .pure ⟨i1, X⟩
 dsimp only at h0
 have j5 : ∀ j : Li × Int × Li × Li, SrcOk ⟨j.1, j.2.1⟩ → PlInv n j.2.2.1 j.2.2.2 → Ok (Nf.J5 (L_, At, rates, ports, c) j)
   (Sum.elim (fun M => (SrcOk ⟨M.1, M.2.1⟩ ∧ PlInv n M.2.2.1 M.2.2.2.1 ∧ 0 ≤ M.2.2.2.2 ∧ M.2.2.2.2 < 5) ∧ M.2.2.2.2.toNat < c.toNat) fun d => SrcOk ⟨d.1, d.2.1⟩ ∧ PlInv n d.2.2.1 d.2.2.2) := by
  intro j h1 h2
  unfold Nf.J5
  dsimp only
  rw [Bc (by omega)]
  exact .pure ⟨⟨h1, h2, by dsimp only; omega⟩, by dsimp only; omega⟩
 refine .bind (G9 i1 (by omega) (by omega)) fun r4095 O => ?_
 obtain ⟨ai, sa⟩ := r4095
 dsimp only at O
 obtain ⟨a, rfl⟩ := Ep O.2.1
 have hal : a < n.Ports.length := by omega
 have hpa : n.Ports[a]? = some n.Ports[a] := gq hal
 have hpo := (hn.ports a _ hpa).node
 refine .bind' (.eq (Bg hpa) ?_)
 refine .bind (Ea O.1 (by decide) (by decide)) fun r4101 Y => ?_
 have c1 := Y.2
 simp only [List.mem_cons, List.not_mem_nil, or_false] at c1
 refine .bind (Fp Y.1 (by omega) (by omega) (by omega)) fun r4103 W => ?_
 obtain ⟨G, s⟩ := r4103
 dsimp only at W
 have Z : 1 ≤ G ∧ G ≤ 300 := by omega
 have hxl : a < ports.length := by have := X.pl; omega
 have hx : ports[a]? = some ports[a] := gq hxl
 have hxr := X.prt a _ hx
 refine .bind' (.eq (Bg hx) ?_)
 dsimp only
 have j6t : Ok (Nf.J6 n (L_, At, rates, ports, c) ((a : Int), sa) (a, n.Ports[a]) (G, s) true)
   (Sum.elim (fun M => (SrcOk ⟨M.1, M.2.1⟩ ∧ PlInv n M.2.2.1 M.2.2.2.1 ∧ 0 ≤ M.2.2.2.2 ∧ M.2.2.2.2 < 5) ∧ M.2.2.2.2.toNat < c.toNat) fun d => SrcOk ⟨d.1, d.2.1⟩ ∧ PlInv n d.2.2.1 d.2.2.2) := by
  unfold Nf.J6
  exact j5 (_, _, _, _) W.1 X
 rw [Bc (by omega)]
 refine A0 (fun _ => j6t) fun hx0 => ?_
 by_cases ab : ports[a] + G > 1000
 ·simp only [ab, decide_true]; exact j6t
 simp only [ab, decide_false]
 unfold Nf.J6
 refine .bind (gC hn X Z W.1 hpo) ?_
 rintro ⟨L2, A2, way, e⟩ ⟨w1, w2⟩
 dsimp only at w1 w2
 unfold Nf.J7
 refine A0 (fun _ => j5 (_, _, _, _) w1 X) fun he => ?_
 dsimp only at he
 obtain ⟨t, ⟨nd, n0, n1, n2⟩, kk, p, x, rfl, hka, hp, hpt, aa, hx0', hxm⟩ := w2.resolve_left he
 have hkl := (gs aa).1
 have hxkr := X.prt kk _ aa
 refine .bind' (.eq (Bg hx) (.bind' (.eq (Bg aa) ?_)))
 dsimp only
 rw [Bc (by omega)]
 have hset : (ports.set a (ports[a] + G))[kk]? = some x := by rw [List.getElem?_set_ne (Ne.symm hka)]; exact aa
 refine .bind' (.eq (Bg hset) ?_)
 dsimp only
 rw [Bc (by omega)]
 unfold Nf.J8
 refine .bind (bS X Z n2) fun M hst => ?_
 obtain ⟨s1, s2, s3⟩ := hst
 dsimp only at s1 s2 s3
 refine j5 (_, _, _, _) w1 ⟨by dsimp only; rw [s1]; exact X.rl, by simp [X.pl], s2, fun k y hk => ?_, fun v => ?_⟩
 ·dsimp only at hk
  rw [Du] at hk
  split at hk
  ·simp at hk; omega
  ·rw [Du] at hk
   split at hk
   ·simp at hk; omega
   ·exact X.prt k y hk
 ·have w1 : (wp n v)[a]? = some (ind n.Ports[a].Node v) := by unfold wp; rw [List.getElem?_map, hpa]; rfl
  have w2 : (wp n v)[kk]? = some (ind p.Node v) := by unfold wp; rw [List.getElem?_map, hp]; rfl
  dsimp only
  rw [Fe w2 hset, Fe w1 hx, s3 v, n0, n1, hpt]
  have := X.bal v
  have e1 : ind n.Ports[a].Node v * (ports[a] + G - ports[a]) = G * ind n.Ports[a].Node v := by rw [show ports[a] + G - ports[a] = G by omega, Int.mul_comm]
  have e2 : ind t v * (x - G - x) = -(G * ind t v) := by rw [show x - G - x = -G by omega, Int.mul_neg, Int.mul_comm]
  rw [e1, e2]
  omega
theorem eB {n : Nw} (Y : NetOk n) {s : Wm} (O : SrcOk s) : Ok (Nf s n) fun r => PlanOk n r.1 ∧ SrcOk r.2 := by
 have h1 := Y.segs1; have h2 := Y.ports1; have h3 := Y.sts1
 unfold Nf
 refine .bind' (.mk n.Segments.length rfl (by omega) (.bind' (.mk n.Ports.length rfl (by omega) ?_)))
 unfold Nf.J1
 refine .bind (Q := fun d : Li × Int × List Bool => SrcOk ⟨d.1, d.2.1⟩ ∧ d.2.2.length = n.Stations.length) ?_ ?_
 ·refine .loop (fun st : Li × Int × List Bool × Int => SrcOk ⟨st.1, st.2.1⟩ ∧ (st.2.2.1.length : Int) = st.2.2.2 ∧ st.2.2.1.length ≤ n.Stations.length) (fun st => n.Stations.length - st.2.2.1.length) ⟨O, by simp, by simp⟩ (by dsimp only; omega) ?_
  rintro ⟨L_, At, aa, i⟩ ⟨i1, i2, i3⟩
  dsimp only at i1 i2 i3
  unfold Nf.B20
  refine A0 (fun h0 => ?_) fun h0 => .pure ⟨i1, by dsimp only at h0 ⊢; omega⟩
  dsimp only at h0 ⊢
  refine .bind (G9 i1 (by decide) (by decide)) fun r G => .bind' (.app (by simp; omega) (.pure ?_))
  rw [Bc (by omega)]
  exact ⟨⟨G.1, by simp; omega, by simp; omega⟩, by simp; omega⟩
 rintro ⟨L_, At, aa⟩ ⟨i1, i2⟩
 dsimp only at i1 i2
 unfold Nf.J2
 refine .bind (G9 i1 (by decide) (by decide)) fun r51 h51 => .bind (G9 h51.1 (by decide) (by decide)) fun r1787 W => ?_
 refine .bind (Uv Y W.1 W.2 ⟨by simp, by simp, fun k r s G O => ?_, fun k x Z => ?_, fun v => ?_⟩) ?_
 ·have := mg G
  simp at this
  have hc := (Y.segs k s O).cap
  exact ⟨by omega, fun _ => by omega, fun _ => by omega⟩
 ·have := mg Z
  simp at this
  omega
 ·rw [Jt, Jt]; omega
 rintro ⟨L2, A2, ab, ports⟩ ⟨j1, M⟩
 dsimp only at j1 M
 have hr0 : ∀ (k : Nat) (r : Int), ab[k]? = some r → -1000000 ≤ r ∧ r ≤ 1000000 := fun k r G => by
  have hk := (gs G).1
  have O : n.Segments[k]? = some _ := gq (by have := M.rl; omega)
  have := (M.rng k r _ G O).rng
  omega
 unfold Nf.J3
 refine C7 (fun _ => ?_) fun _ => .pure ⟨⟨M.rl, M.pl, i2, fun k r s G O => (M.rng k r s G O).rng, M.prt, M.bal, .inl fun k r s G O => ?_⟩, j1⟩
 ·refine .bind' (.eq (Uz (by dsimp only; have := M.rl; omega) (by dsimp only; have := M.pl; omega) (by dsimp only; omega) hr0 fun k x Z => by have := M.prt k x Z; omega) (.pure ⟨⟨by simp [M.rl], by simp [M.pl], i2, fun k r s G O => ?_, fun k x Z => ?_, fun v => ?_, .inr fun k r s G O => ?_⟩, j1⟩))
  ·dsimp only at G
   rw [List.getElem?_map] at G
   obtain ⟨r', X, rfl⟩ := Option.map_eq_some_iff.1 G
   have := (M.rng k r' s X O).rng
   omega
  ·dsimp only at Z
   rw [List.getElem?_map] at Z
   obtain ⟨r', X, rfl⟩ := Option.map_eq_some_iff.1 Z
   have := M.prt k r' X
   omega
  ·dsimp only
   rw [Mf, Mf]
   have := M.bal v
   omega
  ·dsimp only at G
   rw [List.getElem?_map] at G
   obtain ⟨r', X, rfl⟩ := Option.map_eq_some_iff.1 G
   have h5 := M.rng k r' s X O
   have h6 := (Y.segs k s O).ends
   have := h5.up; have := h5.down
   omega
 ·have h5 := M.rng k r s G O
  have h6 := (Y.segs k s O).ends
  have := h5.up; have := h5.down
  omega
end Go.Proofs.YtihdchjpepkpbaaGreat
