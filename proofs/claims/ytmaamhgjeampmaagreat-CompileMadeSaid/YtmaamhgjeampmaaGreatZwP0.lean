/- Plain proofs. No condition. -/
import Derived.Test.YtmaamhgjeampmaaGreatZwB2
import Derived.Test.YtmaamhgjeampmaaGreatZwD
set_option maxRecDepth 100000
namespace Go.Aw
set_option linter.unusedVariables false
set_option linter.defProp false
set_option linter.unusedSimpArgs false
def Ok {α : Type} (o : Option α) (P : α → Prop) : Prop := ∃ r, o = some r ∧ P r
section
variable {α β S B : Type}
theorem Ok.pure {x : α} {P : α → Prop} (h : P x) : Ok (some x) P := ⟨x, rfl, h⟩
theorem Hj {o : Option α} {v : α} (h : Ok o fun r => r = v) : o = some v := by obtain ⟨r, h, rfl⟩ := h; exact h
theorem Ok.get {o : Option α} {P : α → Prop} (h : Ok o P) : ∃ r, o = some r ∧ P r := h
theorem Ok.mono {o : Option α} {P Q : α → Prop} (h : Ok o P) (k : ∀ x, P x → Q x) : Ok o Q := let ⟨r, h1, h2⟩ := h; ⟨r, h1, k r h2⟩
theorem Ok.bind {o : Option α} {f : α → Option β} {P : β → Prop} {Q : α → Prop} (h : Ok o Q) (k : ∀ x, Q x → Ok (f x) P) : Ok (o.bind f) P := by
 obtain ⟨r, rfl, G⟩ := h; exact k r G
theorem Ok.bind' {o : Option α} {f : α → Option β} {P : β → Prop} (h : Ok o fun x => Ok (f x) P) : Ok (o.bind f) P := h.bind fun _ k => k
theorem Ok.eq {o : Option α} {P : α → Prop} {x : α} (h : o = some x) (k : P x) : Ok o P := ⟨x, h, k⟩
theorem tD {c : Prop} [Decidable c] {a b : Option α} {P : α → Prop} (h1 : c → Ok a P) (h2 : ¬ c → Ok b P) : Ok (if c then a else b) P := by
 split <;> simp_all
theorem Ok.and {o : Option α} {P Q : α → Prop} (h : Ok o P) (k : Ok o Q) : Ok o fun x => P x ∧ Q x := by
 obtain ⟨r, rfl, O⟩ := h; obtain ⟨W, M, G⟩ := k; cases M; exact ⟨r, rfl, O, G⟩
theorem Ok.map {o : Option α} {f : α → β} {P : β → Prop} (h : Ok o fun x => P (f x)) : Ok (o.map f) P := by
 obtain ⟨r, rfl, G⟩ := h; exact ⟨_, rfl, G⟩
theorem Ok.chk {p : Prop} [Decidable p] {P : Unit → Prop} (h : p) (k : P ()) : Ok (chk p) P := ⟨(), sX h, k⟩
theorem Ok.ix {l : List α} {i : Int} {P : Nat × α → Prop} (k : Nat) (hi : i = (k : Int)) (G : k < l.length) (h : P (k, l[k])) : Ok (ix l i) P := by
 subst hi; exact ⟨_, A0 (gq G), h⟩
theorem Ok.ix' {l : List α} {i : Int} {P : Nat × α → Prop} (M : 0 ≤ i) (O : i < (l.length : Int)) (h : ∀ (k : Nat) (x : α), i = (k : Int) → l[k]? = some x → P (k, x)) : Ok (Aw.ix l i) P := by
 obtain ⟨k, rfl⟩ : ∃ k : Nat, i = (k : Int) := ⟨i.toNat, by omega⟩
 have G : k < l.length := by omega
 exact ⟨_, A0 (gq G), h k _ rfl (gq G)⟩
theorem Ok.app {l m : List α} {P : List α → Prop} (hl : l.length + m.length ≤ 68719476736) (h : P (l ++ m)) : Ok (Cp l m) P := ⟨_, Ft hl, h⟩
theorem Ok.mk {n : Int} {z : α} {P : List α → Prop} (m : Nat) (G : n = (m : Int)) (hl : m ≤ 68719476736) (h : P (List.replicate m z)) : Ok (Qb n z) P := by
 subst G; exact ⟨_, sL z hl, h⟩
theorem Ok.cat {a b : ByteArray} {P : ByteArray → Prop} (hl : a.size + b.size ≤ 68719476736) (h : P (a ++ b)) : Ok (jT a b) P := ⟨_, if_pos hl, h⟩
theorem Ok.quo {a b : Int} {P : Int → Prop} (hb : b ≠ 0) (h : P (wr (a.tdiv b))) : Ok (uS a b) P := ⟨_, if_pos hb, h⟩
theorem Ok.rem {a b : Int} {P : Int → Prop} (hb : b ≠ 0) (h : P (a.tmod b)) : Ok (oI a b) P := ⟨_, if_pos hb, h⟩
theorem Ok.sub {l : List α} {a b : Int} {P : List α → Prop} (x y : Nat) (G : a = (x : Int)) (hb : b = (y : Int)) (M : x ≤ y) (hl : y ≤ l.length) (h : P ((l.drop x).take (y - x))) : Ok (aM l a b) P := by
 subst G; subst hb
 exact ⟨_, if_pos ⟨by omega, by omega, by omega⟩, by simpa using h⟩
theorem Nc {f : Nat → α → S → Option S} (I : Nat → S → Prop) (l : List α) : ∀ (m : List α) (k : Nat), l.drop k = m → ∀ st, I k st →
  (∀ k x st, l[k]? = some x → I k st → Ok (f k x st) (I (k + 1))) → k ≤ l.length → Ok (forS f k m st) (I l.length)
 | [], k, hm, st, hi, _, hk => by
  have : l.length - k = 0 := by simpa using congrArg List.length hm
  have : k = l.length := by omega
  subst this; exact .pure hi
 | x :: m, k, hm, st, hi, hf, hk => by
  have M : l[k]? = some x := by have := congrArg (fun z => z[0]?) hm; simpa using this
  have G : l.drop (k + 1) = m := by have := congrArg (List.drop 1) hm; simpa [Nat.add_comm] using this
  obtain ⟨X, O, W⟩ := hf k x st M hi
  simp only [forS, O]
  exact Nc I l m (k + 1) G X W hf (by have := (gs M).1; omega)
theorem Ok.forS {f : Nat → α → S → Option S} {l : List α} {st : S} {P : S → Prop} (I : Nat → S → Prop) (G : I 0 st)
  (hf : ∀ k x st, l[k]? = some x → I k st → Ok (f k x st) (I (k + 1))) (M : ∀ st, I l.length st → P st) : Ok (forS f 0 l st) P :=
 (Nc I l l 0 rfl st G hf (Nat.zero_le _)).mono M
theorem Nd {f : Nat → α → S → Option (S ⊕ B)} (I : Nat → S → Prop) (R : B → Prop) (l : List α) : ∀ (m : List α) (k : Nat), l.drop k = m → ∀ st, I k st →
  (∀ k x st, l[k]? = some x → I k st → Ok (f k x st) (Sum.elim (fun s => I (k + 1) s) R)) → k ≤ l.length → Ok (forL f k m st) (Sum.elim (fun s => I l.length s) R)
 | [], k, hm, st, hi, _, hk => by
  have : l.length - k = 0 := by simpa using congrArg List.length hm
  have : k = l.length := by omega
  subst this; exact .pure hi
 | x :: m, k, hm, st, hi, hf, hk => by
  have X : l[k]? = some x := by have := congrArg (fun z => z[0]?) hm; simpa using this
  have G : l.drop (k + 1) = m := by have := congrArg (List.drop 1) hm; simpa [Nat.add_comm] using this
  obtain ⟨M, O, W⟩ := hf k x st X hi
  cases M with
  | inl M =>
   simp only [forL, O]
   exact Nd I R l m (k + 1) G M W hf (by have := (gs X).1; omega)
  | inr b => simp only [forL, O]; exact .pure W
theorem Ok.forL {f : Nat → α → S → Option (S ⊕ B)} {l : List α} {st : S} {P : S ⊕ B → Prop} (I : Nat → S → Prop) (R : B → Prop) (G : I 0 st)
  (hf : ∀ k x st, l[k]? = some x → I k st → Ok (f k x st) (Sum.elim (fun s => I (k + 1) s) R)) (M : ∀ st, I l.length st → P (.inl st)) (O : ∀ b, R b → P (.inr b)) : Ok (forL f 0 l st) P :=
 (Nd I R l l 0 rfl st G hf (Nat.zero_le _)).mono fun x h => by cases x with | inl s => exact M s h | inr b => exact O b h
theorem Nf {f : Nat → S → Option S} (I : Nat → S → Prop) (n : Nat) : ∀ (m k : Nat), k + m = n → ∀ st, I k st →
  (∀ k st, k < n → I k st → Ok (f k st) (I (k + 1))) → Ok (forJ f k m st) (I n)
 | 0, k, hm, st, hi, _ => by have : k = n := (by omega); subst this; exact .pure hi
 | m + 1, k, hm, st, hi, hf => by
  obtain ⟨O, G, M⟩ := hf k st (by omega) hi
  simp only [forJ, G]
  exact Nf I n m (k + 1) (by omega) O M hf
theorem Ok.forJ {f : Nat → S → Option S} {n : Nat} {st : S} {P : S → Prop} (I : Nat → S → Prop) (G : I 0 st)
  (hf : ∀ k st, k < n → I k st → Ok (f k st) (I (k + 1))) (M : ∀ st, I n st → P st) : Ok (forJ f 0 n st) P :=
 (Nf I n n 0 (by omega) st G hf).mono M
theorem Ng {f : Nat → S → Option (S ⊕ B)} (I : Nat → S → Prop) (R : B → Prop) (n : Nat) : ∀ (m k : Nat), k + m = n → ∀ st, I k st →
  (∀ k st, k < n → I k st → Ok (f k st) (Sum.elim (fun s => I (k + 1) s) R)) → Ok (forI f k m st) (Sum.elim (fun s => I n s) R)
 | 0, k, hm, st, hi, _ => by have : k = n := (by omega); subst this; exact .pure hi
 | m + 1, k, hm, st, hi, hf => by
  obtain ⟨G, M, O⟩ := hf k st (by omega) hi
  cases G with
  | inl G =>
   simp only [forI, M]
   exact Ng I R n m (k + 1) (by omega) G O hf
  | inr b => simp only [forI, M]; exact .pure O
theorem Ok.forI {f : Nat → S → Option (S ⊕ B)} {n : Nat} {st : S} {P : S ⊕ B → Prop} (I : Nat → S → Prop) (R : B → Prop) (G : I 0 st)
  (hf : ∀ k st, k < n → I k st → Ok (f k st) (Sum.elim (fun s => I (k + 1) s) R)) (M : ∀ st, I n st → P (.inl st)) (O : ∀ b, R b → P (.inr b)) : Ok (forI f 0 n st) P :=
 (Ng I R n n 0 (by omega) st G hf).mono fun x h => by cases x with | inl s => exact M s h | inr b => exact O b h
theorem Nb {f : S → Option (S ⊕ B)} {P : B → Prop} (I : S → Prop) (μ : S → Nat) (hf : ∀ st, I st → Ok (f st) (Sum.elim (fun s => I s ∧ μ s < μ st) P)) :
  ∀ (n : Nat) (st : S), I st → μ st < n → Ok (Bx f n st) P
 | 0, st, _, h => absurd h (Nat.not_lt_zero _)
 | n + 1, st, hi, h => by
  obtain ⟨r, M, G⟩ := hf st hi
  cases r with
  | inl s =>
   simp only [Bx, M]
   exact Nb I μ hf n s G.1 (by have := G.2; omega)
  | inr b => simp only [Bx, M]; exact .pure G
theorem Ok.loop {f : S → Option (S ⊕ B)} {P : B → Prop} {st : S} (I : S → Prop) (μ : S → Nat) (G : I st) (M : μ st < 18446744073709551616)
  (hf : ∀ st, I st → Ok (f st) (Sum.elim (fun s => I s ∧ μ s < μ st) P)) : Ok (Bx f C0 st) P :=
 Nb I μ hf _ st G M
theorem Lf {f : S → Option (S ⊕ B)} {P : B → Prop} (I : Nat → S → Prop) (hf : ∀ m st, I m st → Ok (f st) (Sum.elim (fun s => ∃ G, G < m ∧ I G s) P)) :
  ∀ (n : Nat) (m : Nat) (st : S), I m st → m < n → Ok (Bx f n st) P
 | 0, _, st, _, h => absurd h (Nat.not_lt_zero _)
 | n + 1, m, st, hi, h => by
  obtain ⟨r, M, O⟩ := hf m st hi
  cases r with
  | inl s =>
   obtain ⟨G, X, W⟩ := O
   simp only [Bx, M]
   exact Lf I hf n G s W (by omega)
  | inr b => simp only [Bx, M]; exact .pure O
theorem Ok.loopE {f : S → Option (S ⊕ B)} {P : B → Prop} {st : S} {m : Nat} (I : Nat → S → Prop) (M : I m st) (O : m < 18446744073709551616)
  (hf : ∀ m st, I m st → Ok (f st) (Sum.elim (fun s => ∃ G, G < m ∧ I G s) P)) : Ok (Bx f C0 st) P :=
 Lf I hf _ m st M O
end
def E0 : Li → Li → Int
 | w :: ws, x :: xs => w * x + E0 ws xs
 | _, _ => 0
theorem Ki (w : Li) : E0 w [] = 0 := by cases w <;> rfl
theorem Ia (w : Li) (n : Nat) : E0 w (List.replicate n 0) = 0 := by
 induction n generalizing w with
 | zero => exact Ki w
 | succ n ih => cases w with
  | nil => rfl
  | cons a w => simp [List.replicate_succ, E0, ih]
theorem Fs {w l : Li} {k : Nat} {a x y : Int} (G : w[k]? = some a) (hl : l[k]? = some x) : E0 w (l.set k y) = E0 w l + a * (y - x) := by
 induction w generalizing l k with
 | nil => simp at G
 | cons b w ih =>
  cases l with
  | nil => simp at hl
  | cons z l =>
   cases k with
   | zero =>
    simp at G hl
    subst G; subst hl
    simp only [List.set_cons_zero, E0, Int.mul_sub]; omega
   | succ k =>
    simp at G hl
    simp only [List.set_cons_succ, E0, ih G hl]; omega
theorem Ql (w l : Li) : E0 w (l.map fun x => -x) = -E0 w l := by
 induction w generalizing l with
 | nil => rfl
 | cons b w ih =>
  cases l with
  | nil => rfl
  | cons z l => simp only [List.map_cons, E0, ih, Int.mul_neg]; omega
theorem Ge {w l : Li} {k : Nat} {a x : Int} (G : w[k]? = some a) (hl : l[k]? = some x) : E0 w (l.take (k + 1)) = E0 w (l.take k) + a * x := by
 induction w generalizing l k with
 | nil => simp at G
 | cons b w ih =>
  cases l with
  | nil => simp at hl
  | cons z l =>
   cases k with
   | zero => simp at G hl; subst G; subst hl; simp [E0, Ki]
   | succ k =>
    simp at G hl
    simp only [List.take_succ_cons, E0, ih G hl]; omega
theorem D9 {α : Type} {l : List α} {k i : Nat} {x : α} : (l.set k x)[i]? = if k = i ∧ i < l.length then some x else l[i]? := by
 rw [List.getElem?_set]
 by_cases h : k = i
 ·subst h
  by_cases G : k < l.length
  ·simp [G]
  ·simp [G]
 ·simp [h]
theorem Eo {a b : Nat} (h : some (a : Int) = some (b : Int)) : a = b := Int.ofNat.inj (Option.some.inj h)
inductive Rep (u : List Int) : Nat → Nat → Nat → Prop
 | root {k : Nat} : u[k]? = some (k : Int) → Rep u 0 k k
 | step {k j m r : Nat} : u[k]? = some (j : Int) → k ≠ j → Rep u m j r → Rep u (m + 1) k r
theorem Rep.det {u : Li} {m k r : Nat} (h : Rep u m k r) : ∀ {M r' : Nat}, Rep u M k r' → m = M ∧ r = r' := by
 induction h with
 | root h =>
  intro M r' O
  cases O with
  | root _ => exact ⟨rfl, rfl⟩
  | step h1 h2 _ => rw [h] at h1; have := Eo h1; omega
 | step h1 h2 h3 ih =>
  intro M r' O
  cases O with
  | root h => rw [h] at h1; have := Eo h1; omega
  | step G h5 h6 =>
   rw [h1] at G; have G := Eo G
   subst G
   obtain ⟨rfl, rfl⟩ := ih h6
   exact ⟨rfl, rfl⟩
theorem fQ {u : Li} {k j i : Nat} (W : u[k]? = some (j : Int)) (hne : k ≠ j) (hj : u[j]? = some (i : Int)) :
  ∀ (m x r : Nat), Rep u m x r → ∃ m', m' ≤ m ∧ Rep (u.set k (i : Int)) m' x r := by
 intro m
 induction m using Nat.strongRecOn with
 | ind m ih =>
  intro x r h
  have X : k < u.length := (gs W).1
  cases h with
  | root h =>
   refine ⟨0, Nat.le_refl _, .root ?_⟩
   rw [List.getElem?_set]
   by_cases Z : k = x
   ·subst Z; rw [h] at W; have := Eo W; omega
   ·simp [Z, h]
  | @step _ y m' _ O h2 h3 =>
   by_cases Z : k = x
   ·subst Z
    rw [W] at O; have O := Eo O
    subst O
    cases h3 with
    | root M =>
     rw [hj] at M; have M := Eo M
     subst M
     obtain ⟨m2, Y, G⟩ := ih 0 (by omega) i i (.root hj)
     have : m2 = 0 := by omega
     subst this
     exact ⟨1, by omega, .step (by simp [X]) h2 G⟩
    | @step _ z m'' _ M h5 h6 =>
     rw [hj] at M; have M := Eo M
     subst M
     have hki : k ≠ i := by
      rintro rfl
      have := (Rep.det h6 (.step W hne (.step hj h5 h6))).1
      omega
     obtain ⟨m2, Y, G⟩ := ih m'' (by omega) i r h6
     exact ⟨m2 + 1, by omega, .step (by simp [X]) hki G⟩
   ·obtain ⟨m2, Y, G⟩ := ih m' (by omega) y r h3
    exact ⟨m2 + 1, by omega, .step (by rw [List.getElem?_set]; simp [Z, O]) h2 G⟩
structure Uni (n : Nat) (u : List Int) (d : Nat) (ρ : Nat → Nat) : Prop where
 len : u.length = n
 lt : ∀ k, k < n → ρ k < n
 rep : ∀ k, k < n → ∃ m, m ≤ d ∧ Rep u m k (ρ k)
theorem Uni.at_ {n d : Nat} {u : Li} {ρ : Nat → Nat} (h : Uni n u d ρ) {k : Nat} (O : k < n) : ∃ j : Nat, u[k]? = some (j : Int) ∧ j < n ∧ ρ j = ρ k := by
 obtain ⟨m, _, W⟩ := h.rep k O
 generalize X : ρ k = r at W
 cases W with
 | root h1 => exact ⟨k, h1, O, X⟩
 | @step _ j _ _ h1 h2 h3 =>
  have M : j < n := by
   rw [← h.len]
   cases h3 with
   | root h => exact (gs h).1
   | step h _ _ => exact (gs h).1
  refine ⟨j, h1, M, ?_⟩
  obtain ⟨Y, _, G⟩ := h.rep j M
  exact (G.det h3).2
theorem Uni.step {n d : Nat} {u : Li} {ρ : Nat → Nat} (h : Uni n u d ρ) {k j i m : Nat} (X : u[k]? = some (j : Int)) (hne : k ≠ j) (O : u[j]? = some (i : Int)) (hr : Rep u m k (ρ k)) :
  ∃ m', m' < m ∧ Rep (u.set k (i : Int)) m' i (ρ i) ∧ ρ i = ρ k := by
 have hj' : j < n := by rw [← h.len]; exact (gs O).1
 have hk' : k < n := by rw [← h.len]; exact (gs X).1
 obtain ⟨y, Y, hy, e2⟩ := h.at_ hj'
 obtain ⟨y2, Z, hy2, e4⟩ := h.at_ hk'
 rw [O] at Y; have Y := Eo Y; subst Y
 rw [X] at Z; have Z := Eo Z; subst Z
 have M : ρ i = ρ k := by rw [e2, e4]
 generalize ρ k = r at hr M
 cases hr with
 | root W => rw [W] at X; have := Eo X; omega
 | @step _ y m1 _ W h2 h3 =>
  rw [X] at W; have W := Eo W
  subst W
  have : ∃ m2, m2 ≤ m1 ∧ Rep u m2 i r := by
   cases h3 with
   | root G => rw [O] at G; have G := Eo G; exact ⟨0, by omega, by rw [G]; rw [G] at O; exact .root O⟩
   | step G h5 h6 => rw [O] at G; have G := Eo G; subst G; exact ⟨_, by omega, h6⟩
  obtain ⟨m2, G, h5⟩ := this
  obtain ⟨m3, h6, h7⟩ := fQ X hne O m2 i _ h5
  exact ⟨m3, by omega, by rw [M]; exact h7, M⟩
inductive Conn (R : Nat → Nat → Prop) : Nat → Nat → Prop
 | refl (x : Nat) : Conn R x x
 | edge {x y : Nat} : R x y → Conn R x y
 | symm {x y : Nat} : Conn R x y → Conn R y x
 | trans {x y z : Nat} : Conn R x y → Conn R y z → Conn R x z
theorem Conn.mono {R R' : Nat → Nat → Prop} (h : ∀ x y, R x y → Conn R' x y) {x y : Nat} (c : Conn R x y) : Conn R' x y := by
 induction c with
 | refl x => exact .refl x
 | edge e => exact h _ _ e
 | symm _ ih => exact ih.symm
 | trans _ _ i1 i2 => exact i1.trans i2
end Go.Aw
namespace Go.Proofs.YtmaamhgjeampmaaGreat
set_option linter.unusedVariables false
set_option linter.defProp false
set_option linter.unusedSimpArgs false
open Go.Aw
abbrev Yg := KS
structure SrcOk (s : Yg) : Prop where
 at0 : 0 ≤ s.At
 at1 : s.At ≤ (s.L_.length : Int)
 len : s.L_.length ≤ 2000
theorem As {α : Type} {c : Prop} [Decidable c] {a b : Option α} {P : α → Prop} (h1 : c → Ok a P) (h2 : ¬ c → Ok b P) : Ok (if decide c = true then a else b) P := by
 by_cases G : c
 ·rw [if_pos (by simp [G])]; exact h1 G
 ·rw [if_neg (by simp [G])]; exact h2 G
theorem Ax {α : Type} {c : Bool} {a b : Option α} {P : α → Prop} (h1 : c = true → Ok a P) (h2 : c = false → Ok b P) : Ok (if c = true then a else b) P := by
 cases c
 ·rw [if_neg (by simp)]; exact h2 rfl
 ·rw [if_pos rfl]; exact h1 rfl
theorem Ea {α : Type} {c : Bool} {a b : Option α} {P : α → Prop} (h1 : c = false → Ok a P) (h2 : c = true → Ok b P) : Ok (if (!c) = true then a else b) P := by
 cases c
 ·exact h1 rfl
 ·exact h2 rfl
theorem Dl {α : Type} {x y : Int} {a b : Option α} {P : α → Prop} (h1 : x = y → Ok a P) (h2 : x ≠ y → Ok b P) : Ok (if (x == y) = true then a else b) P := by
 by_cases h : x = y
 ·rw [if_pos (by simp [h])]; exact h1 h
 ·rw [if_neg (by simp [h])]; exact h2 h
theorem Cj {α : Type} {x y : Int} {a b : Option α} {P : α → Prop} (h1 : x ≠ y → Ok a P) (h2 : x = y → Ok b P) : Ok (if (x != y) = true then a else b) P := by
 by_cases h : x = y
 ·rw [if_neg (by simp [h])]; exact h2 h
 ·rw [if_pos (by simp [h])]; exact h1 h
theorem kW (x : Int) {n : Int} (h1 : 1 ≤ n) (h2 : n ≤ 9223372036854775807) : Ok (Sf x n) fun r => 0 ≤ r ∧ r < n := by
 unfold Sf Sf.J1
 have G := Int.tmod_lt_of_pos x (show 0 < n by omega)
 have M : -n < x.tmod n := by
  have := Int.tmod_lt_of_pos (-x) (show 0 < n by omega)
  rw [Int.neg_tmod] at this; omega
 refine As (fun h => by omega) fun _ => .bind' (.rem (by omega) ?_)
 refine As (fun h => .pure ?_) (fun h => .pure ?_)
 ·rw [Bc (by omega)]; omega
 ·omega
theorem sI (l : Li) : Ok (Xl l) SrcOk := by
 unfold Xl
 refine .bind' (.sub 0 (min l.length 2000) rfl (by omega) (by omega) (by omega) (.pure ?_))
 exact ⟨Int.le_refl _, by simp, by simp; omega⟩
theorem sD {s : Yg} (h : SrcOk s) : Ok (Wy s) fun r => SrcOk r.2 := by
 obtain ⟨M, O, G⟩ := h
 unfold Wy
 refine As (fun _ => .pure ⟨M, O, G⟩) fun h => ?_
 simp (disch := omega) only [Bc]
 refine .bind' (.ix' (by omega) (by omega) fun k x _ _ => .pure ⟨by dsimp only; omega, by dsimp only; omega, G⟩)
theorem E8 {s : Yg} (h : SrcOk s) {n : Int} (h1 : 1 ≤ n) (h2 : n ≤ 9223372036854775807) : Ok (Da s n) fun r => SrcOk r.2 ∧ 0 ≤ r.1 ∧ r.1 < n := by
 unfold Da
 exact .bind (sD h) fun x G => .bind (kW _ h1 h2) fun y M => .pure ⟨G, M⟩
theorem G5 {s : Yg} (h : SrcOk s) {lo hi : Int} (h1 : lo ≤ hi) (h2 : -1000000000 ≤ lo) (M : hi ≤ 1000000000) : Ok (H4 s lo hi) fun r => SrcOk r.2 ∧ lo ≤ r.1 ∧ r.1 ≤ hi := by
 unfold H4
 simp (disch := omega) only [Bc]
 refine .bind (E8 h (by omega) (by omega)) fun x G => .pure ⟨G.1, ?_⟩
 dsimp only
 rw [Bc (by omega)]; omega
theorem C5 {s : Yg} (h : SrcOk s) {l : Li} (h1 : 1 ≤ l.length) (h2 : l.length ≤ 1000) : Ok (Di s l) fun r => SrcOk r.2 ∧ r.1 ∈ l := by
 unfold Di
 refine .bind (E8 h (by omega) (by omega)) fun x G => .bind' (.ix' G.2.1 G.2.2 fun k y _ M => .pure ⟨G.1, mg M⟩)
def nm (c : UInt8) (k : Nat) : Bt := ⟨#[c, 97 + UInt8.ofNat k]⟩
theorem Qg {c : UInt8} {k : Nat} (M : k < 26) : G3 ⟨#[c]⟩ (k : Int) = some (nm c k) := by
 unfold G3
 have G : ((k : Int).tmod 26) = (k : Int) := by rw [Int.tmod_eq_emod_of_nonneg (by omega)]; omega
 rw [G, Bc (by omega)]
 have : k = 0 ∨ k = 1 ∨ k = 2 ∨ k = 3 ∨ k = 4 ∨ k = 5 ∨ k = 6 ∨ k = 7 ∨ k = 8 ∨ k = 9 ∨ k = 10 ∨ k = 11 ∨ k = 12 ∨ k = 13 ∨ k = 14 ∨ k = 15 ∨ k = 16 ∨ k = 17 ∨ k = 18 ∨ k = 19 ∨ k = 20 ∨ k = 21 ∨ k = 22 ∨ k = 23 ∨ k = 24 ∨ k = 25 := by omega
 rcases this with rfl | rfl | rfl | rfl | rfl | rfl | rfl | rfl | rfl | rfl | rfl | rfl | rfl | rfl | rfl | rfl | rfl | rfl | rfl | rfl | rfl | rfl | rfl | rfl | rfl | rfl <;> rfl
structure PointsOk (cap : Int) (l : List Point) : Prop where
 len : 2 ≤ l.length ∧ l.length ≤ 8
 first : ∀ p, l[0]? = some p → p.At = 0
 last : ∀ p, l[l.length - 1]? = some p → p.At = cap
 up : ∀ i p q, l[i]? = some p → l[i + 1]? = some q → p.At < q.At
 height : ∀ p, p ∈ l → -500 ≤ p.Height ∧ p.Height ≤ 5000
 limit : ∀ p, p ∈ l → 0 ≤ p.Limit ∧ p.Limit ≤ 100000000
structure SegOk (nodes k : Nat) (s : Segment) : Prop where
 name : s.Name = nm 103 k
 ends : 0 ≤ s.From ∧ s.From < (nodes : Int) ∧ 0 ≤ s.To ∧ s.To < (nodes : Int) ∧ s.From ≠ s.To
 cap : 1 ≤ s.Capacity ∧ s.Capacity ≤ 1000
 resist : 0 ≤ s.Resist ∧ s.Resist ≤ 1000
 wave : 0 ≤ s.Wave ∧ s.Wave ≤ 100000
 points : PointsOk s.Capacity s.Points
structure PortOk (nodes k : Nat) (p : Port) : Prop where
 name : p.Name = nm 113 k
 node : 0 ≤ p.Node ∧ p.Node < (nodes : Int)
 pressure : 0 ≤ p.Pressure ∧ p.Pressure ≤ 100000000
structure StOk (nodes k : Nat) (p : Station) : Prop where
 name : p.Name = nm 115 k
 node : 0 ≤ p.Node ∧ p.Node < (nodes : Int)
 head : 0 ≤ p.Head ∧ p.Head ≤ 2000000
 fall : 0 ≤ p.Fall ∧ p.Fall ≤ 100000
 suction : 0 ≤ p.Suction ∧ p.Suction ≤ 400000
structure NetOk (n : Network) : Prop where
 nodes : 2 ≤ n.Nodes.length ∧ n.Nodes.length ≤ 6
 names : ∀ k x, n.Nodes[k]? = some x → x = nm 110 k
 segs1 : n.Nodes.length - 1 ≤ n.Segments.length ∧ n.Segments.length ≤ 8
 segs : ∀ k s, n.Segments[k]? = some s → SegOk n.Nodes.length k s
 ports1 : 2 ≤ n.Ports.length ∧ n.Ports.length ≤ 6
 ports : ∀ k s, n.Ports[k]? = some s → PortOk n.Nodes.length k s
 portsUp : ∀ (i j : Nat) (p q : Port), i < j → n.Ports[i]? = some p → n.Ports[j]? = some q → p.Node < q.Node
 sts1 : n.Stations.length ≤ 6
 sts : ∀ k s, n.Stations[k]? = some s → StOk n.Nodes.length k s
 stsUp : ∀ (i j : Nat) (p q : Sn), i < j → n.Stations[i]? = some p → n.Stations[j]? = some q → p.Node < q.Node
 vapour : -100000 ≤ n.Vapour ∧ n.Vapour ≤ 50000
 settle : 0 ≤ n.Settle ∧ n.Settle ≤ 100
structure PInv (l : List Point) (at_ : Int) : Prop where
 len : 1 ≤ l.length
 first : ∀ p, l[0]? = some p → p.At = 0
 last : ∀ p, l[l.length - 1]? = some p → p.At = at_
 up : ∀ i p q, l[i]? = some p → l[i + 1]? = some q → p.At < q.At
 height : ∀ p, p ∈ l → -500 ≤ p.Height ∧ p.Height ≤ 5000
 limit : ∀ p, p ∈ l → 0 ≤ p.Limit ∧ p.Limit ≤ 100000000
theorem PInv.append {l : List Point} {at_ : Int} (h : PInv l at_) {p : Point} (h1 : at_ < p.At) (h2 : -500 ≤ p.Height ∧ p.Height ≤ 5000) (X : 0 ≤ p.Limit ∧ p.Limit ≤ 100000000) : PInv (l ++ [p]) p.At := by
 have hl := h.len
 refine ⟨by simp, fun q G => h.first q ?_, fun q G => ?_, fun i a b O M => ?_, fun q G => ?_, fun q G => ?_⟩
 ·rw [List.getElem?_append_left (by omega)] at G; exact G
 ·rw [List.getElem?_append_right (by simp)] at G; simp at G; rw [G]
 ·rw [List.getElem?_append] at O M
  split at M
  ·rw [if_pos (by omega)] at O; exact h.up i a b O M
  ·rename_i Z
   have W := (gs M).1
   simp at W
   have : i + 1 = l.length := by omega
   rw [if_pos (by omega)] at O
   have Y := h.last a (by rw [show l.length - 1 = i by omega]; exact O)
   simp [this] at M
   rw [← M]; omega
 ·rcases List.mem_append.1 G with G | G
  ·exact h.height q G
  ·simp at G; subst G; exact h2
 ·rcases List.mem_append.1 G with G | G
  ·exact h.limit q G
  ·simp at G; subst G; exact X
theorem PInv.done {l : List Point} {at_ : Int} (h : PInv l at_) (h1 : 2 ≤ l.length ∧ l.length ≤ 8) : PointsOk at_ l := ⟨h1, h.first, h.last, h.up, h.height, h.limit⟩
theorem E2 {n : Int} (h : 0 ≤ n) : ∃ k : Nat, n = (k : Int) := ⟨n.toNat, by omega⟩
theorem kN {s : Yg} (hs : SrcOk s) {nodes k : Nat} (hk : k < 26) {a b : Int} (ha : 0 ≤ a ∧ a < (nodes : Int)) (hb : 0 ≤ b ∧ b < (nodes : Int)) (am : a ≠ b) :
  Ok (Oa s (k : Int) a b) fun r => SegOk nodes k r.1 ∧ SrcOk r.2 := by
 have Y : ∀ (j : Li × Int × Int × Int), SrcOk ⟨j.1, j.2.1⟩ → 0 ≤ j.2.2.1 ∧ j.2.2.1 < (nodes : Int) → 0 ≤ j.2.2.2 ∧ j.2.2.2 < (nodes : Int) → j.2.2.1 ≠ j.2.2.2 →
   Ok (Oa.J1 (k : Int) j) fun r => SegOk nodes k r.1 ∧ SrcOk r.2 := by
  intro j hs h1 h2 h3
  unfold Oa.J1
  refine .bind' (.eq (Qg hk) ?_)
  refine .bind (C5 hs (by decide) (by decide)) fun M af => ?_
  refine .bind (C5 af.1 (by decide) (by decide)) fun r14 ag => ?_
  refine .bind (C5 ag.1 (by decide) (by decide)) fun r17 ah => ?_
  refine .bind (C5 ah.1 (by decide) (by decide)) fun ar al => ?_
  refine .bind (G5 al.1 (by decide) (by decide) (by decide)) fun r25 h25 => ?_
  have c11 := af.2; have c14 := ag.2; have c17 := ah.2; have c22 := al.2
  simp only [List.mem_cons, List.not_mem_nil, or_false] at c11 c14 c17 c22
  refine .bind' (.app (by simp) ?_)
  refine .bind (Q := fun d : Li × Int × List Point => SrcOk ⟨d.1, d.2.1⟩ ∧ ∃ at_, PInv d.2.2 at_ ∧ at_ < M.1 ∧ d.2.2.length ≤ 7) ?_ ?_
  ·refine .loop (fun G => SrcOk ⟨G.1, G.2.1⟩ ∧ PInv G.2.2.1 G.2.2.2 ∧ 0 ≤ G.2.2.2 ∧ G.2.2.2 < M.1 ∧ G.2.2.1.length ≤ 7) (fun G => 7 - G.2.2.1.length)
    ⟨h25.1, ⟨by simp, by simp, by simp, by simp, by simp; omega, by simp; omega⟩, by simp, by simp; omega, by simp⟩ (by dsimp only; omega) ?_
   rintro ⟨L_, At, ad, at_⟩ ⟨i1, i2, i3, i4, i5⟩
   dsimp only at i1 i2 i3 i4 i5 ⊢
   have j4 : ∀ (x : Li × Int × Bool), SrcOk ⟨x.1, x.2.1⟩ → (x.2.2 = true → ad.length < 7) → Ok (Oa.J4 M ar (L_, At, ad, at_) x) (Sum.elim (fun G => (SrcOk ⟨G.1, G.2.1⟩ ∧ PInv G.2.2.1 G.2.2.2 ∧ 0 ≤ G.2.2.2 ∧ G.2.2.2 < M.1 ∧ G.2.2.1.length ≤ 7) ∧ 7 - G.2.2.1.length < 7 - ad.length) fun d => SrcOk ⟨d.1, d.2.1⟩ ∧ ∃ at_, PInv d.2.2 at_ ∧ at_ < M.1 ∧ d.2.2.length ≤ 7) := by
    intro x hx hl
    unfold Oa.J4
    refine Ax (fun hb => ?_) fun _ => .pure ⟨hx, at_, i2, i4, i5⟩
    have hl := hl hb
    refine .bind (G5 hx (by decide) (by decide) (by decide)) fun r197 W => ?_
    dsimp only
    rw [Bc (by omega)]
    refine As (fun _ => .pure ⟨W.1, at_, i2, i4, i5⟩) fun ao => ?_
    refine .bind (G5 W.1 (by decide) (by decide) (by decide)) fun Z ai => ?_
    refine .bind (C5 ai.1 (by decide) (by decide)) fun ac X => ?_
    have O := X.2
    simp only [List.mem_cons, List.not_mem_nil, or_false] at O
    refine .bind (E8 X.1 (by decide) (by decide)) fun r206 aj => ?_
    refine .bind' (.app (by simp; omega) (.pure ⟨⟨aj.1, ?_, by dsimp only; omega, by dsimp only; omega, by simp; omega⟩, by simp; omega⟩))
    have hh : -50 ≤ Z.1 * ac.1 ∧ Z.1 * ac.1 ≤ 600 := by
     rcases O with h | h | h <;> rw [h] <;> omega
    refine i2.append ?_ ?_ ?_ <;> simp (disch := omega) only [Bc] <;> omega
   unfold Oa.B3
   refine As (fun h => ?_) fun h => ?_
   ·refine .bind (E8 i1 (by decide) (by decide)) fun r213 ak => j4 (_, _, _) ak.1 fun _ => by dsimp only at h; omega
   ·exact j4 (_, _, _) i1 (by simp)
  ·rintro ⟨dl, da, dp⟩ ⟨hd, at_, hp, ao, an⟩
   dsimp only at hd hp an
   unfold Oa.J2
   refine .bind (G5 hd (by decide) (by decide) (by decide)) fun aq ae => ?_
   have h1l := hp.len
   refine .bind' (.app (by simp; omega) (.pure ⟨⟨rfl, ⟨h1.1, h1.2, h2.1, h2.2, h3⟩, by dsimp only; omega, by dsimp only; omega, by dsimp only; omega, ?_⟩, ae.1⟩))
   exact (hp.append (p := ⟨M.1, aq.1, ar.1⟩) ao (by dsimp only; omega) (by dsimp only; omega)).done (by simp; omega)
 unfold Oa
 refine .bind (E8 hs (by decide) (by decide)) fun r hr => ?_
 exact Dl (fun _ => Y _ hr.1 hb ha (Ne.symm am)) fun _ => Y _ hr.1 ha hb am
theorem Nh {s : Li} {g : Int → Option Bool} {P : Int → Bool} (hg : ∀ (k : Nat) (x : Int), s[k]? = some x → g x = some (P x)) :
  Ok (Sk s g) fun r => (r = -1 ∧ ∀ (j : Nat) (y : Int), s[j]? = some y → P y = false) ∨ ∃ (k : Nat) (x : Int), r = (k : Int) ∧ s[k]? = some x ∧ P x = true ∧ ∀ (j : Nat) (y : Int), j < k → s[j]? = some y → P y = false := by
 unfold Sk
 refine .bind' (.forL (fun k _ => ∀ (j : Nat) (y : Int), j < k → s[j]? = some y → P y = false) (fun r => ∃ (k : Nat) (x : Int), r = (k : Int) ∧ s[k]? = some x ∧ P x = true ∧ ∀ (j : Nat) (y : Int), j < k → s[j]? = some y → P y = false) (fun j y h => absurd h (Nat.not_lt_zero _)) ?_ ?_ ?_)
 ·intro k x _ W M
  unfold Sk.B2
  refine .bind' (.eq (hg k x W) (Ax (fun O => .pure ⟨k, x, rfl, W, O, M⟩) fun O => .pure fun j y Y G => ?_))
  by_cases h : j < k
  ·exact M j y h G
  ·have : j = k := by omega
   subst this
   rw [W] at G; simp at G; subst G; exact O
 ·intro _ M
  simp only [Sum.elim_inl]
  unfold Sk.J1
  exact .pure (.inl ⟨rfl, fun j y G => M j y (gs G).1 G⟩)
 ·intro b X
  exact .pure (.inr X)
theorem Gm {s : Li} {g : Int → Option Bool} {P : Int → Bool} (hg : ∀ (k : Nat) (x : Int), s[k]? = some x → g x = some (P x)) :
  Nz s g = some (s.any P) := by
 have : Ok (Nz s g) fun r => r = s.any P := by
  unfold Nz
  refine .bind (Nh hg) fun r W => .pure ?_
  rcases W with ⟨rfl, h⟩ | ⟨k, x, rfl, G, O, _⟩
  ·have : s.any P = false := by
    rw [List.any_eq_false]
    intro x G
    obtain ⟨j, M⟩ := List.getElem?_of_mem G
    rw [h j x M]; simp
   rw [this]; rfl
  ·have : s.any P = true := List.any_eq_true.2 ⟨x, mg G, O⟩
   rw [this]; simp
 obtain ⟨r, h, rfl⟩ := this
 exact h
theorem Il {s : List Bt} {g : Bt → Option Bool} {P : Bt → Bool} (hg : ∀ (k : Nat) (x : Bt), s[k]? = some x → g x = some (P x)) :
  Ok (Ro s g) fun r => (r = -1 ∧ ∀ (j : Nat) (y : Bt), s[j]? = some y → P y = false) ∨ ∃ (k : Nat) (x : Bt), r = (k : Int) ∧ s[k]? = some x ∧ P x = true ∧ ∀ (j : Nat) (y : Bt), j < k → s[j]? = some y → P y = false := by
 unfold Ro
 refine .bind' (.forL (fun k _ => ∀ (j : Nat) (y : Bt), j < k → s[j]? = some y → P y = false) (fun r => ∃ (k : Nat) (x : Bt), r = (k : Int) ∧ s[k]? = some x ∧ P x = true ∧ ∀ (j : Nat) (y : Bt), j < k → s[j]? = some y → P y = false) (fun j y h => absurd h (Nat.not_lt_zero _)) ?_ ?_ ?_)
 ·intro k x _ W M
  unfold Ro.B2
  refine .bind' (.eq (hg k x W) (Ax (fun O => .pure ⟨k, x, rfl, W, O, M⟩) fun O => .pure fun j y Y G => ?_))
  by_cases h : j < k
  ·exact M j y h G
  ·have : j = k := by omega
   subst this
   rw [W] at G; simp at G; subst G; exact O
 ·intro _ M
  simp only [Sum.elim_inl]
  unfold Ro.J1
  exact .pure (.inl ⟨rfl, fun j y G => M j y (gs G).1 G⟩)
 ·intro b X
  exact .pure (.inr X)
theorem Hi {s : List Bt} {g : Bt → Option Bool} {P : Bt → Bool} (hg : ∀ (k : Nat) (x : Bt), s[k]? = some x → g x = some (P x)) :
  Rx s g = some (s.any P) := by
 have : Ok (Rx s g) fun r => r = s.any P := by
  unfold Rx
  refine .bind (Il hg) fun r W => .pure ?_
  rcases W with ⟨rfl, h⟩ | ⟨k, x, rfl, G, O, _⟩
  ·have : s.any P = false := by
    rw [List.any_eq_false]
    intro x G
    obtain ⟨j, M⟩ := List.getElem?_of_mem G
    rw [h j x M]; simp
   rw [this]; rfl
  ·have : s.any P = true := List.any_eq_true.2 ⟨x, mg G, O⟩
   rw [this]; simp
 obtain ⟨r, h, rfl⟩ := this
 exact h
theorem Fm {s : List Sg} {g : Sg → Option Bool} {P : Sg → Bool} (hg : ∀ (k : Nat) (x : Sg), s[k]? = some x → g x = some (P x)) :
  Ok (Sd s g) fun r => (r = -1 ∧ ∀ (j : Nat) (y : Sg), s[j]? = some y → P y = false) ∨ ∃ (k : Nat) (x : Sg), r = (k : Int) ∧ s[k]? = some x ∧ P x = true ∧ ∀ (j : Nat) (y : Sg), j < k → s[j]? = some y → P y = false := by
 unfold Sd
 refine .bind' (.forL (fun k _ => ∀ (j : Nat) (y : Sg), j < k → s[j]? = some y → P y = false) (fun r => ∃ (k : Nat) (x : Sg), r = (k : Int) ∧ s[k]? = some x ∧ P x = true ∧ ∀ (j : Nat) (y : Sg), j < k → s[j]? = some y → P y = false) (fun j y h => absurd h (Nat.not_lt_zero _)) ?_ ?_ ?_)
 ·intro k x _ W M
  unfold Sd.B2
  refine .bind' (.eq (hg k x W) (Ax (fun O => .pure ⟨k, x, rfl, W, O, M⟩) fun O => .pure fun j y Y G => ?_))
  by_cases h : j < k
  ·exact M j y h G
  ·have : j = k := by omega
   subst this
   rw [W] at G; simp at G; subst G; exact O
 ·intro _ M
  simp only [Sum.elim_inl]
  unfold Sd.J1
  exact .pure (.inl ⟨rfl, fun j y G => M j y (gs G).1 G⟩)
 ·intro b X
  exact .pure (.inr X)
theorem D8 {s : List Sg} {g : Sg → Option Bool} {P : Sg → Bool} (hg : ∀ (k : Nat) (x : Sg), s[k]? = some x → g x = some (P x)) :
  Nv s g = some (s.any P) := by
 have : Ok (Nv s g) fun r => r = s.any P := by
  unfold Nv
  refine .bind (Fm hg) fun r W => .pure ?_
  rcases W with ⟨rfl, h⟩ | ⟨k, x, rfl, G, O, _⟩
  ·have : s.any P = false := by
    rw [List.any_eq_false]
    intro x G
    obtain ⟨j, M⟩ := List.getElem?_of_mem G
    rw [h j x M]; simp
   rw [this]; rfl
  ·have : s.any P = true := List.any_eq_true.2 ⟨x, mg G, O⟩
   rw [this]; simp
 obtain ⟨r, h, rfl⟩ := this
 exact h
theorem Gv {s : List Port} {g : Port → Option Bool} {P : Port → Bool} (hg : ∀ (k : Nat) (x : Port), s[k]? = some x → g x = some (P x)) :
  Ok (Ru s g) fun r => (r = -1 ∧ ∀ (j : Nat) (y : Port), s[j]? = some y → P y = false) ∨ ∃ (k : Nat) (x : Port), r = (k : Int) ∧ s[k]? = some x ∧ P x = true ∧ ∀ (j : Nat) (y : Port), j < k → s[j]? = some y → P y = false := by
 unfold Ru
 refine .bind' (.forL (fun k _ => ∀ (j : Nat) (y : Port), j < k → s[j]? = some y → P y = false) (fun r => ∃ (k : Nat) (x : Port), r = (k : Int) ∧ s[k]? = some x ∧ P x = true ∧ ∀ (j : Nat) (y : Port), j < k → s[j]? = some y → P y = false) (fun j y h => absurd h (Nat.not_lt_zero _)) ?_ ?_ ?_)
 ·intro k x _ W M
  unfold Ru.B2
  refine .bind' (.eq (hg k x W) (Ax (fun O => .pure ⟨k, x, rfl, W, O, M⟩) fun O => .pure fun j y Y G => ?_))
  by_cases h : j < k
  ·exact M j y h G
  ·have : j = k := by omega
   subst this
   rw [W] at G; simp at G; subst G; exact O
 ·intro _ M
  simp only [Sum.elim_inl]
  unfold Ru.J1
  exact .pure (.inl ⟨rfl, fun j y G => M j y (gs G).1 G⟩)
 ·intro b X
  exact .pure (.inr X)
theorem Ga {s : List Port} {g : Port → Option Bool} {P : Port → Bool} (hg : ∀ (k : Nat) (x : Port), s[k]? = some x → g x = some (P x)) :
  R7 s g = some (s.any P) := by
 have : Ok (R7 s g) fun r => r = s.any P := by
  unfold R7
  refine .bind (Gv hg) fun r W => .pure ?_
  rcases W with ⟨rfl, h⟩ | ⟨k, x, rfl, G, O, _⟩
  ·have : s.any P = false := by
    rw [List.any_eq_false]
    intro x G
    obtain ⟨j, M⟩ := List.getElem?_of_mem G
    rw [h j x M]; simp
   rw [this]; rfl
  ·have : s.any P = true := List.any_eq_true.2 ⟨x, mg G, O⟩
   rw [this]; simp
 obtain ⟨r, h, rfl⟩ := this
 exact h
theorem Ed {s : List Sn} {g : Sn → Option Bool} {P : Sn → Bool} (hg : ∀ (k : Nat) (x : Sn), s[k]? = some x → g x = some (P x)) :
  Ok (Nt s g) fun r => (r = -1 ∧ ∀ (j : Nat) (y : Sn), s[j]? = some y → P y = false) ∨ ∃ (k : Nat) (x : Sn), r = (k : Int) ∧ s[k]? = some x ∧ P x = true ∧ ∀ (j : Nat) (y : Sn), j < k → s[j]? = some y → P y = false := by
 unfold Nt
 refine .bind' (.forL (fun k _ => ∀ (j : Nat) (y : Sn), j < k → s[j]? = some y → P y = false) (fun r => ∃ (k : Nat) (x : Sn), r = (k : Int) ∧ s[k]? = some x ∧ P x = true ∧ ∀ (j : Nat) (y : Sn), j < k → s[j]? = some y → P y = false) (fun j y h => absurd h (Nat.not_lt_zero _)) ?_ ?_ ?_)
 ·intro k x _ W M
  unfold Nt.B2
  refine .bind' (.eq (hg k x W) (Ax (fun O => .pure ⟨k, x, rfl, W, O, M⟩) fun O => .pure fun j y Y G => ?_))
  by_cases h : j < k
  ·exact M j y h G
  ·have : j = k := by omega
   subst this
   rw [W] at G; simp at G; subst G; exact O
 ·intro _ M
  simp only [Sum.elim_inl]
  unfold Nt.J1
  exact .pure (.inl ⟨rfl, fun j y G => M j y (gs G).1 G⟩)
 ·intro b X
  exact .pure (.inr X)
theorem E9 {s : List Sn} {g : Sn → Option Bool} {P : Sn → Bool} (hg : ∀ (k : Nat) (x : Sn), s[k]? = some x → g x = some (P x)) :
  Ri s g = some (s.any P) := by
 have : Ok (Ri s g) fun r => r = s.any P := by
  unfold Ri
  refine .bind (Ed hg) fun r W => .pure ?_
  rcases W with ⟨rfl, h⟩ | ⟨k, x, rfl, G, O, _⟩
  ·have : s.any P = false := by
    rw [List.any_eq_false]
    intro x G
    obtain ⟨j, M⟩ := List.getElem?_of_mem G
    rw [h j x M]; simp
   rw [this]; rfl
  ·have : s.any P = true := List.any_eq_true.2 ⟨x, mg G, O⟩
   rw [this]; simp
 obtain ⟨r, h, rfl⟩ := this
 exact h
theorem Kz {s : List Bt} {v : Bt} :
  Ok (Rm s v) fun r => (r = -1 ∧ ∀ (j : Nat) (y : Bt), s[j]? = some y → (Yf v y) = false) ∨ ∃ (k : Nat) (y : Bt), r = (k : Int) ∧ s[k]? = some y ∧ (Yf v y) = true ∧ ∀ (j : Nat) (y : Bt), j < k → s[j]? = some y → (Yf v y) = false := by
 unfold Rm
 refine .bind' (.forL (fun k _ => ∀ (j : Nat) (y : Bt), j < k → s[j]? = some y → (Yf v y) = false) (fun r => ∃ (k : Nat) (y : Bt), r = (k : Int) ∧ s[k]? = some y ∧ (Yf v y) = true ∧ ∀ (j : Nat) (y : Bt), j < k → s[j]? = some y → (Yf v y) = false) (fun j y h => absurd h (Nat.not_lt_zero _)) ?_ ?_ ?_)
 ·intro k x _ W M
  unfold Rm.B2
  refine Ax (fun O => .pure ⟨k, x, rfl, W, O, M⟩) fun O => .pure fun j y Y G => ?_
  by_cases h : j < k
  ·exact M j y h G
  ·have : j = k := by omega
   subst this
   rw [W] at G; simp at G; subst G; exact O
 ·intro _ M
  simp only [Sum.elim_inl]
  unfold Rm.J1
  exact .pure (.inl ⟨rfl, fun j y G => M j y (gs G).1 G⟩)
 ·intro b X
  exact .pure (.inr X)
end Go.Proofs.YtmaamhgjeampmaaGreat
namespace Go.Aw
set_option linter.unusedVariables false
set_option linter.defProp false
set_option linter.unusedSimpArgs false
theorem Ok.any {α B : Type} {f : Nat → α → Unit → Option (Unit ⊕ B)} {l : List α} {d : B} (P : Nat → α → Prop)
  (hf : ∀ (k : Nat) x, l[k]? = some x → Ok (f k x ()) fun o => (P k x ∧ o = .inr d) ∨ (¬ P k x ∧ o = .inl ())) :
  Ok (Aw.forL f 0 l ()) fun o => ((∃ (k : Nat) (x : α), l[k]? = some x ∧ P k x) ∧ o = .inr d) ∨ ((∀ (k : Nat) (x : α), l[k]? = some x → ¬ P k x) ∧ o = .inl ()) := by
 refine .forL (fun m _ => ∀ (k : Nat) (x : α), k < m → l[k]? = some x → ¬ P k x) (fun b => b = d ∧ ∃ (k : Nat) (x : α), l[k]? = some x ∧ P k x) (fun k x h => absurd h (Nat.not_lt_zero _)) ?_ ?_ ?_
 ·intro k x _ G W
  refine (hf k x G).mono ?_
  rintro o (⟨h, rfl⟩ | ⟨h, rfl⟩)
  ·exact ⟨rfl, k, x, G, h⟩
  ·intro j y X O
   by_cases M : j = k
   ·subst M; rw [G] at O; cases O; exact h
   ·exact W j y (by omega) O
 ·exact fun _ h => .inr ⟨fun k x G => h k x (gs G).1 G, rfl⟩
 ·rintro b ⟨rfl, h⟩; exact .inl ⟨h, rfl⟩
def wG := @Ok.any
theorem Kn {B : Type} {f : Nat → Unit → Option (Unit ⊕ B)} {n : Nat} {d : B} (P : Nat → Prop)
  (hf : ∀ (k : Nat), k < n → Ok (f k ()) fun o => (P k ∧ o = .inr d) ∨ (¬ P k ∧ o = .inl ())) :
  Ok (Aw.forI f 0 n ()) fun o => ((∃ k, k < n ∧ P k) ∧ o = .inr d) ∨ ((∀ k, k < n → ¬ P k) ∧ o = .inl ()) := by
 refine .forI (fun m _ => ∀ k, k < m → ¬ P k) (fun b => b = d ∧ ∃ k, k < n ∧ P k) (fun k h => absurd h (Nat.not_lt_zero _)) ?_ ?_ ?_
 ·intro k _ M O
  refine (hf k M).mono ?_
  rintro o (⟨h, rfl⟩ | ⟨h, rfl⟩)
  ·exact ⟨rfl, k, M, h⟩
  ·intro j W
   by_cases G : j = k
   ·subst G; exact h
   ·exact O j (by omega)
 ·exact fun _ h => .inr ⟨h, rfl⟩
 ·rintro b ⟨rfl, h⟩; exact .inl ⟨h, rfl⟩
theorem Ok.test {B : Type} {c : Bool} {d : B} {P : Prop} (h : c = true ↔ P) : Ok (if c = true then some (.inr d) else some (.inl ()) : Option (Unit ⊕ B)) fun o => (P ∧ o = .inr d) ∨ (¬ P ∧ o = .inl ()) := by
 by_cases G : c = true
 ·rw [if_pos G]; exact .pure (.inl ⟨h.1 G, rfl⟩)
 ·rw [if_neg G]; exact .pure (.inr ⟨fun M => G (h.2 M), rfl⟩)
theorem X1 {α B : Type} {l : List α} {k : Nat} {d : B} {f : Int → Option (Int ⊕ (B ⊕ Unit))} (P : α → Prop) (hk : k ≤ l.length) (hl : l.length ≤ 1000000)
  (hf : ∀ (i : Nat) (y : α), i < k → l[i]? = some y → Ok (f (i : Int)) fun o => (P y ∧ o = .inr (.inl d)) ∨ (¬ P y ∧ o = .inl (wr ((i : Int) + 1)))) (he : f (k : Int) = some (.inr (.inr ()))) :
  Ok (Bx f C0 0) fun o => ((∃ (j : Nat) (y : α), j < k ∧ l[j]? = some y ∧ P y) ∧ o = .inl d) ∨ ((¬ ∃ (j : Nat) (y : α), j < k ∧ l[j]? = some y ∧ P y) ∧ o = .inr ()) := by
 refine .loop (fun i : Int => 0 ≤ i ∧ i ≤ (k : Int) ∧ ∀ (j : Nat) (y : α), (j : Int) < i → l[j]? = some y → ¬ P y) (fun i => k - i.toNat) ⟨by omega, by omega, fun j y h => by omega⟩ (by omega) ?_
 rintro i ⟨i0, i1, X⟩
 obtain ⟨i, rfl⟩ : ∃ m : Nat, i = (m : Int) := ⟨i.toNat, by omega⟩
 by_cases O : i = k
 ·subst O
  rw [he]
  exact .pure (.inr ⟨fun ⟨j, y, Y, M, Z⟩ => X j y (by omega) M Z, rfl⟩)
 have M : l[i]? = some (l[i]'(by omega)) := gq _
 refine (hf i _ (by omega) M).mono ?_
 rintro o (⟨h, rfl⟩ | ⟨h, rfl⟩)
 ·exact .inl ⟨⟨i, _, by omega, M, h⟩, rfl⟩
 ·simp only [Sum.elim_inl]
  rw [Bc (by omega)]
  refine ⟨⟨by omega, by omega, fun j y Y G => ?_⟩, by omega⟩
  by_cases W : j = i
  ·subst W; rw [M] at G; cases G; exact h
  ·exact X j y (by omega) G
theorem Xw {α β : Type} {l : List α} {st : List β} {g : α → List β} {f : Nat → α → List β → Option (List β)} (hf : ∀ k x st, f k x st = (Cp st (g x)).bind fun y => some y) (hg : ∀ x, (g x).length ≤ 2) (hl : l.length ≤ 1000) (O : st.length ≤ 1000000) :
  Ok (Aw.forS f 0 l st) fun r => r = st ++ l.flatMap g ∧ r.length ≤ st.length + 2000 := by
 refine .forS (fun k r => r = st ++ (l.take k).flatMap g ∧ r.length ≤ st.length + 2 * k) (by simp) ?_ fun r h => ⟨by rw [h.1]; simp, by omega⟩
 rintro k x r G ⟨rfl, h⟩
 rw [hf]
 have M := (gs G).1
 have := hg x
 refine .bind' (.app (by omega) (.pure ⟨?_, by rw [List.length_append]; omega⟩))
 rw [List.take_add_one, G]; simp
theorem Dk {α : Type} {c : Bool} {Q : Prop} {x y : Option α} {P : α → Prop} (h : c = true ↔ Q) (h1 : Q → Ok x P) (h2 : ¬ Q → Ok y P) : Ok (if c = true then x else y) P :=
 tD (fun G => h1 (h.1 G)) fun G => h2 fun M => G (h.2 M)
end Go.Aw
namespace Go.Proofs.YtmaamhgjeampmaaGreat
set_option linter.unusedVariables false
set_option linter.defProp false
set_option linter.unusedSimpArgs false
open Go.Aw
theorem Kh {α β : Type} {l : List α} {g : α → β} {f : Nat → α → List β → Option (List β)} (hf : ∀ k x st, f k x st = (Cp st [g x]).bind fun y => some y) (hl : l.length ≤ 1000) :
  Ok (forS f 0 l []) fun r => r = l.map g := by
 refine .forS (fun k st => st = (l.take k).map g) (by simp) ?_ fun st h => by rw [h]; simp
 rintro k x st G rfl
 rw [hf]
 have M := (gs G).1
 refine .bind' (.app (by simp; omega) (.pure ?_))
 rw [List.take_add_one, G]
 simp
theorem Zc {n : Nw} (h1 : n.Segments.length ≤ 1000) (h2 : n.Ports.length ≤ 1000) (G : n.Stations.length ≤ 1000) :
  Ok (Ox n) fun r => r.l = [n.Nodes, n.Segments.map (·.Name), n.Ports.map (·.Name), n.Stations.map (·.Name)] := by
 unfold Ox
 refine .bind (Kh (g := (·.Name)) (fun _ _ _ => rfl) h1) ?_
 rintro _ rfl
 unfold Ox.J1
 refine .bind (Kh (g := (·.Name)) (fun _ _ _ => rfl) h2) ?_
 rintro _ rfl
 unfold Ox.J2
 refine .bind (Kh (g := (·.Name)) (fun _ _ _ => rfl) G) ?_
 rintro _ rfl
 unfold Ox.J3
 exact .pure rfl
theorem lX (a : Bt) : Yf a a = true := by simp [Yf]
def jO (n : Nw) : List (List Bt) := [n.Nodes, n.Segments.map (·.Name), n.Ports.map (·.Name), n.Stations.map (·.Name)]
def Ud (s : Sg) : Prop := 2 ≤ s.Points.length ∧ s.Points.length ≤ 8
def Lim (n : Nw) : Prop := (1 ≤ n.Nodes.length ∧ n.Nodes.length ≤ 24 ∧ n.Segments.length ≤ 32 ∧ n.Ports.length ≤ 24 ∧ n.Stations.length ≤ 12) ∧ ∀ (k : Nat) (s : Sg), n.Segments[k]? = some s → Ud s
def low (c : Int) : Prop := 97 ≤ c ∧ c ≤ 122
def ch (x : Bt) (k : Nat) : Int := ((x.data.getD k 0).toNat : Int)
def L3 (x : Bt) : Prop := (1 ≤ x.size ∧ x.size ≤ 12 ∧ low (ch x 0)) ∧ ∀ k, k < x.size → low (ch x k) ∨ (48 ≤ ch x k ∧ ch x k ≤ 57) ∨ ch x k = 45
def bB (l : List Bt) : Prop := ∃ (k : Nat) (x : Bt), l[k]? = some x ∧ ¬ L3 x
def Jv (n : Nw) : Prop := ∃ k, k < 4 ∧ ∃ l, (jO n)[k]? = some l ∧ bB l
def kG (l : List Bt) (k : Nat) (x : Bt) : Prop := ∃ (j : Nat) (y : Bt), j < k ∧ l[j]? = some y ∧ x.toList = y.toList
def tP (l : List Bt) : Prop := ∃ (k : Nat) (x : Bt), l[k]? = some x ∧ kG l k x
def bA (l : List Sn) (k : Nat) (x : Sn) : Prop := ∃ (j : Nat) (y : Sn), j < k ∧ l[j]? = some y ∧ x.Node = y.Node
def Rb (n : Nw) : Prop := ∃ k, k < 4 ∧ ∃ l, (jO n)[k]? = some l ∧ tP l
def Ra (n : Nw) : Prop := ∃ (k : Nat) (x : Sn), n.Stations[k]? = some x ∧ bA n.Stations k x
def At (n : Nw) (k : Int) : Prop := 0 ≤ k ∧ k < (n.Nodes.length : Int)
def Qu (n : Nw) : Prop := (∀ (k : Nat) (s : Sg), n.Segments[k]? = some s → At n s.From ∧ At n s.To) ∧ (∀ (k : Nat) (s : Port), n.Ports[k]? = some s → At n s.Node) ∧ ∀ (k : Nat) (s : Sn), n.Stations[k]? = some s → At n s.Node
def kE (p : Point) : Prop := (-500 ≤ p.Height ∧ p.Height ≤ 5000) ∧ 0 ≤ p.Limit ∧ p.Limit ≤ 100000000
def Lb (s : Sg) (k : Nat) (p : Point) : Prop := ¬ kE p ∨ ∃ q, 0 < k ∧ s.Points[k - 1]? = some q ∧ p.At ≤ q.At
structure PipeOk (s : Segment) : Prop where
 ends : s.From ≠ s.To
 cap : 1 ≤ s.Capacity ∧ s.Capacity ≤ 1000000
 resist : 0 ≤ s.Resist ∧ s.Resist ≤ 1000
 wave : 0 ≤ s.Wave ∧ s.Wave ≤ 100000
 first : ∀ p, s.Points[0]? = some p → p.At = 0
 last : ∀ p, s.Points[s.Points.length - 1]? = some p → p.At = s.Capacity
 pts : ∀ (k : Nat) (p : Point), s.Points[k]? = some p → ¬ Lb s k p
structure StnOk (s : Station) : Prop where
 head : 0 ≤ s.Head ∧ s.Head ≤ 100000000
 fall : 0 ≤ s.Fall ∧ s.Fall ≤ 100000
 suction : 0 ≤ s.Suction ∧ s.Suction ≤ 100000000
structure Proper (n : Network) : Prop where
 segs : ∀ (k : Nat) (s : Sg), n.Segments[k]? = some s → PipeOk s
 ports : ∀ (k : Nat) (s : Port), n.Ports[k]? = some s → 0 ≤ s.Pressure ∧ s.Pressure ≤ 100000000
 sts : ∀ (k : Nat) (s : Sn), n.Stations[k]? = some s → StnOk s
 vapour : -100000 ≤ n.Vapour ∧ n.Vapour ≤ 100000000
 settle : 0 ≤ n.Settle ∧ n.Settle ≤ 100
def NetRes (n : Nw) (r : Int) : Prop := (¬ Lim n ∧ r = 4) ∨ (Lim n ∧ ((Jv n ∧ r = 3) ∨ (¬ Jv n ∧ (((Rb n ∨ Ra n) ∧ r = 7) ∨ (¬ (Rb n ∨ Ra n) ∧ ((¬ Qu n ∧ r = 8) ∨ (Qu n ∧ ((¬ Proper n ∧ r = 9) ∨ (Proper n ∧ r = 0)))))))))
theorem NetRes.uniq {n : Nw} {r r' : Int} (h : NetRes n r) (G : NetRes n r') : r = r' := by
 unfold NetRes at h G
 rcases h with ⟨a, rfl⟩ | ⟨a, ⟨b, rfl⟩ | ⟨b, ⟨c, rfl⟩ | ⟨c, ⟨d, rfl⟩ | ⟨d, ⟨e, rfl⟩ | ⟨e, rfl⟩⟩⟩⟩⟩ <;>
  rcases G with ⟨M, rfl⟩ | ⟨M, ⟨O, rfl⟩ | ⟨O, ⟨W, rfl⟩ | ⟨W, ⟨X, rfl⟩ | ⟨X, ⟨Y, rfl⟩ | ⟨Y, rfl⟩⟩⟩⟩⟩ <;> first | rfl | contradiction
structure Sane (n : Network) : Prop where
 nodes : n.Nodes.length ≤ 1000
 segs : n.Segments.length ≤ 1000
 ports : n.Ports.length ≤ 1000
 sts : n.Stations.length ≤ 1000
 pts : ∀ (k : Nat) (s : Sg), n.Segments[k]? = some s → s.Points.length ≤ 1000
theorem Mi {a b : Bt} : Yf a b = true ↔ a.toList = b.toList := by simp [Yf]
theorem Qi {x : Bt} {k : Nat} (h : k < x.size) : qO x (k : Int) = some (k, ch x k) := by
 unfold qO ch; rw [if_pos ⟨by omega, by omega⟩]; simp
theorem qK {c : Bool} {P : Prop} (h : c = true ↔ P) : (c = true ∧ P) ∨ (c = false ∧ ¬ P) := by
 cases c
 ·exact .inr ⟨rfl, fun G => by cases h.2 G⟩
 ·exact .inl ⟨rfl, h.1 rfl⟩
theorem Mx {x : Bt} : Ok (Ix x) fun r => r = true ↔ L3 x := by
 have W : ¬ (1 ≤ x.size ∧ x.size ≤ 12 ∧ low (ch x 0)) → Ok (Ix.J1 x true) fun r => r = true ↔ L3 x := fun h => by
  unfold Ix.J1
  exact .pure ⟨fun h => (by cases h), fun O => absurd O.1 h⟩
 unfold Ix
 refine As (fun h => W (by omega)) fun X => As (fun h => W (by omega)) fun Y => ?_
 refine .bind' (.eq (Qi (k := 0) (by omega)) ?_)
 have e : (Jo (ch x 0) != 1) = true ↔ ¬ low (ch x 0) := by
  unfold Jo Jo.J1 low
  by_cases a : (decide (ch x 0 ≥ 97) && decide (ch x 0 ≤ 122)) = true
  ·rw [if_pos a]; simp at a ⊢; omega
  ·rw [if_neg a]
   simp at a
   refine ⟨fun _ => by omega, fun _ => ?_⟩
   split <;> (try split) <;> rfl
 rcases qK e with ⟨e, G⟩ | ⟨e, G⟩
 ·dsimp only; rw [e]; exact W (fun h => G h.2.2)
 dsimp only
 rw [e]
 unfold Ix.J1
 refine Ax (fun h => by cases h) fun _ => .bind' (.chk (by omega) ?_)
 refine .bind (Kn (d := false) (P := fun k => ¬ (low (ch x k) ∨ (48 ≤ ch x k ∧ ch x k ≤ 57) ∨ ch x k = 45)) fun k M => ?_) ?_
 ·unfold Ix.B3
  refine .bind' (.eq (Qi (by simpa using M)) (.test ?_))
  dsimp only
  unfold Jo Jo.J1 low
  split
  ·rename_i h; simp at h ⊢; omega
  ·split
   ·rename_i h; simp at h ⊢; omega
   ·split
    ·rename_i h; simp at h ⊢; omega
    ·rename_i X Y G; simp at X Y G ⊢; omega
 ·rintro _ (⟨⟨k, M, h⟩, rfl⟩ | ⟨h, rfl⟩)
  ·exact .pure ⟨fun h => (by cases h), fun O => absurd (O.2 k (by simpa using M)) h⟩
  ·refine .pure ⟨fun _ => ⟨⟨by omega, by omega, Classical.not_not.1 G⟩, fun k M => Classical.not_not.1 (h k (by simpa using M))⟩, fun _ => rfl⟩
theorem bH {k0 : Nat} {l : List Bt} : Ok (forL (Rg.B6 (k0, l)) 0 l ()) fun o => (tP l ∧ o = .inr true) ∨ (¬ tP l ∧ o = .inl ()) := by
 refine (Ok.any (d := true) (P := kG l) fun k x O => ?_).mono fun o h => h.imp (fun h => h) fun h => ⟨fun ⟨k, x, O, X⟩ => h.1 k x O X, h.2⟩
 unfold Rg.B6
 refine .bind Kz fun r hr => .test ?_
 rcases hr with ⟨rfl, h⟩ | ⟨j, y, rfl, Z, Y, M⟩
 ·have := h k x O
  rw [lX] at this; cases this
 ·simp only [decide_eq_true_eq]
  refine ⟨fun h => ⟨j, y, by omega, Z, Mi.1 Y⟩, fun ⟨i, z, hi, hz, W⟩ => ?_⟩
  by_cases G : i < j
  ·have := M i z G hz
   rw [Mi.2 W] at this; cases this
  ·omega
theorem cQ {n : Nw} {l : List (List Bt)} (h : l = jO n) {k : Nat} (G : k < 4) : ∃ x, l[k]? = some x ∧ (jO n)[k]? = some x := by
 subst h
 exact ⟨(jO n)[k]'G, gq _, gq _⟩
theorem lP {n : Nw} (Y : Sane n) : Ok (Rg n) fun r => r = true ↔ (Rb n ∨ Ra n) := by
 unfold Rg
 refine .bind (Zc Y.segs Y.ports Y.sts) fun r Z => .bind (Kn (d := true) (P := fun k => ∃ l, (jO n)[k]? = some l ∧ tP l) fun k W => ?_) ?_
 ·obtain ⟨l, h1, G⟩ := cQ Z W
  unfold Rg.B4
  refine .bind' (.eq (A0 h1) (.bind bH ?_))
  rintro _ (⟨h, rfl⟩ | ⟨h, rfl⟩)
  ·exact .pure (.inl ⟨⟨l, G, h⟩, rfl⟩)
  ·refine .pure (.inr ⟨fun ⟨m, h3, h4⟩ => ?_, rfl⟩)
   rw [G] at h3; cases h3; exact h h4
 rintro _ (⟨h, rfl⟩ | ⟨h, rfl⟩)
 ·exact .pure ⟨fun _ => .inl h, fun _ => rfl⟩
 unfold Rg.J1
 refine .bind (Ok.any (d := true) (P := bA n.Stations) fun k x hx => ?_) ?_
 ·unfold Rg.B3
  refine .bind (Ed (P := fun y => Jm y x) fun _ _ _ => rfl) fun r Z => .test ?_
  rcases Z with ⟨rfl, h⟩ | ⟨j, y, rfl, hj, he, X⟩
  ·have := h k x hx
   simp [Jm] at this
  ·simp only [decide_eq_true_eq]
   refine ⟨fun h => ⟨j, y, by omega, hj, by simp [Jm] at he; exact he.symm⟩, fun ⟨i, z, hi, hz, hxz⟩ => ?_⟩
   by_cases O : i < j
   ·have := X i z O hz
    simp [Jm, hxz] at this
   ·omega
 ·rintro _ (⟨M, rfl⟩ | ⟨M, rfl⟩)
  ·exact .pure ⟨fun _ => .inr M, fun _ => rfl⟩
  ·refine .pure ⟨fun h => (by cases h), fun G => ?_⟩
   rcases G with ⟨k, W, G⟩ | ⟨k, x, hx, hd⟩
   ·exact absurd G (h k W)
   ·exact absurd hd (M k x hx)
theorem mF {n : Nw} (W : Sane n) : Ok (Sb n) fun r => r = true ↔ Qu n := by
 unfold Sb
 refine .bind (Xw (g := fun s : Sg => [s.From, s.To]) (fun _ _ _ => rfl) (fun _ => by simp) W.segs (by simp)) ?_
 rintro l1 ⟨X, M⟩
 unfold Sb.J1
 refine .bind (Xw (g := fun s : Port => [s.Node]) (fun _ _ _ => rfl) (fun _ => by simp) W.ports (by simp at M; omega)) ?_
 rintro l2 ⟨Y, ac⟩
 unfold Sb.J2
 refine .bind (Xw (g := fun s : Sn => [s.Node]) (fun _ _ _ => rfl) (fun _ => by simp) W.sts (by simp at M; omega)) ?_
 rintro l3 ⟨Z, -⟩
 subst Z Y X
 unfold Sb.J3
 refine .bind' (.eq (Gm (P := fun x => Ln x n) fun _ _ _ => rfl) (.pure ?_))
 have e : ∀ x, Ln x n = false ↔ At n x := fun x => by unfold At; simp [Ln]
 rw [Bool.not_eq_true', List.any_eq_false]
 simp only [List.nil_append, List.mem_append, List.mem_flatMap, List.mem_cons, List.not_mem_nil, or_false, Bool.not_eq_true, e]
 refine ⟨fun h => ⟨fun k s G => ⟨h _ (.inl (.inl ⟨s, mg G, .inl rfl⟩)), h _ (.inl (.inl ⟨s, mg G, .inr rfl⟩))⟩, fun k s G => h _ (.inl (.inr ⟨s, mg G, rfl⟩)), fun k s G => h _ (.inr ⟨s, mg G, rfl⟩)⟩, fun h x hx => ?_⟩
 rcases hx with (⟨s, G, rfl | rfl⟩ | ⟨s, G, rfl⟩) | ⟨s, G, rfl⟩ <;> obtain ⟨k, O⟩ := List.getElem?_of_mem G
 ·exact (h.1 k s O).1
 ·exact (h.1 k s O).2
 ·exact h.2.1 k s O
 ·exact h.2.2 k s O
theorem aV {a b c : Int} : Dp a b c = true ↔ b ≤ a ∧ a ≤ c := by simp [Dp]
theorem Ml {a b c : Int} : (!(Dp a b c)) = true ↔ ¬ (b ≤ a ∧ a ≤ c) := by rw [← aV]; simp
theorem dB {s : Sg} (X : s.Points.length ≤ 1000) {k : Nat} {p : Point} (M : s.Points[k]? = some p) (O : 0 < k) : ∃ q, s.Points[k - 1]? = some q ∧ ix s.Points (wr ((k : Int) - 1)) = some (k - 1, q) := by
 have W := (gs M).1
 have G : s.Points[k - 1]? = some (s.Points[k - 1]'(by omega)) := gq _
 refine ⟨_, G, ?_⟩
 rw [Bc (by omega), show ((k : Int) - 1) = ((k - 1 : Nat) : Int) by omega]
 exact A0 G
theorem dR {s : Sg} {k : Nat} {p q : Point} (h : kE p) (W : 0 < k) (O : s.Points[k - 1]? = some q) : Lb s k p ↔ p.At ≤ q.At := by
 refine ⟨fun G => ?_, fun G => .inr ⟨q, W, O, G⟩⟩
 rcases G with G | ⟨X, _, M, G⟩
 ·exact absurd h G
 ·rw [O] at M; cases M; exact G
theorem dP {s : Sg} (h2 : 2 ≤ s.Points.length ∧ s.Points.length ≤ 1000) : ∃ p q, s.Points[0]? = some p ∧ s.Points[s.Points.length - 1]? = some q ∧ ix s.Points 0 = some (0, p) ∧ ix s.Points (wr ((s.Points.length : Int) - 1)) = some (s.Points.length - 1, q) := by
 have G : s.Points[0]? = some (s.Points[0]'(by omega)) := gq _
 have M : s.Points[s.Points.length - 1]? = some (s.Points[s.Points.length - 1]'(by omega)) := gq _
 refine ⟨_, _, G, M, A0 G, ?_⟩
 rw [Bc (by omega), show ((s.Points.length : Int) - 1) = ((s.Points.length - 1 : Nat) : Int) by omega]
 exact A0 M
theorem dD {s : Sg} (h2 : 2 ≤ s.Points.length ∧ s.Points.length ≤ 1000) : Ok (L0 s) fun r => r = true ↔ PipeOk s := by
 obtain ⟨p0, pl, Y, Z, i0, il⟩ := dP h2
 unfold L0
 refine Dk (Q := ¬ (s.From ≠ s.To ∧ (1 ≤ s.Capacity ∧ s.Capacity ≤ 1000000) ∧ (0 ≤ s.Resist ∧ s.Resist ≤ 1000) ∧ 0 ≤ s.Wave ∧ s.Wave ≤ 100000)) ?_ (fun h => .pure ⟨fun h => (by cases h), fun G => absurd ⟨G.ends, G.cap, G.resist, G.wave⟩ h⟩) fun h => ?_
 ·simp only [Bool.or_eq_true, Ml, beq_iff_eq]; omega
 obtain ⟨a1, a2, a3, a4⟩ := Classical.not_not.1 h
 refine .bind (Ok.any (d := false) (P := Lb s) fun k p G => ?_) ?_
 ·have X : ∀ b : Bool, (b = true ↔ Lb s k p) → Ok (L0.J4 b) fun o => (Lb s k p ∧ o = .inr false) ∨ (¬ Lb s k p ∧ o = .inl ()) := fun b h => by unfold L0.J4; exact .test h
  unfold L0.B3
  refine Dk Ml (fun h => X _ ⟨fun _ => .inl fun M => h M.1, fun _ => rfl⟩) fun h1 => Dk Ml (fun h => X _ ⟨fun _ => .inl fun M => h M.2, fun _ => rfl⟩) fun h3 => ?_
  have M : kE p := ⟨Classical.not_not.1 h1, Classical.not_not.1 h3⟩
  refine As (fun O => ?_) fun O => X _ ⟨fun h => (by cases h), fun W => ?_⟩
  ·obtain ⟨q, hq, hi⟩ := dB h2.2 G (by omega)
   exact .bind' (.eq hi (X _ (by rw [dR M (by omega) hq]; simp)))
  ·rcases W with W | ⟨q, hk, _⟩
   ·exact absurd M W
   ·omega
 ·rintro _ (⟨⟨k, p, G, W⟩, rfl⟩ | ⟨h, rfl⟩)
  ·exact .pure ⟨fun h => (by cases h), fun h => absurd W (h.pts k p G)⟩
  ·simp only [Sum.elim_inl]
   unfold L0.J1 L0.J2
   rw [i0, il]
   refine .bind' (.pure (Dk (Q := p0.At = 0) (by simp) (fun O => .bind' (.pure (.pure ?_))) fun O => .pure ⟨fun h => (by cases h), fun h => absurd (h.first _ Y) O⟩))
   dsimp only
   rw [beq_iff_eq]
   refine ⟨fun hl => ⟨a1, a2, a3, a4, fun p G => ?_, fun p G => ?_, h⟩, fun G => G.last _ Z⟩
   ·rw [Y] at G; cases G; exact O
   ·rw [Z] at G; cases G; exact hl
theorem Kl {α : Type} {l : List α} {P : α → Bool} {Q : α → Prop} (h : ∀ (k : Nat) (x : α), l[k]? = some x → (P x = true ↔ Q x)) : l.any P = true ↔ ∃ (k : Nat) (x : α), l[k]? = some x ∧ Q x := by
 rw [List.any_eq_true]
 refine ⟨fun ⟨x, G, O⟩ => ?_, fun ⟨k, x, G, W⟩ => ⟨x, mg G, (h k x G).2 W⟩⟩
 obtain ⟨k, M⟩ := List.getElem?_of_mem G
 exact ⟨k, x, M, (h k x M).1 O⟩
theorem Lim.pts {n : Nw} (hl : Lim n) {k : Nat} {s : Sg} (G : n.Segments[k]? = some s) : 2 ≤ s.Points.length ∧ s.Points.length ≤ 1000 := by
 have := hl.2 k s G; unfold Ud at this; omega
theorem sP {n : Nw} : Ok (Rw n) fun r => r = true ↔ Lim n := by
 unfold Rw
 refine Dk (Q := ¬ (1 ≤ n.Nodes.length ∧ n.Nodes.length ≤ 24 ∧ n.Segments.length ≤ 32 ∧ n.Ports.length ≤ 24 ∧ n.Stations.length ≤ 12)) (by simp; omega) (fun h => .pure ⟨fun h => (by cases h), fun G => absurd G.1 h⟩) fun h => ?_
 refine .bind' (.eq (D8 (P := fun x => Lm x) fun _ _ _ => rfl) (.pure ?_))
 have e := Kl (l := n.Segments) (P := fun x => Lm x) (Q := fun s => ¬ Ud s) fun k s _ => by simp [Lm, Ud]; omega
 rw [Bool.not_eq_true', ← Bool.not_eq_true, e]
 exact ⟨fun W => ⟨Classical.not_not.1 h, fun k s O => Classical.not_not.1 fun M => W ⟨k, s, O, M⟩⟩, fun G ⟨k, s, O, M⟩ => M (G.2 k s O)⟩
theorem eO {n : Nw} (hl : Lim n) : Ok (Xp n) fun r => r = true ↔ Proper n := by
 unfold Xp
 refine .bind' (.eq (D8 (P := fun s => !((L0 s).getD false)) fun k s G => ?_) ?_)
 ·obtain ⟨b, O, _⟩ := dD (hl.pts G)
  unfold Wx
  rw [O]; rfl
 have W := Kl (l := n.Segments) (P := fun s => !((L0 s).getD false)) (Q := fun s => ¬ PipeOk s) fun k s G => by
  obtain ⟨b, O, he⟩ := dD (hl.pts G)
  rw [O, ← he]; simp
 refine Dk W (fun ⟨k, s, G, M⟩ => .pure ⟨fun h => (by cases h), fun h => absurd (h.segs k s G) M⟩) fun Z => ?_
 refine .bind' (.eq (Ga (P := fun x => Lo x) fun _ _ _ => rfl) ?_)
 have X := Kl (l := n.Ports) (P := fun x => Lo x) (Q := fun s => ¬ (0 ≤ s.Pressure ∧ s.Pressure ≤ 100000000)) fun k s G => by unfold Lo; exact Ml
 refine Dk X (fun ⟨k, s, G, M⟩ => .pure ⟨fun h => (by cases h), fun h => absurd (h.ports k s G) M⟩) fun h2 => ?_
 refine .bind' (.eq (E9 (P := fun x => Lz x) fun _ _ _ => rfl) ?_)
 have Y := Kl (l := n.Stations) (P := fun x => Lz x) (Q := fun s => ¬ StnOk s) fun k s G => by
  unfold Lz
  simp only [Bool.or_eq_true, Ml]
  exact ⟨fun h G => h.elim (fun h => h G.head) fun h => h.elim (fun h => h G.fall) fun h => h G.suction, fun h => Classical.byContradiction fun hn => h ⟨by omega, by omega, by omega⟩⟩
 refine Dk Y (fun ⟨k, s, G, M⟩ => .pure ⟨fun h => (by cases h), fun h => absurd (h.sts k s G) M⟩) fun h3 => .pure ?_
 rw [Bool.and_eq_true, aV, aV]
 exact ⟨fun h => ⟨fun k s G => Classical.not_not.1 fun M => Z ⟨k, s, G, M⟩, fun k s G => Classical.not_not.1 fun M => h2 ⟨k, s, G, M⟩, fun k s G => Classical.not_not.1 fun M => h3 ⟨k, s, G, M⟩, h.1, h.2⟩, fun h => ⟨h.vapour, h.settle⟩⟩
theorem kU {n : Nw} (O : Sane n) : Ok (En n) (NetRes n) := by
 unfold En
 refine .bind sP fun r1 h1 => Dk (Q := ¬ Lim n) (by rw [← h1]; simp) (fun h => .pure (.inl ⟨h, rfl⟩)) fun Y => ?_
 have M := Classical.not_not.1 Y
 refine .bind (Zc O.segs O.ports O.sts) fun r hr => .bind (Kn (d := 3) (P := fun k => ∃ l, (jO n)[k]? = some l ∧ bB l) fun k G => ?_) ?_
 ·obtain ⟨l, g1, g2⟩ := cQ hr G
  unfold En.B2
  refine .bind' (.eq (A0 g1) (.bind' (.eq (Hi (P := fun x => !((Ix x).getD false)) fun j x hx => ?_) (.test ?_))))
  ·obtain ⟨b, X, _⟩ := Mx (x := x)
   unfold Xf
   rw [X]; rfl
  ·rw [Kl (Q := fun x => ¬ L3 x) fun j x hx => by obtain ⟨b, X, he⟩ := Mx (x := x); rw [X, ← he]; simp]
   exact ⟨fun h => ⟨l, g2, h⟩, fun ⟨m, g3, h⟩ => by rw [g2] at g3; cases g3; exact h⟩
 rintro _ (⟨h, rfl⟩ | ⟨h, rfl⟩)
 ·exact .pure (.inr ⟨M, .inl ⟨h, rfl⟩⟩)
 have W : ¬ Jv n := fun ⟨k, G, h'⟩ => h k G h'
 simp only [Sum.elim_inl]
 unfold En.J1
 refine .bind (lP O) fun r2 h2 => Dk h2 (fun h => .pure (.inr ⟨M, .inr ⟨W, .inl ⟨h, rfl⟩⟩⟩)) fun Z => ?_
 refine .bind (mF O) fun r3 h3 => Dk (Q := ¬ Qu n) (by rw [← h3]; simp) (fun h => .pure (.inr ⟨M, .inr ⟨W, .inr ⟨Z, .inl ⟨h, rfl⟩⟩⟩⟩)) fun G => ?_
 have G := Classical.not_not.1 G
 refine .bind (eO M) fun r4 h4 => Dk (Q := ¬ Proper n) (by rw [← h4]; simp) (fun h => .pure (.inr ⟨M, .inr ⟨W, .inr ⟨Z, .inr ⟨G, .inl ⟨h, rfl⟩⟩⟩⟩⟩)) fun hp => ?_
 exact .pure (.inr ⟨M, .inr ⟨W, .inr ⟨Z, .inr ⟨G, .inr ⟨Classical.not_not.1 hp, rfl⟩⟩⟩⟩⟩)
theorem NetRes.good {n : Nw} (h : NetRes n 0) : Lim n ∧ ¬ Jv n ∧ ¬ (Rb n ∨ Ra n) ∧ Qu n ∧ Proper n := by
 rcases h with ⟨_, h⟩ | ⟨a, ⟨_, h⟩ | ⟨b, ⟨_, h⟩ | ⟨c, ⟨_, h⟩ | ⟨d, ⟨_, h⟩ | ⟨e, _⟩⟩⟩⟩⟩
 ·cases h
 ·cases h
 ·cases h
 ·cases h
 ·cases h
 ·exact ⟨a, b, c, d, e⟩
def Named (c : UInt8) (l : List Bt) : Prop := l.length ≤ 26 ∧ ∀ (k : Nat) (x : Bt), l[k]? = some x → x = nm c k
theorem NetOk.named {n : Nw} (h : NetOk n) : ∀ l, l ∈ [n.Nodes, n.Segments.map (·.Name), n.Ports.map (·.Name), n.Stations.map (·.Name)] → ∃ c, (c = 110 ∨ c = 103 ∨ c = 113 ∨ c = 115) ∧ Named c l := by
 have W := h.nodes; have X := h.segs1; have Y := h.ports1; have Z := h.sts1
 intro l O
 simp only [List.mem_cons, List.not_mem_nil, or_false] at O
 rcases O with rfl | rfl | rfl | rfl
 ·exact ⟨110, by simp, by omega, h.names⟩
 ·refine ⟨103, by simp, by simp; omega, fun k x G => ?_⟩
  rw [List.getElem?_map] at G
  obtain ⟨s, M, rfl⟩ := Option.map_eq_some_iff.1 G
  exact (h.segs k s M).name
 ·refine ⟨113, by simp, by simp; omega, fun k x G => ?_⟩
  rw [List.getElem?_map] at G
  obtain ⟨s, M, rfl⟩ := Option.map_eq_some_iff.1 G
  exact (h.ports k s M).name
 ·refine ⟨115, by simp, by simp; omega, fun k x G => ?_⟩
  rw [List.getElem?_map] at G
  obtain ⟨s, M, rfl⟩ := Option.map_eq_some_iff.1 G
  exact (h.sts k s M).name
theorem pJ {c : UInt8} (hc : 97 ≤ c.toNat ∧ c.toNat ≤ 122) {k : Nat} (Y : k < 26) : Ix (nm c k) = some true := by
 obtain ⟨b, W, X⟩ := Mx (x := nm c k)
 have M : ch (nm c k) 0 = (c.toNat : Int) := rfl
 have O : ch (nm c k) 1 = 97 + k := by
  show (((97 + UInt8.ofNat k).toNat : Nat) : Int) = _
  rw [UInt8.toNat_add, UInt8.toNat_ofNat', show (97 : UInt8).toNat = 97 from rfl]
  omega
 rw [W, X.2 ⟨⟨by show 1 ≤ 2; omega, by show 2 ≤ 12; omega, by rw [M]; unfold low; omega⟩, fun j G => ?_⟩]
 have G : j < 2 := G
 refine .inl ?_
 unfold low
 match j, G with
 | 0, _ => rw [M]; omega
 | 1, _ => rw [O]; omega
theorem sK {c : UInt8} (hc : c = 110 ∨ c = 103 ∨ c = 113 ∨ c = 115) {k : Nat} (G : k < 26) : Ix (nm c k) = some true := by
 refine pJ ?_ G
 rcases hc with rfl | rfl | rfl | rfl <;> decide
theorem sH {c : UInt8} {i j : Nat} (hi : i < 26) (W : j < 26) (h : Yf (nm c i) (nm c j) = true) : i = j := by
 have O : (nm c i).toList = (nm c j).toList := by simpa [Yf] using h
 have G : [c, 97 + UInt8.ofNat i] = [c, 97 + UInt8.ofNat j] := by simpa [nm, ByteArray.toList, ByteArray.toList.loop, ByteArray.size, ByteArray.get!] using O
 simp only [List.cons.injEq, and_true, true_and] at G
 have M := congrArg UInt8.toNat G
 simp only [UInt8.toNat_add, UInt8.toNat_ofNat'] at M
 have : (97 : UInt8).toNat = 97 := rfl
 rw [this] at M
 omega
def uO (l : List Bt) : Prop := l.length ≤ 26 ∧ (∀ (k : Nat) (x : Bt), l[k]? = some x → Ix x = some true) ∧ ∀ (i j : Nat) (x y : Bt), l[i]? = some x → l[j]? = some y → Yf x y = true → i = j
theorem Named.nmd {c : UInt8} (hc : c = 110 ∨ c = 103 ∨ c = 113 ∨ c = 115) {l : List Bt} (h : Named c l) : uO l := by
 obtain ⟨X, G⟩ := h
 refine ⟨X, fun k x W => ?_, fun i j x y M O Y => ?_⟩
 ·have := (gs W).1
  rw [G k x W]; exact sK hc (by omega)
 ·have Z := (gs M).1
  have ac := (gs O).1
  have hx := G i x M; have hy := G j y O
  subst hx; subst hy
  exact sH (by omega) (by omega) Y
structure SegB (nodes : Nat) (s : Segment) : Prop where
 ends : 0 ≤ s.From ∧ s.From < (nodes : Int) ∧ 0 ≤ s.To ∧ s.To < (nodes : Int) ∧ s.From ≠ s.To
 cap : 1 ≤ s.Capacity ∧ s.Capacity ≤ 1000
 resist : 0 ≤ s.Resist ∧ s.Resist ≤ 1000
 wave : 0 ≤ s.Wave ∧ s.Wave ≤ 100000
 points : PointsOk s.Capacity s.Points
theorem SegOk.b {nodes k : Nat} {s : Sg} (h : SegOk nodes k s) : SegB nodes s := ⟨h.ends, h.cap, h.resist, h.wave, h.points⟩
structure NetV (n : Network) : Prop where
 nodes : 1 ≤ n.Nodes.length ∧ n.Nodes.length ≤ 6
 segs1 : n.Segments.length ≤ 8
 segs : ∀ (k : Nat) (s : Sg), n.Segments[k]? = some s → ∃ j, SegOk n.Nodes.length j s
 ports1 : n.Ports.length ≤ 6
 ports : ∀ k s, n.Ports[k]? = some s → PortOk n.Nodes.length k s
 sts1 : n.Stations.length ≤ 6
 sts : ∀ k s, n.Stations[k]? = some s → StOk n.Nodes.length k s
 stsUp : ∀ (i j : Nat) (p q : Sn), i < j → n.Stations[i]? = some p → n.Stations[j]? = some q → p.Node < q.Node
 vapour : -100000 ≤ n.Vapour ∧ n.Vapour ≤ 50000
 settle : 0 ≤ n.Settle ∧ n.Settle ≤ 100
 named : ∀ l, l ∈ [n.Nodes, n.Segments.map (·.Name), n.Ports.map (·.Name), n.Stations.map (·.Name)] → uO l
theorem NetOk.v {n : Nw} (h : NetOk n) : NetV n :=
 ⟨by have := h.nodes; omega, h.segs1.2, fun k s M => ⟨k, h.segs k s M⟩, h.ports1.2, h.ports, h.sts1, h.sts, h.stsUp, h.vapour, h.settle, fun l G => let ⟨_, hc, hn⟩ := h.named l G; hn.nmd hc⟩
structure NetW (n : Network) : Prop where
 nodes : 1 ≤ n.Nodes.length ∧ n.Nodes.length ≤ 6
 segs1 : n.Segments.length ≤ 8
 segs : ∀ (k : Nat) (s : Sg), n.Segments[k]? = some s → SegB n.Nodes.length s
 ports1 : n.Ports.length ≤ 6
 ports : ∀ (k : Nat) s, n.Ports[k]? = some s → (0 ≤ s.Node ∧ s.Node < (n.Nodes.length : Int)) ∧ 0 ≤ s.Pressure ∧ s.Pressure ≤ 100000000
 sts1 : n.Stations.length ≤ 6
 sts : ∀ k s, n.Stations[k]? = some s → StOk n.Nodes.length k s
 stsUp : ∀ (i j : Nat) (p q : Sn), i < j → n.Stations[i]? = some p → n.Stations[j]? = some q → p.Node < q.Node
 vapour : -100000 ≤ n.Vapour ∧ n.Vapour ≤ 50000
 settle : 0 ≤ n.Settle ∧ n.Settle ≤ 100
 named : ∀ l, l ∈ [n.Nodes, n.Segments.map (·.Name), n.Ports.map (·.Name), n.Stations.map (·.Name)] → uO l
theorem NetV.w {n : Nw} (h : NetV n) : NetW n :=
 ⟨h.nodes, h.segs1, fun k s G => (h.segs k s G).choose_spec.b, h.ports1, fun k s G => ⟨(h.ports k s G).node, (h.ports k s G).pressure⟩, h.sts1, h.sts, h.stsUp, h.vapour, h.settle, h.named⟩
theorem NetW.res {n : Nw} (h : NetW n) : NetRes n 0 := by
 have h1 := h.nodes; have h2 := h.segs1; have h3 := h.ports1; have h4 := h.sts1; have h5 := h.vapour; have h6 := h.settle
 refine .inr ⟨⟨by omega, fun k s G => (h.segs k s G).points.len⟩, .inr ⟨?_, .inr ⟨?_, .inr ⟨⟨fun k s G => ?_, fun k s G => (h.ports k s G).1, fun k s G => (h.sts k s G).node⟩, .inr ⟨⟨fun k s G => ?_, fun k s G => (h.ports k s G).2, fun k s G => ⟨?_, ?_, ?_⟩, by omega, h6⟩, rfl⟩⟩⟩⟩⟩
 ·rintro ⟨k, Y, l, Z, j, x, W, hn⟩
  obtain ⟨b, M, X⟩ := Mx (x := x)
  rw [(h.named l (mg Z)).2.1 j x W] at M
  cases M
  exact hn (X.1 rfl)
 ·rintro (⟨k, Y, l, Z, i, x, W, j, y, hj, hy, X⟩ | ⟨i, x, W, j, y, hj, hy, X⟩)
  ·have := (h.named l (mg Z)).2.2 i j x y W hy (Mi.2 X)
   omega
  ·have := h.stsUp j i y x hj hy W
   omega
 ·have := (h.segs k s G).ends
  exact ⟨⟨by omega, by omega⟩, by omega, by omega⟩
 ·have G := h.segs k s G
  have O := G.points
  refine ⟨G.ends.2.2.2.2, by have := G.cap; omega, G.resist, G.wave, O.first, O.last, fun k p Y M => ?_⟩
  have hm := mg Y
  rcases M with M | ⟨q, h0, hq, hle⟩
  ·exact M ⟨O.height p hm, O.limit p hm⟩
  ·have := O.up (k - 1) q p hq (by rw [show k - 1 + 1 = k by omega]; exact Y)
   omega
 ·have := (h.sts k s G).head; omega
 ·have := (h.sts k s G).fall; omega
 ·have := (h.sts k s G).suction; omega
theorem NetW.sane {n : Nw} (h : NetW n) : Sane n := by
 have M := h.nodes; have O := h.segs1; have W := h.ports1; have X := h.sts1
 exact ⟨by omega, by omega, by omega, by omega, fun k s G => by have := (h.segs k s G).points.len; omega⟩
theorem Un {n : Nw} (h : NetW n) : En n = some 0 := by
 obtain ⟨r, G, M⟩ := kU h.sane
 rw [G, M.uniq h.res]
theorem eT {n : Nw} (h : NetV n) : En n = some 0 := Un h.w
theorem mB {n : Nw} (h : NetOk n) : En n = some 0 := eT h.v
structure NetC (n : Network) : Prop where
 nodes : 1 ≤ n.Nodes.length ∧ n.Nodes.length ≤ 24
 segs1 : n.Segments.length ≤ 32
 segs : ∀ (k : Nat) (s : Sg), n.Segments[k]? = some s → (0 ≤ s.From ∧ s.From < (n.Nodes.length : Int) ∧ 0 ≤ s.To ∧ s.To < (n.Nodes.length : Int) ∧ s.From ≠ s.To) ∧ 1 ≤ s.Capacity ∧ s.Capacity ≤ 1000000
 ports1 : n.Ports.length ≤ 24
 ports : ∀ (k : Nat) s, n.Ports[k]? = some s → 0 ≤ s.Node ∧ s.Node < (n.Nodes.length : Int)
 sts1 : n.Stations.length ≤ 12
 check : En n = some 0
structure NetG (n : Network) : Prop where
 nodes : 1 ≤ n.Nodes.length ∧ n.Nodes.length ≤ 6
 segs1 : n.Nodes.length - 1 ≤ n.Segments.length ∧ n.Segments.length ≤ 8
 segs : ∀ (k : Nat) (s : Sg), n.Segments[k]? = some s → SegB n.Nodes.length s
 ports1 : 2 ≤ n.Ports.length ∧ n.Ports.length ≤ 6
 ports : ∀ (k : Nat) s, n.Ports[k]? = some s → 0 ≤ s.Node ∧ s.Node < (n.Nodes.length : Int)
 sts1 : n.Stations.length ≤ 6
 check : En n = some 0
theorem NetG.c {n : Nw} (h : NetG n) : NetC n := by
 have M := h.nodes; have O := h.segs1; have W := h.ports1; have X := h.sts1
 exact ⟨by omega, by omega, fun k s G => ⟨(h.segs k s G).ends, by have := (h.segs k s G).cap; omega⟩, by omega, h.ports, by omega, h.check⟩
theorem NetRes.c {n : Nw} (h : NetRes n 0) (Y : En n = some 0) : NetC n := by
 obtain ⟨a, b, c, d, e⟩ := h.good
 have := a.1
 refine ⟨by omega, by omega, fun k s G => ⟨?_, (e.segs k s G).cap⟩, by omega, d.2.1, by omega, Y⟩
 obtain ⟨⟨M, O⟩, W, X⟩ := d.1 k s G
 exact ⟨M, O, W, X, (e.segs k s G).ends⟩
theorem NetOk.g {n : Nw} (h : NetOk n) : NetG n :=
 ⟨by have := h.nodes; omega, h.segs1, fun k s G => (h.segs k s G).b, h.ports1, fun k s G => (h.ports k s G).node, h.sts1, mB h⟩
theorem NetW.g {n : Nw} (h : NetW n) (h1 : n.Nodes.length - 1 ≤ n.Segments.length) (h2 : 2 ≤ n.Ports.length) : NetG n :=
 ⟨h.nodes, ⟨h1, h.segs1⟩, h.segs, ⟨h2, h.ports1⟩, fun k s G => (h.ports k s G).1, h.sts1, Un h⟩
theorem Mp {α : Type} {P : Nat → α → Prop} {l : List α} {x : α} (h : ∀ k s, l[k]? = some s → P k s) (hx : P l.length x) : ∀ k s, (l ++ [x])[k]? = some s → P k s := by
 intro k s G
 rw [List.getElem?_append] at G
 split at G
 ·exact h k s G
 ·have M := (gs G).1
  simp at M
  have : k = l.length := by omega
  subst this
  simp at G; subst G; exact hx
theorem lF {α : Type} {f : α → Int} {l : List α} {x : α} (h : ∀ (i j : Nat) (p q : α), i < j → l[i]? = some p → l[j]? = some q → f p < f q) (hx : ∀ (k : Nat) (p : α), l[k]? = some p → f p < f x) :
  ∀ (i j : Nat) (p q : α), i < j → (l ++ [x])[i]? = some p → (l ++ [x])[j]? = some q → f p < f q := by
 intro i j p q M O G
 have W := (gs G).1
 simp at W
 rw [List.getElem?_append_left (by omega)] at O
 rw [List.getElem?_append] at G
 split at G
 ·exact h i j p q M O G
 ·have : j = l.length := by omega
  subst this
  simp at G; subst G; exact hx i p O
structure PortsInv (nodes : Nat) (i : Int) (ports : List Port) (sts : List Station) : Prop where
 i0 : 0 ≤ i ∧ i ≤ (nodes : Int)
 pl : (ports.length : Int) ≤ i
 p1 : 0 < i → 1 ≤ ports.length
 p2 : i = (nodes : Int) → 2 ≤ ports.length
 po : ∀ k s, ports[k]? = some s → PortOk nodes k s ∧ s.Node < i
 pu : ∀ (i j : Nat) (p q : Port), i < j → ports[i]? = some p → ports[j]? = some q → p.Node < q.Node
 sl : (sts.length : Int) ≤ i
 so : ∀ k s, sts[k]? = some s → StOk nodes k s ∧ s.Node < i
 su : ∀ (i j : Nat) (p q : Sn), i < j → sts[i]? = some p → sts[j]? = some q → p.Node < q.Node
theorem sJ {s : Yg} (Z : SrcOk s) : Ok (Xo s) fun r => NetOk r.1 ∧ SrcOk r.2 := by
 unfold Xo
 refine .bind (C5 Z (by decide) (by decide)) fun r5 h5 => ?_
 refine .bind (C5 h5.1 (by decide) (by decide)) fun r8 h8 => ?_
 refine .bind (G5 h8.1 (by decide) (by decide) (by decide)) fun r650 h650 => ?_
 have c5 := h5.2; have c8 := h8.2
 simp only [List.mem_cons, List.not_mem_nil, or_false] at c5 c8
 refine .bind (Q := fun d : Li × Int × List Bt => SrcOk ⟨d.1, d.2.1⟩ ∧ (2 ≤ d.2.2.length ∧ d.2.2.length ≤ 6) ∧ ∀ k x, d.2.2[k]? = some x → x = nm 110 k) ?_ ?_
 ·refine .loop (fun G : List Bt × Int => 0 ≤ G.2 ∧ (G.1.length : Int) + G.2 = r650.1 ∧ ∀ k x, G.1[k]? = some x → x = nm 110 k) (fun G => G.2.toNat) ⟨by dsimp only; omega, by simp, by simp⟩ (by dsimp only; omega) ?_
  rintro ⟨nodes, c⟩ ⟨Y, i2, i3⟩
  dsimp only at Y i2 i3
  unfold Xo.B12
  refine As (fun h => ?_) fun h => .pure ⟨h650.1, by dsimp only at h ⊢; omega, i3⟩
  dsimp only at h ⊢
  refine .bind' (.eq (Qg (by omega)) (.bind' (.app (by simp; omega) (.pure ?_))))
  rw [Bc (by omega)]
  exact ⟨⟨by dsimp only; omega, by simp; omega, Mp i3 rfl⟩, by dsimp only; omega⟩
 rintro ⟨L_, At, nodes⟩ ⟨Z, hn, hnm⟩
 dsimp only at Z hn hnm
 unfold Xo.J1
 refine .bind (Q := fun d : Li × Int × List Sg => SrcOk ⟨d.1, d.2.1⟩ ∧ d.2.2.length = nodes.length - 1 ∧ ∀ k x, d.2.2[k]? = some x → SegOk nodes.length k x) ?_ ?_
 ·refine .loop (fun G : Li × Int × List Sg × Int => SrcOk ⟨G.1, G.2.1⟩ ∧ (G.2.2.1.length : Int) = G.2.2.2 ∧ G.2.2.1.length ≤ nodes.length - 1 ∧ ∀ k x, G.2.2.1[k]? = some x → SegOk nodes.length k x) (fun G => nodes.length - G.2.2.1.length) ⟨Z, by simp, by simp, by simp⟩ (by dsimp only; omega) ?_
  rintro ⟨L_, At, ad, i⟩ ⟨Y, i2, i3, i4⟩
  dsimp only at Y i2 i3 i4
  unfold Xo.B11
  dsimp only
  simp (disch := omega) only [Bc]
  refine As (fun h => ?_) fun h => .pure ⟨Y, by dsimp only; omega, i4⟩
  refine .bind (kN Y (nodes := nodes.length) (by omega) (by omega) (by omega) (by omega)) fun r641 h641 => ?_
  refine .bind' (.app (by simp; omega) (.pure ⟨⟨h641.2, by simp; omega, by simp; omega, Mp i4 h641.1⟩, by simp; omega⟩))
 rintro ⟨L_, At, ad⟩ ⟨Z, hsl, ac⟩
 dsimp only at Z hsl ac
 unfold Xo.J2
 refine .bind (E8 Z (by decide) (by decide)) fun r531 h531 => ?_
 refine .bind (Q := fun d : Li × Int × List Sg => SrcOk ⟨d.1, d.2.1⟩ ∧ (nodes.length - 1 ≤ d.2.2.length ∧ d.2.2.length ≤ 8) ∧ ∀ k x, d.2.2[k]? = some x → SegOk nodes.length k x) ?_ ?_
 ·refine .loop (fun G : Li × Int × List Sg × Int => SrcOk ⟨G.1, G.2.1⟩ ∧ 0 ≤ G.2.2.2 ∧ (G.2.2.1.length : Int) + G.2.2.2 ≤ 8 ∧ nodes.length - 1 ≤ G.2.2.1.length ∧ ∀ k x, G.2.2.1[k]? = some x → SegOk nodes.length k x) (fun G => G.2.2.2.toNat)
   ⟨h531.1, h531.2.1, by dsimp only; omega, by dsimp only; omega, ac⟩ (by dsimp only; omega) ?_
  rintro ⟨L_, At, ad, i⟩ ⟨Y, i2, i3, i4, i5⟩
  dsimp only at Y i2 i3 i4 i5
  unfold Xo.B10
  dsimp only
  simp (disch := omega) only [Bc]
  refine As (fun h => ?_) fun h => .pure ⟨Y, by dsimp only; omega, i5⟩
  refine .bind (E8 Y (by omega) (by omega)) fun r589 h589 => ?_
  simp (disch := omega) only [Bc]
  refine .bind (G5 h589.1 (by omega) (by omega) (by omega)) fun r591 h591 => ?_
  refine .bind (kN h591.1 (nodes := nodes.length) (by omega) (by omega) (by omega) (by omega)) fun r593 h593 => ?_
  refine .bind' (.app (by simp; omega) (.pure ⟨⟨h593.2, by dsimp only; omega, by simp; omega, by simp; omega, Mp i5 h593.1⟩, by dsimp only; omega⟩))
 rintro ⟨L_, At, ad⟩ ⟨Z, hsl, ac⟩
 dsimp only at Z hsl ac
 unfold Xo.J3
 refine .bind (Q := fun d : Li × Int × List Port × List Sn => SrcOk ⟨d.1, d.2.1⟩ ∧ PortsInv nodes.length (nodes.length : Int) d.2.2.1 d.2.2.2) ?_ ?_
 ·refine .loop (fun G : Li × Int × List Port × List Sn × Int => SrcOk ⟨G.1, G.2.1⟩ ∧ PortsInv nodes.length G.2.2.2.2 G.2.2.1 G.2.2.2.1) (fun G => nodes.length - G.2.2.2.2.toNat)
   ⟨Z, by dsimp only; omega, by simp, by simp, by dsimp only; omega, by simp, by simp, by simp, by simp, by simp⟩ (by dsimp only; omega) ?_
  rintro ⟨L_, At, X, ae, i⟩ ⟨Y, M⟩
  dsimp only at Y M
  have hi := M.i0
  have j6 : ∀ (j : Li × Int × List Port × List Sn), SrcOk ⟨j.1, j.2.1⟩ → PortsInv nodes.length (i + 1) j.2.2.1 j.2.2.2 → i < (nodes.length : Int) →
    Ok (Xo.J6 (L_, At, X, ae, i) j) (Sum.elim (fun G => (SrcOk ⟨G.1, G.2.1⟩ ∧ PortsInv nodes.length G.2.2.2.2 G.2.2.1 G.2.2.2.1) ∧ nodes.length - G.2.2.2.2.toNat < nodes.length - i.toNat) fun d => SrcOk ⟨d.1, d.2.1⟩ ∧ PortsInv nodes.length (nodes.length : Int) d.2.2.1 d.2.2.2) := by
   intro j h1 h2 h3
   unfold Xo.J6
   dsimp only
   rw [Bc (by omega)]
   exact .pure ⟨⟨h1, h2⟩, by dsimp only; omega⟩
  have j7 : ∀ (j : Li × Int × List Port), SrcOk ⟨j.1, j.2.1⟩ → ((∀ O, (O.length : Int) ≤ i + 1 → (∀ k s, O[k]? = some s → StOk nodes.length k s ∧ s.Node < i + 1) →
     (∀ (i j : Nat) (p q : Sn), i < j → O[i]? = some p → O[j]? = some q → p.Node < q.Node) → PortsInv nodes.length (i + 1) j.2.2 O)) → i < (nodes.length : Int) →
    Ok (Xo.J7 (L_, At, nodes) (L_, At, X, ae, i) j) (Sum.elim (fun G => (SrcOk ⟨G.1, G.2.1⟩ ∧ PortsInv nodes.length G.2.2.2.2 G.2.2.1 G.2.2.2.1) ∧ nodes.length - G.2.2.2.2.toNat < nodes.length - i.toNat) fun d => SrcOk ⟨d.1, d.2.1⟩ ∧ PortsInv nodes.length (nodes.length : Int) d.2.2.1 d.2.2.2) := by
   intro j h1 h2 h3
   have old := h2 ae (by have := M.sl; omega) (fun k s W => ⟨(M.so k s W).1, by have := (M.so k s W).2; omega⟩) M.su
   unfold Xo.J7
   refine As (fun h => ?_) fun h => ?_
   ·refine .bind (E8 h1 (by decide) (by decide)) fun r507 h507 => ?_
    unfold Xo.J8
    refine Ax (fun _ => ?_) fun _ => j6 (_, _, _, _) h507.1 old h3
    have hsl' := M.sl
    refine .bind' (.eq (Qg (by dsimp only; omega)) ?_)
    refine .bind (C5 h507.1 (by decide) (by decide)) fun r493 h493 => ?_
    refine .bind (C5 h493.1 (by decide) (by decide)) fun r496 h496 => ?_
    refine .bind (C5 h496.1 (by decide) (by decide)) fun r499 h499 => ?_
    have c1 := h493.2; have c2 := h496.2; have c3 := h499.2
    simp only [List.mem_cons, List.not_mem_nil, or_false] at c1 c2 c3
    refine .bind' (.app (by simp; omega) (j6 (_, _, _, _) h499.1 (h2 _ (by simp; omega) ?_ ?_) h3))
    ·exact Mp (P := fun k s => StOk nodes.length k s ∧ s.Node < i + 1) (fun k s W => ⟨(M.so k s W).1, by have := (M.so k s W).2; omega⟩) ⟨⟨rfl, ⟨by dsimp only; omega, by dsimp only; omega⟩, by dsimp only; omega, by dsimp only; omega, by dsimp only; omega⟩, by dsimp only; omega⟩
    ·exact lF (f := Station.Node) M.su fun k p W => (M.so k p W).2
   ·unfold Xo.J8
    refine Ax (fun h => by cases h) fun _ => j6 (_, _, _, _) h1 old h3
  have j9 : ∀ (j : Li × Int × Bool), SrcOk ⟨j.1, j.2.1⟩ → (i = 0 ∨ i = (nodes.length : Int) - 1 → j.2.2 = true) → i < (nodes.length : Int) →
    Ok (Xo.J9 (L_, At, nodes) (L_, At, X, ae, i) j) (Sum.elim (fun G => (SrcOk ⟨G.1, G.2.1⟩ ∧ PortsInv nodes.length G.2.2.2.2 G.2.2.1 G.2.2.2.1) ∧ nodes.length - G.2.2.2.2.toNat < nodes.length - i.toNat) fun d => SrcOk ⟨d.1, d.2.1⟩ ∧ PortsInv nodes.length (nodes.length : Int) d.2.2.1 d.2.2.2) := by
   intro j h1 h2 h3
   have hpl := M.pl
   have hp1 := M.p1
   unfold Xo.J9
   refine Ax (fun _ => ?_) fun hb => j7 (_, _, _) h1 (fun O q1 q2 q3 => ?_) h3
   ·refine .bind' (.eq (Qg (by dsimp only; omega)) ?_)
    refine .bind (C5 h1 (by decide) (by decide)) fun r518 h518 => ?_
    have c1 := h518.2
    simp only [List.mem_cons, List.not_mem_nil, or_false] at c1
    refine .bind' (.app (by simp; omega) (j7 (_, _, _) h518.1 (fun O q1 q2 q3 => ⟨by omega, by simp; omega, by simp, fun _ => by simp; omega, ?_, ?_, q1, q2, q3⟩) h3))
    ·exact Mp (P := fun k s => PortOk nodes.length k s ∧ s.Node < i + 1) (fun k s W => ⟨(M.po k s W).1, by have := (M.po k s W).2; omega⟩) ⟨⟨rfl, ⟨by dsimp only; omega, by dsimp only; omega⟩, by dsimp only; omega⟩, by dsimp only; omega⟩
    ·exact lF (f := Port.Node) M.pu fun k p W => (M.po k p W).2
   ·have hi0 : ¬ (i = 0 ∨ i = (nodes.length : Int) - 1) := fun h => by rw [h2 h] at hb; cases hb
    exact ⟨by omega, by dsimp only; omega, fun _ => by dsimp only; omega, fun _ => by omega, fun k s W => ⟨(M.po k s W).1, by have := (M.po k s W).2; omega⟩, M.pu, q1, q2, q3⟩
  unfold Xo.B5
  dsimp only
  rw [Bc (by omega)]
  refine As (fun h => ?_) fun h => .pure ⟨Y, ?_⟩
  ·refine Dl (fun h0 => j9 (_, _, _) Y (fun _ => rfl) (by omega)) fun h0 => Dl (fun h1 => j9 (_, _, _) Y (fun _ => rfl) (by omega)) fun h1 => ?_
   refine .bind (E8 Y (by decide) (by decide)) fun r527 h527 => j9 (_, _, _) h527.1 (fun h => by omega) (by omega)
  ·have : i = (nodes.length : Int) := by omega
   rw [← this]; exact M
 rintro ⟨L_, At, X, ae⟩ ⟨Z, M⟩
 dsimp only at Z M
 unfold Xo.J4
 have := M.pl; have := M.sl
 exact .pure ⟨⟨hn, hnm, hsl, ac, ⟨M.p2 rfl, by dsimp only; omega⟩, fun k s W => (M.po k s W).1, M.pu, by dsimp only; omega, fun k s W => (M.so k s W).1, M.su, by dsimp only; omega, by dsimp only; omega⟩, Z⟩
def ind (a v : Int) : Int := if a = v then 1 else 0
def wt (n : Nw) (v : Int) : Li := n.Segments.map fun s => ind s.To v - ind s.From v
def wp (n : Nw) (v : Int) : Li := n.Ports.map fun p => ind p.Node v
structure RateOk (s : Segment) (r : Int) : Prop where
 rng : -1000 ≤ r ∧ r ≤ 1000 ∧ -s.Capacity ≤ r ∧ r ≤ s.Capacity
 up : s.From < s.To → 0 ≤ r
 down : s.To < s.From → r ≤ 0
structure PlInv (n : Network) (rates ports : List Int) : Prop where
 rl : rates.length = n.Segments.length
 pl : ports.length = n.Ports.length
 rng : ∀ (k : Nat) (r : Int) (s : Sg), rates[k]? = some r → n.Segments[k]? = some s → RateOk s r
 prt : ∀ (k : Nat) (x : Int), ports[k]? = some x → -1000 ≤ x ∧ x ≤ 1000
 bal : ∀ v, E0 (wt n v) rates + E0 (wp n v) ports = 0
structure Hop1 (n : Network) (rates : List Int) (rate a : Int) (i : Nat) (x : Segment) (r b : Int) : Prop where
 seg : n.Segments[i]? = some x
 old : rates[i]? = some r
 lt : a < b
 ends : x.From = a ∧ x.To = b ∨ x.To = a ∧ x.From = b
 rng : r + rate ≤ 1000 ∧ rate - r ≤ 1000 ∧ r + rate ≤ x.Capacity ∧ rate - r ≤ x.Capacity
def Qv (n : Nw) (rates : Li) (rate a k b : Int) : Prop := ∃ (i : Nat) (x : Sg) (r : Int), k = (i : Int) ∧ Hop1 n rates rate a i x r b
theorem mU {n : Nw} {rates ports way : Li} {rate : Int} {s : Yg} {l : Li} {q e : Int} {nd : Nat → Int} (h : PlInv n rates ports) (hr : 1 ≤ rate ∧ rate ≤ 300)
  (hw : ∀ (j : Nat) (k : Int), way[j]? = some k → Qv n rates rate (nd j) k (nd (j + 1))) :
  Ok (forJ (Oj.B9 n (rate, s) (l, q, way, e)) 0 way.length rates) fun st => st.length = rates.length ∧ (∀ (k : Nat) (r : Int) (s : Sg), st[k]? = some r → n.Segments[k]? = some s → RateOk s r) ∧
   ∀ v, E0 (wt n v) st = E0 (wt n v) rates + (rate * ind (nd way.length) v - rate * ind (nd 0) v) := by
 refine .forJ (fun j st => st.length = rates.length ∧ (∀ (k : Nat) (r : Int) (s : Sg), st[k]? = some r → n.Segments[k]? = some s → RateOk s r) ∧
   (∀ (k : Nat) (s : Sg), n.Segments[k]? = some s → nd j ≤ s.From → nd j ≤ s.To → st[k]? = rates[k]?) ∧
   ∀ v, E0 (wt n v) st = E0 (wt n v) rates + (rate * ind (nd j) v - rate * ind (nd 0) v)) ⟨rfl, h.rng, fun _ _ _ _ _ => rfl, fun v => by omega⟩ ?_ fun st ⟨h1, h2, _, h4⟩ => ⟨h1, h2, h4⟩
 rintro j st hj ⟨h1, h2, h3, h4⟩
 obtain ⟨i, x, r, hk, Z, X, hlt, G, hrng⟩ := hw j way[j] (gq hj)
 have hil := (gs Z).1
 have ac : st[i]? = some r := by
  rw [h3 i x Z (by rcases G with h | h <;> omega) (by rcases G with h | h <;> omega)]; exact X
 have Y := h.rng i r x X Z
 have o1 := Y.rng; have o2 := Y.up; have o3 := Y.down
 have hw : ∀ v, (wt n v)[i]? = some (ind x.To v - ind x.From v) := fun v => by unfold wt; rw [List.getElem?_map, Z]; rfl
 have ad : ∀ y : Int, RateOk x y → (∀ v, (ind x.To v - ind x.From v) * (y - r) = rate * ind (nd (j + 1)) v - rate * ind (nd j) v) → Ok (Oj.J10 (st.set i y)) fun st => st.length = rates.length ∧ (∀ (k : Nat) (r : Int) (s : Sg), st[k]? = some r → n.Segments[k]? = some s → RateOk s r) ∧
   (∀ (k : Nat) (s : Sg), n.Segments[k]? = some s → nd (j + 1) ≤ s.From → nd (j + 1) ≤ s.To → st[k]? = rates[k]?) ∧
   ∀ v, E0 (wt n v) st = E0 (wt n v) rates + (rate * ind (nd (j + 1)) v - rate * ind (nd 0) v) := by
  intro y hy hyv
  unfold Oj.J10
  refine .pure ⟨by simp [h1], fun k r' s' W M => ?_, fun k s' M a1 a2 => ?_, fun v => ?_⟩
  ·rw [D9] at W
   split at W
   ·rename_i hik
    obtain ⟨rfl, _⟩ := hik
    simp at W; subst W
    rw [Z] at M; simp at M; subst M; exact hy
   ·exact h2 k r' s' W M
  ·have hne : i ≠ k := by
    rintro rfl
    rw [Z] at M; simp at M; subst M
    rcases G with h | h <;> omega
   rw [List.getElem?_set_ne hne]
   exact h3 k s' M (by omega) (by omega)
  ·rw [Fs (hw v) ac, h4 v, hyv v]; omega
 unfold Oj.B9
 refine .bind' (.ix j rfl hj ?_)
 dsimp only
 rw [hk]
 refine .bind' (.ix i rfl hil ?_)
 have hx : n.Segments[i] = x := by
  have := gq hil
  rw [Z] at this; exact (Option.some.inj this).symm
 have O := (gs ac).1
 have hsr : st[i] = r := by
  have := gq O
  rw [ac] at this; exact (Option.some.inj this).symm
 dsimp only
 rw [hx]
 refine As (fun hft => ?_) fun hft => ?_
 ·refine .bind' (.ix i rfl O ?_)
  dsimp only
  rw [hsr, Bc (by omega)]
  have he : x.From = nd j ∧ x.To = nd (j + 1) := by rcases G with h | h <;> omega
  have := o2 hft
  refine ad _ ⟨by omega, fun _ => by omega, fun _ => by omega⟩ fun v => ?_
  rw [he.1, he.2, show r + rate - r = rate by omega, Int.sub_mul, Int.mul_comm, Int.mul_comm (ind (nd j) v)]
 ·refine .bind' (.ix i rfl O ?_)
  dsimp only
  rw [hsr, Bc (by omega)]
  have he : x.To = nd j ∧ x.From = nd (j + 1) := by rcases G with h | h <;> omega
  have := o3 (by omega)
  refine ad _ ⟨by omega, fun _ => by omega, fun _ => by omega⟩ fun v => ?_
  rw [he.1, he.2, show r - rate - r = -rate by omega, Int.sub_mul, Int.mul_neg, Int.mul_neg, Int.mul_comm, Int.mul_comm (ind (nd (j + 1)) v)]; omega
theorem sZ {x : Int} (h : -1000000 ≤ x ∧ x ≤ 1000000) : Iv x = max x (-x) := by
 unfold Iv
 rw [Bc (by omega), Int.zero_sub]
theorem kV {l : Li} {f : Nat → Int → Li → Option Li} (hf : ∀ k x st, f k x st = (Cp st [wr (0 - x)]).bind fun y => some y) (hl : l.length ≤ 1000) (M : ∀ (k : Nat) (x : Int), l[k]? = some x → -1000000 ≤ x ∧ x ≤ 1000000) :
  Ok (forS f 0 l []) fun r => r = l.map fun x => -x := by
 refine .forS (fun k st => st = (l.take k).map fun x => -x) (by simp) ?_ fun st h => by rw [h]; simp
 rintro k x st G rfl
 rw [hf]
 have O := (gs G).1
 have := M k x G
 refine .bind' (.app (by simp; omega) (.pure ?_))
 rw [List.take_add_one, G, Bc (by omega)]
 simp
theorem bO {p : Plan} (h1 : p.Rates.length ≤ 1000) (h2 : p.Ports.length ≤ 1000) (O : p.Pumps.length ≤ 1000) (G : ∀ (k : Nat) (x : Int), p.Rates[k]? = some x → -1000000 ≤ x ∧ x ≤ 1000000)
  (M : ∀ (k : Nat) (x : Int), p.Ports[k]? = some x → -1000000 ≤ x ∧ x ≤ 1000000) : Xi p = some ⟨p.Rates.map fun x => -x, p.Ports.map fun x => -x, p.Pumps⟩ := by
 refine Hj ?_
 unfold Xi
 refine .bind' (.app (by simp; omega) (.bind (kV (fun _ _ _ => rfl) h1 G) ?_))
 rintro _ rfl
 unfold Xi.J1
 refine .bind (kV (fun _ _ _ => rfl) h2 M) ?_
 rintro _ rfl
 unfold Xi.J2
 exact .pure (by simp)
def WayTo (n : Nw) (rates : Li) (rate s0 : Int) (way : Li) (t : Int) : Prop :=
 ∃ nd : Nat → Int, nd 0 = s0 ∧ nd way.length = t ∧ ∀ (j : Nat) (k : Int), way[j]? = some k → Qv n rates rate (nd j) k (nd (j + 1))
theorem WayTo.snoc {n : Nw} {rates : Li} {rate s0 : Int} {way : Li} {m k t : Int} (h : WayTo n rates rate s0 way m) (Z : Qv n rates rate m k t) : WayTo n rates rate s0 (way ++ [k]) t := by
 obtain ⟨nd, M, O, W⟩ := h
 refine ⟨fun i => if i ≤ way.length then nd i else t, by simp [M], by simp; omega, fun j k' G => ?_⟩
 rw [List.getElem?_append] at G
 split at G
 ·rename_i Y
  have := W j k' G
  dsimp only
  rw [if_pos (by omega), if_pos (by omega)]; exact this
 ·have X := (gs G).1
  simp at X
  have : j = way.length := by omega
  subst this
  simp at G; subst G
  dsimp only
  rw [if_pos (by omega), if_neg (by omega), O]; exact Z
def cW (n : Nw) (ports : Li) (rate : Int) (a : Nat) (t e : Int) : Prop :=
 ∃ (G : Nat) (p : Port) (x : Int), e = (G : Int) ∧ G ≠ a ∧ n.Ports[G]? = some p ∧ p.Node = t ∧ ports[G]? = some x ∧ x ≤ 0 ∧ x - rate ≥ -1000
theorem rT {n : Nw} (hn : NetOk n) {rates ports : Li} {rate : Int} {a : Nat} {l0 : Li} {q0 c0 s0 : Int} {sa s : Yg} (h : PlInv n rates ports) (hr : 1 ≤ rate ∧ rate ≤ 300) (hs : SrcOk s)
  (h0 : 0 ≤ s0 ∧ s0 < (n.Nodes.length : Int)) :
  Ok (Bx (Oj.B11 n (l0, q0, rates, ports, c0) ((a : Int), sa) (rate, s)) C0 (s.L_, s.At, s0, [], -1)) fun d => SrcOk ⟨d.1, d.2.1⟩ ∧ (d.2.2.2 < 0 ∨ ∃ t, WayTo n rates rate s0 d.2.2.1 t ∧ cW n ports rate a t d.2.2.2) := by
 have hnn := hn.nodes
 have hsn := hn.segs1
 refine .loop (fun Y : Li × Int × Int × Li × Int => SrcOk ⟨Y.1, Y.2.1⟩ ∧ Y.2.2.2.2 = -1 ∧ (0 ≤ Y.2.2.1 ∧ Y.2.2.1 < (n.Nodes.length : Int)) ∧ (Y.2.2.2.1.length : Int) ≤ Y.2.2.1 ∧ WayTo n rates rate s0 Y.2.2.2.1 Y.2.2.1) (fun Y => n.Nodes.length - Y.2.2.1.toNat)
  ⟨hs, rfl, h0, by simp; omega, fun _ => s0, rfl, rfl, by simp⟩ (by dsimp only; omega) ?_
 rintro ⟨L_, At, at_, way, e⟩ ⟨i1, i2, i3, i4, i5⟩
 dsimp only at i1 i2 i3 i4 i5
 subst i2
 unfold Oj.B11
 refine As (fun _ => ?_) fun h => absurd (show (-1 : Int) < 0 by decide) h
 refine .bind (Q := fun d : Li × Int × Int => SrcOk ⟨d.1, d.2.1⟩ ∧ (d.2.2 = -1 ∨ cW n ports rate a at_ d.2.2)) ?_ ?_
 ·refine .forS (fun _ d => SrcOk ⟨d.1, d.2.1⟩ ∧ (d.2.2 = -1 ∨ cW n ports rate a at_ d.2.2)) ⟨i1, .inl rfl⟩ ?_ fun _ h => h
  rintro k p ⟨L2, A2, e2⟩ hp ⟨X, j2⟩
  dsimp only at X j2
  have no : ∀ {x : Li × Int × Bool}, SrcOk ⟨x.1, x.2.1⟩ → x.2.2 = false → Ok (Oj.J19 k (L2, A2, e2) x) fun d => SrcOk ⟨d.1, d.2.1⟩ ∧ (d.2.2 = -1 ∨ cW n ports rate a at_ d.2.2) := by
   intro x h1 h2
   unfold Oj.J19 Oj.J18
   rw [h2]
   exact .pure ⟨h1, j2⟩
  have hkl := (gs hp).1
  have hpl := h.pl
  unfold Oj.B17
  refine Dl (fun he => ?_) fun _ => no X rfl
  refine Cj (fun hka => ?_) fun _ => no X rfl
  refine .bind' (.ix k rfl (by dsimp only; omega) ?_)
  have Z : ports[k]? = some ports[k] := gq (by omega)
  have hxr := h.prt k _ Z
  dsimp only
  rw [Bc (by omega)]
  refine As (fun hx0 => ?_) fun _ => no X rfl
  refine As (fun hxm => ?_) fun _ => no X rfl
  refine As (fun _ => ?_) fun _ => no X rfl
  refine .bind (E8 X (by decide) (by decide)) fun r W => ?_
  unfold Oj.J19 Oj.J18
  refine Ax (fun _ => .pure ⟨W.1, .inr ⟨k, p, ports[k], rfl, fun h => by omega, hp, he, Z, hx0, hxm⟩⟩) fun _ => .pure ⟨W.1, j2⟩
 rintro ⟨L2, A2, e2⟩ ⟨X, j2⟩
 dsimp only at X j2
 unfold Oj.J12
 refine As (fun h0 => .pure ⟨X, .inr ⟨at_, i5, ?_⟩⟩) fun h0 => ?_
 ·rcases j2 with h | h
  ·dsimp only at h0; omega
  ·exact h
 have he2 : e2 = -1 := by
  rcases j2 with h | ⟨kk, _, _, h, _⟩
  ·exact h
  ·dsimp only at h0; omega
 subst he2
 refine .bind (Q := fun G : Li => G.length ≤ 1000 ∧ ∀ k, k ∈ G → ∃ t, Qv n rates rate at_ k t ∧ at_ < t ∧ t < (n.Nodes.length : Int)) ?_ ?_
 ·refine .forS (fun k G => G.length ≤ k ∧ ∀ k, k ∈ G → ∃ t, Qv n rates rate at_ k t ∧ at_ < t ∧ t < (n.Nodes.length : Int)) ⟨by simp, by simp⟩ ?_ fun G ho => ⟨by have := ho.1; omega, ho.2⟩
  rintro k x G Z ⟨o1, o2⟩
  have hkl := (gs Z).1
  have hxo := (hn.segs k x Z).ends
  have hxc := (hn.segs k x Z).cap
  have hrl := h.rl
  have hold : rates[k]? = some rates[k] := gq (by omega)
  have hro := (h.rng k _ x hold Z).rng
  have no : ∀ {x : Bool}, x = false → Ok (Oj.J16 k G x) fun G => G.length ≤ k + 1 ∧ ∀ k, k ∈ G → ∃ t, Qv n rates rate at_ k t ∧ at_ < t ∧ t < (n.Nodes.length : Int) := by
   intro x Z
   unfold Oj.J16 Oj.J15
   rw [Z]
   exact .pure ⟨by omega, o2⟩
  have yes : ∀ t, (x.From = at_ ∧ x.To = t ∨ x.To = at_ ∧ x.From = t) → at_ < t → Ok (Oj.J16 k G (decide ((wr ((Iv rates[k]) + rate)) ≤ (min 1000 x.Capacity)))) fun G => G.length ≤ k + 1 ∧ ∀ k, k ∈ G → ∃ t, Qv n rates rate at_ k t ∧ at_ < t ∧ t < (n.Nodes.length : Int) := by
   intro t ht hlt
   unfold Oj.J16 Oj.J15
   refine As (fun hc => ?_) fun _ => .pure ⟨by omega, o2⟩
   rw [sZ (by omega), Bc (by omega)] at hc
   refine .bind' (.app (by simp; omega) (.pure ⟨by simp; omega, fun k' O => ?_⟩))
   rcases List.mem_append.1 O with O | O
   ·exact o2 k' O
   ·simp at O; subst O
    exact ⟨t, ⟨k, x, rates[k], rfl, Z, hold, hlt, ht, by omega⟩, hlt, by rcases ht with h | h <;> omega⟩
  unfold Oj.B14
  dsimp only
  simp (disch := omega) only [Bc]
  refine Dl (fun hf => ?_) fun _ => Dl (fun hf => ?_) fun _ => no rfl
  ·refine As (fun ht => ?_) fun _ => no rfl
   exact .bind' (.ix k rfl (by omega) (yes x.To (.inl ⟨hf, rfl⟩) (by omega)))
  ·refine As (fun ht => ?_) fun _ => no rfl
   exact .bind' (.ix k rfl (by omega) (yes x.From (.inr ⟨hf, rfl⟩) (by omega)))
 rintro G ⟨o1, o2⟩
 unfold Oj.J13
 refine Dl (fun _ => .pure ⟨X, .inl (show (-1 : Int) < 0 by decide)⟩) fun hl => ?_
 refine .bind (E8 X (by omega) (by omega)) fun r W => ?_
 refine .bind' (.ix' W.2.1 W.2.2 fun k y _ hy => ?_)
 obtain ⟨t, M, hlt, htn⟩ := o2 y (mg hy)
 have hop' := M
 obtain ⟨i, x, r0, rfl, M⟩ := M
 refine .bind' (.app (by simp; omega) ?_)
 have hil := (gs M.seg).1
 have hxo := (hn.segs i x M.seg).ends
 refine .bind' (.eq (A0 M.seg) ?_)
 dsimp only
 have he := M.ends
 have hw : wr (wr (x.From + x.To) - at_) = t := by
  simp (disch := omega) only [Bc]
  rcases he with h | h <;> omega
 rw [hw]
 exact .pure ⟨⟨W.1, rfl, ⟨by dsimp only; omega, htn⟩, by simp; omega, i5.snoc hop'⟩, by dsimp only; omega⟩
structure PlanOk (n : Network) (p : Plan) : Prop where
 rl : p.Rates.length = n.Segments.length
 pl : p.Ports.length = n.Ports.length
 ml : p.Pumps.length = n.Stations.length
 rng : ∀ (k : Nat) (r : Int) (s : Sg), p.Rates[k]? = some r → n.Segments[k]? = some s → -1000 ≤ r ∧ r ≤ 1000 ∧ -s.Capacity ≤ r ∧ r ≤ s.Capacity
 prt : ∀ (k : Nat) (x : Int), p.Ports[k]? = some x → -1000 ≤ x ∧ x ≤ 1000
 bal : ∀ v, E0 (wt n v) p.Rates + E0 (wp n v) p.Ports = 0
 dir : (∀ (k : Nat) (r : Int) (s : Sg), p.Rates[k]? = some r → n.Segments[k]? = some s → (0 < r → s.From < s.To) ∧ (r < 0 → s.To < s.From)) ∨
  (∀ (k : Nat) (r : Int) (s : Sg), p.Rates[k]? = some r → n.Segments[k]? = some s → (0 < r → s.To < s.From) ∧ (r < 0 → s.From < s.To))
theorem bJ {n : Nw} (hn : NetOk n) {s : Yg} (hs : SrcOk s) {rates ports : Li} {c : Int} (hc : 0 ≤ c ∧ c < 5) (h : PlInv n rates ports) :
  Ok (Bx (Oj.B4 n) C0 (s.L_, s.At, rates, ports, c)) fun d => SrcOk ⟨d.1, d.2.1⟩ ∧ PlInv n d.2.2.1 d.2.2.2 := by
 have hpn := hn.ports1
 refine .loop (fun M : Li × Int × Li × Li × Int => SrcOk ⟨M.1, M.2.1⟩ ∧ PlInv n M.2.2.1 M.2.2.2.1 ∧ 0 ≤ M.2.2.2.2 ∧ M.2.2.2.2 < 5) (fun M => M.2.2.2.2.toNat) ⟨hs, h, hc⟩ (by dsimp only; omega) ?_
 rintro ⟨L_, At, rates, ports, c⟩ ⟨i1, X, i3⟩
 dsimp only at i1 X i3
 unfold Oj.B4
 refine As (fun h0 => ?_) fun _ => .pure ⟨i1, X⟩
 dsimp only at h0
 have j5 : ∀ j : Li × Int × Li × Li, SrcOk ⟨j.1, j.2.1⟩ → PlInv n j.2.2.1 j.2.2.2 → Ok (Oj.J5 (L_, At, rates, ports, c) j)
   (Sum.elim (fun M => (SrcOk ⟨M.1, M.2.1⟩ ∧ PlInv n M.2.2.1 M.2.2.2.1 ∧ 0 ≤ M.2.2.2.2 ∧ M.2.2.2.2 < 5) ∧ M.2.2.2.2.toNat < c.toNat) fun d => SrcOk ⟨d.1, d.2.1⟩ ∧ PlInv n d.2.2.1 d.2.2.2) := by
  intro j h1 h2
  unfold Oj.J5
  dsimp only
  rw [Bc (by omega)]
  exact .pure ⟨⟨h1, h2, by dsimp only; omega⟩, by dsimp only; omega⟩
 refine .bind (E8 i1 (by omega) (by omega)) fun r4095 O => ?_
 obtain ⟨ai, sa⟩ := r4095
 dsimp only at O
 obtain ⟨a, rfl⟩ := E2 O.2.1
 have hal : a < n.Ports.length := by omega
 have hpa : n.Ports[a]? = some n.Ports[a] := gq hal
 have hpo := (hn.ports a _ hpa).node
 refine .bind' (.eq (A0 hpa) ?_)
 refine .bind (C5 O.1 (by decide) (by decide)) fun r4101 Y => ?_
 have c1 := Y.2
 simp only [List.mem_cons, List.not_mem_nil, or_false] at c1
 refine .bind (G5 Y.1 (by omega) (by omega) (by omega)) fun r4103 W => ?_
 obtain ⟨G, s⟩ := r4103
 dsimp only at W
 have Z : 1 ≤ G ∧ G ≤ 300 := by omega
 have hxl : a < ports.length := by have := X.pl; omega
 have hx : ports[a]? = some ports[a] := gq hxl
 have hxr := X.prt a _ hx
 refine .bind' (.eq (A0 hx) ?_)
 dsimp only
 have j6t : Ok (Oj.J6 n (L_, At, rates, ports, c) ((a : Int), sa) (a, n.Ports[a]) (G, s) true)
   (Sum.elim (fun M => (SrcOk ⟨M.1, M.2.1⟩ ∧ PlInv n M.2.2.1 M.2.2.2.1 ∧ 0 ≤ M.2.2.2.2 ∧ M.2.2.2.2 < 5) ∧ M.2.2.2.2.toNat < c.toNat) fun d => SrcOk ⟨d.1, d.2.1⟩ ∧ PlInv n d.2.2.1 d.2.2.2) := by
  unfold Oj.J6
  exact j5 (_, _, _, _) W.1 X
 rw [Bc (by omega)]
 refine As (fun _ => j6t) fun hx0 => ?_
 by_cases ad : ports[a] + G > 1000
 ·simp only [ad, decide_true]; exact j6t
 simp only [ad, decide_false]
 unfold Oj.J6
 refine .bind (rT hn X Z W.1 hpo) ?_
 rintro ⟨L2, A2, way, e⟩ ⟨w1, w2⟩
 dsimp only at w1 w2
 unfold Oj.J7
 refine As (fun _ => j5 (_, _, _, _) w1 X) fun he => ?_
 dsimp only at he
 obtain ⟨t, ⟨nd, n0, n1, n2⟩, kk, p, x, rfl, hka, hp, hpt, ac, hx0', hxm⟩ := w2.resolve_left he
 have hkl := (gs ac).1
 have hxkr := X.prt kk _ ac
 refine .bind' (.eq (A0 hx) (.bind' (.eq (A0 ac) ?_)))
 dsimp only
 rw [Bc (by omega)]
 have hset : (ports.set a (ports[a] + G))[kk]? = some x := by rw [List.getElem?_set_ne (Ne.symm hka)]; exact ac
 refine .bind' (.eq (A0 hset) ?_)
 dsimp only
 rw [Bc (by omega)]
 unfold Oj.J8
 refine .bind (mU X Z n2) fun M hst => ?_
 obtain ⟨s1, s2, s3⟩ := hst
 dsimp only at s1 s2 s3
 refine j5 (_, _, _, _) w1 ⟨by dsimp only; rw [s1]; exact X.rl, by simp [X.pl], s2, fun k y hk => ?_, fun v => ?_⟩
 ·dsimp only at hk
  rw [D9] at hk
  split at hk
  ·simp at hk; omega
  ·rw [D9] at hk
   split at hk
   ·simp at hk; omega
   ·exact X.prt k y hk
 ·have w1 : (wp n v)[a]? = some (ind n.Ports[a].Node v) := by unfold wp; rw [List.getElem?_map, hpa]; rfl
  have w2 : (wp n v)[kk]? = some (ind p.Node v) := by unfold wp; rw [List.getElem?_map, hp]; rfl
  dsimp only
  rw [Fs w2 hset, Fs w1 hx, s3 v, n0, n1, hpt]
  have := X.bal v
  have e1 : ind n.Ports[a].Node v * (ports[a] + G - ports[a]) = G * ind n.Ports[a].Node v := by rw [show ports[a] + G - ports[a] = G by omega, Int.mul_comm]
  have e2 : ind t v * (x - G - x) = -(G * ind t v) := by rw [show x - G - x = -G by omega, Int.mul_neg, Int.mul_comm]
  rw [e1, e2]
  omega
theorem dC {n : Nw} (Y : NetOk n) {s : Yg} (O : SrcOk s) : Ok (Oj s n) fun r => PlanOk n r.1 ∧ SrcOk r.2 := by
 have h1 := Y.segs1; have h2 := Y.ports1; have h3 := Y.sts1
 unfold Oj
 refine .bind' (.mk n.Segments.length rfl (by omega) (.bind' (.mk n.Ports.length rfl (by omega) ?_)))
 unfold Oj.J1
 refine .bind (Q := fun d : Li × Int × List Bool => SrcOk ⟨d.1, d.2.1⟩ ∧ d.2.2.length = n.Stations.length) ?_ ?_
 ·refine .loop (fun st : Li × Int × List Bool × Int => SrcOk ⟨st.1, st.2.1⟩ ∧ (st.2.2.1.length : Int) = st.2.2.2 ∧ st.2.2.1.length ≤ n.Stations.length) (fun st => n.Stations.length - st.2.2.1.length) ⟨O, by simp, by simp⟩ (by dsimp only; omega) ?_
  rintro ⟨L_, At, ac, i⟩ ⟨i1, i2, i3⟩
  dsimp only at i1 i2 i3
  unfold Oj.B20
  refine As (fun h0 => ?_) fun h0 => .pure ⟨i1, by dsimp only at h0 ⊢; omega⟩
  dsimp only at h0 ⊢
  refine .bind (E8 i1 (by decide) (by decide)) fun r G => .bind' (.app (by simp; omega) (.pure ?_))
  rw [Bc (by omega)]
  exact ⟨⟨G.1, by simp; omega, by simp; omega⟩, by simp; omega⟩
 rintro ⟨L_, At, ac⟩ ⟨i1, i2⟩
 dsimp only at i1 i2
 unfold Oj.J2
 refine .bind (E8 i1 (by decide) (by decide)) fun r51 h51 => .bind (E8 h51.1 (by decide) (by decide)) fun r1787 W => ?_
 refine .bind (bJ Y W.1 W.2 ⟨by simp, by simp, fun k r s G O => ?_, fun k x Z => ?_, fun v => ?_⟩) ?_
 ·have := mg G
  simp at this
  have hc := (Y.segs k s O).cap
  exact ⟨by omega, fun _ => by omega, fun _ => by omega⟩
 ·have := mg Z
  simp at this
  omega
 ·rw [Ia, Ia]; omega
 rintro ⟨L2, A2, ad, ports⟩ ⟨j1, M⟩
 dsimp only at j1 M
 have hr0 : ∀ (k : Nat) (r : Int), ad[k]? = some r → -1000000 ≤ r ∧ r ≤ 1000000 := fun k r G => by
  have hk := (gs G).1
  have O : n.Segments[k]? = some _ := gq (by have := M.rl; omega)
  have := (M.rng k r _ G O).rng
  omega
 unfold Oj.J3
 refine Dl (fun _ => ?_) fun _ => .pure ⟨⟨M.rl, M.pl, i2, fun k r s G O => (M.rng k r s G O).rng, M.prt, M.bal, .inl fun k r s G O => ?_⟩, j1⟩
 ·refine .bind' (.eq (bO (by dsimp only; have := M.rl; omega) (by dsimp only; have := M.pl; omega) (by dsimp only; omega) hr0 fun k x Z => by have := M.prt k x Z; omega) (.pure ⟨⟨by simp [M.rl], by simp [M.pl], i2, fun k r s G O => ?_, fun k x Z => ?_, fun v => ?_, .inr fun k r s G O => ?_⟩, j1⟩))
  ·dsimp only at G
   rw [List.getElem?_map] at G
   obtain ⟨r', X, rfl⟩ := Option.map_eq_some_iff.1 G
   have := (M.rng k r' s X O).rng
   omega
  ·dsimp only at Z
   rw [List.getElem?_map] at Z
   obtain ⟨r', X, rfl⟩ := Option.map_eq_some_iff.1 Z
   have := M.prt k r' X
   omega
  ·dsimp only
   rw [Ql, Ql]
   have := M.bal v
   omega
  ·dsimp only at G
   rw [List.getElem?_map] at G
   obtain ⟨r', X, rfl⟩ := Option.map_eq_some_iff.1 G
   have h5 := M.rng k r' s X O
   have h6 := (Y.segs k s O).ends
   have := h5.up; have := h5.down
   omega
 ·have h5 := M.rng k r s G O
  have h6 := (Y.segs k s O).ends
  have := h5.up; have := h5.down
  omega
end Go.Proofs.YtmaamhgjeampmaaGreat
