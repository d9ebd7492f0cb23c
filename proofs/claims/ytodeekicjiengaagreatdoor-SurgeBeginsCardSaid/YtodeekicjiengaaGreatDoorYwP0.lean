/- Plain proofs. No condition. -/
import Derived.Test.YtodeekicjiengaaGreatDoorYwB2
import Derived.Test.YtodeekicjiengaaGreatDoorYwD
import Derived.Lib.SlicesCompact
set_option maxRecDepth 100000
namespace Go.Aw
set_option linter.unusedVariables false
set_option linter.unusedSimpArgs false
def Ok {α : Type} (o : Option α) (P : α → Prop) : Prop := ∃ r, o = some r ∧ P r
section
variable {α β S B : Type}
theorem Ok.pure {x : α} {P : α → Prop} (h : P x) : Ok (some x) P := ⟨x, rfl, h⟩
theorem Ok.get {o : Option α} {P : α → Prop} (h : Ok o P) : ∃ r, o = some r ∧ P r := h
theorem Ok.mono {o : Option α} {P Q : α → Prop} (h : Ok o P) (k : ∀ x, P x → Q x) : Ok o Q := let ⟨r, h1, h2⟩ := h; ⟨r, h1, k r h2⟩
theorem Ok.bind {o : Option α} {f : α → Option β} {P : β → Prop} {Q : α → Prop} (h : Ok o Q) (k : ∀ x, Q x → Ok (f x) P) : Ok (o.bind f) P := by
 obtain ⟨r, rfl, G⟩ := h; exact k r G
theorem Ok.bind' {o : Option α} {f : α → Option β} {P : β → Prop} (h : Ok o fun x => Ok (f x) P) : Ok (o.bind f) P := h.bind fun _ k => k
theorem Ok.eq {o : Option α} {P : α → Prop} {x : α} (h : o = some x) (k : P x) : Ok o P := ⟨x, h, k⟩
theorem Ok.and {o : Option α} {P Q : α → Prop} (h : Ok o P) (k : Ok o Q) : Ok o fun x => P x ∧ Q x := by
 obtain ⟨r, rfl, Y⟩ := h; obtain ⟨Z, O, G⟩ := k; cases O; exact ⟨r, rfl, Y, G⟩
theorem Ok.map {o : Option α} {f : α → β} {P : β → Prop} (h : Ok o fun x => P (f x)) : Ok (o.map f) P := by
 obtain ⟨r, rfl, G⟩ := h; exact ⟨_, rfl, G⟩
theorem Ok.ix {l : List α} {i : Int} {P : Nat × α → Prop} (k : Nat) (hi : i = (k : Int)) (G : k < l.length) (h : P (k, l[k])) : Ok (ix l i) P := by
 subst hi; exact ⟨_, Bb (gq G), h⟩
theorem Ok.ix' {l : List α} {i : Int} {P : Nat × α → Prop} (O : 0 ≤ i) (Y : i < (l.length : Int)) (h : ∀ (k : Nat) (x : α), i = (k : Int) → l[k]? = some x → P (k, x)) : Ok (Aw.ix l i) P := by
 obtain ⟨k, rfl⟩ : ∃ k : Nat, i = (k : Int) := ⟨i.toNat, by omega⟩
 have G : k < l.length := by omega
 exact ⟨_, Bb (gq G), h k _ rfl (gq G)⟩
theorem Ok.app {l m : List α} {P : List α → Prop} (hl : l.length + m.length ≤ 68719476736) (h : P (l ++ m)) : Ok (Dy l m) P := ⟨_, Wo hl, h⟩
theorem Ok.mk {n : Int} {z : α} {P : List α → Prop} (m : Nat) (G : n = (m : Int)) (hl : m ≤ 68719476736) (h : P (List.replicate m z)) : Ok (So n z) P := by
 subst G; exact ⟨_, rX z hl, h⟩
theorem Ok.quo {a b : Int} {P : Int → Prop} (hb : b ≠ 0) (h : P (wr (a.tdiv b))) : Ok (cA a b) P := ⟨_, if_pos hb, h⟩
theorem Ok.rem {a b : Int} {P : Int → Prop} (hb : b ≠ 0) (h : P (a.tmod b)) : Ok (Uy a b) P := ⟨_, if_pos hb, h⟩
theorem Ok.sub {l : List α} {a b : Int} {P : List α → Prop} (x y : Nat) (G : a = (x : Int)) (hb : b = (y : Int)) (O : x ≤ y) (hl : y ≤ l.length) (h : P ((l.drop x).take (y - x))) : Ok (Zh l a b) P := by
 subst G; subst hb
 exact ⟨_, if_pos ⟨by omega, by omega, by omega⟩, by simpa using h⟩
theorem Mk {f : Nat → α → S → Option S} (I : Nat → S → Prop) (l : List α) : ∀ (m : List α) (k : Nat), l.drop k = m → ∀ st, I k st →
  (∀ k x st, l[k]? = some x → I k st → Ok (f k x st) (I (k + 1))) → k ≤ l.length → Ok (forS f k m st) (I l.length)
 | [], k, hm, st, hi, _, hk => by
  have : l.length - k = 0 := by simpa using congrArg List.length hm
  have : k = l.length := by omega
  subst this; exact .pure hi
 | x :: m, k, hm, st, hi, hf, hk => by
  have O : l[k]? = some x := by have := congrArg (fun z => z[0]?) hm; simpa using this
  have G : l.drop (k + 1) = m := by have := congrArg (List.drop 1) hm; simpa [Nat.add_comm] using this
  obtain ⟨s', Y, Z⟩ := hf k x st O hi
  simp only [forS, Y]
  exact Mk I l m (k + 1) G s' Z hf (by have := (gs O).1; omega)
theorem Ok.forS {f : Nat → α → S → Option S} {l : List α} {st : S} {P : S → Prop} (I : Nat → S → Prop) (G : I 0 st)
  (hf : ∀ k x st, l[k]? = some x → I k st → Ok (f k x st) (I (k + 1))) (O : ∀ st, I l.length st → P st) : Ok (forS f 0 l st) P :=
 (Mk I l l 0 rfl st G hf (Nat.zero_le _)).mono O
theorem Ml {f : Nat → α → S → Option (S ⊕ B)} (I : Nat → S → Prop) (R : B → Prop) (l : List α) : ∀ (m : List α) (k : Nat), l.drop k = m → ∀ st, I k st →
  (∀ k x st, l[k]? = some x → I k st → Ok (f k x st) (Sum.elim (fun s => I (k + 1) s) R)) → k ≤ l.length → Ok (forL f k m st) (Sum.elim (fun s => I l.length s) R)
 | [], k, hm, st, hi, _, hk => by
  have : l.length - k = 0 := by simpa using congrArg List.length hm
  have : k = l.length := by omega
  subst this; exact .pure hi
 | x :: m, k, hm, st, hi, hf, hk => by
  have hx : l[k]? = some x := by have := congrArg (fun z => z[0]?) hm; simpa using this
  have G : l.drop (k + 1) = m := by have := congrArg (List.drop 1) hm; simpa [Nat.add_comm] using this
  obtain ⟨O, Y, Z⟩ := hf k x st hx hi
  cases O with
  | inl O =>
   simp only [forL, Y]
   exact Ml I R l m (k + 1) G O Z hf (by have := (gs hx).1; omega)
  | inr b => simp only [forL, Y]; exact .pure Z
theorem Ok.forL {f : Nat → α → S → Option (S ⊕ B)} {l : List α} {st : S} {P : S ⊕ B → Prop} (I : Nat → S → Prop) (R : B → Prop) (G : I 0 st)
  (hf : ∀ k x st, l[k]? = some x → I k st → Ok (f k x st) (Sum.elim (fun s => I (k + 1) s) R)) (O : ∀ st, I l.length st → P (.inl st)) (Y : ∀ b, R b → P (.inr b)) : Ok (forL f 0 l st) P :=
 (Ml I R l l 0 rfl st G hf (Nat.zero_le _)).mono fun x h => by cases x with | inl s => exact O s h | inr b => exact Y b h
theorem Mm {f : Nat → S → Option S} (I : Nat → S → Prop) (n : Nat) : ∀ (m k : Nat), k + m = n → ∀ st, I k st →
  (∀ k st, k < n → I k st → Ok (f k st) (I (k + 1))) → Ok (forJ f k m st) (I n)
 | 0, k, hm, st, hi, _ => by have : k = n := (by omega); subst this; exact .pure hi
 | m + 1, k, hm, st, hi, hf => by
  obtain ⟨Y, G, O⟩ := hf k st (by omega) hi
  simp only [forJ, G]
  exact Mm I n m (k + 1) (by omega) Y O hf
theorem Ok.forJ {f : Nat → S → Option S} {n : Nat} {st : S} {P : S → Prop} (I : Nat → S → Prop) (G : I 0 st)
  (hf : ∀ k st, k < n → I k st → Ok (f k st) (I (k + 1))) (O : ∀ st, I n st → P st) : Ok (forJ f 0 n st) P :=
 (Mm I n n 0 (by omega) st G hf).mono O
theorem Mo {f : Nat → S → Option (S ⊕ B)} (I : Nat → S → Prop) (R : B → Prop) (n : Nat) : ∀ (m k : Nat), k + m = n → ∀ st, I k st →
  (∀ k st, k < n → I k st → Ok (f k st) (Sum.elim (fun s => I (k + 1) s) R)) → Ok (forI f k m st) (Sum.elim (fun s => I n s) R)
 | 0, k, hm, st, hi, _ => by have : k = n := (by omega); subst this; exact .pure hi
 | m + 1, k, hm, st, hi, hf => by
  obtain ⟨G, O, Y⟩ := hf k st (by omega) hi
  cases G with
  | inl G =>
   simp only [forI, O]
   exact Mo I R n m (k + 1) (by omega) G Y hf
  | inr b => simp only [forI, O]; exact .pure Y
theorem Ok.forI {f : Nat → S → Option (S ⊕ B)} {n : Nat} {st : S} {P : S ⊕ B → Prop} (I : Nat → S → Prop) (R : B → Prop) (G : I 0 st)
  (hf : ∀ k st, k < n → I k st → Ok (f k st) (Sum.elim (fun s => I (k + 1) s) R)) (O : ∀ st, I n st → P (.inl st)) (Y : ∀ b, R b → P (.inr b)) : Ok (forI f 0 n st) P :=
 (Mo I R n n 0 (by omega) st G hf).mono fun x h => by cases x with | inl s => exact O s h | inr b => exact Y b h
theorem Mj {f : S → Option (S ⊕ B)} {P : B → Prop} (I : S → Prop) (μ : S → Nat) (hf : ∀ st, I st → Ok (f st) (Sum.elim (fun s => I s ∧ μ s < μ st) P)) :
  ∀ (n : Nat) (st : S), I st → μ st < n → Ok (Da f n st) P
 | 0, st, _, h => absurd h (Nat.not_lt_zero _)
 | n + 1, st, hi, h => by
  obtain ⟨r, O, G⟩ := hf st hi
  cases r with
  | inl s =>
   simp only [Da, O]
   exact Mj I μ hf n s G.1 (by have := G.2; omega)
  | inr b => simp only [Da, O]; exact .pure G
theorem Ok.loop {f : S → Option (S ⊕ B)} {P : B → Prop} {st : S} (I : S → Prop) (μ : S → Nat) (G : I st) (O : μ st < 18446744073709551616)
  (hf : ∀ st, I st → Ok (f st) (Sum.elim (fun s => I s ∧ μ s < μ st) P)) : Ok (Da f Eh st) P :=
 Mj I μ hf _ st G O
theorem Kl {f : S → Option (S ⊕ B)} {P : B → Prop} (I : Nat → S → Prop) (hf : ∀ m st, I m st → Ok (f st) (Sum.elim (fun s => ∃ G, G < m ∧ I G s) P)) :
  ∀ (n : Nat) (m : Nat) (st : S), I m st → m < n → Ok (Da f n st) P
 | 0, _, st, _, h => absurd h (Nat.not_lt_zero _)
 | n + 1, m, st, hi, h => by
  obtain ⟨r, O, Y⟩ := hf m st hi
  cases r with
  | inl s =>
   obtain ⟨G, h3, Z⟩ := Y
   simp only [Da, O]
   exact Kl I hf n G s Z (by omega)
  | inr b => simp only [Da, O]; exact .pure Y
theorem Ok.loopE {f : S → Option (S ⊕ B)} {P : B → Prop} {st : S} {m : Nat} (I : Nat → S → Prop) (O : I m st) (Y : m < 18446744073709551616)
  (hf : ∀ m st, I m st → Ok (f st) (Sum.elim (fun s => ∃ G, G < m ∧ I G s) P)) : Ok (Da f Eh st) P :=
 Kl I hf _ m st O Y
end
def G1 : Li → Li → Int
 | w :: ws, x :: xs => w * x + G1 ws xs
 | _, _ => 0
theorem Jh (w : Li) : G1 w [] = 0 := by cases w <;> rfl
theorem Yc (w : Li) (n : Nat) : G1 w (List.replicate n 0) = 0 := by
 induction n generalizing w with
 | zero => exact Jh w
 | succ n ih => cases w with
  | nil => rfl
  | cons a w => simp [List.replicate_succ, G1, ih]
theorem Wl {w l : Li} {k : Nat} {a x y : Int} (G : w[k]? = some a) (hl : l[k]? = some x) : G1 w (l.set k y) = G1 w l + a * (y - x) := by
 induction w generalizing l k with
 | nil => simp at G
 | cons b w ih =>
  cases l with
  | nil => simp at hl
  | cons z l =>
   cases k with
   | zero =>
    simp at G hl
    subst G; subst hl
    simp only [List.set_cons_zero, G1, Int.mul_sub]; omega
   | succ k =>
    simp at G hl
    simp only [List.set_cons_succ, G1, ih G hl]; omega
theorem Ly (w l : Li) : G1 w (l.map fun x => -x) = -G1 w l := by
 induction w generalizing l with
 | nil => rfl
 | cons b w ih =>
  cases l with
  | nil => rfl
  | cons z l => simp only [List.map_cons, G1, ih, Int.mul_neg]; omega
theorem Fw {w l : Li} {k : Nat} {a x : Int} (G : w[k]? = some a) (hl : l[k]? = some x) : G1 w (l.take (k + 1)) = G1 w (l.take k) + a * x := by
 induction w generalizing l k with
 | nil => simp at G
 | cons b w ih =>
  cases l with
  | nil => simp at hl
  | cons z l =>
   cases k with
   | zero => simp at G hl; subst G; subst hl; simp [G1, Jh]
   | succ k =>
    simp at G hl
    simp only [List.take_succ_cons, G1, ih G hl]; omega
theorem G3 {α : Type} {l : List α} {k i : Nat} {x : α} : (l.set k x)[i]? = if k = i ∧ i < l.length then some x else l[i]? := by
 rw [List.getElem?_set]
 by_cases h : k = i
 ·subst h
  by_cases G : k < l.length
  ·simp [G]
  ·simp [G]
 ·simp [h]
theorem D8 {a b : Nat} (h : some (a : Int) = some (b : Int)) : a = b := Int.ofNat.inj (Option.some.inj h)
inductive Rep (u : List Int) : Nat → Nat → Nat → Prop
 | root {k : Nat} : u[k]? = some (k : Int) → Rep u 0 k k
 | step {k j m r : Nat} : u[k]? = some (j : Int) → k ≠ j → Rep u m j r → Rep u (m + 1) k r
theorem Rep.fix {u : Li} {m k r : Nat} (h : Rep u m k r) : u[r]? = some (r : Int) := by
 induction h with
 | root h => exact h
 | step _ _ _ ih => exact ih
theorem Rep.det {u : Li} {m k r : Nat} (h : Rep u m k r) : ∀ {O r' : Nat}, Rep u O k r' → m = O ∧ r = r' := by
 induction h with
 | root h =>
  intro O r' Y
  cases Y with
  | root _ => exact ⟨rfl, rfl⟩
  | step h1 h2 _ => rw [h] at h1; have := D8 h1; omega
 | step h1 h2 h3 ih =>
  intro O r' Y
  cases Y with
  | root h => rw [h] at h1; have := D8 h1; omega
  | step G h5 h6 =>
   rw [h1] at G; have G := D8 G
   subst G
   obtain ⟨rfl, rfl⟩ := ih h6
   exact ⟨rfl, rfl⟩
theorem Rep.halve {u : Li} {k j i : Nat} (Z : u[k]? = some (j : Int)) (hne : k ≠ j) (hj : u[j]? = some (i : Int)) :
  ∀ (m x r : Nat), Rep u m x r → ∃ m', m' ≤ m ∧ Rep (u.set k (i : Int)) m' x r := by
 intro m
 induction m using Nat.strongRecOn with
 | ind m ih =>
  intro x r h
  have aa : k < u.length := (gs Z).1
  cases h with
  | root h =>
   refine ⟨0, Nat.le_refl _, .root ?_⟩
   rw [List.getElem?_set]
   by_cases hx : k = x
   ·subst hx; rw [h] at Z; have := D8 Z; omega
   ·simp [hx, h]
  | @step _ y m' _ Y h2 h3 =>
   by_cases hx : k = x
   ·subst hx
    rw [Z] at Y; have Y := D8 Y
    subst Y
    cases h3 with
    | root O =>
     rw [hj] at O; have O := D8 O
     subst O
     obtain ⟨m2, ab, G⟩ := ih 0 (by omega) i i (.root hj)
     have : m2 = 0 := by omega
     subst this
     exact ⟨1, by omega, .step (by simp [aa]) h2 G⟩
    | @step _ z m'' _ O h5 h6 =>
     rw [hj] at O; have O := D8 O
     subst O
     have hki : k ≠ i := by
      rintro rfl
      have := (Rep.det h6 (.step Z hne (.step hj h5 h6))).1
      omega
     obtain ⟨m2, ab, G⟩ := ih m'' (by omega) i r h6
     exact ⟨m2 + 1, by omega, .step (by simp [aa]) hki G⟩
   ·obtain ⟨m2, ab, G⟩ := ih m' (by omega) y r h3
    exact ⟨m2 + 1, by omega, .step (by rw [List.getElem?_set]; simp [hx, Y]) h2 G⟩
theorem Rep.link {u : Li} {a b : Nat} (ha : u[a]? = some (a : Int)) (hb : u[b]? = some (b : Int)) (G : a ≠ b) {m x r : Nat} (h : Rep u m x r) :
  ∃ Y, Y ≤ m + 1 ∧ Rep (u.set a (b : Int)) Y x (if r = a then b else r) := by
 have Z : a < u.length := (gs ha).1
 induction h with
 | @root k h =>
  by_cases O : a = k
  ·subst O
   refine ⟨1, by omega, ?_⟩
   rw [if_pos rfl]
   exact .step (by simp [Z]) G (.root (by rw [List.getElem?_set]; simp [G, hb]))
  ·refine ⟨0, by omega, ?_⟩
   rw [if_neg (Ne.symm O)]
   exact .root (by rw [List.getElem?_set]; simp [O, h])
 | @step k j m r h1 h2 h3 ih =>
  obtain ⟨Y, h4, h5⟩ := ih
  have O : a ≠ k := by rintro rfl; rw [ha] at h1; have := D8 h1; omega
  exact ⟨Y + 1, by omega, .step (by rw [List.getElem?_set]; simp [O, h1]) h2 h5⟩
structure Uni (n : Nat) (u : List Int) (d : Nat) (ρ : Nat → Nat) : Prop where
 len : u.length = n
 lt : ∀ k, k < n → ρ k < n
 rep : ∀ k, k < n → ∃ m, m ≤ d ∧ Rep u m k (ρ k)
theorem Uni.at_ {n d : Nat} {u : Li} {ρ : Nat → Nat} (h : Uni n u d ρ) {k : Nat} (Y : k < n) : ∃ j : Nat, u[k]? = some (j : Int) ∧ j < n ∧ ρ j = ρ k := by
 obtain ⟨m, _, Z⟩ := h.rep k Y
 generalize he : ρ k = r at Z
 cases Z with
 | root h1 => exact ⟨k, h1, Y, he⟩
 | @step _ j _ _ h1 h2 h3 =>
  have O : j < n := by
   rw [← h.len]
   cases h3 with
   | root h => exact (gs h).1
   | step h _ _ => exact (gs h).1
  refine ⟨j, h1, O, ?_⟩
  obtain ⟨m', _, G⟩ := h.rep j O
  exact (G.det h3).2
theorem Uni.fix {n d : Nat} {u : Li} {ρ : Nat → Nat} (h : Uni n u d ρ) {k : Nat} (G : k < n) (he : u[k]? = some (k : Int)) : ρ k = k := by
 obtain ⟨m, _, O⟩ := h.rep k G
 exact (O.det (.root he)).2
theorem Uni.halve {n d : Nat} {u : Li} {ρ : Nat → Nat} (h : Uni n u d ρ) {k j i : Nat} (Y : u[k]? = some (j : Int)) (G : k ≠ j) (O : u[j]? = some (i : Int)) :
  Uni n (u.set k (i : Int)) d ρ :=
 ⟨by simp [h.len], h.lt, fun x Z => let ⟨m, h1, h2⟩ := h.rep x Z; let ⟨m', h3, h4⟩ := Rep.halve Y G O m x _ h2; ⟨m', by omega, h4⟩⟩
theorem Uni.link {n d : Nat} {u : Li} {ρ : Nat → Nat} (h : Uni n u d ρ) {a b : Nat} (ha : a < n) (hb : b < n) :
  Uni n (u.set (ρ a) (ρ b : Int)) (d + 1) (fun x => if ρ x = ρ a then ρ b else ρ x) := by
 obtain ⟨ma, _, ra⟩ := h.rep a ha
 obtain ⟨mb, _, rb⟩ := h.rep b hb
 by_cases O : ρ a = ρ b
 ·have Z : u.set (ρ a) (ρ b : Int) = u := by
   rw [O]
   refine List.ext_getElem? fun i => ?_
   rw [List.getElem?_set]
   split
   ·rename_i hi; subst hi
    have := rb.fix
    split <;> simp_all
   ·rfl
  have G : (fun x => if ρ x = ρ a then ρ b else ρ x) = ρ := by
   funext x; split <;> simp_all
  rw [Z, G]
  exact ⟨h.len, h.lt, fun x Y => let ⟨m, Z, G⟩ := h.rep x Y; ⟨m, by omega, G⟩⟩
 ·refine ⟨by simp [h.len], fun x Y => ?_, fun x Y => ?_⟩
  ·split
   ·exact h.lt b hb
   ·exact h.lt x Y
  ·obtain ⟨m, Z, G⟩ := h.rep x Y
   obtain ⟨m', h3, h4⟩ := Rep.link ra.fix rb.fix O G
   exact ⟨m', by omega, h4⟩
theorem Uni.step {n d : Nat} {u : Li} {ρ : Nat → Nat} (h : Uni n u d ρ) {k j i m : Nat} (hk : u[k]? = some (j : Int)) (hne : k ≠ j) (Y : u[j]? = some (i : Int)) (hr : Rep u m k (ρ k)) :
  ∃ m', m' < m ∧ Rep (u.set k (i : Int)) m' i (ρ i) ∧ ρ i = ρ k := by
 have hj' : j < n := by rw [← h.len]; exact (gs Y).1
 have hk' : k < n := by rw [← h.len]; exact (gs hk).1
 obtain ⟨y, e1, hy, e2⟩ := h.at_ hj'
 obtain ⟨y2, e3, hy2, e4⟩ := h.at_ hk'
 rw [Y] at e1; have e1 := D8 e1; subst e1
 rw [hk] at e3; have e3 := D8 e3; subst e3
 have O : ρ i = ρ k := by rw [e2, e4]
 generalize ρ k = r at hr O
 cases hr with
 | root Z => rw [Z] at hk; have := D8 hk; omega
 | @step _ y m1 _ Z h2 h3 =>
  rw [hk] at Z; have Z := D8 Z
  subst Z
  have : ∃ m2, m2 ≤ m1 ∧ Rep u m2 i r := by
   cases h3 with
   | root G => rw [Y] at G; have G := D8 G; exact ⟨0, by omega, by rw [G]; rw [G] at Y; exact .root Y⟩
   | step G h5 h6 => rw [Y] at G; have G := D8 G; subst G; exact ⟨_, by omega, h6⟩
  obtain ⟨m2, G, h5⟩ := this
  obtain ⟨m3, h6, h7⟩ := Rep.halve hk hne Y m2 i _ h5
  exact ⟨m3, by omega, by rw [O]; exact h7, O⟩
inductive Conn (R : Nat → Nat → Prop) : Nat → Nat → Prop
 | refl (x : Nat) : Conn R x x
 | edge {x y : Nat} : R x y → Conn R x y
 | symm {x y : Nat} : Conn R x y → Conn R y x
 | trans {x y z : Nat} : Conn R x y → Conn R y z → Conn R x z
theorem Conn.mono {R R' : Nat → Nat → Prop} (h : ∀ x y, R x y → Conn R' x y) {x y : Nat} (c : Conn R x y) : Conn R' x y := by
 induction c with
 | refl x => exact .refl x
 | edge e => exact h _ _ e
 | symm _ ih => exact ih.symm
 | trans _ _ i1 i2 => exact i1.trans i2
theorem pR {x y : Nat} : x = y ↔ Conn (fun _ _ => False) x y := by
 constructor
 ·rintro rfl; exact .refl _
 ·intro h
  induction h with
  | refl _ => rfl
  | edge e => exact e.elim
  | symm _ ih => exact ih.symm
  | trans _ _ i1 i2 => exact i1.trans i2
theorem dL {ρ : Nat → Nat} {R : Nat → Nat → Prop} (h : ∀ x y, ρ x = ρ y ↔ Conn R x y) (a b : Nat) (x y : Nat) :
  (if ρ x = ρ a then ρ b else ρ x) = (if ρ y = ρ a then ρ b else ρ y) ↔ Conn (fun p q => R p q ∨ p = a ∧ q = b) x y := by
 have up : ∀ {x y}, Conn R x y → Conn (fun p q => R p q ∨ p = a ∧ q = b) x y := fun c => c.mono fun _ _ e => .edge (.inl e)
 have Y : Conn (fun p q => R p q ∨ p = a ∧ q = b) a b := .edge (.inr ⟨rfl, rfl⟩)
 constructor
 ·intro e
  by_cases G : ρ x = ρ a <;> by_cases O : ρ y = ρ a
  ·exact up ((h x y).1 (G.trans O.symm))
  ·rw [if_pos G, if_neg O] at e
   exact (up ((h x a).1 G)).trans (Y.trans (up ((h b y).1 e)))
  ·rw [if_neg G, if_pos O] at e
   exact ((up ((h y a).1 O)).trans (Y.trans (up ((h b x).1 e.symm)))).symm
  ·rw [if_neg G, if_neg O] at e
   exact up ((h x y).1 e)
 ·intro c
  induction c with
  | refl _ => rfl
  | edge e =>
   rcases e with e | ⟨rfl, rfl⟩
   ·rw [(h _ _).2 (.edge e)]
   ·simp
  | symm _ ih => exact ih.symm
  | trans _ _ i1 i2 => exact i1.trans i2
end Go.Aw
namespace Go.Proofs.YtodeekicjiengaaGreatDoor
set_option linter.unusedVariables false
set_option linter.unusedSimpArgs false
open Go.Aw
abbrev Xf := KS
structure SrcOk (s : Xf) : Prop where
 at0 : 0 ≤ s.At
 at1 : s.At ≤ (s.L_.length : Int)
 len : s.L_.length ≤ 2000
theorem SrcOk.eta {s : Xf} (h : SrcOk s) : SrcOk ⟨s.L_, s.At⟩ := h
theorem A7 {α : Type} {c : Prop} [Decidable c] {a b : Option α} {P : α → Prop} (h1 : c → Ok a P) (h2 : ¬ c → Ok b P) : Ok (if decide c = true then a else b) P := by
 by_cases G : c
 ·rw [if_pos (by simp [G])]; exact h1 G
 ·rw [if_neg (by simp [G])]; exact h2 G
theorem Bc {α : Type} {c : Bool} {a b : Option α} {P : α → Prop} (h1 : c = true → Ok a P) (h2 : c = false → Ok b P) : Ok (if c = true then a else b) P := by
 cases c
 ·rw [if_neg (by simp)]; exact h2 rfl
 ·rw [if_pos rfl]; exact h1 rfl
theorem De {α : Type} {c : Bool} {a b : Option α} {P : α → Prop} (h1 : c = false → Ok a P) (h2 : c = true → Ok b P) : Ok (if (!c) = true then a else b) P := by
 cases c
 ·exact h1 rfl
 ·exact h2 rfl
theorem C6 {α : Type} {x y : Int} {a b : Option α} {P : α → Prop} (h1 : x = y → Ok a P) (h2 : x ≠ y → Ok b P) : Ok (if (x == y) = true then a else b) P := by
 by_cases h : x = y
 ·rw [if_pos (by simp [h])]; exact h1 h
 ·rw [if_neg (by simp [h])]; exact h2 h
theorem Cl {α : Type} {x y : Int} {a b : Option α} {P : α → Prop} (h1 : x ≠ y → Ok a P) (h2 : x = y → Ok b P) : Ok (if (x != y) = true then a else b) P := by
 by_cases h : x = y
 ·rw [if_neg (by simp [h])]; exact h2 h
 ·rw [if_pos (by simp [h])]; exact h1 h
theorem rW (x : Int) {n : Int} (h1 : 1 ≤ n) (h2 : n ≤ 9223372036854775807) : Ok (Wc x n) fun r => 0 ≤ r ∧ r < n := by
 unfold Wc Wc.J1
 have G := Int.tmod_lt_of_pos x (show 0 < n by omega)
 have O : -n < x.tmod n := by
  have := Int.tmod_lt_of_pos (-x) (show 0 < n by omega)
  rw [Int.neg_tmod] at this; omega
 refine A7 (fun h => by omega) fun _ => .bind' (.rem (by omega) ?_)
 refine A7 (fun h => .pure ?_) (fun h => .pure ?_)
 ·rw [Av (by omega)]; omega
 ·omega
theorem rU (l : Li) : Ok (V1 l) SrcOk := by
 unfold V1
 refine .bind' (.sub 0 (min l.length 2000) rfl (by omega) (by omega) (by omega) (.pure ?_))
 exact ⟨Int.le_refl _, by simp, by simp; omega⟩
theorem rR {s : Xf} (h : SrcOk s) : Ok (Vi s) fun r => SrcOk r.2 := by
 obtain ⟨O, Y, G⟩ := h
 unfold Vi
 refine A7 (fun _ => .pure ⟨O, Y, G⟩) fun h => ?_
 simp (disch := omega) only [Av]
 refine .bind' (.ix' (by omega) (by omega) fun k x _ _ => .pure ⟨by dsimp only; omega, by dsimp only; omega, G⟩)
theorem Ij {s : Xf} (h : SrcOk s) {n : Int} (h1 : 1 ≤ n) (h2 : n ≤ 9223372036854775807) : Ok (D9 s n) fun r => SrcOk r.2 ∧ 0 ≤ r.1 ∧ r.1 < n := by
 unfold D9
 exact .bind (rR h) fun x G => .bind (rW _ h1 h2) fun y O => .pure ⟨G, O⟩
theorem Eo {s : Xf} (h : SrcOk s) {lo hi : Int} (h1 : lo ≤ hi) (h2 : -1000000000 ≤ lo) (O : hi ≤ 1000000000) : Ok (E7 s lo hi) fun r => SrcOk r.2 ∧ lo ≤ r.1 ∧ r.1 ≤ hi := by
 unfold E7
 simp (disch := omega) only [Av]
 refine .bind (Ij h (by omega) (by omega)) fun x G => .pure ⟨G.1, ?_⟩
 dsimp only
 rw [Av (by omega)]; omega
theorem Ec {s : Xf} (h : SrcOk s) {l : Li} (h1 : 1 ≤ l.length) (h2 : l.length ≤ 1000) : Ok (Ej s l) fun r => SrcOk r.2 ∧ r.1 ∈ l := by
 unfold Ej
 refine .bind (Ij h (by omega) (by omega)) fun x G => .bind' (.ix' G.2.1 G.2.2 fun k y _ O => .pure ⟨G.1, mg O⟩)
def nm (c : UInt8) (k : Nat) : Bt := ⟨#[c, 97 + UInt8.ofNat k]⟩
theorem Je {c : UInt8} {k : Nat} (O : k < 26) : Hz ⟨#[c]⟩ (k : Int) = some (nm c k) := by
 unfold Hz
 have G : ((k : Int).tmod 26) = (k : Int) := by rw [Int.tmod_eq_emod_of_nonneg (by omega)]; omega
 rw [G, Av (by omega)]
 have : k = 0 ∨ k = 1 ∨ k = 2 ∨ k = 3 ∨ k = 4 ∨ k = 5 ∨ k = 6 ∨ k = 7 ∨ k = 8 ∨ k = 9 ∨ k = 10 ∨ k = 11 ∨ k = 12 ∨ k = 13 ∨ k = 14 ∨ k = 15 ∨ k = 16 ∨ k = 17 ∨ k = 18 ∨ k = 19 ∨ k = 20 ∨ k = 21 ∨ k = 22 ∨ k = 23 ∨ k = 24 ∨ k = 25 := by omega
 rcases this with rfl | rfl | rfl | rfl | rfl | rfl | rfl | rfl | rfl | rfl | rfl | rfl | rfl | rfl | rfl | rfl | rfl | rfl | rfl | rfl | rfl | rfl | rfl | rfl | rfl | rfl <;> rfl
structure PointsOk (cap : Int) (l : List Point) : Prop where
 len : 2 ≤ l.length ∧ l.length ≤ 8
 first : ∀ p, l[0]? = some p → p.At = 0
 last : ∀ p, l[l.length - 1]? = some p → p.At = cap
 up : ∀ i p q, l[i]? = some p → l[i + 1]? = some q → p.At < q.At
 height : ∀ p, p ∈ l → -500 ≤ p.Height ∧ p.Height ≤ 5000
 limit : ∀ p, p ∈ l → 0 ≤ p.Limit ∧ p.Limit ≤ 100000000
structure SegOk (nodes k : Nat) (s : Segment) : Prop where
 name : s.Name = nm 103 k
 ends : 0 ≤ s.From ∧ s.From < (nodes : Int) ∧ 0 ≤ s.To ∧ s.To < (nodes : Int) ∧ s.From ≠ s.To
 cap : 1 ≤ s.Capacity ∧ s.Capacity ≤ 1000
 resist : 0 ≤ s.Resist ∧ s.Resist ≤ 1000
 wave : 0 ≤ s.Wave ∧ s.Wave ≤ 100000
 points : PointsOk s.Capacity s.Points
structure PortOk (nodes k : Nat) (p : Port) : Prop where
 name : p.Name = nm 113 k
 node : 0 ≤ p.Node ∧ p.Node < (nodes : Int)
 pressure : 0 ≤ p.Pressure ∧ p.Pressure ≤ 100000000
structure StOk (nodes k : Nat) (p : Station) : Prop where
 name : p.Name = nm 115 k
 node : 0 ≤ p.Node ∧ p.Node < (nodes : Int)
 head : 0 ≤ p.Head ∧ p.Head ≤ 2000000
 fall : 0 ≤ p.Fall ∧ p.Fall ≤ 100000
 suction : 0 ≤ p.Suction ∧ p.Suction ≤ 400000
structure NetOk (n : Network) : Prop where
 nodes : 2 ≤ n.Nodes.length ∧ n.Nodes.length ≤ 6
 names : ∀ k x, n.Nodes[k]? = some x → x = nm 110 k
 segs1 : n.Nodes.length - 1 ≤ n.Segments.length ∧ n.Segments.length ≤ 8
 segs : ∀ k s, n.Segments[k]? = some s → SegOk n.Nodes.length k s
 ports1 : 2 ≤ n.Ports.length ∧ n.Ports.length ≤ 6
 ports : ∀ k s, n.Ports[k]? = some s → PortOk n.Nodes.length k s
 portsUp : ∀ (i j : Nat) (p q : Port), i < j → n.Ports[i]? = some p → n.Ports[j]? = some q → p.Node < q.Node
 sts1 : n.Stations.length ≤ 6
 sts : ∀ k s, n.Stations[k]? = some s → StOk n.Nodes.length k s
 stsUp : ∀ (i j : Nat) (p q : Sn), i < j → n.Stations[i]? = some p → n.Stations[j]? = some q → p.Node < q.Node
 vapour : -100000 ≤ n.Vapour ∧ n.Vapour ≤ 50000
 settle : 0 ≤ n.Settle ∧ n.Settle ≤ 100
structure PInv (l : List Point) (at_ : Int) : Prop where
 len : 1 ≤ l.length
 first : ∀ p, l[0]? = some p → p.At = 0
 last : ∀ p, l[l.length - 1]? = some p → p.At = at_
 up : ∀ i p q, l[i]? = some p → l[i + 1]? = some q → p.At < q.At
 height : ∀ p, p ∈ l → -500 ≤ p.Height ∧ p.Height ≤ 5000
 limit : ∀ p, p ∈ l → 0 ≤ p.Limit ∧ p.Limit ≤ 100000000
theorem PInv.append {l : List Point} {at_ : Int} (h : PInv l at_) {p : Point} (h1 : at_ < p.At) (h2 : -500 ≤ p.Height ∧ p.Height ≤ 5000) (h3 : 0 ≤ p.Limit ∧ p.Limit ≤ 100000000) : PInv (l ++ [p]) p.At := by
 have hl := h.len
 refine ⟨by simp, fun q G => h.first q ?_, fun q G => ?_, fun i a b Y O => ?_, fun q G => ?_, fun q G => ?_⟩
 ·rw [List.getElem?_append_left (by omega)] at G; exact G
 ·rw [List.getElem?_append_right (by simp)] at G; simp at G; rw [G]
 ·rw [List.getElem?_append] at Y O
  split at O
  ·rw [if_pos (by omega)] at Y; exact h.up i a b Y O
  ·rename_i hi
   have Z := (gs O).1
   simp at Z
   have : i + 1 = l.length := by omega
   rw [if_pos (by omega)] at Y
   have h4 := h.last a (by rw [show l.length - 1 = i by omega]; exact Y)
   simp [this] at O
   rw [← O]; omega
 ·rcases List.mem_append.1 G with G | G
  ·exact h.height q G
  ·simp at G; subst G; exact h2
 ·rcases List.mem_append.1 G with G | G
  ·exact h.limit q G
  ·simp at G; subst G; exact h3
theorem PInv.done {l : List Point} {at_ : Int} (h : PInv l at_) (h1 : 2 ≤ l.length ∧ l.length ≤ 8) : PointsOk at_ l := ⟨h1, h.first, h.last, h.up, h.height, h.limit⟩
theorem Hw {n : Int} (h : 0 ≤ n) : ∃ k : Nat, n = (k : Int) := ⟨n.toNat, by omega⟩
theorem kK {s : Xf} (hs : SrcOk s) {nodes k : Nat} (hk : k < 26) {a b : Int} (ha : 0 ≤ a ∧ a < (nodes : Int)) (hb : 0 ≤ b ∧ b < (nodes : Int)) (ap : a ≠ b) :
  Ok (M6 s (k : Int) a b) fun r => SegOk nodes k r.1 ∧ SrcOk r.2 := by
 have ac : ∀ (j : Li × Int × Int × Int), SrcOk ⟨j.1, j.2.1⟩ → 0 ≤ j.2.2.1 ∧ j.2.2.1 < (nodes : Int) → 0 ≤ j.2.2.2 ∧ j.2.2.2 < (nodes : Int) → j.2.2.1 ≠ j.2.2.2 →
   Ok (M6.J1 (k : Int) j) fun r => SegOk nodes k r.1 ∧ SrcOk r.2 := by
  intro j hs h1 h2 h3
  unfold M6.J1
  refine .bind' (.eq (Je hk) ?_)
  refine .bind (Ec hs (by decide) (by decide)) fun Y ah => ?_
  refine .bind (Ec ah.1 (by decide) (by decide)) fun r14 ai => ?_
  refine .bind (Ec ai.1 (by decide) (by decide)) fun r17 aj => ?_
  refine .bind (Ec aj.1 (by decide) (by decide)) fun aw ao => ?_
  refine .bind (Eo ao.1 (by decide) (by decide) (by decide)) fun r25 h25 => ?_
  have c11 := ah.2; have c14 := ai.2; have c17 := aj.2; have c22 := ao.2
  simp only [List.mem_cons, List.not_mem_nil, or_false] at c11 c14 c17 c22
  refine .bind' (.app (by simp) ?_)
  refine .bind (Q := fun d : Li × Int × List Point => SrcOk ⟨d.1, d.2.1⟩ ∧ ∃ G, PInv d.2.2 G ∧ G < Y.1 ∧ d.2.2.length ≤ 7) ?_ ?_
  ·refine .loop (fun O => SrcOk ⟨O.1, O.2.1⟩ ∧ PInv O.2.2.1 O.2.2.2 ∧ 0 ≤ O.2.2.2 ∧ O.2.2.2 < Y.1 ∧ O.2.2.1.length ≤ 7) (fun O => 7 - O.2.2.1.length)
    ⟨h25.1, ⟨by simp, by simp, by simp, by simp, by simp; omega, by simp; omega⟩, by simp, by simp; omega, by simp⟩ (by dsimp only; omega) ?_
   rintro ⟨L_, At, af, G⟩ ⟨i1, i2, i3, i4, i5⟩
   dsimp only at i1 i2 i3 i4 i5 ⊢
   have j4 : ∀ (x : Li × Int × Bool), SrcOk ⟨x.1, x.2.1⟩ → (x.2.2 = true → af.length < 7) → Ok (M6.J4 Y aw (L_, At, af, G) x) (Sum.elim (fun O => (SrcOk ⟨O.1, O.2.1⟩ ∧ PInv O.2.2.1 O.2.2.2 ∧ 0 ≤ O.2.2.2 ∧ O.2.2.2 < Y.1 ∧ O.2.2.1.length ≤ 7) ∧ 7 - O.2.2.1.length < 7 - af.length) fun d => SrcOk ⟨d.1, d.2.1⟩ ∧ ∃ G, PInv d.2.2 G ∧ G < Y.1 ∧ d.2.2.length ≤ 7) := by
    intro x hx hl
    unfold M6.J4
    refine Bc (fun hb => ?_) fun _ => .pure ⟨hx, G, i2, i4, i5⟩
    have hl := hl hb
    refine .bind (Eo hx (by decide) (by decide) (by decide)) fun r197 aa => ?_
    dsimp only
    rw [Av (by omega)]
    refine A7 (fun _ => .pure ⟨aa.1, G, i2, i4, i5⟩) fun au => ?_
    refine .bind (Eo aa.1 (by decide) (by decide) (by decide)) fun ad ak => ?_
    refine .bind (Ec ak.1 (by decide) (by decide)) fun ae ab => ?_
    have Z := ab.2
    simp only [List.mem_cons, List.not_mem_nil, or_false] at Z
    refine .bind (Ij ab.1 (by decide) (by decide)) fun r206 am => ?_
    refine .bind' (.app (by simp; omega) (.pure ⟨⟨am.1, ?_, by dsimp only; omega, by dsimp only; omega, by simp; omega⟩, by simp; omega⟩))
    have hh : -50 ≤ ad.1 * ae.1 ∧ ad.1 * ae.1 ≤ 600 := by
     rcases Z with h | h | h <;> rw [h] <;> omega
    refine i2.append ?_ ?_ ?_ <;> simp (disch := omega) only [Av] <;> omega
   unfold M6.B3
   refine A7 (fun h => ?_) fun h => ?_
   ·refine .bind (Ij i1 (by decide) (by decide)) fun r213 an => j4 (_, _, _) an.1 fun _ => by dsimp only at h; omega
   ·exact j4 (_, _, _) i1 (by simp)
  ·rintro ⟨dl, da, dp⟩ ⟨hd, G, hp, au, aq⟩
   dsimp only at hd hp aq
   unfold M6.J2
   refine .bind (Eo hd (by decide) (by decide) (by decide)) fun av ag => ?_
   have h1l := hp.len
   refine .bind' (.app (by simp; omega) (.pure ⟨⟨rfl, ⟨h1.1, h1.2, h2.1, h2.2, h3⟩, by dsimp only; omega, by dsimp only; omega, by dsimp only; omega, ?_⟩, ag.1⟩))
   exact (hp.append (p := ⟨Y.1, av.1, aw.1⟩) au (by dsimp only; omega) (by dsimp only; omega)).done (by simp; omega)
 unfold M6
 refine .bind (Ij hs (by decide) (by decide)) fun r hr => ?_
 exact C6 (fun _ => ac _ hr.1 hb ha (Ne.symm ap)) fun _ => ac _ hr.1 ha hb ap
theorem Mp {s : Li} {g : Int → Option Bool} {P : Int → Bool} (hg : ∀ (k : Nat) (x : Int), s[k]? = some x → g x = some (P x)) :
  Ok (Qz s g) fun r => (r = -1 ∧ ∀ (j : Nat) (y : Int), s[j]? = some y → P y = false) ∨ ∃ (k : Nat) (x : Int), r = (k : Int) ∧ s[k]? = some x ∧ P x = true ∧ ∀ (j : Nat) (y : Int), j < k → s[j]? = some y → P y = false := by
 unfold Qz
 refine .bind' (.forL (fun k _ => ∀ (j : Nat) (y : Int), j < k → s[j]? = some y → P y = false) (fun r => ∃ (k : Nat) (x : Int), r = (k : Int) ∧ s[k]? = some x ∧ P x = true ∧ ∀ (j : Nat) (y : Int), j < k → s[j]? = some y → P y = false) (fun j y h => absurd h (Nat.not_lt_zero _)) ?_ ?_ ?_)
 ·intro k x _ Y hi
  unfold Qz.B2
  refine .bind' (.eq (hg k x Y) (Bc (fun O => .pure ⟨k, x, rfl, Y, O, hi⟩) fun O => .pure fun j y hj G => ?_))
  by_cases h : j < k
  ·exact hi j y h G
  ·have : j = k := by omega
   subst this
   rw [Y] at G; simp at G; subst G; exact O
 ·intro _ hi
  simp only [Sum.elim_inl]
  unfold Qz.J1
  exact .pure (.inl ⟨rfl, fun j y G => hi j y (gs G).1 G⟩)
 ·intro b Z
  exact .pure (.inr Z)
theorem Eu {s : Li} {g : Int → Option Bool} {P : Int → Bool} (hg : ∀ (k : Nat) (x : Int), s[k]? = some x → g x = some (P x)) :
  Kr s g = some (s.any P) := by
 have : Ok (Kr s g) fun r => r = s.any P := by
  unfold Kr
  refine .bind (Mp hg) fun r Z => .pure ?_
  rcases Z with ⟨rfl, h⟩ | ⟨k, x, rfl, G, Y, _⟩
  ·have : s.any P = false := by
    rw [List.any_eq_false]
    intro x G
    obtain ⟨j, O⟩ := List.getElem?_of_mem G
    rw [h j x O]; simp
   rw [this]; rfl
  ·have : s.any P = true := List.any_eq_true.2 ⟨x, mg G, Y⟩
   rw [this]; simp
 obtain ⟨r, h, rfl⟩ := this
 exact h
theorem Hq {s : List Bt} {g : Bt → Option Bool} {P : Bt → Bool} (hg : ∀ (k : Nat) (x : Bt), s[k]? = some x → g x = some (P x)) :
  Ok (P6 s g) fun r => (r = -1 ∧ ∀ (j : Nat) (y : Bt), s[j]? = some y → P y = false) ∨ ∃ (k : Nat) (x : Bt), r = (k : Int) ∧ s[k]? = some x ∧ P x = true ∧ ∀ (j : Nat) (y : Bt), j < k → s[j]? = some y → P y = false := by
 unfold P6
 refine .bind' (.forL (fun k _ => ∀ (j : Nat) (y : Bt), j < k → s[j]? = some y → P y = false) (fun r => ∃ (k : Nat) (x : Bt), r = (k : Int) ∧ s[k]? = some x ∧ P x = true ∧ ∀ (j : Nat) (y : Bt), j < k → s[j]? = some y → P y = false) (fun j y h => absurd h (Nat.not_lt_zero _)) ?_ ?_ ?_)
 ·intro k x _ Y hi
  unfold P6.B2
  refine .bind' (.eq (hg k x Y) (Bc (fun O => .pure ⟨k, x, rfl, Y, O, hi⟩) fun O => .pure fun j y hj G => ?_))
  by_cases h : j < k
  ·exact hi j y h G
  ·have : j = k := by omega
   subst this
   rw [Y] at G; simp at G; subst G; exact O
 ·intro _ hi
  simp only [Sum.elim_inl]
  unfold P6.J1
  exact .pure (.inl ⟨rfl, fun j y G => hi j y (gs G).1 G⟩)
 ·intro b Z
  exact .pure (.inr Z)
theorem Gz {s : List Bt} {g : Bt → Option Bool} {P : Bt → Bool} (hg : ∀ (k : Nat) (x : Bt), s[k]? = some x → g x = some (P x)) :
  Qg s g = some (s.any P) := by
 have : Ok (Qg s g) fun r => r = s.any P := by
  unfold Qg
  refine .bind (Hq hg) fun r Z => .pure ?_
  rcases Z with ⟨rfl, h⟩ | ⟨k, x, rfl, G, Y, _⟩
  ·have : s.any P = false := by
    rw [List.any_eq_false]
    intro x G
    obtain ⟨j, O⟩ := List.getElem?_of_mem G
    rw [h j x O]; simp
   rw [this]; rfl
  ·have : s.any P = true := List.any_eq_true.2 ⟨x, mg G, Y⟩
   rw [this]; simp
 obtain ⟨r, h, rfl⟩ := this
 exact h
theorem Fc {s : List Sg} {g : Sg → Option Bool} {P : Sg → Bool} (hg : ∀ (k : Nat) (x : Sg), s[k]? = some x → g x = some (P x)) :
  Ok (Qx s g) fun r => (r = -1 ∧ ∀ (j : Nat) (y : Sg), s[j]? = some y → P y = false) ∨ ∃ (k : Nat) (x : Sg), r = (k : Int) ∧ s[k]? = some x ∧ P x = true ∧ ∀ (j : Nat) (y : Sg), j < k → s[j]? = some y → P y = false := by
 unfold Qx
 refine .bind' (.forL (fun k _ => ∀ (j : Nat) (y : Sg), j < k → s[j]? = some y → P y = false) (fun r => ∃ (k : Nat) (x : Sg), r = (k : Int) ∧ s[k]? = some x ∧ P x = true ∧ ∀ (j : Nat) (y : Sg), j < k → s[j]? = some y → P y = false) (fun j y h => absurd h (Nat.not_lt_zero _)) ?_ ?_ ?_)
 ·intro k x _ Y hi
  unfold Qx.B2
  refine .bind' (.eq (hg k x Y) (Bc (fun O => .pure ⟨k, x, rfl, Y, O, hi⟩) fun O => .pure fun j y hj G => ?_))
  by_cases h : j < k
  ·exact hi j y h G
  ·have : j = k := by omega
   subst this
   rw [Y] at G; simp at G; subst G; exact O
 ·intro _ hi
  simp only [Sum.elim_inl]
  unfold Qx.J1
  exact .pure (.inl ⟨rfl, fun j y G => hi j y (gs G).1 G⟩)
 ·intro b Z
  exact .pure (.inr Z)
theorem D0 {s : List Sg} {g : Sg → Option Bool} {P : Sg → Bool} (hg : ∀ (k : Nat) (x : Sg), s[k]? = some x → g x = some (P x)) :
  M0 s g = some (s.any P) := by
 have : Ok (M0 s g) fun r => r = s.any P := by
  unfold M0
  refine .bind (Fc hg) fun r Z => .pure ?_
  rcases Z with ⟨rfl, h⟩ | ⟨k, x, rfl, G, Y, _⟩
  ·have : s.any P = false := by
    rw [List.any_eq_false]
    intro x G
    obtain ⟨j, O⟩ := List.getElem?_of_mem G
    rw [h j x O]; simp
   rw [this]; rfl
  ·have : s.any P = true := List.any_eq_true.2 ⟨x, mg G, Y⟩
   rw [this]; simp
 obtain ⟨r, h, rfl⟩ := this
 exact h
theorem Gi {s : List Port} {g : Port → Option Bool} {P : Port → Bool} (hg : ∀ (k : Nat) (x : Port), s[k]? = some x → g x = some (P x)) :
  Ok (Qc s g) fun r => (r = -1 ∧ ∀ (j : Nat) (y : Port), s[j]? = some y → P y = false) ∨ ∃ (k : Nat) (x : Port), r = (k : Int) ∧ s[k]? = some x ∧ P x = true ∧ ∀ (j : Nat) (y : Port), j < k → s[j]? = some y → P y = false := by
 unfold Qc
 refine .bind' (.forL (fun k _ => ∀ (j : Nat) (y : Port), j < k → s[j]? = some y → P y = false) (fun r => ∃ (k : Nat) (x : Port), r = (k : Int) ∧ s[k]? = some x ∧ P x = true ∧ ∀ (j : Nat) (y : Port), j < k → s[j]? = some y → P y = false) (fun j y h => absurd h (Nat.not_lt_zero _)) ?_ ?_ ?_)
 ·intro k x _ Y hi
  unfold Qc.B2
  refine .bind' (.eq (hg k x Y) (Bc (fun O => .pure ⟨k, x, rfl, Y, O, hi⟩) fun O => .pure fun j y hj G => ?_))
  by_cases h : j < k
  ·exact hi j y h G
  ·have : j = k := by omega
   subst this
   rw [Y] at G; simp at G; subst G; exact O
 ·intro _ hi
  simp only [Sum.elim_inl]
  unfold Qc.J1
  exact .pure (.inl ⟨rfl, fun j y G => hi j y (gs G).1 G⟩)
 ·intro b Z
  exact .pure (.inr Z)
theorem Ft {s : List Port} {g : Port → Option Bool} {P : Port → Bool} (hg : ∀ (k : Nat) (x : Port), s[k]? = some x → g x = some (P x)) :
  Qt s g = some (s.any P) := by
 have : Ok (Qt s g) fun r => r = s.any P := by
  unfold Qt
  refine .bind (Gi hg) fun r Z => .pure ?_
  rcases Z with ⟨rfl, h⟩ | ⟨k, x, rfl, G, Y, _⟩
  ·have : s.any P = false := by
    rw [List.any_eq_false]
    intro x G
    obtain ⟨j, O⟩ := List.getElem?_of_mem G
    rw [h j x O]; simp
   rw [this]; rfl
  ·have : s.any P = true := List.any_eq_true.2 ⟨x, mg G, Y⟩
   rw [this]; simp
 obtain ⟨r, h, rfl⟩ := this
 exact h
theorem D6 {s : List Sn} {g : Sn → Option Bool} {P : Sn → Bool} (hg : ∀ (k : Nat) (x : Sn), s[k]? = some x → g x = some (P x)) :
  Ok (Mw s g) fun r => (r = -1 ∧ ∀ (j : Nat) (y : Sn), s[j]? = some y → P y = false) ∨ ∃ (k : Nat) (x : Sn), r = (k : Int) ∧ s[k]? = some x ∧ P x = true ∧ ∀ (j : Nat) (y : Sn), j < k → s[j]? = some y → P y = false := by
 unfold Mw
 refine .bind' (.forL (fun k _ => ∀ (j : Nat) (y : Sn), j < k → s[j]? = some y → P y = false) (fun r => ∃ (k : Nat) (x : Sn), r = (k : Int) ∧ s[k]? = some x ∧ P x = true ∧ ∀ (j : Nat) (y : Sn), j < k → s[j]? = some y → P y = false) (fun j y h => absurd h (Nat.not_lt_zero _)) ?_ ?_ ?_)
 ·intro k x _ Y hi
  unfold Mw.B2
  refine .bind' (.eq (hg k x Y) (Bc (fun O => .pure ⟨k, x, rfl, Y, O, hi⟩) fun O => .pure fun j y hj G => ?_))
  by_cases h : j < k
  ·exact hi j y h G
  ·have : j = k := by omega
   subst this
   rw [Y] at G; simp at G; subst G; exact O
 ·intro _ hi
  simp only [Sum.elim_inl]
  unfold Mw.J1
  exact .pure (.inl ⟨rfl, fun j y G => hi j y (gs G).1 G⟩)
 ·intro b Z
  exact .pure (.inr Z)
theorem E0 {s : List Sn} {g : Sn → Option Bool} {P : Sn → Bool} (hg : ∀ (k : Nat) (x : Sn), s[k]? = some x → g x = some (P x)) :
  P0 s g = some (s.any P) := by
 have : Ok (P0 s g) fun r => r = s.any P := by
  unfold P0
  refine .bind (D6 hg) fun r Z => .pure ?_
  rcases Z with ⟨rfl, h⟩ | ⟨k, x, rfl, G, Y, _⟩
  ·have : s.any P = false := by
    rw [List.any_eq_false]
    intro x G
    obtain ⟨j, O⟩ := List.getElem?_of_mem G
    rw [h j x O]; simp
   rw [this]; rfl
  ·have : s.any P = true := List.any_eq_true.2 ⟨x, mg G, Y⟩
   rw [this]; simp
 obtain ⟨r, h, rfl⟩ := this
 exact h
theorem Kc {s : List Bt} {v : Bt} :
  Ok (M7 s v) fun r => (r = -1 ∧ ∀ (j : Nat) (y : Bt), s[j]? = some y → (S0 v y) = false) ∨ ∃ (k : Nat) (y : Bt), r = (k : Int) ∧ s[k]? = some y ∧ (S0 v y) = true ∧ ∀ (j : Nat) (y : Bt), j < k → s[j]? = some y → (S0 v y) = false := by
 unfold M7
 refine .bind' (.forL (fun k _ => ∀ (j : Nat) (y : Bt), j < k → s[j]? = some y → (S0 v y) = false) (fun r => ∃ (k : Nat) (y : Bt), r = (k : Int) ∧ s[k]? = some y ∧ (S0 v y) = true ∧ ∀ (j : Nat) (y : Bt), j < k → s[j]? = some y → (S0 v y) = false) (fun j y h => absurd h (Nat.not_lt_zero _)) ?_ ?_ ?_)
 ·intro k x _ Y hi
  unfold M7.B2
  refine Bc (fun O => .pure ⟨k, x, rfl, Y, O, hi⟩) fun O => .pure fun j y hj G => ?_
  by_cases h : j < k
  ·exact hi j y h G
  ·have : j = k := by omega
   subst this
   rw [Y] at G; simp at G; subst G; exact O
 ·intro _ hi
  simp only [Sum.elim_inl]
  unfold M7.J1
  exact .pure (.inl ⟨rfl, fun j y G => hi j y (gs G).1 G⟩)
 ·intro b Z
  exact .pure (.inr Z)
theorem Jg {α β : Type} {l : List α} {g : α → β} {f : Nat → α → List β → Option (List β)} (hf : ∀ k x st, f k x st = (Dy st [g x]).bind fun y => some y) (hl : l.length ≤ 1000) :
  Ok (forS f 0 l []) fun r => r = l.map g := by
 refine .forS (fun k st => st = (l.take k).map g) (by simp) ?_ fun st h => by rw [h]; simp
 rintro k x st G rfl
 rw [hf]
 have O := (gs G).1
 refine .bind' (.app (by simp; omega) (.pure ?_))
 rw [List.take_add_one, G]
 simp
theorem X6 {n : Nw} (h1 : n.Segments.length ≤ 1000) (h2 : n.Ports.length ≤ 1000) (G : n.Stations.length ≤ 1000) :
  Ok (Nv n) fun r => r.l = [n.Nodes, n.Segments.map (·.Name), n.Ports.map (·.Name), n.Stations.map (·.Name)] := by
 unfold Nv
 refine .bind (Jg (g := (·.Name)) (fun _ _ _ => rfl) h1) ?_
 rintro _ rfl
 unfold Nv.J1
 refine .bind (Jg (g := (·.Name)) (fun _ _ _ => rfl) h2) ?_
 rintro _ rfl
 unfold Nv.J2
 refine .bind (Jg (g := (·.Name)) (fun _ _ _ => rfl) G) ?_
 rintro _ rfl
 unfold Nv.J3
 exact .pure rfl
def Named (c : UInt8) (l : List Bt) : Prop := l.length ≤ 26 ∧ ∀ (k : Nat) (x : Bt), l[k]? = some x → x = nm c k
theorem NetOk.named {n : Nw} (h : NetOk n) : ∀ l, l ∈ [n.Nodes, n.Segments.map (·.Name), n.Ports.map (·.Name), n.Stations.map (·.Name)] → ∃ c, (c = 110 ∨ c = 103 ∨ c = 113 ∨ c = 115) ∧ Named c l := by
 have Z := h.nodes; have h2 := h.segs1; have h3 := h.ports1; have h4 := h.sts1
 intro l Y
 simp only [List.mem_cons, List.not_mem_nil, or_false] at Y
 rcases Y with rfl | rfl | rfl | rfl
 ·exact ⟨110, by simp, by omega, h.names⟩
 ·refine ⟨103, by simp, by simp; omega, fun k x G => ?_⟩
  rw [List.getElem?_map] at G
  obtain ⟨s, O, rfl⟩ := Option.map_eq_some_iff.1 G
  exact (h.segs k s O).name
 ·refine ⟨113, by simp, by simp; omega, fun k x G => ?_⟩
  rw [List.getElem?_map] at G
  obtain ⟨s, O, rfl⟩ := Option.map_eq_some_iff.1 G
  exact (h.ports k s O).name
 ·refine ⟨115, by simp, by simp; omega, fun k x G => ?_⟩
  rw [List.getElem?_map] at G
  obtain ⟨s, O, rfl⟩ := Option.map_eq_some_iff.1 G
  exact (h.sts k s O).name
theorem jX {k : Nat} (h : k < 26) : k = 0 ∨ k = 1 ∨ k = 2 ∨ k = 3 ∨ k = 4 ∨ k = 5 ∨ k = 6 ∨ k = 7 ∨ k = 8 ∨ k = 9 ∨ k = 10 ∨ k = 11 ∨ k = 12 ∨ k = 13 ∨ k = 14 ∨ k = 15 ∨ k = 16 ∨ k = 17 ∨ k = 18 ∨ k = 19 ∨ k = 20 ∨ k = 21 ∨ k = 22 ∨ k = 23 ∨ k = 24 ∨ k = 25 := by omega
theorem Zq {c : UInt8} (hc : c = 110 ∨ c = 103 ∨ c = 113 ∨ c = 115) {k : Nat} (G : k < 26) : Iu (nm c k) = some true := by
 rcases hc with rfl | rfl | rfl | rfl <;>
  rcases jX G with rfl | rfl | rfl | rfl | rfl | rfl | rfl | rfl | rfl | rfl | rfl | rfl | rfl | rfl | rfl | rfl | rfl | rfl | rfl | rfl | rfl | rfl | rfl | rfl | rfl | rfl <;> rfl
theorem Zp {c : UInt8} {i j : Nat} (hi : i < 26) (Z : j < 26) (h : S0 (nm c i) (nm c j) = true) : i = j := by
 have Y : (nm c i).toList = (nm c j).toList := by simpa [S0] using h
 have G : [c, 97 + UInt8.ofNat i] = [c, 97 + UInt8.ofNat j] := by simpa [nm, ByteArray.toList, ByteArray.toList.loop, ByteArray.size, ByteArray.get!] using Y
 simp only [List.cons.injEq, and_true, true_and] at G
 have O := congrArg UInt8.toNat G
 simp only [UInt8.toNat_add, UInt8.toNat_ofNat'] at O
 have : (97 : UInt8).toNat = 97 := rfl
 rw [this] at O
 omega
theorem Rh (a : Bt) : S0 a a = true := by simp [S0]
def tE (l : List Bt) : Prop := l.length ≤ 26 ∧ (∀ (k : Nat) (x : Bt), l[k]? = some x → Iu x = some true) ∧ ∀ (i j : Nat) (x y : Bt), l[i]? = some x → l[j]? = some y → S0 x y = true → i = j
theorem Named.nmd {c : UInt8} (hc : c = 110 ∨ c = 103 ∨ c = 113 ∨ c = 115) {l : List Bt} (h : Named c l) : tE l := by
 obtain ⟨Z, G⟩ := h
 refine ⟨Z, fun k x Y => ?_, fun i j x y hi O he => ?_⟩
 ·have := (gs Y).1
  rw [G k x Y]; exact Zq hc (by omega)
 ·have hi' := (gs hi).1
  have hj' := (gs O).1
  have hx := G i x hi; have hy := G j y O
  subst hx; subst hy
  exact Zp (by omega) (by omega) he
theorem Yu {l : List Bt} (h : tE l) {k : Nat} {x : Bt} (G : l[k]? = some x) : Ok (M7 l x) fun r => r = (k : Int) := by
 obtain ⟨h1, _, O⟩ := h
 refine Kc.mono ?_
 rintro r (⟨rfl, h⟩ | ⟨j, y, rfl, Z, Y, aa⟩)
 ·have := h k x G
  rw [Rh] at this; cases this
 ·have := O k j x y G Z Y
  omega
structure SegB (nodes : Nat) (s : Segment) : Prop where
 ends : 0 ≤ s.From ∧ s.From < (nodes : Int) ∧ 0 ≤ s.To ∧ s.To < (nodes : Int) ∧ s.From ≠ s.To
 cap : 1 ≤ s.Capacity ∧ s.Capacity ≤ 1000
 resist : 0 ≤ s.Resist ∧ s.Resist ≤ 1000
 wave : 0 ≤ s.Wave ∧ s.Wave ≤ 100000
 points : PointsOk s.Capacity s.Points
theorem SegOk.b {nodes k : Nat} {s : Sg} (h : SegOk nodes k s) : SegB nodes s := ⟨h.ends, h.cap, h.resist, h.wave, h.points⟩
theorem pE {nodes : Nat} {s : Sg} (h : SegB nodes s) : Nt s = some true := by
 have : Ok (Nt s) fun r => r = true := by
  have O := h.points
  have h1 := h.ends; have h2 := h.cap; have h3 := h.resist; have h4 := h.wave; have h5 := O.len
  unfold Nt
  refine Bc (fun G => ?_) fun _ => ?_
  ·simp [Dh] at G
   omega
  refine .bind' (.forL (fun _ _ => True) (fun _ => False) trivial ?_ ?_ fun _ h => h.elim)
  ·intro i p _ hi _
   have Z := mg hi
   have g1 := O.height p Z; have g2 := O.limit p Z
   unfold Nt.B3
   refine Bc (fun G => ?_) fun _ => Bc (fun G => ?_) fun _ => A7 (fun h0 => ?_) fun h0 => ?_
   ·simp [Dh] at G; omega
   ·simp [Dh] at G; omega
   ·rw [Av (by have := (gs hi).1; omega)]
    obtain ⟨j, rfl⟩ : ∃ j, i = j + 1 := ⟨i - 1, by omega⟩
    have Y : j < s.Points.length := by have := (gs hi).1; omega
    have hj : s.Points[j]? = some s.Points[j] := gq Y
    have hup := O.up j _ p hj hi
    refine .bind' (.ix j (by omega) Y ?_)
    unfold Nt.J4
    refine A7 (fun h => ?_) fun _ => .pure trivial
    dsimp only at h; omega
   ·unfold Nt.J4
    exact .pure trivial
  ·intro _ _
   simp only [Sum.elim_inl]
   unfold Nt.J1 Nt.J2
   have e0 : s.Points[0]? = some s.Points[0] := gq (by omega)
   have el : s.Points[s.Points.length - 1]? = some s.Points[s.Points.length - 1] := gq (by omega)
   refine .bind' (.ix 0 rfl (by omega) (Bc (fun _ => ?_) fun G => ?_))
   ·rw [Av (by omega)]
    refine .bind' (.ix (s.Points.length - 1) (by omega) (by omega) (.pure ?_))
    have := O.last _ el
    dsimp only
    rw [this]; simp
   ·have := O.first _ e0
    dsimp only at G
    rw [this] at G
    cases G
 obtain ⟨r, h, rfl⟩ := this
 exact h
theorem E8 {α : Type} {l : List α} {P : α → Bool} (h : ∀ (k : Nat) (x : α), l[k]? = some x → P x = false) : l.any P = false := by
 rw [List.any_eq_false]
 intro x O
 obtain ⟨j, G⟩ := List.getElem?_of_mem O
 rw [h j x G]; simp
structure NetV (n : Network) : Prop where
 nodes : 1 ≤ n.Nodes.length ∧ n.Nodes.length ≤ 6
 segs1 : n.Segments.length ≤ 8
 segs : ∀ (k : Nat) (s : Sg), n.Segments[k]? = some s → ∃ j, SegOk n.Nodes.length j s
 ports1 : n.Ports.length ≤ 6
 ports : ∀ k s, n.Ports[k]? = some s → PortOk n.Nodes.length k s
 sts1 : n.Stations.length ≤ 6
 sts : ∀ k s, n.Stations[k]? = some s → StOk n.Nodes.length k s
 stsUp : ∀ (i j : Nat) (p q : Sn), i < j → n.Stations[i]? = some p → n.Stations[j]? = some q → p.Node < q.Node
 vapour : -100000 ≤ n.Vapour ∧ n.Vapour ≤ 50000
 settle : 0 ≤ n.Settle ∧ n.Settle ≤ 100
 named : ∀ l, l ∈ [n.Nodes, n.Segments.map (·.Name), n.Ports.map (·.Name), n.Stations.map (·.Name)] → tE l
theorem NetOk.v {n : Nw} (h : NetOk n) : NetV n :=
 ⟨by have := h.nodes; omega, h.segs1.2, fun k s O => ⟨k, h.segs k s O⟩, h.ports1.2, h.ports, h.sts1, h.sts, h.stsUp, h.vapour, h.settle, fun l G => let ⟨_, hc, hn⟩ := h.named l G; hn.nmd hc⟩
structure NetW (n : Network) : Prop where
 nodes : 1 ≤ n.Nodes.length ∧ n.Nodes.length ≤ 6
 segs1 : n.Segments.length ≤ 8
 segs : ∀ (k : Nat) (s : Sg), n.Segments[k]? = some s → SegB n.Nodes.length s
 ports1 : n.Ports.length ≤ 6
 ports : ∀ (k : Nat) s, n.Ports[k]? = some s → (0 ≤ s.Node ∧ s.Node < (n.Nodes.length : Int)) ∧ 0 ≤ s.Pressure ∧ s.Pressure ≤ 100000000
 sts1 : n.Stations.length ≤ 6
 sts : ∀ k s, n.Stations[k]? = some s → StOk n.Nodes.length k s
 stsUp : ∀ (i j : Nat) (p q : Sn), i < j → n.Stations[i]? = some p → n.Stations[j]? = some q → p.Node < q.Node
 vapour : -100000 ≤ n.Vapour ∧ n.Vapour ≤ 50000
 settle : 0 ≤ n.Settle ∧ n.Settle ≤ 100
 named : ∀ l, l ∈ [n.Nodes, n.Segments.map (·.Name), n.Ports.map (·.Name), n.Stations.map (·.Name)] → tE l
theorem NetV.w {n : Nw} (h : NetV n) : NetW n :=
 ⟨h.nodes, h.segs1, fun k s G => (h.segs k s G).choose_spec.b, h.ports1, fun k s G => ⟨(h.ports k s G).node, (h.ports k s G).pressure⟩, h.sts1, h.sts, h.stsUp, h.vapour, h.settle, h.named⟩
theorem Tf {n : Nw} (h : NetW n) : Gs n = some 0 := by
 have : Ok (Gs n) fun r => r = 0 := by
  have h1 := h.nodes; have h2 := h.segs1; have h3 := h.ports1; have h4 := h.sts1; have h5 := h.vapour; have h6 := h.settle
  unfold Gs
  refine .bind (Q := fun r => r = true) ?_ ?_
  ·unfold Vy
   refine Bc (fun hb => ?_) fun _ => .bind' (.eq (D0 (P := fun x => Mv x) fun _ _ _ => rfl) (.pure ?_))
   ·simp at hb; omega
   ·rw [E8]; rfl
    intro k x G
    have := (h.segs k x G).points.len
    simp [Mv]; omega
  rintro _ rfl
  refine De (fun hb => by cases hb) fun _ => ?_
  refine .bind (X6 (by omega) (by omega) (by omega)) fun aa hr => ?_
  refine .bind' (.forI (fun _ _ => True) (fun _ => False) trivial ?_ ?_ fun _ h => h.elim)
  ·intro k _ hk _
   unfold Gs.B2
   refine .bind' (.ix k rfl (by rw [hr]; exact hk) ?_)
   have ab : k < aa.l.length := by rw [hr]; exact hk
   have hl := h.named aa.l[k] (by rw [← hr]; exact List.getElem_mem _)
   refine .bind' (.eq (Gz (P := fun _ => false) fun j x G => ?_) ?_)
   ·unfold Vs
    rw [hl.2.1 j x G]; rfl
   ·rw [E8 fun _ _ _ => rfl]
    exact .pure trivial
  ·intro _ _
   simp only [Sum.elim_inl]
   unfold Gs.J1
   refine .bind (Q := fun r => r = false) ?_ ?_
   ·unfold Vh
    refine .bind (X6 (by omega) (by omega) (by omega)) fun aa hr => ?_
    refine .bind' (.forI (fun _ _ => True) (fun _ => False) trivial ?_ ?_ fun _ h => h.elim)
    ·intro k _ hk _
     unfold Vh.B4
     refine .bind' (.ix k rfl (by rw [hr]; exact hk) ?_)
     have ab : k < aa.l.length := by rw [hr]; exact hk
     have hl := h.named aa.l[k] (by rw [← hr]; exact List.getElem_mem _)
     refine .bind' (.forL (fun _ _ => True) (fun _ => False) trivial ?_ ?_ fun _ h => h.elim)
     ·intro j x _ hj _
      unfold Vh.B6
      refine .bind (Yu hl hj) ?_
      rintro _ rfl
      refine A7 (fun h => by omega) fun _ => .pure trivial
     ·intro _ _
      exact .pure trivial
    ·intro _ _
     simp only [Sum.elim_inl]
     unfold Vh.J1
     refine .bind' (.forL (fun _ _ => True) (fun _ => False) trivial ?_ ?_ fun _ h => h.elim)
     ·intro j x _ hj _
      unfold Vh.B3
      refine .bind (Q := fun r => r = (j : Int)) ((D6 (P := fun y => Kv y x) fun _ _ _ => rfl).mono ?_) ?_
      ·rintro r (⟨rfl, hh⟩ | ⟨k, y, rfl, hk, he, hlt⟩)
       ·have := hh j x hj
        simp [Kv] at this
       ·simp [Kv] at he
        by_cases hkj : k = j
        ·omega
        ·rcases Nat.lt_or_gt_of_ne hkj with Y | Y
         ·have := h.stsUp k j y x Y hk hj; omega
         ·have := h.stsUp j k x y Y hj hk; omega
      ·rintro _ rfl
       refine A7 (fun h => by omega) fun _ => .pure trivial
     ·intro _ _
      exact .pure rfl
   rintro _ rfl
   refine Bc (fun h => by cases h) fun _ => ?_
   refine .bind (Q := fun r => r = true) ?_ ?_
   ·unfold Wb
    let O : Li → Prop := fun l => ∀ x, x ∈ l → 0 ≤ x ∧ x < (n.Nodes.length : Int)
    have app : ∀ {l m : Li}, O l → O m → O (l ++ m) := fun h1 h2 x G => by
     rcases List.mem_append.1 G with G | G
     ·exact h1 x G
     ·exact h2 x G
    refine .bind (Q := fun l => l.length ≤ 100 ∧ O l) (.forS (fun k l => l.length ≤ 2 * k ∧ O l) ⟨by simp, by intro x G; cases G⟩ ?_ fun l hl => ⟨by omega, hl.2⟩) ?_
    ·rintro k s l hs ⟨l1, Z⟩
     have ab := (gs hs).1
     have he := (h.segs k s hs).ends
     unfold Wb.B6
     refine .bind' (.app (by simp; omega) (.pure ⟨by simp; omega, app Z ?_⟩))
     intro x G
     simp at G
     rcases G with rfl | rfl <;> omega
    rintro l ⟨l1, Z⟩
    unfold Wb.J1
    refine .bind (Q := fun l => l.length ≤ 200 ∧ O l) (.forS (fun k l => l.length ≤ 100 + k ∧ O l) ⟨by omega, Z⟩ ?_ fun l hl => ⟨by omega, hl.2⟩) ?_
    ·rintro k s l hs ⟨l1, Z⟩
     have ab := (gs hs).1
     have he := (h.ports k s hs).1
     unfold Wb.B5
     refine .bind' (.app (by simp; omega) (.pure ⟨by simp; omega, app Z ?_⟩))
     intro x G
     simp at G; subst G; omega
    rintro l ⟨l1, Z⟩
    unfold Wb.J2
    refine .bind (Q := fun l => l.length ≤ 300 ∧ O l) (.forS (fun k l => l.length ≤ 200 + k ∧ O l) ⟨by omega, Z⟩ ?_ fun l hl => ⟨by omega, hl.2⟩) ?_
    ·rintro k s l hs ⟨l1, Z⟩
     have ab := (gs hs).1
     have he := (h.sts k s hs).node
     unfold Wb.B4
     refine .bind' (.app (by simp; omega) (.pure ⟨by simp; omega, app Z ?_⟩))
     intro x G
     simp at G; subst G; omega
    rintro l ⟨l1, Z⟩
    unfold Wb.J3
    refine .bind' (.eq (Eu (P := fun x => Mx x n) fun _ _ _ => rfl) (.pure ?_))
    rw [E8]; rfl
    intro k x G
    have := Z x (mg G)
    simp [Mx]; omega
   rintro _ rfl
   refine De (fun h => by cases h) fun _ => ?_
   refine .bind (Q := fun r => r = true) ?_ ?_
   ·unfold Zz
    refine .bind' (.eq (D0 (P := fun _ => false) fun k x G => by unfold Vf; rw [pE (h.segs k x G)]; rfl) ?_)
    rw [E8 fun _ _ _ => rfl]
    refine Bc (fun h => by cases h) fun _ => ?_
    refine .bind' (.eq (Ft (P := fun x => My x) fun _ _ _ => rfl) ?_)
    rw [E8]
    ·refine Bc (fun h => by cases h) fun _ => ?_
     refine .bind' (.eq (E0 (P := fun x => Ns x) fun _ _ _ => rfl) ?_)
     rw [E8]
     ·refine Bc (fun h => by cases h) fun _ => .pure ?_
      simp [Dh]; omega
     ·intro k x G
      have h1 := (h.sts k x G).head; have h2 := (h.sts k x G).fall; have h3 := (h.sts k x G).suction
      simp [Ns, Dh]; omega
    ·intro k x G
     have h1 := (h.ports k x G).2
     simp [My, Dh]; omega
   rintro _ rfl
   exact De (fun h => by cases h) fun _ => .pure rfl
 obtain ⟨r, h, rfl⟩ := this
 exact h
theorem Tg {n : Nw} (h : NetV n) : Gs n = some 0 := Tf h.w
theorem Rn {n : Nw} (h : NetOk n) : Gs n = some 0 := Tg h.v
structure NetG (n : Network) : Prop where
 nodes : 1 ≤ n.Nodes.length ∧ n.Nodes.length ≤ 6
 segs1 : n.Nodes.length - 1 ≤ n.Segments.length ∧ n.Segments.length ≤ 8
 segs : ∀ (k : Nat) (s : Sg), n.Segments[k]? = some s → SegB n.Nodes.length s
 ports1 : 2 ≤ n.Ports.length ∧ n.Ports.length ≤ 6
 ports : ∀ (k : Nat) s, n.Ports[k]? = some s → 0 ≤ s.Node ∧ s.Node < (n.Nodes.length : Int)
 sts1 : n.Stations.length ≤ 6
 check : Gs n = some 0
theorem NetOk.g {n : Nw} (h : NetOk n) : NetG n :=
 ⟨by have := h.nodes; omega, h.segs1, fun k s G => (h.segs k s G).b, h.ports1, fun k s G => (h.ports k s G).node, h.sts1, Rn h⟩
theorem NetW.g {n : Nw} (h : NetW n) (h1 : n.Nodes.length - 1 ≤ n.Segments.length) (h2 : 2 ≤ n.Ports.length) : NetG n :=
 ⟨h.nodes, ⟨h1, h.segs1⟩, h.segs, ⟨h2, h.ports1⟩, fun k s G => (h.ports k s G).1, h.sts1, Tf h⟩
theorem L1 {α : Type} {P : Nat → α → Prop} {l : List α} {x : α} (h : ∀ k s, l[k]? = some s → P k s) (Y : P l.length x) : ∀ k s, (l ++ [x])[k]? = some s → P k s := by
 intro k s G
 rw [List.getElem?_append] at G
 split at G
 ·exact h k s G
 ·have O := (gs G).1
  simp at O
  have : k = l.length := by omega
  subst this
  simp at G; subst G; exact Y
theorem kU {α : Type} {f : α → Int} {l : List α} {x : α} (h : ∀ (i j : Nat) (p q : α), i < j → l[i]? = some p → l[j]? = some q → f p < f q) (hx : ∀ (k : Nat) (p : α), l[k]? = some p → f p < f x) :
  ∀ (i j : Nat) (p q : α), i < j → (l ++ [x])[i]? = some p → (l ++ [x])[j]? = some q → f p < f q := by
 intro i j p q O Y G
 have Z := (gs G).1
 simp at Z
 rw [List.getElem?_append_left (by omega)] at Y
 rw [List.getElem?_append] at G
 split at G
 ·exact h i j p q O Y G
 ·have : j = l.length := by omega
  subst this
  simp at G; subst G; exact hx i p Y
structure PortsInv (nodes : Nat) (i : Int) (ports : List Port) (sts : List Station) : Prop where
 i0 : 0 ≤ i ∧ i ≤ (nodes : Int)
 pl : (ports.length : Int) ≤ i
 p1 : 0 < i → 1 ≤ ports.length
 p2 : i = (nodes : Int) → 2 ≤ ports.length
 po : ∀ k s, ports[k]? = some s → PortOk nodes k s ∧ s.Node < i
 pu : ∀ (i j : Nat) (p q : Port), i < j → ports[i]? = some p → ports[j]? = some q → p.Node < q.Node
 sl : (sts.length : Int) ≤ i
 so : ∀ k s, sts[k]? = some s → StOk nodes k s ∧ s.Node < i
 su : ∀ (i j : Nat) (p q : Sn), i < j → sts[i]? = some p → sts[j]? = some q → p.Node < q.Node
theorem rV {s : Xf} (hs : SrcOk s) : Ok (V6 s) fun r => NetOk r.1 ∧ SrcOk r.2 := by
 unfold V6
 refine .bind (Ec hs (by decide) (by decide)) fun r5 h5 => ?_
 refine .bind (Ec h5.1 (by decide) (by decide)) fun r8 h8 => ?_
 refine .bind (Eo h8.1 (by decide) (by decide) (by decide)) fun r650 h650 => ?_
 have c5 := h5.2; have c8 := h8.2
 simp only [List.mem_cons, List.not_mem_nil, or_false] at c5 c8
 refine .bind (Q := fun d : Li × Int × List Bt => SrcOk ⟨d.1, d.2.1⟩ ∧ (2 ≤ d.2.2.length ∧ d.2.2.length ≤ 6) ∧ ∀ k x, d.2.2[k]? = some x → x = nm 110 k) ?_ ?_
 ·refine .loop (fun G : List Bt × Int => 0 ≤ G.2 ∧ (G.1.length : Int) + G.2 = r650.1 ∧ ∀ k x, G.1[k]? = some x → x = nm 110 k) (fun G => G.2.toNat) ⟨by dsimp only; omega, by simp, by simp⟩ (by dsimp only; omega) ?_
  rintro ⟨nodes, c⟩ ⟨i1, i2, i3⟩
  dsimp only at i1 i2 i3
  unfold V6.B12
  refine A7 (fun h => ?_) fun h => .pure ⟨h650.1, by dsimp only at h ⊢; omega, i3⟩
  dsimp only at h ⊢
  refine .bind' (.eq (Je (by omega)) (.bind' (.app (by simp; omega) (.pure ?_))))
  rw [Av (by omega)]
  exact ⟨⟨by dsimp only; omega, by simp; omega, L1 i3 rfl⟩, by dsimp only; omega⟩
 rintro ⟨L_, At, nodes⟩ ⟨hs, hn, hnm⟩
 dsimp only at hs hn hnm
 unfold V6.J1
 refine .bind (Q := fun d : Li × Int × List Sg => SrcOk ⟨d.1, d.2.1⟩ ∧ d.2.2.length = nodes.length - 1 ∧ ∀ k x, d.2.2[k]? = some x → SegOk nodes.length k x) ?_ ?_
 ·refine .loop (fun G : Li × Int × List Sg × Int => SrcOk ⟨G.1, G.2.1⟩ ∧ (G.2.2.1.length : Int) = G.2.2.2 ∧ G.2.2.1.length ≤ nodes.length - 1 ∧ ∀ k x, G.2.2.1[k]? = some x → SegOk nodes.length k x) (fun G => nodes.length - G.2.2.1.length) ⟨hs, by simp, by simp, by simp⟩ (by dsimp only; omega) ?_
  rintro ⟨L_, At, segs, i⟩ ⟨i1, i2, i3, i4⟩
  dsimp only at i1 i2 i3 i4
  unfold V6.B11
  dsimp only
  simp (disch := omega) only [Av]
  refine A7 (fun h => ?_) fun h => .pure ⟨i1, by dsimp only; omega, i4⟩
  refine .bind (kK i1 (nodes := nodes.length) (by omega) (by omega) (by omega) (by omega)) fun r641 h641 => ?_
  refine .bind' (.app (by simp; omega) (.pure ⟨⟨h641.2, by simp; omega, by simp; omega, L1 i4 h641.1⟩, by simp; omega⟩))
 rintro ⟨L_, At, segs⟩ ⟨hs, hsl, hss⟩
 dsimp only at hs hsl hss
 unfold V6.J2
 refine .bind (Ij hs (by decide) (by decide)) fun r531 h531 => ?_
 refine .bind (Q := fun d : Li × Int × List Sg => SrcOk ⟨d.1, d.2.1⟩ ∧ (nodes.length - 1 ≤ d.2.2.length ∧ d.2.2.length ≤ 8) ∧ ∀ k x, d.2.2[k]? = some x → SegOk nodes.length k x) ?_ ?_
 ·refine .loop (fun G : Li × Int × List Sg × Int => SrcOk ⟨G.1, G.2.1⟩ ∧ 0 ≤ G.2.2.2 ∧ (G.2.2.1.length : Int) + G.2.2.2 ≤ 8 ∧ nodes.length - 1 ≤ G.2.2.1.length ∧ ∀ k x, G.2.2.1[k]? = some x → SegOk nodes.length k x) (fun G => G.2.2.2.toNat)
   ⟨h531.1, h531.2.1, by dsimp only; omega, by dsimp only; omega, hss⟩ (by dsimp only; omega) ?_
  rintro ⟨L_, At, segs, i⟩ ⟨i1, i2, i3, i4, i5⟩
  dsimp only at i1 i2 i3 i4 i5
  unfold V6.B10
  dsimp only
  simp (disch := omega) only [Av]
  refine A7 (fun h => ?_) fun h => .pure ⟨i1, by dsimp only; omega, i5⟩
  refine .bind (Ij i1 (by omega) (by omega)) fun r589 h589 => ?_
  simp (disch := omega) only [Av]
  refine .bind (Eo h589.1 (by omega) (by omega) (by omega)) fun r591 h591 => ?_
  refine .bind (kK h591.1 (nodes := nodes.length) (by omega) (by omega) (by omega) (by omega)) fun r593 h593 => ?_
  refine .bind' (.app (by simp; omega) (.pure ⟨⟨h593.2, by dsimp only; omega, by simp; omega, by simp; omega, L1 i5 h593.1⟩, by dsimp only; omega⟩))
 rintro ⟨L_, At, segs⟩ ⟨hs, hsl, hss⟩
 dsimp only at hs hsl hss
 unfold V6.J3
 refine .bind (Q := fun d : Li × Int × List Port × List Sn => SrcOk ⟨d.1, d.2.1⟩ ∧ PortsInv nodes.length (nodes.length : Int) d.2.2.1 d.2.2.2) ?_ ?_
 ·refine .loop (fun G : Li × Int × List Port × List Sn × Int => SrcOk ⟨G.1, G.2.1⟩ ∧ PortsInv nodes.length G.2.2.2.2 G.2.2.1 G.2.2.2.1) (fun G => nodes.length - G.2.2.2.2.toNat)
   ⟨hs, by dsimp only; omega, by simp, by simp, by dsimp only; omega, by simp, by simp, by simp, by simp, by simp⟩ (by dsimp only; omega) ?_
  rintro ⟨L_, At, aa, sts, i⟩ ⟨i1, O⟩
  dsimp only at i1 O
  have hi := O.i0
  have j6 : ∀ (j : Li × Int × List Port × List Sn), SrcOk ⟨j.1, j.2.1⟩ → PortsInv nodes.length (i + 1) j.2.2.1 j.2.2.2 → i < (nodes.length : Int) →
    Ok (V6.J6 (L_, At, aa, sts, i) j) (Sum.elim (fun G => (SrcOk ⟨G.1, G.2.1⟩ ∧ PortsInv nodes.length G.2.2.2.2 G.2.2.1 G.2.2.2.1) ∧ nodes.length - G.2.2.2.2.toNat < nodes.length - i.toNat) fun d => SrcOk ⟨d.1, d.2.1⟩ ∧ PortsInv nodes.length (nodes.length : Int) d.2.2.1 d.2.2.2) := by
   intro j h1 h2 h3
   unfold V6.J6
   dsimp only
   rw [Av (by omega)]
   exact .pure ⟨⟨h1, h2⟩, by dsimp only; omega⟩
  have j7 : ∀ (j : Li × Int × List Port), SrcOk ⟨j.1, j.2.1⟩ → ((∀ Y, (Y.length : Int) ≤ i + 1 → (∀ k s, Y[k]? = some s → StOk nodes.length k s ∧ s.Node < i + 1) →
     (∀ (i j : Nat) (p q : Sn), i < j → Y[i]? = some p → Y[j]? = some q → p.Node < q.Node) → PortsInv nodes.length (i + 1) j.2.2 Y)) → i < (nodes.length : Int) →
    Ok (V6.J7 (L_, At, nodes) (L_, At, aa, sts, i) j) (Sum.elim (fun G => (SrcOk ⟨G.1, G.2.1⟩ ∧ PortsInv nodes.length G.2.2.2.2 G.2.2.1 G.2.2.2.1) ∧ nodes.length - G.2.2.2.2.toNat < nodes.length - i.toNat) fun d => SrcOk ⟨d.1, d.2.1⟩ ∧ PortsInv nodes.length (nodes.length : Int) d.2.2.1 d.2.2.2) := by
   intro j h1 h2 h3
   have old := h2 sts (by have := O.sl; omega) (fun k s Z => ⟨(O.so k s Z).1, by have := (O.so k s Z).2; omega⟩) O.su
   unfold V6.J7
   refine A7 (fun h => ?_) fun h => ?_
   ·refine .bind (Ij h1 (by decide) (by decide)) fun r507 h507 => ?_
    unfold V6.J8
    refine Bc (fun _ => ?_) fun _ => j6 (_, _, _, _) h507.1 old h3
    have hsl' := O.sl
    refine .bind' (.eq (Je (by dsimp only; omega)) ?_)
    refine .bind (Ec h507.1 (by decide) (by decide)) fun r493 h493 => ?_
    refine .bind (Ec h493.1 (by decide) (by decide)) fun r496 h496 => ?_
    refine .bind (Ec h496.1 (by decide) (by decide)) fun r499 h499 => ?_
    have c1 := h493.2; have c2 := h496.2; have c3 := h499.2
    simp only [List.mem_cons, List.not_mem_nil, or_false] at c1 c2 c3
    refine .bind' (.app (by simp; omega) (j6 (_, _, _, _) h499.1 (h2 _ (by simp; omega) ?_ ?_) h3))
    ·exact L1 (P := fun k s => StOk nodes.length k s ∧ s.Node < i + 1) (fun k s Z => ⟨(O.so k s Z).1, by have := (O.so k s Z).2; omega⟩) ⟨⟨rfl, ⟨by dsimp only; omega, by dsimp only; omega⟩, by dsimp only; omega, by dsimp only; omega, by dsimp only; omega⟩, by dsimp only; omega⟩
    ·exact kU (f := Station.Node) O.su fun k p Z => (O.so k p Z).2
   ·unfold V6.J8
    refine Bc (fun h => by cases h) fun _ => j6 (_, _, _, _) h1 old h3
  have j9 : ∀ (j : Li × Int × Bool), SrcOk ⟨j.1, j.2.1⟩ → (i = 0 ∨ i = (nodes.length : Int) - 1 → j.2.2 = true) → i < (nodes.length : Int) →
    Ok (V6.J9 (L_, At, nodes) (L_, At, aa, sts, i) j) (Sum.elim (fun G => (SrcOk ⟨G.1, G.2.1⟩ ∧ PortsInv nodes.length G.2.2.2.2 G.2.2.1 G.2.2.2.1) ∧ nodes.length - G.2.2.2.2.toNat < nodes.length - i.toNat) fun d => SrcOk ⟨d.1, d.2.1⟩ ∧ PortsInv nodes.length (nodes.length : Int) d.2.2.1 d.2.2.2) := by
   intro j h1 h2 h3
   have hpl := O.pl
   have hp1 := O.p1
   unfold V6.J9
   refine Bc (fun _ => ?_) fun hb => j7 (_, _, _) h1 (fun Y q1 q2 q3 => ?_) h3
   ·refine .bind' (.eq (Je (by dsimp only; omega)) ?_)
    refine .bind (Ec h1 (by decide) (by decide)) fun r518 h518 => ?_
    have c1 := h518.2
    simp only [List.mem_cons, List.not_mem_nil, or_false] at c1
    refine .bind' (.app (by simp; omega) (j7 (_, _, _) h518.1 (fun Y q1 q2 q3 => ⟨by omega, by simp; omega, by simp, fun _ => by simp; omega, ?_, ?_, q1, q2, q3⟩) h3))
    ·exact L1 (P := fun k s => PortOk nodes.length k s ∧ s.Node < i + 1) (fun k s Z => ⟨(O.po k s Z).1, by have := (O.po k s Z).2; omega⟩) ⟨⟨rfl, ⟨by dsimp only; omega, by dsimp only; omega⟩, by dsimp only; omega⟩, by dsimp only; omega⟩
    ·exact kU (f := Port.Node) O.pu fun k p Z => (O.po k p Z).2
   ·have hi0 : ¬ (i = 0 ∨ i = (nodes.length : Int) - 1) := fun h => by rw [h2 h] at hb; cases hb
    exact ⟨by omega, by dsimp only; omega, fun _ => by dsimp only; omega, fun _ => by omega, fun k s Z => ⟨(O.po k s Z).1, by have := (O.po k s Z).2; omega⟩, O.pu, q1, q2, q3⟩
  unfold V6.B5
  dsimp only
  rw [Av (by omega)]
  refine A7 (fun h => ?_) fun h => .pure ⟨i1, ?_⟩
  ·refine C6 (fun h0 => j9 (_, _, _) i1 (fun _ => rfl) (by omega)) fun h0 => C6 (fun h1 => j9 (_, _, _) i1 (fun _ => rfl) (by omega)) fun h1 => ?_
   refine .bind (Ij i1 (by decide) (by decide)) fun r527 h527 => j9 (_, _, _) h527.1 (fun h => by omega) (by omega)
  ·have : i = (nodes.length : Int) := by omega
   rw [← this]; exact O
 rintro ⟨L_, At, aa, sts⟩ ⟨hs, O⟩
 dsimp only at hs O
 unfold V6.J4
 have := O.pl; have := O.sl
 exact .pure ⟨⟨hn, hnm, hsl, hss, ⟨O.p2 rfl, by dsimp only; omega⟩, fun k s Z => (O.po k s Z).1, O.pu, by dsimp only; omega, fun k s Z => (O.so k s Z).1, O.su, by dsimp only; omega, by dsimp only; omega⟩, hs⟩
def ind (a v : Int) : Int := if a = v then 1 else 0
def wt (n : Nw) (v : Int) : Li := n.Segments.map fun s => ind s.To v - ind s.From v
def wp (n : Nw) (v : Int) : Li := n.Ports.map fun p => ind p.Node v
structure RateOk (s : Segment) (r : Int) : Prop where
 rng : -1000 ≤ r ∧ r ≤ 1000 ∧ -s.Capacity ≤ r ∧ r ≤ s.Capacity
 up : s.From < s.To → 0 ≤ r
 down : s.To < s.From → r ≤ 0
structure PlInv (n : Network) (rates ports : List Int) : Prop where
 rl : rates.length = n.Segments.length
 pl : ports.length = n.Ports.length
 rng : ∀ (k : Nat) (r : Int) (s : Sg), rates[k]? = some r → n.Segments[k]? = some s → RateOk s r
 prt : ∀ (k : Nat) (x : Int), ports[k]? = some x → -1000 ≤ x ∧ x ≤ 1000
 bal : ∀ v, G1 (wt n v) rates + G1 (wp n v) ports = 0
structure Hop1 (n : Network) (rates : List Int) (rate a : Int) (i : Nat) (x : Segment) (r b : Int) : Prop where
 seg : n.Segments[i]? = some x
 old : rates[i]? = some r
 lt : a < b
 ends : x.From = a ∧ x.To = b ∨ x.To = a ∧ x.From = b
 rng : r + rate ≤ 1000 ∧ rate - r ≤ 1000 ∧ r + rate ≤ x.Capacity ∧ rate - r ≤ x.Capacity
def Ps (n : Nw) (rates : Li) (rate a k b : Int) : Prop := ∃ (i : Nat) (x : Sg) (r : Int), k = (i : Int) ∧ Hop1 n rates rate a i x r b
theorem mK {n : Nw} {rates ports aa : Li} {rate : Int} {s : Xf} {l : Li} {q e : Int} {nd : Nat → Int} (h : PlInv n rates ports) (hr : 1 ≤ rate ∧ rate ≤ 300)
  (hw : ∀ (j : Nat) (k : Int), aa[j]? = some k → Ps n rates rate (nd j) k (nd (j + 1))) :
  Ok (forJ (Ql.B9 n (rate, s) (l, q, aa, e)) 0 aa.length rates) fun st => st.length = rates.length ∧ (∀ (k : Nat) (r : Int) (s : Sg), st[k]? = some r → n.Segments[k]? = some s → RateOk s r) ∧
   ∀ v, G1 (wt n v) st = G1 (wt n v) rates + (rate * ind (nd aa.length) v - rate * ind (nd 0) v) := by
 refine .forJ (fun j st => st.length = rates.length ∧ (∀ (k : Nat) (r : Int) (s : Sg), st[k]? = some r → n.Segments[k]? = some s → RateOk s r) ∧
   (∀ (k : Nat) (s : Sg), n.Segments[k]? = some s → nd j ≤ s.From → nd j ≤ s.To → st[k]? = rates[k]?) ∧
   ∀ v, G1 (wt n v) st = G1 (wt n v) rates + (rate * ind (nd j) v - rate * ind (nd 0) v)) ⟨rfl, h.rng, fun _ _ _ _ _ => rfl, fun v => by omega⟩ ?_ fun st ⟨h1, h2, _, h4⟩ => ⟨h1, h2, h4⟩
 rintro j st hj ⟨h1, h2, h3, h4⟩
 obtain ⟨i, x, r, hk, hs, ab, hlt, G, hrng⟩ := hw j aa[j] (gq hj)
 have hil := (gs hs).1
 have hst : st[i]? = some r := by
  rw [h3 i x hs (by rcases G with h | h <;> omega) (by rcases G with h | h <;> omega)]; exact ab
 have ac := h.rng i r x ab hs
 have o1 := ac.rng; have o2 := ac.up; have o3 := ac.down
 have hw : ∀ v, (wt n v)[i]? = some (ind x.To v - ind x.From v) := fun v => by unfold wt; rw [List.getElem?_map, hs]; rfl
 have fin : ∀ y : Int, RateOk x y → (∀ v, (ind x.To v - ind x.From v) * (y - r) = rate * ind (nd (j + 1)) v - rate * ind (nd j) v) → Ok (Ql.J10 (st.set i y)) fun st => st.length = rates.length ∧ (∀ (k : Nat) (r : Int) (s : Sg), st[k]? = some r → n.Segments[k]? = some s → RateOk s r) ∧
   (∀ (k : Nat) (s : Sg), n.Segments[k]? = some s → nd (j + 1) ≤ s.From → nd (j + 1) ≤ s.To → st[k]? = rates[k]?) ∧
   ∀ v, G1 (wt n v) st = G1 (wt n v) rates + (rate * ind (nd (j + 1)) v - rate * ind (nd 0) v) := by
  intro y hy hyv
  unfold Ql.J10
  refine .pure ⟨by simp [h1], fun k r' s' Z O => ?_, fun k s' O a1 a2 => ?_, fun v => ?_⟩
  ·rw [G3] at Z
   split at Z
   ·rename_i hik
    obtain ⟨rfl, _⟩ := hik
    simp at Z; subst Z
    rw [hs] at O; simp at O; subst O; exact hy
   ·exact h2 k r' s' Z O
  ·have hne : i ≠ k := by
    rintro rfl
    rw [hs] at O; simp at O; subst O
    rcases G with h | h <;> omega
   rw [List.getElem?_set_ne hne]
   exact h3 k s' O (by omega) (by omega)
  ·rw [Wl (hw v) hst, h4 v, hyv v]; omega
 unfold Ql.B9
 refine .bind' (.ix j rfl hj ?_)
 dsimp only
 rw [hk]
 refine .bind' (.ix i rfl hil ?_)
 have hx : n.Segments[i] = x := by
  have := gq hil
  rw [hs] at this; exact (Option.some.inj this).symm
 have Y := (gs hst).1
 have hsr : st[i] = r := by
  have := gq Y
  rw [hst] at this; exact (Option.some.inj this).symm
 dsimp only
 rw [hx]
 refine A7 (fun hft => ?_) fun hft => ?_
 ·refine .bind' (.ix i rfl Y ?_)
  dsimp only
  rw [hsr, Av (by omega)]
  have he : x.From = nd j ∧ x.To = nd (j + 1) := by rcases G with h | h <;> omega
  have := o2 hft
  refine fin _ ⟨by omega, fun _ => by omega, fun _ => by omega⟩ fun v => ?_
  rw [he.1, he.2, show r + rate - r = rate by omega, Int.sub_mul, Int.mul_comm, Int.mul_comm (ind (nd j) v)]
 ·refine .bind' (.ix i rfl Y ?_)
  dsimp only
  rw [hsr, Av (by omega)]
  have he : x.To = nd j ∧ x.From = nd (j + 1) := by rcases G with h | h <;> omega
  have := o3 (by omega)
  refine fin _ ⟨by omega, fun _ => by omega, fun _ => by omega⟩ fun v => ?_
  rw [he.1, he.2, show r - rate - r = -rate by omega, Int.sub_mul, Int.mul_neg, Int.mul_neg, Int.mul_comm, Int.mul_comm (ind (nd (j + 1)) v)]; omega
theorem sI {x : Int} (h : -1000000 ≤ x ∧ x ≤ 1000000) : Hy x = max x (-x) := by
 unfold Hy
 rw [Av (by omega), Int.zero_sub]
theorem kM {l : Li} {f : Nat → Int → Li → Option Li} (hf : ∀ k x st, f k x st = (Dy st [wr (0 - x)]).bind fun y => some y) (hl : l.length ≤ 1000) (O : ∀ (k : Nat) (x : Int), l[k]? = some x → -1000000 ≤ x ∧ x ≤ 1000000) :
  Ok (forS f 0 l []) fun r => r = l.map fun x => -x := by
 refine .forS (fun k st => st = (l.take k).map fun x => -x) (by simp) ?_ fun st h => by rw [h]; simp
 rintro k x st G rfl
 rw [hf]
 have Y := (gs G).1
 have := O k x G
 refine .bind' (.app (by simp; omega) (.pure ?_))
 rw [List.take_add_one, G, Av (by omega)]
 simp
theorem aA {p : Plan} (h1 : p.Rates.length ≤ 1000) (h2 : p.Ports.length ≤ 1000) (Y : p.Pumps.length ≤ 1000) (G : ∀ (k : Nat) (x : Int), p.Rates[k]? = some x → -1000000 ≤ x ∧ x ≤ 1000000)
  (O : ∀ (k : Nat) (x : Int), p.Ports[k]? = some x → -1000000 ≤ x ∧ x ≤ 1000000) : Qd p = some ⟨p.Rates.map fun x => -x, p.Ports.map fun x => -x, p.Pumps⟩ := by
 have : Ok (Qd p) fun r => r = ⟨p.Rates.map fun x => -x, p.Ports.map fun x => -x, p.Pumps⟩ := by
  unfold Qd
  refine .bind' (.app (by simp; omega) (.bind (kM (fun _ _ _ => rfl) h1 G) ?_))
  rintro _ rfl
  unfold Qd.J1
  refine .bind (kM (fun _ _ _ => rfl) h2 O) ?_
  rintro _ rfl
  unfold Qd.J2
  exact .pure (by simp)
 obtain ⟨r, h, rfl⟩ := this
 exact h
def WayTo (n : Nw) (rates : Li) (rate O : Int) (G : Li) (t : Int) : Prop :=
 ∃ nd : Nat → Int, nd 0 = O ∧ nd G.length = t ∧ ∀ (j : Nat) (k : Int), G[j]? = some k → Ps n rates rate (nd j) k (nd (j + 1))
theorem WayTo.snoc {n : Nw} {rates : Li} {rate Y : Int} {G : Li} {m k t : Int} (h : WayTo n rates rate Y G m) (hk : Ps n rates rate m k t) : WayTo n rates rate Y (G ++ [k]) t := by
 obtain ⟨nd, Z, h2, h3⟩ := h
 refine ⟨fun i => if i ≤ G.length then nd i else t, by simp [Z], by simp; omega, fun j k' O => ?_⟩
 rw [List.getElem?_append] at O
 split at O
 ·rename_i hjl
  have := h3 j k' O
  dsimp only
  rw [if_pos (by omega), if_pos (by omega)]; exact this
 ·have hb := (gs O).1
  simp at hb
  have : j = G.length := by omega
  subst this
  simp at O; subst O
  dsimp only
  rw [if_pos (by omega), if_neg (by omega), h2]; exact hk
def bG (n : Nw) (ports : Li) (rate : Int) (a : Nat) (t e : Int) : Prop :=
 ∃ (G : Nat) (p : Port) (x : Int), e = (G : Int) ∧ G ≠ a ∧ n.Ports[G]? = some p ∧ p.Node = t ∧ ports[G]? = some x ∧ x ≤ 0 ∧ x - rate ≥ -1000
theorem rM {n : Nw} (hn : NetOk n) {rates ports : Li} {rate : Int} {a : Nat} {l0 : Li} {q0 c0 s0 : Int} {sa s : Xf} (h : PlInv n rates ports) (hr : 1 ≤ rate ∧ rate ≤ 300) (hs : SrcOk s)
  (h0 : 0 ≤ s0 ∧ s0 < (n.Nodes.length : Int)) :
  Ok (Da (Ql.B11 n (l0, q0, rates, ports, c0) ((a : Int), sa) (rate, s)) Eh (s.L_, s.At, s0, [], -1)) fun d => SrcOk ⟨d.1, d.2.1⟩ ∧ (d.2.2.2 < 0 ∨ ∃ t, WayTo n rates rate s0 d.2.2.1 t ∧ bG n ports rate a t d.2.2.2) := by
 have hnn := hn.nodes
 have hsn := hn.segs1
 refine .loop (fun st : Li × Int × Int × Li × Int => SrcOk ⟨st.1, st.2.1⟩ ∧ st.2.2.2.2 = -1 ∧ (0 ≤ st.2.2.1 ∧ st.2.2.1 < (n.Nodes.length : Int)) ∧ (st.2.2.2.1.length : Int) ≤ st.2.2.1 ∧ WayTo n rates rate s0 st.2.2.2.1 st.2.2.1) (fun st => n.Nodes.length - st.2.2.1.toNat)
  ⟨hs, rfl, h0, by simp; omega, fun _ => s0, rfl, rfl, by simp⟩ (by dsimp only; omega) ?_
 rintro ⟨L_, At, G, way, e⟩ ⟨i1, i2, i3, i4, i5⟩
 dsimp only at i1 i2 i3 i4 i5
 subst i2
 unfold Ql.B11
 refine A7 (fun _ => ?_) fun h => absurd (show (-1 : Int) < 0 by decide) h
 refine .bind (Q := fun d : Li × Int × Int => SrcOk ⟨d.1, d.2.1⟩ ∧ (d.2.2 = -1 ∨ bG n ports rate a G d.2.2)) ?_ ?_
 ·refine .forS (fun _ d => SrcOk ⟨d.1, d.2.1⟩ ∧ (d.2.2 = -1 ∨ bG n ports rate a G d.2.2)) ⟨i1, .inl rfl⟩ ?_ fun _ h => h
  rintro k p ⟨L2, A2, e2⟩ hp ⟨j1, j2⟩
  dsimp only at j1 j2
  have no : ∀ {x : Li × Int × Bool}, SrcOk ⟨x.1, x.2.1⟩ → x.2.2 = false → Ok (Ql.J19 k (L2, A2, e2) x) fun d => SrcOk ⟨d.1, d.2.1⟩ ∧ (d.2.2 = -1 ∨ bG n ports rate a G d.2.2) := by
   intro x h1 h2
   unfold Ql.J19 Ql.J18
   rw [h2]
   exact .pure ⟨h1, j2⟩
  have hkl := (gs hp).1
  have hpl := h.pl
  unfold Ql.B17
  refine C6 (fun he => ?_) fun _ => no j1 rfl
  refine Cl (fun hka => ?_) fun _ => no j1 rfl
  refine .bind' (.ix k rfl (by dsimp only; omega) ?_)
  have hx : ports[k]? = some ports[k] := gq (by omega)
  have hxr := h.prt k _ hx
  dsimp only
  rw [Av (by omega)]
  refine A7 (fun hx0 => ?_) fun _ => no j1 rfl
  refine A7 (fun hxm => ?_) fun _ => no j1 rfl
  refine A7 (fun _ => ?_) fun _ => no j1 rfl
  refine .bind (Ij j1 (by decide) (by decide)) fun r aa => ?_
  unfold Ql.J19 Ql.J18
  refine Bc (fun _ => .pure ⟨aa.1, .inr ⟨k, p, ports[k], rfl, fun h => by omega, hp, he, hx, hx0, hxm⟩⟩) fun _ => .pure ⟨aa.1, j2⟩
 rintro ⟨L2, A2, e2⟩ ⟨j1, j2⟩
 dsimp only at j1 j2
 unfold Ql.J12
 refine A7 (fun h0 => .pure ⟨j1, .inr ⟨G, i5, ?_⟩⟩) fun h0 => ?_
 ·rcases j2 with h | h
  ·dsimp only at h0; omega
  ·exact h
 have he2 : e2 = -1 := by
  rcases j2 with h | ⟨kk, _, _, h, _⟩
  ·exact h
  ·dsimp only at h0; omega
 subst he2
 refine .bind (Q := fun O : Li => O.length ≤ 1000 ∧ ∀ k, k ∈ O → ∃ t, Ps n rates rate G k t ∧ G < t ∧ t < (n.Nodes.length : Int)) ?_ ?_
 ·refine .forS (fun k O => O.length ≤ k ∧ ∀ k, k ∈ O → ∃ t, Ps n rates rate G k t ∧ G < t ∧ t < (n.Nodes.length : Int)) ⟨by simp, by simp⟩ ?_ fun O ho => ⟨by have := ho.1; omega, ho.2⟩
  rintro k x O hx ⟨o1, o2⟩
  have hkl := (gs hx).1
  have hxo := (hn.segs k x hx).ends
  have hxc := (hn.segs k x hx).cap
  have hrl := h.rl
  have hold : rates[k]? = some rates[k] := gq (by omega)
  have hro := (h.rng k _ x hold hx).rng
  have no : ∀ {x : Bool}, x = false → Ok (Ql.J16 k O x) fun O => O.length ≤ k + 1 ∧ ∀ k, k ∈ O → ∃ t, Ps n rates rate G k t ∧ G < t ∧ t < (n.Nodes.length : Int) := by
   intro x hx
   unfold Ql.J16 Ql.J15
   rw [hx]
   exact .pure ⟨by omega, o2⟩
  have yes : ∀ t, (x.From = G ∧ x.To = t ∨ x.To = G ∧ x.From = t) → G < t → Ok (Ql.J16 k O (decide ((wr ((Hy rates[k]) + rate)) ≤ (min 1000 x.Capacity)))) fun O => O.length ≤ k + 1 ∧ ∀ k, k ∈ O → ∃ t, Ps n rates rate G k t ∧ G < t ∧ t < (n.Nodes.length : Int) := by
   intro t ht hlt
   unfold Ql.J16 Ql.J15
   refine A7 (fun hc => ?_) fun _ => .pure ⟨by omega, o2⟩
   rw [sI (by omega), Av (by omega)] at hc
   refine .bind' (.app (by simp; omega) (.pure ⟨by simp; omega, fun k' Z => ?_⟩))
   rcases List.mem_append.1 Z with Z | Z
   ·exact o2 k' Z
   ·simp at Z; subst Z
    exact ⟨t, ⟨k, x, rates[k], rfl, hx, hold, hlt, ht, by omega⟩, hlt, by rcases ht with h | h <;> omega⟩
  unfold Ql.B14
  dsimp only
  simp (disch := omega) only [Av]
  refine C6 (fun hf => ?_) fun _ => C6 (fun hf => ?_) fun _ => no rfl
  ·refine A7 (fun ht => ?_) fun _ => no rfl
   exact .bind' (.ix k rfl (by omega) (yes x.To (.inl ⟨hf, rfl⟩) (by omega)))
  ·refine A7 (fun ht => ?_) fun _ => no rfl
   exact .bind' (.ix k rfl (by omega) (yes x.From (.inr ⟨hf, rfl⟩) (by omega)))
 rintro O ⟨o1, o2⟩
 unfold Ql.J13
 refine C6 (fun _ => .pure ⟨j1, .inl (show (-1 : Int) < 0 by decide)⟩) fun hl => ?_
 refine .bind (Ij j1 (by omega) (by omega)) fun r aa => ?_
 refine .bind' (.ix' aa.2.1 aa.2.2 fun k y _ hy => ?_)
 obtain ⟨t, Y, hlt, htn⟩ := o2 y (mg hy)
 have hop' := Y
 obtain ⟨i, x, r0, rfl, Y⟩ := Y
 refine .bind' (.app (by simp; omega) ?_)
 have hil := (gs Y.seg).1
 have hxo := (hn.segs i x Y.seg).ends
 refine .bind' (.eq (Bb Y.seg) ?_)
 dsimp only
 have he := Y.ends
 have hw : wr (wr (x.From + x.To) - G) = t := by
  simp (disch := omega) only [Av]
  rcases he with h | h <;> omega
 rw [hw]
 exact .pure ⟨⟨aa.1, rfl, ⟨by dsimp only; omega, htn⟩, by simp; omega, i5.snoc hop'⟩, by dsimp only; omega⟩
structure PlanOk (n : Network) (p : Plan) : Prop where
 rl : p.Rates.length = n.Segments.length
 pl : p.Ports.length = n.Ports.length
 ml : p.Pumps.length = n.Stations.length
 rng : ∀ (k : Nat) (r : Int) (s : Sg), p.Rates[k]? = some r → n.Segments[k]? = some s → -1000 ≤ r ∧ r ≤ 1000 ∧ -s.Capacity ≤ r ∧ r ≤ s.Capacity
 prt : ∀ (k : Nat) (x : Int), p.Ports[k]? = some x → -1000 ≤ x ∧ x ≤ 1000
 bal : ∀ v, G1 (wt n v) p.Rates + G1 (wp n v) p.Ports = 0
 dir : (∀ (k : Nat) (r : Int) (s : Sg), p.Rates[k]? = some r → n.Segments[k]? = some s → (0 < r → s.From < s.To) ∧ (r < 0 → s.To < s.From)) ∨
  (∀ (k : Nat) (r : Int) (s : Sg), p.Rates[k]? = some r → n.Segments[k]? = some s → (0 < r → s.To < s.From) ∧ (r < 0 → s.From < s.To))
theorem Z4 {n : Nw} (hn : NetOk n) {s : Xf} (hs : SrcOk s) {rates ports : Li} {c : Int} (hc : 0 ≤ c ∧ c < 5) (h : PlInv n rates ports) :
  Ok (Da (Ql.B4 n) Eh (s.L_, s.At, rates, ports, c)) fun d => SrcOk ⟨d.1, d.2.1⟩ ∧ PlInv n d.2.2.1 d.2.2.2 := by
 have hpn := hn.ports1
 refine .loop (fun O : Li × Int × Li × Li × Int => SrcOk ⟨O.1, O.2.1⟩ ∧ PlInv n O.2.2.1 O.2.2.2.1 ∧ 0 ≤ O.2.2.2.2 ∧ O.2.2.2.2 < 5) (fun O => O.2.2.2.2.toNat) ⟨hs, h, hc⟩ (by dsimp only; omega) ?_
 rintro ⟨L_, At, rates, ports, c⟩ ⟨i1, i2, i3⟩
 dsimp only at i1 i2 i3
 unfold Ql.B4
 refine A7 (fun h0 => ?_) fun _ => .pure ⟨i1, i2⟩
 dsimp only at h0
 have j5 : ∀ j : Li × Int × Li × Li, SrcOk ⟨j.1, j.2.1⟩ → PlInv n j.2.2.1 j.2.2.2 → Ok (Ql.J5 (L_, At, rates, ports, c) j)
   (Sum.elim (fun O => (SrcOk ⟨O.1, O.2.1⟩ ∧ PlInv n O.2.2.1 O.2.2.2.1 ∧ 0 ≤ O.2.2.2.2 ∧ O.2.2.2.2 < 5) ∧ O.2.2.2.2.toNat < c.toNat) fun d => SrcOk ⟨d.1, d.2.1⟩ ∧ PlInv n d.2.2.1 d.2.2.2) := by
  intro j h1 h2
  unfold Ql.J5
  dsimp only
  rw [Av (by omega)]
  exact .pure ⟨⟨h1, h2, by dsimp only; omega⟩, by dsimp only; omega⟩
 refine .bind (Ij i1 (by omega) (by omega)) fun r4095 Y => ?_
 obtain ⟨ai, sa⟩ := r4095
 dsimp only at Y
 obtain ⟨a, rfl⟩ := Hw Y.2.1
 have hal : a < n.Ports.length := by omega
 have hpa : n.Ports[a]? = some n.Ports[a] := gq hal
 have hpo := (hn.ports a _ hpa).node
 refine .bind' (.eq (Bb hpa) ?_)
 refine .bind (Ec Y.1 (by decide) (by decide)) fun r4101 h4101 => ?_
 have c1 := h4101.2
 simp only [List.mem_cons, List.not_mem_nil, or_false] at c1
 refine .bind (Eo h4101.1 (by omega) (by omega) (by omega)) fun r4103 Z => ?_
 obtain ⟨G, s⟩ := r4103
 dsimp only at Z
 have hrate : 1 ≤ G ∧ G ≤ 300 := by omega
 have hxl : a < ports.length := by have := i2.pl; omega
 have hx : ports[a]? = some ports[a] := gq hxl
 have hxr := i2.prt a _ hx
 refine .bind' (.eq (Bb hx) ?_)
 dsimp only
 have j6t : Ok (Ql.J6 n (L_, At, rates, ports, c) ((a : Int), sa) (a, n.Ports[a]) (G, s) true)
   (Sum.elim (fun O => (SrcOk ⟨O.1, O.2.1⟩ ∧ PlInv n O.2.2.1 O.2.2.2.1 ∧ 0 ≤ O.2.2.2.2 ∧ O.2.2.2.2 < 5) ∧ O.2.2.2.2.toNat < c.toNat) fun d => SrcOk ⟨d.1, d.2.1⟩ ∧ PlInv n d.2.2.1 d.2.2.2) := by
  unfold Ql.J6
  exact j5 (_, _, _, _) Z.1 i2
 rw [Av (by omega)]
 refine A7 (fun _ => j6t) fun hx0 => ?_
 by_cases hbig : ports[a] + G > 1000
 ·simp only [hbig, decide_true]; exact j6t
 simp only [hbig, decide_false]
 unfold Ql.J6
 refine .bind (rM hn i2 hrate Z.1 hpo) ?_
 rintro ⟨L2, A2, way, e⟩ ⟨w1, w2⟩
 dsimp only at w1 w2
 unfold Ql.J7
 refine A7 (fun _ => j5 (_, _, _, _) w1 i2) fun he => ?_
 dsimp only at he
 obtain ⟨t, ⟨nd, n0, n1, n2⟩, kk, p, x, rfl, hka, hp, hpt, hxk, hx0', hxm⟩ := w2.resolve_left he
 have hkl := (gs hxk).1
 have hxkr := i2.prt kk _ hxk
 refine .bind' (.eq (Bb hx) (.bind' (.eq (Bb hxk) ?_)))
 dsimp only
 rw [Av (by omega)]
 have hset : (ports.set a (ports[a] + G))[kk]? = some x := by rw [List.getElem?_set_ne (Ne.symm hka)]; exact hxk
 refine .bind' (.eq (Bb hset) ?_)
 dsimp only
 rw [Av (by omega)]
 unfold Ql.J8
 refine .bind (mK i2 hrate n2) fun O hst => ?_
 obtain ⟨s1, s2, s3⟩ := hst
 dsimp only at s1 s2 s3
 refine j5 (_, _, _, _) w1 ⟨by dsimp only; rw [s1]; exact i2.rl, by simp [i2.pl], s2, fun k y hk => ?_, fun v => ?_⟩
 ·dsimp only at hk
  rw [G3] at hk
  split at hk
  ·simp at hk; omega
  ·rw [G3] at hk
   split at hk
   ·simp at hk; omega
   ·exact i2.prt k y hk
 ·have w1 : (wp n v)[a]? = some (ind n.Ports[a].Node v) := by unfold wp; rw [List.getElem?_map, hpa]; rfl
  have w2 : (wp n v)[kk]? = some (ind p.Node v) := by unfold wp; rw [List.getElem?_map, hp]; rfl
  dsimp only
  rw [Wl w2 hset, Wl w1 hx, s3 v, n0, n1, hpt]
  have := i2.bal v
  have e1 : ind n.Ports[a].Node v * (ports[a] + G - ports[a]) = G * ind n.Ports[a].Node v := by rw [show ports[a] + G - ports[a] = G by omega, Int.mul_comm]
  have e2 : ind t v * (x - G - x) = -(G * ind t v) := by rw [show x - G - x = -G by omega, Int.mul_neg, Int.mul_comm]
  rw [e1, e2]
  omega
theorem pD {n : Nw} (hn : NetOk n) {s : Xf} (Y : SrcOk s) : Ok (Ql s n) fun r => PlanOk n r.1 ∧ SrcOk r.2 := by
 have h1 := hn.segs1; have h2 := hn.ports1; have h3 := hn.sts1
 unfold Ql
 refine .bind' (.mk n.Segments.length rfl (by omega) (.bind' (.mk n.Ports.length rfl (by omega) ?_)))
 unfold Ql.J1
 refine .bind (Q := fun d : Li × Int × List Bool => SrcOk ⟨d.1, d.2.1⟩ ∧ d.2.2.length = n.Stations.length) ?_ ?_
 ·refine .loop (fun st : Li × Int × List Bool × Int => SrcOk ⟨st.1, st.2.1⟩ ∧ (st.2.2.1.length : Int) = st.2.2.2 ∧ st.2.2.1.length ≤ n.Stations.length) (fun st => n.Stations.length - st.2.2.1.length) ⟨Y, by simp, by simp⟩ (by dsimp only; omega) ?_
  rintro ⟨L_, At, pumps, i⟩ ⟨i1, i2, i3⟩
  dsimp only at i1 i2 i3
  unfold Ql.B20
  refine A7 (fun h0 => ?_) fun h0 => .pure ⟨i1, by dsimp only at h0 ⊢; omega⟩
  dsimp only at h0 ⊢
  refine .bind (Ij i1 (by decide) (by decide)) fun r G => .bind' (.app (by simp; omega) (.pure ?_))
  rw [Av (by omega)]
  exact ⟨⟨G.1, by simp; omega, by simp; omega⟩, by simp; omega⟩
 rintro ⟨L_, At, pumps⟩ ⟨i1, i2⟩
 dsimp only at i1 i2
 unfold Ql.J2
 refine .bind (Ij i1 (by decide) (by decide)) fun r51 h51 => .bind (Ij h51.1 (by decide) (by decide)) fun r1787 Z => ?_
 refine .bind (Z4 hn Z.1 Z.2 ⟨by simp, by simp, fun k r s G Y => ?_, fun k x hx => ?_, fun v => ?_⟩) ?_
 ·have := mg G
  simp at this
  have hc := (hn.segs k s Y).cap
  exact ⟨by omega, fun _ => by omega, fun _ => by omega⟩
 ·have := mg hx
  simp at this
  omega
 ·rw [Yc, Yc]; omega
 rintro ⟨L2, A2, rates, ports⟩ ⟨j1, O⟩
 dsimp only at j1 O
 have hr0 : ∀ (k : Nat) (r : Int), rates[k]? = some r → -1000000 ≤ r ∧ r ≤ 1000000 := fun k r G => by
  have hk := (gs G).1
  have Y : n.Segments[k]? = some _ := gq (by have := O.rl; omega)
  have := (O.rng k r _ G Y).rng
  omega
 unfold Ql.J3
 refine C6 (fun _ => ?_) fun _ => .pure ⟨⟨O.rl, O.pl, i2, fun k r s G Y => (O.rng k r s G Y).rng, O.prt, O.bal, .inl fun k r s G Y => ?_⟩, j1⟩
 ·refine .bind' (.eq (aA (by dsimp only; have := O.rl; omega) (by dsimp only; have := O.pl; omega) (by dsimp only; omega) hr0 fun k x hx => by have := O.prt k x hx; omega) (.pure ⟨⟨by simp [O.rl], by simp [O.pl], i2, fun k r s G Y => ?_, fun k x hx => ?_, fun v => ?_, .inr fun k r s G Y => ?_⟩, j1⟩))
  ·dsimp only at G
   rw [List.getElem?_map] at G
   obtain ⟨r', aa, rfl⟩ := Option.map_eq_some_iff.1 G
   have := (O.rng k r' s aa Y).rng
   omega
  ·dsimp only at hx
   rw [List.getElem?_map] at hx
   obtain ⟨r', aa, rfl⟩ := Option.map_eq_some_iff.1 hx
   have := O.prt k r' aa
   omega
  ·dsimp only
   rw [Ly, Ly]
   have := O.bal v
   omega
  ·dsimp only at G
   rw [List.getElem?_map] at G
   obtain ⟨r', aa, rfl⟩ := Option.map_eq_some_iff.1 G
   have h5 := O.rng k r' s aa Y
   have h6 := (hn.segs k s Y).ends
   have := h5.up; have := h5.down
   omega
 ·have h5 := O.rng k r s G Y
  have h6 := (hn.segs k s Y).ends
  have := h5.up; have := h5.down
  omega
def Xg {n : Nat} (a : Arr Int n) (v : Nat) : Int := a.l.getD v 0
theorem Wf {n : Nat} {a : Arr Int n} {i v : Nat} {x : Int} (hv : v < n) : Xg (a.set i x) v = if i = v then x else Xg a v := by
 unfold Xg Arr.set
 dsimp only
 rw [List.getD_eq_getElem?_getD, List.getD_eq_getElem?_getD, G3]
 have := a.h
 by_cases h : i = v
 ·rw [if_pos ⟨h, by omega⟩, if_pos h]; rfl
 ·rw [if_neg (fun G => h G.1), if_neg h]
theorem Pk {n : Nat} {a : Arr Int n} {i : Nat} {x : Int} (h : a.l[i]? = some x) : Xg a i = x := by
 unfold Xg; rw [List.getD_eq_getElem?_getD, h]; rfl
theorem Wg {n v : Nat} : Xg (Arr.rep n (0 : Int)) v = 0 := by
 unfold Xg Arr.rep
 dsimp only
 rw [List.getD_eq_getElem?_getD, List.getElem?_replicate]
 split <;> rfl
structure Strm (b : Int) (s : flow_streams) (f : Nat → Int) : Prop where
 come : ∀ v, v < 24 → 0 ≤ Xg s.come v ∧ Xg s.come v ≤ b
 leave : ∀ v, v < 24 → 0 ≤ Xg s.leave v ∧ Xg s.leave v ≤ b
 diff : ∀ v, v < 24 → Xg s.come v - Xg s.leave v = f v
theorem Iy (v : Int) : ind v v = 1 := if_pos rfl
theorem Ip {a v : Int} (h : a ≠ v) : ind a v = 0 := if_neg h
theorem kV {s : flow_streams} {b : Int} {f : Nat → Int} (h : Strm b s f) (hb : 0 ≤ b ∧ b ≤ 1000000) {G O rate : Int} (hf : G < 24) (ht : O < 24) (hft : -1 ≤ G ∧ -1 ≤ O)
  (hr : -1000 ≤ rate ∧ rate ≤ 1000) : Ok (M5 s G O rate) fun r => Strm (b + 1000) r fun v => f v + (ind O v - ind G v) * rate := by
 have main : ∀ (G O rate : Int), G < 24 → O < 24 → -1 ≤ G ∧ -1 ≤ O → 0 ≤ rate ∧ rate ≤ 1000 → Ok (M5.J1 s (G, O, rate)) fun r => Strm (b + 1000) r fun v => f v + (ind O v - ind G v) * rate := by
  intro G O rate hf ht hft hr
  have j2 : ∀ (lv : Arr Int 24), (∀ v, v < 24 → 0 ≤ Xg lv v ∧ Xg lv v ≤ b + 1000 ∧ Xg lv v = Xg s.leave v + ind G v * rate) → Ok (M5.J2 s (G, O, rate) lv) fun r => Strm (b + 1000) r fun v => f v + (ind O v - ind G v) * rate := by
   intro lv Z
   unfold M5.J2
   refine A7 (fun h0 => ?_) fun h0 => .pure ?_
   ·dsimp only at h0
    obtain ⟨t, rfl⟩ := Hw h0
    have hl := s.come.h
    refine .bind' (.ix t rfl (by omega) ?_)
    have hx : s.come.l[t]? = some s.come.l[t] := gq (by omega)
    have hvx := Pk hx
    have hcx := h.come t (by omega)
    dsimp only
    rw [Av (by omega)]
    refine .pure ⟨fun v Y => ?_, fun v Y => ⟨(Z v Y).1, (Z v Y).2.1⟩, fun v Y => ?_⟩
    ·have := h.come v Y
     dsimp only
     rw [Wf Y]; split <;> omega
    ·have h1 := h.diff v Y
     have h2 := (Z v Y).2.2
     dsimp only
     rw [Wf Y, h2, Int.sub_mul]
     by_cases htv : t = v
     ·subst htv; rw [if_pos rfl, Iy]; omega
     ·rw [if_neg htv, Ip (a := (t : Int)) (by omega)]; omega
   ·dsimp only at h0
    refine ⟨fun v Y => ?_, fun v Y => ⟨(Z v Y).1, (Z v Y).2.1⟩, fun v Y => ?_⟩
    ·have := h.come v Y
     dsimp only; omega
    ·have h1 := h.diff v Y
     have h2 := (Z v Y).2.2
     dsimp only
     rw [h2, Int.sub_mul, Ip (a := O) (by omega)]; omega
  unfold M5.J1
  refine A7 (fun h0 => ?_) fun h0 => ?_
  ·dsimp only at h0
   obtain ⟨t, rfl⟩ := Hw h0
   have hl := s.leave.h
   refine .bind' (.ix t rfl (by omega) ?_)
   have hx : s.leave.l[t]? = some s.leave.l[t] := gq (by omega)
   have hvx := Pk hx
   have hcx := h.leave t (by omega)
   dsimp only
   rw [Av (by omega)]
   refine j2 _ fun v Y => ?_
   have := h.leave v Y
   rw [Wf Y]
   by_cases htv : t = v
   ·subst htv; rw [if_pos rfl, Iy]; omega
   ·rw [if_neg htv, Ip (by omega)]; omega
  ·dsimp only at h0
   refine j2 _ fun v Y => ?_
   have := h.leave v Y
   rw [Ip (by omega)]; omega
 unfold M5
 refine A7 (fun h0 => ?_) fun h0 => main _ _ _ hf ht hft (by omega)
 rw [Av (by omega)]
 refine (main O G (0 - rate) ht hf ⟨hft.2, hft.1⟩ (by omega)).mono fun r hr => ⟨hr.come, hr.leave, fun v Y => ?_⟩
 rw [hr.diff v Y]
 have : ∀ a b r : Int, (a - b) * (0 - r) = (b - a) * r := fun a b r => by rw [Int.zero_sub, Int.mul_neg, ← Int.neg_mul]; congr 1; omega
 rw [this]
def Gf (n : Nw) (p : Plan) (G : List Bool) (j : Nat) : Prop :=
 ∃ (i : Nat) (s : Sg) (r : Int) (f : Nat), n.Segments[i]? = some s ∧ p.Rates[i]? = some r ∧ r ≠ 0 ∧ (Bn s r).2 = (j : Int) ∧ (Bn s r).1 = (f : Int) ∧ G[f]? = some false
def rJ (n : Nw) (p : Plan) : Prop := ∀ G : List Bool, G.length = n.Nodes.length → (∀ j : Nat, G[j]? = some false → Gf n p G j) → ∀ k : Nat, G[k]? ≠ some false
structure FlowOk (n : Network) (p : Plan) : Prop where
 rl : p.Rates.length = n.Segments.length
 pl : p.Ports.length = n.Ports.length
 ml : p.Pumps.length = n.Stations.length
 rng : ∀ (k : Nat) (r : Int) (s : Sg), p.Rates[k]? = some r → n.Segments[k]? = some s → -1000 ≤ r ∧ r ≤ 1000 ∧ -s.Capacity ≤ r ∧ r ≤ s.Capacity
 prt : ∀ (k : Nat) (x : Int), p.Ports[k]? = some x → -1000 ≤ x ∧ x ≤ 1000
 bal : ∀ v : Nat, v < 24 → G1 (wt n v) p.Rates + G1 (wp n v) p.Ports = 0
 acyc : rJ n p
theorem Kn {s : Sg} {r : Int} (O : r ≠ 0) : Bn s r = (s.To, s.From) ∧ r < 0 ∨ Bn s r = (s.From, s.To) ∧ 0 < r := by
 unfold Bn
 by_cases G : r < 0
 ·exact .inl ⟨by rw [if_pos (by simp [G])], G⟩
 ·exact .inr ⟨by rw [if_neg (by simp [G])], by omega⟩
theorem PlanOk.flow {n : Nw} {p : Plan} (h : PlanOk n p) : FlowOk n p := by
 refine ⟨h.rl, h.pl, h.ml, h.rng, h.prt, fun v _ => h.bal v, fun G hl i5 => ?_⟩
 rcases h.dir with hd | hd
 ·intro k
  induction k using Nat.strongRecOn with
  | ind k ih =>
   intro hk
   have hkl := (gs hk).1
   obtain ⟨i, s, r, f, hs, hr, Z, Y, O, hf⟩ := i5 k hk
   have := hd i r s hr hs
   refine ih f ?_ hf
   rcases Kn (s := s) Z with ⟨he, aa⟩ | ⟨he, aa⟩ <;> rw [he] at Y O <;> dsimp only at Y O <;> omega
 ·have : ∀ m k : Nat, G.length - k = m → G[k]? ≠ some false := by
   intro m
   induction m using Nat.strongRecOn with
   | ind m ih =>
    intro k hm hk
    have hkl := (gs hk).1
    obtain ⟨i, s, r, f, hs, hr, Z, Y, O, hf⟩ := i5 k hk
    have hfl := (gs hf).1
    have := hd i r s hr hs
    refine ih (G.length - f) ?_ f rfl hf
    rcases Kn (s := s) Z with ⟨he, aa⟩ | ⟨he, aa⟩ <;> rw [he] at Y O <;> dsimp only at Y O <;> omega
  exact fun k => this _ k rfl
theorem lH {n : Nw} (hn : NetG n) {p : Plan} (h : FlowOk n p) : Ok (Pv n p) fun r => Strm 14000 r fun _ => 0 := by
 have h1 := hn.nodes; have h2 := hn.segs1; have h3 := hn.ports1; have h4 := h.rl; have h5 := h.pl
 unfold Pv
 refine .bind (.forS (fun k Y => Strm (1000 * k) ⟨Y.1, Y.2⟩ fun v => G1 (wt n v) (p.Rates.take k)) ⟨fun v G => ?_, fun v G => ?_, fun v G => ?_⟩ ?_ fun Y h => h) ?_
 ·dsimp only; rw [Wg]; omega
 ·dsimp only; rw [Wg]; omega
 ·dsimp only; rw [Wg]; simp [Jh]
 ·intro k s Y Z hi
  have hkl := (gs Z).1
  have hr : p.Rates[k]? = some p.Rates[k] := gq (by omega)
  have hrr := h.rng k _ s hr Z
  have he := (hn.segs k s Z).ends
  unfold Pv.B4
  refine .bind' (.ix k rfl (by omega) (.bind (kV hi (by omega) (by omega) (by omega) (by omega) (by dsimp only; omega)) fun r O => .pure ?_))
  refine ⟨fun v G => ?_, fun v G => ?_, fun v G => ?_⟩
  ·have := O.come v G; dsimp only; omega
  ·have := O.leave v G; dsimp only; omega
  ·have := O.diff v G
   dsimp only at this ⊢
   rw [this, Fw (w := wt n v) (a := ind s.To v - ind s.From v) (by unfold wt; rw [List.getElem?_map, Z]; rfl) hr]
 ·intro Y hi
  rw [List.take_of_length_le (by omega)] at hi
  unfold Pv.J1
  refine .bind (.forS (fun k Y => Strm (8000 + 1000 * k) ⟨Y.1, Y.2⟩ fun v => G1 (wt n v) p.Rates + G1 (wp n v) (p.Ports.take k)) ⟨fun v G => ?_, fun v G => ?_, fun v G => ?_⟩ ?_ fun Y h => h) ?_
  ·have := hi.come v G; dsimp only at this ⊢; omega
  ·have := hi.leave v G; dsimp only at this ⊢; omega
  ·have := hi.diff v G; dsimp only at this ⊢; rw [this]; simp [Jh]
  ·intro k s Y Z hi
   have hkl := (gs Z).1
   have hr : p.Ports[k]? = some p.Ports[k] := gq (by omega)
   have hrr := h.prt k _ hr
   have he := (hn.ports k s Z)
   unfold Pv.B3
   refine .bind' (.ix k rfl (by omega) (.bind (kV hi (by omega) (by omega) (by omega) (by omega) (by dsimp only; omega)) fun r O => .pure ?_))
   refine ⟨fun v G => ?_, fun v G => ?_, fun v G => ?_⟩
   ·have := O.come v G; dsimp only; omega
   ·have := O.leave v G; dsimp only; omega
   ·have := O.diff v G
    dsimp only at this ⊢
    rw [this, Fw (w := wp n v) (a := ind s.Node v) (by unfold wp; rw [List.getElem?_map, Z]; rfl) hr, Ip (a := -1) (by omega), Int.sub_zero]; omega
  ·intro Y hi
   rw [List.take_of_length_le (by omega)] at hi
   unfold Pv.J2
   refine .pure ⟨fun v G => ?_, fun v G => ?_, fun v G => ?_⟩
   ·have := hi.come v G; dsimp only at this ⊢; omega
   ·have := hi.leave v G; dsimp only at this ⊢; omega
   ·have := hi.diff v G; rw [h.bal v G] at this; exact this
def Ze : List Bool → Nat
 | [] => 0
 | b :: l => (if b = true then 1 else 0) + Ze l
theorem Ko : ∀ l : List Bool, Ze l ≤ l.length
 | [] => Nat.le_refl _
 | b :: l => by have := Ko l; cases b <;> simp [Ze] <;> omega
theorem Wm (n : Nat) : Ze (List.replicate n false) = 0 := by induction n with | zero => rfl | succ n ih => simp [List.replicate_succ, Ze, ih]
theorem Pn : ∀ {l : List Bool} {k : Nat}, l[k]? = some false → Ze (l.set k true) = Ze l + 1
 | [], k, h => by simp at h
 | b :: l, 0, h => by simp at h; subst h; simp [Ze]; omega
 | b :: l, k + 1, h => by simp at h; simp [Ze, Pn h]; omega
theorem bV : ∀ {l : List Bool}, (∀ k : Nat, l[k]? ≠ some false) → Ze l = l.length
 | [], _ => rfl
 | b :: l, h => by
  have G := h 0
  have := bV (l := l) fun k => by have := h (k + 1); simpa using this
  cases b <;> simp [Ze, this] at G ⊢; omega
structure Flw (n : Network) (p : Plan) (i : Nat) (s : Segment) (r : Int) : Prop where
 seg : n.Segments[i]? = some s
 rate : p.Rates[i]? = some r
 ne : r ≠ 0
structure Topo (n : Network) (p : Plan) (l : List Int) : Prop where
 rng : ∀ v, v ∈ l → 0 ≤ v ∧ v < (n.Nodes.length : Int)
 nodup : l.Nodup
 topo : ∀ (k : Nat) (v : Int), l[k]? = some v → ∀ i s r, Flw n p i s r → (Bn s r).2 = v → (Bn s r).1 ∈ l.take k
theorem Pa {n : Nw} (hn : NetG n) {p : Plan} (h : FlowOk n p) : Ok (Ku n p) fun r => Topo n p r ∧ ∀ v : Nat, v < n.Nodes.length → (v : Int) ∈ r := by
 have h1 := hn.nodes; have h2 := hn.segs1; have h4 := h.rl
 let I : Li × List Bool × Int → Prop := fun st => st.2.1.length = n.Nodes.length ∧ (Topo n p st.1 ∧ ∀ v : Nat, st.2.1[v]? = some true ↔ (v : Int) ∈ st.1) ∧ 0 ≤ st.2.2 ∧ st.2.2 ≤ (n.Nodes.length : Int) ∧ ∀ j : Nat, (j : Int) < st.2.2 → st.2.1[j]? = some false → Gf n p st.2.1 j
 let R : Li → Prop := fun r => Topo n p r ∧ ∀ v : Nat, v < n.Nodes.length → (v : Int) ∈ r
 let μ : Li × List Bool × Int → Nat := fun st => (n.Nodes.length - Ze st.2.1) * 10 + (n.Nodes.length - st.2.2.toNat)
 unfold Ku
 refine .bind' (.mk n.Nodes.length rfl (by omega) ?_)
 refine .bind (Q := R) ?_ fun r hr => .pure hr
 refine .loop I μ ⟨by simp, ⟨⟨by simp, by simp, by simp⟩, fun v => ?_⟩, by simp, by simp, fun j hj => by dsimp only at hj; omega⟩ (by simp only [μ]; rw [Wm]; omega) ?_
 ·simp [List.getElem?_replicate]
 rintro ⟨out, G, k⟩ ⟨i1, ⟨i2, i2'⟩, i3, i4, i5⟩
 dsimp only at i1 i2 i2' i3 i4 i5
 have hc := Ko G
 unfold Ku.B2
 refine A7 (fun h0 => ?_) fun h0 => ?_
 ·dsimp only at h0
  obtain ⟨O, rfl⟩ := Hw i3
  have hkl : O < G.length := by omega
  have hx : G[O]? = some G[O] := gq hkl
  have next : Gf n p G O ∨ G[O] = true → Ok (Ku.J3 (out, G, (O : Int))) (Sum.elim (fun st => I st ∧ μ st < μ (out, G, (O : Int))) R) := by
   intro hb
   unfold Ku.J3
   dsimp only
   rw [Av (by omega)]
   refine .pure ⟨⟨i1, ⟨i2, i2'⟩, by dsimp only; omega, by dsimp only; omega, fun j hj Y => ?_⟩, by simp only [μ]; omega⟩
   dsimp only at hj Y
   by_cases hjk : j = O
   ·subst hjk
    rcases hb with hb | hb
    ·exact hb
    ·rw [hx, hb] at Y; cases Y
   ·exact i5 j (by omega) Y
  refine .bind' (.eq (Bb hx) (Bc (fun ht => next (.inr ht)) fun ht => ?_))
  dsimp only at ht
  refine .bind' (.forL (fun i _ => ∀ (j : Nat) (s : Sg) (r : Int), j < i → Flw n p j s r → (Bn s r).2 = (O : Int) → (Bn s r).1 ∈ out) (fun d => d = (out, G, (O : Int)) ∧ Gf n p G O) (fun j s r hj => absurd hj (Nat.not_lt_zero _)) ?_ ?_ ?_)
  ·intro i s _ hs hJ
   have hil := (gs hs).1
   have hr : p.Rates[i]? = some p.Rates[i] := gq (by omega)
   have he := (hn.segs i s hs).ends
   have no : (p.Rates[i] ≠ 0 → (Bn s p.Rates[i]).2 = (O : Int) → (Bn s p.Rates[i]).1 ∈ out) → Ok (Ku.J6 (out, G, (O : Int)) false) (Sum.elim (fun _ : Unit => ∀ (j : Nat) (s : Sg) (r : Int), j < i + 1 → Flw n p j s r → (Bn s r).2 = (O : Int) → (Bn s r).1 ∈ out) fun d => d = (out, G, (O : Int)) ∧ Gf n p G O) := by
    intro hq
    unfold Ku.J6
    refine .pure fun j s' r' hj Y ht => ?_
    by_cases hji : j = i
    ·subst hji
     have e1 := Y.seg; have e2 := Y.rate
     rw [hs] at e1; cases e1
     rw [hr] at e2; cases e2
     exact hq Y.ne ht
    ·exact hJ j s' r' (by omega) Y ht
   unfold Ku.B5
   refine .bind' (.eq (Bb hr) (Cl (fun hr0 => C6 (fun Z => ?_) fun Z => no fun _ h => absurd h Z) fun hr0 => no fun h => absurd hr0 h))
   dsimp only at hr0 Z ⊢
   have hfr : 0 ≤ (Bn s p.Rates[i]).1 ∧ (Bn s p.Rates[i]).1 < (n.Nodes.length : Int) := by
    unfold Bn
    split <;> dsimp only <;> omega
   refine .bind' (.ix' hfr.1 (by omega) fun f x Y hfx => ?_)
   dsimp only
   cases x with
   | false =>
    unfold Ku.J6
    exact .pure ⟨rfl, i, s, p.Rates[i], f, hs, hr, hr0, Z, Y, hfx⟩
   | true => exact no fun _ _ => by rw [Y]; exact (i2' f).1 hfx
  ·intro _ hJ
   simp only [Sum.elim_inl]
   unfold Ku.J4
   refine .bind' (.app (by
    have : out.length ≤ 6 := by
     have := i2.nodup.length_le_of_subset (l₂ := (List.range n.Nodes.length).map fun v : Nat => (v : Int)) fun v hv => by
      have := i2.rng v hv
      exact List.mem_map.2 ⟨v.toNat, List.mem_range.2 (by omega), by omega⟩
     simp at this; omega
    simp; omega) ?_)
   unfold Ku.J3
   dsimp only
   rw [Av (by omega)]
   have hx' : G[O]? = some false := by rw [hx, ht]
   have hnot : (O : Int) ∉ out := fun hm => by have := (i2' O).2 hm; rw [hx'] at this; cases this
   have hcs := Pn hx'
   have hcl := Ko (G.set O true)
   simp at hcl
   refine .pure ⟨⟨by simp [i1], ⟨⟨fun v hv => ?_, ?_, fun k v hk i s r Y Z => ?_⟩, fun v => ?_⟩, by simp, by dsimp only; omega, fun j hj => by dsimp only at hj; omega⟩, ?_⟩
   ·dsimp only at hv
    rcases List.mem_append.1 hv with hv | hv
    ·exact i2.rng v hv
    ·simp at hv; omega
   ·dsimp only
    exact List.nodup_append.2 ⟨i2.nodup, by simp, fun a ha b hb he => by simp at hb; subst hb; subst he; exact hnot ha⟩
   ·dsimp only at hk ⊢
    rw [List.getElem?_append] at hk
    split at hk
    ·rename_i hkl
     rw [List.take_append_of_le_length (by omega)]
     exact i2.topo k v hk i s r Y Z
    ·rename_i hkl
     have hl := (gs hk).1
     simp at hl
     have : k = out.length := by omega
     subst this
     simp at hk
     subst hk
     rw [List.take_left]
     exact hJ i s r (gs Y.seg).1 Y Z
   ·dsimp only
    by_cases hv : v = O
    ·subst hv
     rw [List.getElem?_set_self (by omega)]; simp
    ·rw [List.getElem?_set_ne (by omega), i2' v]
     simp; omega
   ·simp only [μ]
    rw [hcs]; omega
  ·rintro _ ⟨rfl, hb⟩
   exact next (.inl hb)
 ·dsimp only at h0
  have hk : k = (n.Nodes.length : Int) := by omega
  subst hk
  have all := h.acyc G i1 fun j hj => i5 j (by have := (gs hj).1; omega) hj
  refine .pure (by
   simp only [Sum.elim_inr]
   refine ⟨i2, fun v hv => (i2' v).1 ?_⟩
   have hg : G[v]? = some G[v] := gq (by omega)
   cases hb : G[v] with
   | true => rw [hg, hb]
   | false => exact absurd (by rw [hg, hb]) (all v))
theorem lZ {l : Li} {m : Nat} (G : ∀ v, v ∈ l → 0 ≤ v ∧ v < (m : Int)) (Z : l.Nodup) (O : ∀ v : Nat, v < m → (v : Int) ∈ l) : l.length = m := by
 have hp : l.Perm ((List.range m).map fun k : Nat => (k : Int)) := (List.perm_ext_iff_of_nodup Z (List.Pairwise.map _ (fun a b h he => h (by omega)) List.nodup_range)).2 fun v => by
  simp only [List.mem_map, List.mem_range]
  refine ⟨fun h => ⟨v.toNat, by have := G v h; omega, by have := G v h; omega⟩, ?_⟩
  rintro ⟨k, Y, rfl⟩
  exact O k Y
 simpa using hp.length_eq
theorem cX {n : Nw} (G : NetG n) {p : Plan} (h : FlowOk n p) : Ok (Ku n p) fun r => r.length = n.Nodes.length :=
 (Pa G h).mono fun _ h => lZ h.1.rng h.1.nodup h.2
theorem aC {n : Nw} (O : NetG n) {p : Plan} (h : FlowOk n p) : Ha n p = some 0 := by
 have h1 := O.nodes; have h2 := O.segs1; have h3 := O.ports1; have h4 := h.rl; have h5 := h.pl; have h6 := h.ml; have h7 := O.sts1
 have : Ok (Ha n p) fun r => r = 0 := by
  unfold Ha
  refine .bind' (.eq (O.check) (Cl (fun h => absurd rfl h) fun _ => Bc (fun G => ?_) fun _ => ?_))
  ·simp [h4, h5, h6] at G
  refine .bind' (.forL (fun _ _ => True) (fun _ => False) trivial ?_ ?_ fun _ h => h.elim)
  ·intro k s _ Z _
   have hkl := (gs Z).1
   have Y : p.Rates[k]? = some p.Rates[k] := gq (by omega)
   have hrr := h.rng k _ s Y Z
   have hc := (O.segs k s Z).cap
   unfold Ha.B2
   refine .bind' (.eq (Bb Y) (De (fun G => ?_) fun _ => .pure trivial))
   unfold Na at G
   rw [Av (by omega)] at G
   simp at G
   omega
  ·intro _ _
   simp only [Sum.elim_inl]
   unfold Ha.J1
   refine .bind' (.eq (Eu (P := fun x => Nr x) fun _ _ _ => rfl) ?_)
   rw [E8]
   ·refine Bc (fun h => by cases h) fun _ => .bind (lH O h) fun r Y => ?_
    have he : r.come = r.leave := by
     refine Arr.ext' (List.ext_getElem (by rw [r.come.h, r.leave.h]) fun i a b => ?_)
     have := Y.diff i (by rw [← r.come.h]; exact a)
     rw [Pk (gq a), Pk (gq b)] at this
     omega
    refine De (fun G => ?_) fun _ => .bind (cX O h) fun r Y => A7 (fun G => ?_) fun _ => .pure rfl
    ·simp [he] at G
    ·omega
   ·intro k x hx
    have := h.prt k x hx
    unfold Nr Na
    rw [Av (by omega)]
    simp; omega
 obtain ⟨r, h, rfl⟩ := this
 exact h
theorem R9 {n : Nw} (G : NetOk n) {p : Plan} (h : FlowOk n p) : Ha n p = some 0 := aC G.g h
theorem dH {n : Nw} (G : NetOk n) {p : Plan} (h : PlanOk n p) : Ha n p = some 0 := R9 G h.flow
theorem R4 {n : Nw} (G : NetOk n) {p : Plan} (h : FlowOk n p) : Ok (Ku n p) fun r => Topo n p r ∧ ∀ v : Nat, v < n.Nodes.length → (v : Int) ∈ r := Pa G.g h
theorem Ma {a b q r : Int} (hb : 0 < b) (h : b * q + r = a) (G : 0 ≤ r) (h1 : r < b) : a / b = q ∧ a % b = r :=
 (Int.ediv_emod_unique hb).2 ⟨by omega, G, h1⟩
theorem Wi {a b : Int} (hb : 0 < b) : (a.tmod b < 0 → a / b = a.tdiv b - 1 ∧ a % b = a.tmod b + b) ∧ (¬ a.tmod b < 0 → a / b = a.tdiv b ∧ a % b = a.tmod b) := by
 have h := Int.mul_tdiv_add_tmod a b
 have G : a.tmod b < b := Int.tmod_lt_of_pos a hb
 have Y : -b < a.tmod b := by have := Int.lt_tmod_of_pos a hb; exact this
 refine ⟨fun O => Ma hb ?_ (by omega) (by omega), fun O => Ma hb h (by omega) G⟩
 rw [Int.mul_sub, Int.mul_one]; omega
def dn (a b : Int) : Int := a / b
def up (a b : Int) : Int := if 0 < a % b then a / b + 1 else a / b
theorem qU {a b : Int} (hb : 0 < b) : dn a b ≤ up a b ∧ up a b ≤ dn a b + 1 := by
 unfold dn up; split <;> omega
theorem bU {a c b : Int} (hb : 0 < b) (h : a ≤ c) : dn a b ≤ dn c b := Int.ediv_le_ediv hb h
theorem Xi {a b : Int} (hb : 0 < b) : up a b = -((-a) / b) := by
 unfold up
 have G := Int.mul_ediv_add_emod a b; have O := Int.emod_nonneg a (by omega : b ≠ 0); have Y := Int.emod_lt_of_pos a hb
 split
 ·have := (Ma (a := -a) (b := b) (q := -(a / b) - 1) (r := b - a % b) hb (by rw [Int.mul_sub, Int.mul_one, Int.mul_neg]; omega) (by omega) (by omega)).1
  omega
 ·have := (Ma (a := -a) (b := b) (q := -(a / b)) (r := 0) hb (by rw [Int.mul_neg]; omega) (by omega) hb).1
  omega
theorem bI {a c b : Int} (hb : 0 < b) (h : a ≤ c) : up a b ≤ up c b := by
 rw [Xi hb, Xi hb]
 have := Int.ediv_le_ediv hb (show -c ≤ -a by omega)
 omega
theorem sC {a b : Int} (hb : 0 < b) : dn (-a) b = - up a b := by rw [Xi hb]; unfold dn; omega
theorem rN {a b : Int} (hb : 0 < b) : up (-a) b = - dn a b := by rw [Xi hb]; unfold dn; rw [Int.neg_neg]
theorem Tn {a b : Int} (hb : 0 < b) (h : 0 ≤ a) : 0 ≤ dn a b := Int.ediv_nonneg h (by omega)
theorem Es {a b : Int} (hb : 0 < b) : -(a.natAbs : Int) ≤ dn a b ∧ dn a b ≤ (a.natAbs : Int) := by
 refine ⟨?_, ?_⟩
 ·have h : b * (-(a.natAbs : Int)) ≤ a := by
   have O : (1 : Int) * a.natAbs ≤ b * a.natAbs := Int.mul_le_mul_of_nonneg_right (by omega) (by omega)
   rw [Int.mul_neg]; omega
  unfold dn
  exact (Int.le_ediv_iff_mul_le hb).2 (by rw [Int.mul_comm]; exact h)
 ·unfold dn
  by_cases G : 0 ≤ a
  ·have := Int.ediv_le_self b G; omega
  ·have := Int.ediv_neg_of_neg_of_pos (by omega : a < 0) hb; omega
theorem L4 {a b : Int} (hb : 0 < b) : -(a.natAbs : Int) ≤ up a b ∧ up a b ≤ (a.natAbs : Int) := by
 have h := Es (a := -a) hb
 rw [sC hb, Int.natAbs_neg] at h; omega
theorem Wy {l : Li} {x : Int} (h : x ∈ Lib.compact l) : x ∈ l := by
 simp only [Lib.compact, Lib.compactUpTo, List.mem_map, List.mem_filter, List.mem_range] at h
 obtain ⟨i, ⟨hi, _⟩, rfl⟩ := h
 simp [hi]
theorem Sd {l : Li} (h : l.Pairwise (· ≤ ·)) : ∀ (k : Nat) (x : Int), l[k]? = some x → ∃ j, j ≤ k ∧ l[j]? = some x ∧ Lib.keeps l.toArray j = true
 | 0, x, hx => ⟨0, Nat.le_refl _, hx, Lib.keeps_lt_one _ 0 (by omega)⟩
 | k + 1, x, hx => by
  have Y := (gs hx).1
  have G : l[k]? = some l[k] := gq (by omega)
  by_cases O : x = l[k]
  ·obtain ⟨j, h1, h2, h3⟩ := Sd h k l[k] G
   exact ⟨j, by omega, by rw [O]; exact h2, h3⟩
  ·refine ⟨k + 1, Nat.le_refl _, hx, Lib.keeps_pos ?_⟩
   have Z : l.toArray[k + 1]! = x := by simp [Y, getElem!_pos l (k + 1) Y]; exact (gs hx).2
   have e2 : l.toArray[k + 1 - 1]! = l[k] := by simp [show k < l.length by omega, getElem!_pos l k (by omega)]
   rw [Z, e2]; exact O
theorem Y1 {l : Li} (h : l.Pairwise (· ≤ ·)) {x : Int} : x ∈ Lib.compact l ↔ x ∈ l := by
 refine ⟨Wy, fun hx => ?_⟩
 obtain ⟨k, Z⟩ := List.getElem?_of_mem hx
 obtain ⟨j, _, O, Y⟩ := Sd h k x Z
 have G := (gs O).1
 simp only [Lib.compact, Lib.compactUpTo, List.mem_map, List.mem_filter, List.mem_range]
 refine ⟨j, ⟨G, Y⟩, ?_⟩
 simp [G, getElem!_pos l j G]; exact (gs O).2
theorem aE {l : Li} (h : l.Pairwise (· ≤ ·)) : (Lib.compact l).Pairwise (· < ·) := by
 unfold Lib.compact Lib.compactUpTo
 have hr : ((List.range l.length).filter (Lib.keeps l.toArray)).Pairwise (· < ·) := List.Pairwise.filter _ List.pairwise_lt_range
 rw [List.pairwise_map]
 refine List.Pairwise.imp_of_mem ?_ hr
 intro i j hi Z hij
 simp only [List.mem_filter, List.mem_range] at hi Z
 have O := hi.1; have G := Z.1
 have e1 : l.toArray[i]! = l[i] := by simp [O, getElem!_pos l i O]
 have e2 : l.toArray[j]! = l[j] := by simp [G, getElem!_pos l j G]
 rw [e1, e2]
 have hp := List.pairwise_iff_getElem.1 h
 have aa : 0 < j := by omega
 have hne : l[j] ≠ l[j - 1] := by
  intro he
  have : Lib.keeps l.toArray j = false := Lib.keeps_neg aa (by
   rw [e2, he]
   simp [show j - 1 < l.length by omega, getElem!_pos l (j - 1) (by omega)])
  rw [this] at Z
  exact absurd Z.2 (by simp)
 have h1 := hp (j - 1) j (by omega) G (by omega)
 by_cases Y : i = j - 1
 ·subst Y; omega
 ·have := hp i (j - 1) (by omega) (by omega) (by omega)
  omega
def asc (l : Li) : Li := Lib.compact (l.mergeSort fun x y => decide (x ≤ y))
theorem bJ (l : Li) : (l.mergeSort fun x y => decide (x ≤ y)).Pairwise (· ≤ ·) := by
 have := List.pairwise_mergeSort (le := fun x y : Int => decide (x ≤ y)) (by intro a b c; simp; omega) (by intro a b; simp; omega) l
 exact this.imp (by intro a b h; simpa using h)
theorem pX {l : Li} {x : Int} : x ∈ asc l ↔ x ∈ l := by unfold asc; rw [Y1 (bJ l), List.mem_mergeSort]
theorem sG (l : Li) : (asc l).Pairwise (· < ·) := aE (bJ l)
end Go.Proofs.YtodeekicjiengaaGreatDoor
