/- Plain proofs. No condition. -/
import Derived.Test.YtmaamhgjeampmaaGreatYtB2
import Derived.Test.YtmaamhgjeampmaaGreatYtD
set_option maxRecDepth 100000
namespace Go.Aw
set_option linter.unusedVariables false
set_option linter.unusedSimpArgs false
def Ok {α : Type} (o : Option α) (P : α → Prop) : Prop := ∃ r, o = some r ∧ P r
section
variable {α β S B : Type}
theorem Ok.pure {x : α} {P : α → Prop} (h : P x) : Ok (some x) P := ⟨x, rfl, h⟩
theorem Ok.get {o : Option α} {P : α → Prop} (h : Ok o P) : ∃ r, o = some r ∧ P r := h
theorem Ok.mono {o : Option α} {P Q : α → Prop} (h : Ok o P) (k : ∀ x, P x → Q x) : Ok o Q := let ⟨r, h1, h2⟩ := h; ⟨r, h1, k r h2⟩
theorem Ok.bind {o : Option α} {f : α → Option β} {P : β → Prop} {Q : α → Prop} (h : Ok o Q) (k : ∀ x, Q x → Ok (f x) P) : Ok (o.bind f) P := by
 obtain ⟨r, rfl, D⟩ := h; exact k r D
theorem Ok.bind' {o : Option α} {f : α → Option β} {P : β → Prop} (h : Ok o fun x => Ok (f x) P) : Ok (o.bind f) P := h.bind fun _ k => k
theorem Ok.eq {o : Option α} {P : α → Prop} {x : α} (h : o = some x) (k : P x) : Ok o P := ⟨x, h, k⟩
theorem Ok.and {o : Option α} {P Q : α → Prop} (h : Ok o P) (k : Ok o Q) : Ok o fun x => P x ∧ Q x := by
 obtain ⟨r, rfl, M⟩ := h; obtain ⟨O, G, D⟩ := k; cases G; exact ⟨r, rfl, M, D⟩
theorem Ok.map {o : Option α} {f : α → β} {P : β → Prop} (h : Ok o fun x => P (f x)) : Ok (o.map f) P := by
 obtain ⟨r, rfl, D⟩ := h; exact ⟨_, rfl, D⟩
theorem mP {p : Prop} [Decidable p] {P : Unit → Prop} (h : p) (k : P ()) : Ok (lR p) P := ⟨(), lF h, k⟩
theorem Ok.ix {l : List α} {i : Int} {P : Nat × α → Prop} (k : Nat) (hi : i = (k : Int)) (D : k < l.length) (h : P (k, l[k])) : Ok (ix l i) P := by
 subst hi; exact ⟨_, Bd (gq D), h⟩
theorem Ok.ix' {l : List α} {i : Int} {P : Nat × α → Prop} (G : 0 ≤ i) (M : i < (l.length : Int)) (h : ∀ (k : Nat) (x : α), i = (k : Int) → l[k]? = some x → P (k, x)) : Ok (Aw.ix l i) P := by
 obtain ⟨k, rfl⟩ : ∃ k : Nat, i = (k : Int) := ⟨i.toNat, by omega⟩
 have D : k < l.length := by omega
 exact ⟨_, Bd (gq D), h k _ rfl (gq D)⟩
theorem Ok.app {l m : List α} {P : List α → Prop} (hl : l.length + m.length ≤ 68719476736) (h : P (l ++ m)) : Ok (Da l m) P := ⟨_, Ex hl, h⟩
theorem Ok.mk {n : Int} {z : α} {P : List α → Prop} (m : Nat) (D : n = (m : Int)) (hl : m ≤ 68719476736) (h : P (List.replicate m z)) : Ok (Rt n z) P := by
 subst D; exact ⟨_, kY z hl, h⟩
theorem Ok.quo {a b : Int} {P : Int → Prop} (hb : b ≠ 0) (h : P (wr (a.tdiv b))) : Ok (mM a b) P := ⟨_, if_pos hb, h⟩
theorem Ok.rem {a b : Int} {P : Int → Prop} (hb : b ≠ 0) (h : P (a.tmod b)) : Ok (iG a b) P := ⟨_, if_pos hb, h⟩
theorem Ok.sub {l : List α} {a b : Int} {P : List α → Prop} (x y : Nat) (D : a = (x : Int)) (hb : b = (y : Int)) (G : x ≤ y) (hl : y ≤ l.length) (h : P ((l.drop x).take (y - x))) : Ok (iD l a b) P := by
 subst D; subst hb
 exact ⟨_, if_pos ⟨by omega, by omega, by omega⟩, by simpa using h⟩
theorem Md {f : Nat → α → S → Option S} (I : Nat → S → Prop) (l : List α) : ∀ (m : List α) (k : Nat), l.drop k = m → ∀ st, I k st →
  (∀ k x st, l[k]? = some x → I k st → Ok (f k x st) (I (k + 1))) → k ≤ l.length → Ok (forS f k m st) (I l.length)
 | [], k, hm, st, hi, _, hk => by
  have : l.length - k = 0 := by simpa using congrArg List.length hm
  have : k = l.length := by omega
  subst this; exact .pure hi
 | x :: m, k, hm, st, hi, hf, hk => by
  have hx : l[k]? = some x := by have := congrArg (fun z => z[0]?) hm; simpa using this
  have D : l.drop (k + 1) = m := by have := congrArg (List.drop 1) hm; simpa [Nat.add_comm] using this
  obtain ⟨G, h1, h2⟩ := hf k x st hx hi
  simp only [forS, h1]
  exact Md I l m (k + 1) D G h2 hf (by have := (gs hx).1; omega)
theorem Ok.forS {f : Nat → α → S → Option S} {l : List α} {st : S} {P : S → Prop} (I : Nat → S → Prop) (D : I 0 st)
  (hf : ∀ k x st, l[k]? = some x → I k st → Ok (f k x st) (I (k + 1))) (G : ∀ st, I l.length st → P st) : Ok (forS f 0 l st) P :=
 (Md I l l 0 rfl st D hf (Nat.zero_le _)).mono G
theorem Me {f : Nat → α → S → Option (S ⊕ B)} (I : Nat → S → Prop) (R : B → Prop) (l : List α) : ∀ (m : List α) (k : Nat), l.drop k = m → ∀ st, I k st →
  (∀ k x st, l[k]? = some x → I k st → Ok (f k x st) (Sum.elim (fun s => I (k + 1) s) R)) → k ≤ l.length → Ok (forL f k m st) (Sum.elim (fun s => I l.length s) R)
 | [], k, hm, st, hi, _, hk => by
  have : l.length - k = 0 := by simpa using congrArg List.length hm
  have : k = l.length := by omega
  subst this; exact .pure hi
 | x :: m, k, hm, st, hi, hf, hk => by
  have hx : l[k]? = some x := by have := congrArg (fun z => z[0]?) hm; simpa using this
  have D : l.drop (k + 1) = m := by have := congrArg (List.drop 1) hm; simpa [Nat.add_comm] using this
  obtain ⟨G, h1, h2⟩ := hf k x st hx hi
  cases G with
  | inl G =>
   simp only [forL, h1]
   exact Me I R l m (k + 1) D G h2 hf (by have := (gs hx).1; omega)
  | inr b => simp only [forL, h1]; exact .pure h2
theorem Ok.forL {f : Nat → α → S → Option (S ⊕ B)} {l : List α} {st : S} {P : S ⊕ B → Prop} (I : Nat → S → Prop) (R : B → Prop) (D : I 0 st)
  (hf : ∀ k x st, l[k]? = some x → I k st → Ok (f k x st) (Sum.elim (fun s => I (k + 1) s) R)) (G : ∀ st, I l.length st → P (.inl st)) (M : ∀ b, R b → P (.inr b)) : Ok (forL f 0 l st) P :=
 (Me I R l l 0 rfl st D hf (Nat.zero_le _)).mono fun x h => by cases x with | inl s => exact G s h | inr b => exact M b h
theorem Mf {f : Nat → S → Option S} (I : Nat → S → Prop) (n : Nat) : ∀ (m k : Nat), k + m = n → ∀ st, I k st →
  (∀ k st, k < n → I k st → Ok (f k st) (I (k + 1))) → Ok (forJ f k m st) (I n)
 | 0, k, hm, st, hi, _ => by have : k = n := (by omega); subst this; exact .pure hi
 | m + 1, k, hm, st, hi, hf => by
  obtain ⟨D, h1, h2⟩ := hf k st (by omega) hi
  simp only [forJ, h1]
  exact Mf I n m (k + 1) (by omega) D h2 hf
theorem Ok.forJ {f : Nat → S → Option S} {n : Nat} {st : S} {P : S → Prop} (I : Nat → S → Prop) (D : I 0 st)
  (hf : ∀ k st, k < n → I k st → Ok (f k st) (I (k + 1))) (G : ∀ st, I n st → P st) : Ok (forJ f 0 n st) P :=
 (Mf I n n 0 (by omega) st D hf).mono G
theorem Mg {f : Nat → S → Option (S ⊕ B)} (I : Nat → S → Prop) (R : B → Prop) (n : Nat) : ∀ (m k : Nat), k + m = n → ∀ st, I k st →
  (∀ k st, k < n → I k st → Ok (f k st) (Sum.elim (fun s => I (k + 1) s) R)) → Ok (forI f k m st) (Sum.elim (fun s => I n s) R)
 | 0, k, hm, st, hi, _ => by have : k = n := (by omega); subst this; exact .pure hi
 | m + 1, k, hm, st, hi, hf => by
  obtain ⟨D, h1, h2⟩ := hf k st (by omega) hi
  cases D with
  | inl D =>
   simp only [forI, h1]
   exact Mg I R n m (k + 1) (by omega) D h2 hf
  | inr b => simp only [forI, h1]; exact .pure h2
theorem Ok.forI {f : Nat → S → Option (S ⊕ B)} {n : Nat} {st : S} {P : S ⊕ B → Prop} (I : Nat → S → Prop) (R : B → Prop) (D : I 0 st)
  (hf : ∀ k st, k < n → I k st → Ok (f k st) (Sum.elim (fun s => I (k + 1) s) R)) (G : ∀ st, I n st → P (.inl st)) (M : ∀ b, R b → P (.inr b)) : Ok (forI f 0 n st) P :=
 (Mg I R n n 0 (by omega) st D hf).mono fun x h => by cases x with | inl s => exact G s h | inr b => exact M b h
theorem Mc {f : S → Option (S ⊕ B)} {P : B → Prop} (I : S → Prop) (μ : S → Nat) (hf : ∀ st, I st → Ok (f st) (Sum.elim (fun s => I s ∧ μ s < μ st) P)) :
  ∀ (n : Nat) (st : S), I st → μ st < n → Ok (Ch f n st) P
 | 0, st, _, h => absurd h (Nat.not_lt_zero _)
 | n + 1, st, hi, h => by
  obtain ⟨r, h1, h2⟩ := hf st hi
  cases r with
  | inl s =>
   simp only [Ch, h1]
   exact Mc I μ hf n s h2.1 (by have := h2.2; omega)
  | inr b => simp only [Ch, h1]; exact .pure h2
theorem Ok.loop {f : S → Option (S ⊕ B)} {P : B → Prop} {st : S} (I : S → Prop) (μ : S → Nat) (D : I st) (G : μ st < 18446744073709551616)
  (hf : ∀ st, I st → Ok (f st) (Sum.elim (fun s => I s ∧ μ s < μ st) P)) : Ok (Ch f Dm st) P :=
 Mc I μ hf _ st D G
end
def Fl : List Int → List Int → Int
 | w :: ws, x :: xs => w * x + Fl ws xs
 | _, _ => 0
theorem Kc (w : List Int) : Fl w [] = 0 := by cases w <;> rfl
theorem L4 (w : List Int) (n : Nat) : Fl w (List.replicate n 0) = 0 := by
 induction n generalizing w with
 | zero => exact Kc w
 | succ n ih => cases w with
  | nil => rfl
  | cons a w => simp [List.replicate_succ, Fl, ih]
theorem Gt {w l : List Int} {k : Nat} {a x y : Int} (D : w[k]? = some a) (hl : l[k]? = some x) : Fl w (l.set k y) = Fl w l + a * (y - x) := by
 induction w generalizing l k with
 | nil => simp at D
 | cons b w ih =>
  cases l with
  | nil => simp at hl
  | cons z l =>
   cases k with
   | zero =>
    simp at D hl
    subst D; subst hl
    simp only [List.set_cons_zero, Fl, Int.mul_sub]; omega
   | succ k =>
    simp at D hl
    simp only [List.set_cons_succ, Fl, ih D hl]; omega
theorem O9 (w l : List Int) : Fl w (l.map fun x => -x) = -Fl w l := by
 induction w generalizing l with
 | nil => rfl
 | cons b w ih =>
  cases l with
  | nil => rfl
  | cons z l => simp only [List.map_cons, Fl, ih, Int.mul_neg]; omega
theorem F6 {w l : List Int} {k : Nat} {a x : Int} (D : w[k]? = some a) (hl : l[k]? = some x) : Fl w (l.take (k + 1)) = Fl w (l.take k) + a * x := by
 induction w generalizing l k with
 | nil => simp at D
 | cons b w ih =>
  cases l with
  | nil => simp at hl
  | cons z l =>
   cases k with
   | zero => simp at D hl; subst D; subst hl; simp [Fl, Kc]
   | succ k =>
    simp at D hl
    simp only [List.take_succ_cons, Fl, ih D hl]; omega
theorem Ds {α : Type} {l : List α} {k i : Nat} {x : α} : (l.set k x)[i]? = if k = i ∧ i < l.length then some x else l[i]? := by
 rw [List.getElem?_set]
 by_cases h : k = i
 ·subst h
  by_cases h2 : k < l.length
  ·simp [h2]
  ·simp [h2]
 ·simp [h]
theorem Eg {a b : Nat} (h : some (a : Int) = some (b : Int)) : a = b := Int.ofNat.inj (Option.some.inj h)
inductive Rep (u : List Int) : Nat → Nat → Nat → Prop
 | root {k : Nat} : u[k]? = some (k : Int) → Rep u 0 k k
 | step {k j m r : Nat} : u[k]? = some (j : Int) → k ≠ j → Rep u m j r → Rep u (m + 1) k r
theorem Rep.det {u : List Int} {m k r : Nat} (h : Rep u m k r) : ∀ {G M : Nat}, Rep u G k M → m = G ∧ r = M := by
 induction h with
 | root h =>
  intro G M O
  cases O with
  | root _ => exact ⟨rfl, rfl⟩
  | step h1 h2 _ => rw [h] at h1; have := Eg h1; omega
 | step h1 h2 h3 ih =>
  intro G M O
  cases O with
  | root h => rw [h] at h1; have := Eg h1; omega
  | step D h5 h6 =>
   rw [h1] at D; have D := Eg D
   subst D
   obtain ⟨rfl, rfl⟩ := ih h6
   exact ⟨rfl, rfl⟩
theorem Ss {u : List Int} {k j i : Nat} (M : u[k]? = some (j : Int)) (ab : k ≠ j) (Y : u[j]? = some (i : Int)) :
  ∀ (m x r : Nat), Rep u m x r → ∃ Z, Z ≤ m ∧ Rep (u.set k (i : Int)) Z x r := by
 intro m
 induction m using Nat.strongRecOn with
 | ind m ih =>
  intro x r h
  have O : k < u.length := (gs M).1
  cases h with
  | root h =>
   refine ⟨0, Nat.le_refl _, .root ?_⟩
   rw [List.getElem?_set]
   by_cases hx : k = x
   ·subst hx; rw [h] at M; have := Eg M; omega
   ·simp [hx, h]
  | @step _ y Z _ h1 h2 h3 =>
   by_cases hx : k = x
   ·subst hx
    rw [M] at h1; have h1 := Eg h1
    subst h1
    cases h3 with
    | root G =>
     rw [Y] at G; have G := Eg G
     subst G
     obtain ⟨X, W, D⟩ := ih 0 (by omega) i i (.root Y)
     have : X = 0 := by omega
     subst this
     exact ⟨1, by omega, .step (by simp [O]) h2 D⟩
    | @step _ z m'' _ G h5 h6 =>
     rw [Y] at G; have G := Eg G
     subst G
     have aa : k ≠ i := by
      rintro rfl
      have := (Rep.det h6 (.step M ab (.step Y h5 h6))).1
      omega
     obtain ⟨X, W, D⟩ := ih m'' (by omega) i r h6
     exact ⟨X + 1, by omega, .step (by simp [O]) aa D⟩
   ·obtain ⟨X, W, D⟩ := ih Z (by omega) y r h3
    exact ⟨X + 1, by omega, .step (by rw [List.getElem?_set]; simp [hx, h1]) h2 D⟩
structure Uni (n : Nat) (u : List Int) (d : Nat) (ρ : Nat → Nat) : Prop where
 len : u.length = n
 lt : ∀ k, k < n → ρ k < n
 rep : ∀ k, k < n → ∃ m, m ≤ d ∧ Rep u m k (ρ k)
theorem Uni.at_ {n d : Nat} {u : List Int} {ρ : Nat → Nat} (h : Uni n u d ρ) {k : Nat} (M : k < n) : ∃ j : Nat, u[k]? = some (j : Int) ∧ j < n ∧ ρ j = ρ k := by
 obtain ⟨m, _, O⟩ := h.rep k M
 generalize he : ρ k = r at O
 cases O with
 | root h1 => exact ⟨k, h1, M, he⟩
 | @step _ j _ _ h1 h2 h3 =>
  have G : j < n := by
   rw [← h.len]
   cases h3 with
   | root h => exact (gs h).1
   | step h _ _ => exact (gs h).1
  refine ⟨j, h1, G, ?_⟩
  obtain ⟨W, _, D⟩ := h.rep j G
  exact (D.det h3).2
theorem lP {n d : Nat} {u : List Int} {ρ : Nat → Nat} (h : Uni n u d ρ) {k j i : Nat} (M : u[k]? = some (j : Int)) (D : k ≠ j) (G : u[j]? = some (i : Int)) :
  Uni n (u.set k (i : Int)) d ρ :=
 ⟨by simp [h.len], h.lt, fun x hx => let ⟨m, h1, h2⟩ := h.rep x hx; let ⟨m', h3, h4⟩ := Ss M D G m x _ h2; ⟨m', by omega, h4⟩⟩
theorem Uni.step {n d : Nat} {u : List Int} {ρ : Nat → Nat} (h : Uni n u d ρ) {k j i m : Nat} (O : u[k]? = some (j : Int)) (ab : k ≠ j) (M : u[j]? = some (i : Int)) (hr : Rep u m k (ρ k)) :
  ∃ m', m' < m ∧ Rep (u.set k (i : Int)) m' i (ρ i) ∧ ρ i = ρ k := by
 have Z : j < n := by rw [← h.len]; exact (gs M).1
 have aa : k < n := by rw [← h.len]; exact (gs O).1
 obtain ⟨y, W, hy, e2⟩ := h.at_ Z
 obtain ⟨y2, X, hy2, e4⟩ := h.at_ aa
 rw [M] at W; have W := Eg W; subst W
 rw [O] at X; have X := Eg X; subst X
 have G : ρ i = ρ k := by rw [e2, e4]
 generalize ρ k = r at hr G
 cases hr with
 | root h1 => rw [h1] at O; have := Eg O; omega
 | @step _ y m1 _ h1 h2 h3 =>
  rw [O] at h1; have h1 := Eg h1
  subst h1
  have : ∃ Y, Y ≤ m1 ∧ Rep u Y i r := by
   cases h3 with
   | root D => rw [M] at D; have D := Eg D; exact ⟨0, by omega, by rw [D]; rw [D] at M; exact .root M⟩
   | step D h5 h6 => rw [M] at D; have D := Eg D; subst D; exact ⟨_, by omega, h6⟩
  obtain ⟨Y, D, h5⟩ := this
  obtain ⟨m3, h6, h7⟩ := Ss O ab M Y i _ h5
  exact ⟨m3, by omega, by rw [G]; exact h7, G⟩
inductive Conn (R : Nat → Nat → Prop) : Nat → Nat → Prop
 | refl (x : Nat) : Conn R x x
 | edge {x y : Nat} : R x y → Conn R x y
 | symm {x y : Nat} : Conn R x y → Conn R y x
 | trans {x y z : Nat} : Conn R x y → Conn R y z → Conn R x z
theorem Conn.mono {R R' : Nat → Nat → Prop} (h : ∀ x y, R x y → Conn R' x y) {x y : Nat} (c : Conn R x y) : Conn R' x y := by
 induction c with
 | refl x => exact .refl x
 | edge e => exact h _ _ e
 | symm _ ih => exact ih.symm
 | trans _ _ i1 i2 => exact i1.trans i2
end Go.Aw
namespace Go.Proofs.YtmaamhgjeampmaaGreat
set_option linter.unusedVariables false
set_option linter.unusedSimpArgs false
open Go.Aw
abbrev Xq := KS
structure SrcOk (s : Xq) : Prop where
 at0 : 0 ≤ s.At
 at1 : s.At ≤ (s.L_.length : Int)
 len : s.L_.length ≤ 2000
theorem Bb {α : Type} {c : Prop} [Decidable c] {a b : Option α} {P : α → Prop} (h1 : c → Ok a P) (h2 : ¬ c → Ok b P) : Ok (if decide c = true then a else b) P := by
 by_cases hc : c
 ·rw [if_pos (by simp [hc])]; exact h1 hc
 ·rw [if_neg (by simp [hc])]; exact h2 hc
theorem A9 {α : Type} {c : Bool} {a b : Option α} {P : α → Prop} (h1 : c = true → Ok a P) (h2 : c = false → Ok b P) : Ok (if c = true then a else b) P := by
 cases c
 ·rw [if_neg (by simp)]; exact h2 rfl
 ·rw [if_pos rfl]; exact h1 rfl
theorem Dd {α : Type} {c : Bool} {a b : Option α} {P : α → Prop} (h1 : c = false → Ok a P) (h2 : c = true → Ok b P) : Ok (if (!c) = true then a else b) P := by
 cases c
 ·exact h1 rfl
 ·exact h2 rfl
theorem Cc {α : Type} {x y : Int} {a b : Option α} {P : α → Prop} (h1 : x = y → Ok a P) (h2 : x ≠ y → Ok b P) : Ok (if (x == y) = true then a else b) P := by
 by_cases h : x = y
 ·rw [if_pos (by simp [h])]; exact h1 h
 ·rw [if_neg (by simp [h])]; exact h2 h
theorem Cj {α : Type} {x y : Int} {a b : Option α} {P : α → Prop} (h1 : x ≠ y → Ok a P) (h2 : x = y → Ok b P) : Ok (if (x != y) = true then a else b) P := by
 by_cases h : x = y
 ·rw [if_neg (by simp [h])]; exact h2 h
 ·rw [if_pos (by simp [h])]; exact h1 h
theorem kX (x : Int) {n : Int} (h1 : 1 ≤ n) (h2 : n ≤ 9223372036854775807) : Ok (Qh x n) fun r => 0 ≤ r ∧ r < n := by
 unfold Qh Qh.J1
 have D := Int.tmod_lt_of_pos x (show 0 < n by omega)
 have hb : -n < x.tmod n := by
  have := Int.tmod_lt_of_pos (-x) (show 0 < n by omega)
  rw [Int.neg_tmod] at this; omega
 refine Bb (fun h => by omega) fun _ => .bind' (.rem (by omega) ?_)
 refine Bb (fun h => .pure ?_) (fun h => .pure ?_)
 ·rw [Bg (by omega)]; omega
 ·omega
theorem kU (l : List Int) : Ok (Ir l) SrcOk := by
 unfold Ir
 refine .bind' (.sub 0 (min l.length 2000) rfl (by omega) (by omega) (by omega) (.pure ?_))
 exact ⟨Int.le_refl _, by simp, by simp; omega⟩
theorem kS {s : Xq} (h : SrcOk s) : Ok (Pq s) fun r => SrcOk r.2 := by
 obtain ⟨h1, h2, D⟩ := h
 unfold Pq
 refine Bb (fun _ => .pure ⟨h1, h2, D⟩) fun h => ?_
 simp (disch := omega) only [Bg]
 refine .bind' (.ix' (by omega) (by omega) fun k x _ _ => .pure ⟨by dsimp only; omega, by dsimp only; omega, D⟩)
theorem Jc {s : Xq} (h : SrcOk s) {n : Int} (h1 : 1 ≤ n) (h2 : n ≤ 9223372036854775807) : Ok (Ec s n) fun r => SrcOk r.2 ∧ 0 ≤ r.1 ∧ r.1 < n := by
 unfold Ec
 exact .bind (kS h) fun x hx => .bind (kX _ h1 h2) fun y hy => .pure ⟨hx, hy⟩
theorem G7 {s : Xq} (h : SrcOk s) {lo hi : Int} (h1 : lo ≤ hi) (h2 : -1000000000 ≤ lo) (D : hi ≤ 1000000000) : Ok (G5 s lo hi) fun r => SrcOk r.2 ∧ lo ≤ r.1 ∧ r.1 ≤ hi := by
 unfold G5
 simp (disch := omega) only [Bg]
 refine .bind (Jc h (by omega) (by omega)) fun x hx => .pure ⟨hx.1, ?_⟩
 dsimp only
 rw [Bg (by omega)]; omega
theorem Eo {s : Xq} (h : SrcOk s) {l : List Int} (h1 : 1 ≤ l.length) (h2 : l.length ≤ 1000) : Ok (Em s l) fun r => SrcOk r.2 ∧ r.1 ∈ l := by
 unfold Em
 refine .bind (Jc h (by omega) (by omega)) fun x hx => .bind' (.ix' hx.2.1 hx.2.2 fun k y _ hy => .pure ⟨hx.1, mg hy⟩)
def nm (c : UInt8) (k : Nat) : ByteArray := ⟨#[c, 97 + UInt8.ofNat k]⟩
theorem O6 {c : UInt8} {k : Nat} (G : k < 26) : Jl ⟨#[c]⟩ (k : Int) = some (nm c k) := by
 unfold Jl
 have D : ((k : Int).tmod 26) = (k : Int) := by rw [Int.tmod_eq_emod_of_nonneg (by omega)]; omega
 rw [D, Bg (by omega)]
 have : k = 0 ∨ k = 1 ∨ k = 2 ∨ k = 3 ∨ k = 4 ∨ k = 5 ∨ k = 6 ∨ k = 7 ∨ k = 8 ∨ k = 9 ∨ k = 10 ∨ k = 11 ∨ k = 12 ∨ k = 13 ∨ k = 14 ∨ k = 15 ∨ k = 16 ∨ k = 17 ∨ k = 18 ∨ k = 19 ∨ k = 20 ∨ k = 21 ∨ k = 22 ∨ k = 23 ∨ k = 24 ∨ k = 25 := by omega
 rcases this with rfl | rfl | rfl | rfl | rfl | rfl | rfl | rfl | rfl | rfl | rfl | rfl | rfl | rfl | rfl | rfl | rfl | rfl | rfl | rfl | rfl | rfl | rfl | rfl | rfl | rfl <;> rfl
structure PointsOk (cap : Int) (l : List Point) : Prop where
 len : 2 ≤ l.length ∧ l.length ≤ 8
 first : ∀ p, l[0]? = some p → p.At = 0
 last : ∀ p, l[l.length - 1]? = some p → p.At = cap
 up : ∀ i p q, l[i]? = some p → l[i + 1]? = some q → p.At < q.At
 height : ∀ p, p ∈ l → -500 ≤ p.Height ∧ p.Height ≤ 5000
 limit : ∀ p, p ∈ l → 0 ≤ p.Limit ∧ p.Limit ≤ 100000000
structure SegOk (nodes k : Nat) (s : Segment) : Prop where
 name : s.Name = nm 103 k
 ends : 0 ≤ s.From ∧ s.From < (nodes : Int) ∧ 0 ≤ s.To ∧ s.To < (nodes : Int) ∧ s.From ≠ s.To
 cap : 1 ≤ s.Capacity ∧ s.Capacity ≤ 1000
 resist : 0 ≤ s.Resist ∧ s.Resist ≤ 1000
 wave : 0 ≤ s.Wave ∧ s.Wave ≤ 100000
 points : PointsOk s.Capacity s.Points
structure PortOk (nodes k : Nat) (p : Port) : Prop where
 name : p.Name = nm 113 k
 node : 0 ≤ p.Node ∧ p.Node < (nodes : Int)
 pressure : 0 ≤ p.Pressure ∧ p.Pressure ≤ 100000000
structure StOk (nodes k : Nat) (p : Station) : Prop where
 name : p.Name = nm 115 k
 node : 0 ≤ p.Node ∧ p.Node < (nodes : Int)
 head : 0 ≤ p.Head ∧ p.Head ≤ 2000000
 fall : 0 ≤ p.Fall ∧ p.Fall ≤ 100000
 suction : 0 ≤ p.Suction ∧ p.Suction ≤ 400000
structure NetOk (n : Network) : Prop where
 nodes : 2 ≤ n.Nodes.length ∧ n.Nodes.length ≤ 6
 names : ∀ k x, n.Nodes[k]? = some x → x = nm 110 k
 segs1 : n.Nodes.length - 1 ≤ n.Segments.length ∧ n.Segments.length ≤ 8
 segs : ∀ k s, n.Segments[k]? = some s → SegOk n.Nodes.length k s
 ports1 : 2 ≤ n.Ports.length ∧ n.Ports.length ≤ 6
 ports : ∀ k s, n.Ports[k]? = some s → PortOk n.Nodes.length k s
 portsUp : ∀ (i j : Nat) (p q : Port), i < j → n.Ports[i]? = some p → n.Ports[j]? = some q → p.Node < q.Node
 sts1 : n.Stations.length ≤ 6
 sts : ∀ k s, n.Stations[k]? = some s → StOk n.Nodes.length k s
 stsUp : ∀ (i j : Nat) (p q : Station), i < j → n.Stations[i]? = some p → n.Stations[j]? = some q → p.Node < q.Node
 vapour : -100000 ≤ n.Vapour ∧ n.Vapour ≤ 50000
 settle : 0 ≤ n.Settle ∧ n.Settle ≤ 100
structure PInv (l : List Point) (at_ : Int) : Prop where
 len : 1 ≤ l.length
 first : ∀ p, l[0]? = some p → p.At = 0
 last : ∀ p, l[l.length - 1]? = some p → p.At = at_
 up : ∀ i p q, l[i]? = some p → l[i + 1]? = some q → p.At < q.At
 height : ∀ p, p ∈ l → -500 ≤ p.Height ∧ p.Height ≤ 5000
 limit : ∀ p, p ∈ l → 0 ≤ p.Limit ∧ p.Limit ≤ 100000000
theorem PInv.append {l : List Point} {at_ : Int} (h : PInv l at_) {p : Point} (h1 : at_ < p.At) (h2 : -500 ≤ p.Height ∧ p.Height ≤ 5000) (O : 0 ≤ p.Limit ∧ p.Limit ≤ 100000000) : PInv (l ++ [p]) p.At := by
 have hl := h.len
 refine ⟨by simp, fun q D => h.first q ?_, fun q D => ?_, fun i a b G hb => ?_, fun q D => ?_, fun q D => ?_⟩
 ·rw [List.getElem?_append_left (by omega)] at D; exact D
 ·rw [List.getElem?_append_right (by simp)] at D; simp at D; rw [D]
 ·rw [List.getElem?_append] at G hb
  split at hb
  ·rw [if_pos (by omega)] at G; exact h.up i a b G hb
  ·rename_i hi
   have M := (gs hb).1
   simp at M
   have : i + 1 = l.length := by omega
   rw [if_pos (by omega)] at G
   have W := h.last a (by rw [show l.length - 1 = i by omega]; exact G)
   simp [this] at hb
   rw [← hb]; omega
 ·rcases List.mem_append.1 D with D | D
  ·exact h.height q D
  ·simp at D; subst D; exact h2
 ·rcases List.mem_append.1 D with D | D
  ·exact h.limit q D
  ·simp at D; subst D; exact O
theorem PInv.done {l : List Point} {at_ : Int} (h : PInv l at_) (h1 : 2 ≤ l.length ∧ l.length ≤ 8) : PointsOk at_ l := ⟨h1, h.first, h.last, h.up, h.height, h.limit⟩
theorem El {n : Int} (h : 0 ≤ n) : ∃ k : Nat, n = (k : Int) := ⟨n.toNat, by omega⟩
theorem dU {s : Xq} (hs : SrcOk s) {nodes k : Nat} (hk : k < 26) {a b : Int} (ha : 0 ≤ a ∧ a < (nodes : Int)) (hb : 0 ≤ b ∧ b < (nodes : Int)) (ai : a ≠ b) :
  Ok (Mx s (k : Int) a b) fun r => SegOk nodes k r.1 ∧ SrcOk r.2 := by
 have W : ∀ (j : List Int × Int × Int × Int), SrcOk ⟨j.1, j.2.1⟩ → 0 ≤ j.2.2.1 ∧ j.2.2.1 < (nodes : Int) → 0 ≤ j.2.2.2 ∧ j.2.2.2 < (nodes : Int) → j.2.2.1 ≠ j.2.2.2 →
   Ok (Mx.J1 (k : Int) j) fun r => SegOk nodes k r.1 ∧ SrcOk r.2 := by
  intro j hs h1 h2 h3
  unfold Mx.J1
  refine .bind' (.eq (O6 hk) ?_)
  refine .bind (Eo hs (by decide) (by decide)) fun D ab => ?_
  refine .bind (Eo ab.1 (by decide) (by decide)) fun r14 ac => ?_
  refine .bind (Eo ac.1 (by decide) (by decide)) fun r17 ad => ?_
  refine .bind (Eo ad.1 (by decide) (by decide)) fun al ah => ?_
  refine .bind (G7 ah.1 (by decide) (by decide) (by decide)) fun r25 h25 => ?_
  have c11 := ab.2; have c14 := ac.2; have c17 := ad.2; have c22 := ah.2
  simp only [List.mem_cons, List.not_mem_nil, or_false] at c11 c14 c17 c22
  refine .bind' (.app (by simp) ?_)
  refine .bind (Q := fun d : List Int × Int × List Point => SrcOk ⟨d.1, d.2.1⟩ ∧ ∃ at_, PInv d.2.2 at_ ∧ at_ < D.1 ∧ d.2.2.length ≤ 7) ?_ ?_
  ·refine .loop (fun st => SrcOk ⟨st.1, st.2.1⟩ ∧ PInv st.2.2.1 st.2.2.2 ∧ 0 ≤ st.2.2.2 ∧ st.2.2.2 < D.1 ∧ st.2.2.1.length ≤ 7) (fun st => 7 - st.2.2.1.length)
    ⟨h25.1, ⟨by simp, by simp, by simp, by simp, by simp; omega, by simp; omega⟩, by simp, by simp; omega, by simp⟩ (by dsimp only; omega) ?_
   rintro ⟨L_, At, Z, at_⟩ ⟨i1, i2, i3, i4, i5⟩
   dsimp only at i1 i2 i3 i4 i5 ⊢
   have j4 : ∀ (x : List Int × Int × Bool), SrcOk ⟨x.1, x.2.1⟩ → (x.2.2 = true → Z.length < 7) → Ok (Mx.J4 D al (L_, At, Z, at_) x) (Sum.elim (fun st => (SrcOk ⟨st.1, st.2.1⟩ ∧ PInv st.2.2.1 st.2.2.2 ∧ 0 ≤ st.2.2.2 ∧ st.2.2.2 < D.1 ∧ st.2.2.1.length ≤ 7) ∧ 7 - st.2.2.1.length < 7 - Z.length) fun d => SrcOk ⟨d.1, d.2.1⟩ ∧ ∃ at_, PInv d.2.2 at_ ∧ at_ < D.1 ∧ d.2.2.length ≤ 7) := by
    intro x hx hl
    unfold Mx.J4
    refine A9 (fun hb => ?_) fun _ => .pure ⟨hx, at_, i2, i4, i5⟩
    have hl := hl hb
    refine .bind (G7 hx (by decide) (by decide) (by decide)) fun r197 M => ?_
    dsimp only
    rw [Bg (by omega)]
    refine Bb (fun _ => .pure ⟨M.1, at_, i2, i4, i5⟩) fun aj => ?_
    refine .bind (G7 M.1 (by decide) (by decide) (by decide)) fun X ae => ?_
    refine .bind (Eo ae.1 (by decide) (by decide)) fun Y O => ?_
    have G := O.2
    simp only [List.mem_cons, List.not_mem_nil, or_false] at G
    refine .bind (Jc O.1 (by decide) (by decide)) fun r206 af => ?_
    refine .bind' (.app (by simp; omega) (.pure ⟨⟨af.1, ?_, by dsimp only; omega, by dsimp only; omega, by simp; omega⟩, by simp; omega⟩))
    have hh : -50 ≤ X.1 * Y.1 ∧ X.1 * Y.1 ≤ 600 := by
     rcases G with h | h | h <;> rw [h] <;> omega
    refine i2.append ?_ ?_ ?_ <;> simp (disch := omega) only [Bg] <;> omega
   unfold Mx.B3
   refine Bb (fun h => ?_) fun h => ?_
   ·refine .bind (Jc i1 (by decide) (by decide)) fun r213 ag => j4 (_, _, _) ag.1 fun _ => by dsimp only at h; omega
   ·exact j4 (_, _, _) i1 (by simp)
  ·rintro ⟨dl, da, dp⟩ ⟨hd, at_, hp, aj, hlen⟩
   dsimp only at hd hp hlen
   unfold Mx.J2
   refine .bind (G7 hd (by decide) (by decide) (by decide)) fun ak aa => ?_
   have h1l := hp.len
   refine .bind' (.app (by simp; omega) (.pure ⟨⟨rfl, ⟨h1.1, h1.2, h2.1, h2.2, h3⟩, by dsimp only; omega, by dsimp only; omega, by dsimp only; omega, ?_⟩, aa.1⟩))
   exact (hp.append (p := ⟨D.1, ak.1, al.1⟩) aj (by dsimp only; omega) (by dsimp only; omega)).done (by simp; omega)
 unfold Mx
 refine .bind (Jc hs (by decide) (by decide)) fun r hr => ?_
 exact Cc (fun _ => W _ hr.1 hb ha (Ne.symm ai)) fun _ => W _ hr.1 ha hb ai
theorem Mh {s : List Int} {g : Int → Option Bool} {P : Int → Bool} (hg : ∀ (k : Nat) (x : Int), s[k]? = some x → g x = some (P x)) :
  Ok (Ql s g) fun r => (r = -1 ∧ ∀ (j : Nat) (y : Int), s[j]? = some y → P y = false) ∨ ∃ (k : Nat) (x : Int), r = (k : Int) ∧ s[k]? = some x ∧ P x = true ∧ ∀ (j : Nat) (y : Int), j < k → s[j]? = some y → P y = false := by
 unfold Ql
 refine .bind' (.forL (fun k _ => ∀ (j : Nat) (y : Int), j < k → s[j]? = some y → P y = false) (fun r => ∃ (k : Nat) (x : Int), r = (k : Int) ∧ s[k]? = some x ∧ P x = true ∧ ∀ (j : Nat) (y : Int), j < k → s[j]? = some y → P y = false) (fun j y h => absurd h (Nat.not_lt_zero _)) ?_ ?_ ?_)
 ·intro k x _ hx hi
  unfold Ql.B2
  refine .bind' (.eq (hg k x hx) (A9 (fun D => .pure ⟨k, x, rfl, hx, D, hi⟩) fun D => .pure fun j y G hy => ?_))
  by_cases h : j < k
  ·exact hi j y h hy
  ·have : j = k := by omega
   subst this
   rw [hx] at hy; simp at hy; subst hy; exact D
 ·intro _ hi
  simp only [Sum.elim_inl]
  unfold Ql.J1
  exact .pure (.inl ⟨rfl, fun j y hy => hi j y (gs hy).1 hy⟩)
 ·intro b hb
  exact .pure (.inr hb)
theorem Gf {s : List Int} {g : Int → Option Bool} {P : Int → Bool} (hg : ∀ (k : Nat) (x : Int), s[k]? = some x → g x = some (P x)) :
  K0 s g = some (s.any P) := by
 have : Ok (K0 s g) fun r => r = s.any P := by
  unfold K0
  refine .bind (Mh hg) fun r M => .pure ?_
  rcases M with ⟨rfl, h⟩ | ⟨k, x, rfl, hx, G, _⟩
  ·have : s.any P = false := by
    rw [List.any_eq_false]
    intro x hx
    obtain ⟨j, D⟩ := List.getElem?_of_mem hx
    rw [h j x D]; simp
   rw [this]; rfl
  ·have : s.any P = true := List.any_eq_true.2 ⟨x, mg hx, G⟩
   rw [this]; simp
 obtain ⟨r, h, rfl⟩ := this
 exact h
theorem Ih {s : List ByteArray} {g : ByteArray → Option Bool} {P : ByteArray → Bool} (hg : ∀ (k : Nat) (x : ByteArray), s[k]? = some x → g x = some (P x)) :
  Ok (P0 s g) fun r => (r = -1 ∧ ∀ (j : Nat) (y : ByteArray), s[j]? = some y → P y = false) ∨ ∃ (k : Nat) (x : ByteArray), r = (k : Int) ∧ s[k]? = some x ∧ P x = true ∧ ∀ (j : Nat) (y : ByteArray), j < k → s[j]? = some y → P y = false := by
 unfold P0
 refine .bind' (.forL (fun k _ => ∀ (j : Nat) (y : ByteArray), j < k → s[j]? = some y → P y = false) (fun r => ∃ (k : Nat) (x : ByteArray), r = (k : Int) ∧ s[k]? = some x ∧ P x = true ∧ ∀ (j : Nat) (y : ByteArray), j < k → s[j]? = some y → P y = false) (fun j y h => absurd h (Nat.not_lt_zero _)) ?_ ?_ ?_)
 ·intro k x _ hx hi
  unfold P0.B2
  refine .bind' (.eq (hg k x hx) (A9 (fun D => .pure ⟨k, x, rfl, hx, D, hi⟩) fun D => .pure fun j y G hy => ?_))
  by_cases h : j < k
  ·exact hi j y h hy
  ·have : j = k := by omega
   subst this
   rw [hx] at hy; simp at hy; subst hy; exact D
 ·intro _ hi
  simp only [Sum.elim_inl]
  unfold P0.J1
  exact .pure (.inl ⟨rfl, fun j y hy => hi j y (gs hy).1 hy⟩)
 ·intro b hb
  exact .pure (.inr hb)
theorem Hi {s : List ByteArray} {g : ByteArray → Option Bool} {P : ByteArray → Bool} (hg : ∀ (k : Nat) (x : ByteArray), s[k]? = some x → g x = some (P x)) :
  M9 s g = some (s.any P) := by
 have : Ok (M9 s g) fun r => r = s.any P := by
  unfold M9
  refine .bind (Ih hg) fun r M => .pure ?_
  rcases M with ⟨rfl, h⟩ | ⟨k, x, rfl, hx, G, _⟩
  ·have : s.any P = false := by
    rw [List.any_eq_false]
    intro x hx
    obtain ⟨j, D⟩ := List.getElem?_of_mem hx
    rw [h j x D]; simp
   rw [this]; rfl
  ·have : s.any P = true := List.any_eq_true.2 ⟨x, mg hx, G⟩
   rw [this]; simp
 obtain ⟨r, h, rfl⟩ := this
 exact h
theorem Fc {s : List Segment} {g : Segment → Option Bool} {P : Segment → Bool} (hg : ∀ (k : Nat) (x : Segment), s[k]? = some x → g x = some (P x)) :
  Ok (Qg s g) fun r => (r = -1 ∧ ∀ (j : Nat) (y : Segment), s[j]? = some y → P y = false) ∨ ∃ (k : Nat) (x : Segment), r = (k : Int) ∧ s[k]? = some x ∧ P x = true ∧ ∀ (j : Nat) (y : Segment), j < k → s[j]? = some y → P y = false := by
 unfold Qg
 refine .bind' (.forL (fun k _ => ∀ (j : Nat) (y : Segment), j < k → s[j]? = some y → P y = false) (fun r => ∃ (k : Nat) (x : Segment), r = (k : Int) ∧ s[k]? = some x ∧ P x = true ∧ ∀ (j : Nat) (y : Segment), j < k → s[j]? = some y → P y = false) (fun j y h => absurd h (Nat.not_lt_zero _)) ?_ ?_ ?_)
 ·intro k x _ hx hi
  unfold Qg.B2
  refine .bind' (.eq (hg k x hx) (A9 (fun D => .pure ⟨k, x, rfl, hx, D, hi⟩) fun D => .pure fun j y G hy => ?_))
  by_cases h : j < k
  ·exact hi j y h hy
  ·have : j = k := by omega
   subst this
   rw [hx] at hy; simp at hy; subst hy; exact D
 ·intro _ hi
  simp only [Sum.elim_inl]
  unfold Qg.J1
  exact .pure (.inl ⟨rfl, fun j y hy => hi j y (gs hy).1 hy⟩)
 ·intro b hb
  exact .pure (.inr hb)
theorem D6 {s : List Segment} {g : Segment → Option Bool} {P : Segment → Bool} (hg : ∀ (k : Nat) (x : Segment), s[k]? = some x → g x = some (P x)) :
  Kz s g = some (s.any P) := by
 have : Ok (Kz s g) fun r => r = s.any P := by
  unfold Kz
  refine .bind (Fc hg) fun r M => .pure ?_
  rcases M with ⟨rfl, h⟩ | ⟨k, x, rfl, hx, G, _⟩
  ·have : s.any P = false := by
    rw [List.any_eq_false]
    intro x hx
    obtain ⟨j, D⟩ := List.getElem?_of_mem hx
    rw [h j x D]; simp
   rw [this]; rfl
  ·have : s.any P = true := List.any_eq_true.2 ⟨x, mg hx, G⟩
   rw [this]; simp
 obtain ⟨r, h, rfl⟩ := this
 exact h
theorem Gx {s : List Port} {g : Port → Option Bool} {P : Port → Bool} (hg : ∀ (k : Nat) (x : Port), s[k]? = some x → g x = some (P x)) :
  Ok (P3 s g) fun r => (r = -1 ∧ ∀ (j : Nat) (y : Port), s[j]? = some y → P y = false) ∨ ∃ (k : Nat) (x : Port), r = (k : Int) ∧ s[k]? = some x ∧ P x = true ∧ ∀ (j : Nat) (y : Port), j < k → s[j]? = some y → P y = false := by
 unfold P3
 refine .bind' (.forL (fun k _ => ∀ (j : Nat) (y : Port), j < k → s[j]? = some y → P y = false) (fun r => ∃ (k : Nat) (x : Port), r = (k : Int) ∧ s[k]? = some x ∧ P x = true ∧ ∀ (j : Nat) (y : Port), j < k → s[j]? = some y → P y = false) (fun j y h => absurd h (Nat.not_lt_zero _)) ?_ ?_ ?_)
 ·intro k x _ hx hi
  unfold P3.B2
  refine .bind' (.eq (hg k x hx) (A9 (fun D => .pure ⟨k, x, rfl, hx, D, hi⟩) fun D => .pure fun j y G hy => ?_))
  by_cases h : j < k
  ·exact hi j y h hy
  ·have : j = k := by omega
   subst this
   rw [hx] at hy; simp at hy; subst hy; exact D
 ·intro _ hi
  simp only [Sum.elim_inl]
  unfold P3.J1
  exact .pure (.inl ⟨rfl, fun j y hy => hi j y (gs hy).1 hy⟩)
 ·intro b hb
  exact .pure (.inr hb)
theorem Fz {s : List Port} {g : Port → Option Bool} {P : Port → Bool} (hg : ∀ (k : Nat) (x : Port), s[k]? = some x → g x = some (P x)) :
  Nj s g = some (s.any P) := by
 have : Ok (Nj s g) fun r => r = s.any P := by
  unfold Nj
  refine .bind (Gx hg) fun r M => .pure ?_
  rcases M with ⟨rfl, h⟩ | ⟨k, x, rfl, hx, G, _⟩
  ·have : s.any P = false := by
    rw [List.any_eq_false]
    intro x hx
    obtain ⟨j, D⟩ := List.getElem?_of_mem hx
    rw [h j x D]; simp
   rw [this]; rfl
  ·have : s.any P = true := List.any_eq_true.2 ⟨x, mg hx, G⟩
   rw [this]; simp
 obtain ⟨r, h, rfl⟩ := this
 exact h
theorem Eb {s : List Station} {g : Station → Option Bool} {P : Station → Bool} (hg : ∀ (k : Nat) (x : Station), s[k]? = some x → g x = some (P x)) :
  Ok (Mp s g) fun r => (r = -1 ∧ ∀ (j : Nat) (y : Station), s[j]? = some y → P y = false) ∨ ∃ (k : Nat) (x : Station), r = (k : Int) ∧ s[k]? = some x ∧ P x = true ∧ ∀ (j : Nat) (y : Station), j < k → s[j]? = some y → P y = false := by
 unfold Mp
 refine .bind' (.forL (fun k _ => ∀ (j : Nat) (y : Station), j < k → s[j]? = some y → P y = false) (fun r => ∃ (k : Nat) (x : Station), r = (k : Int) ∧ s[k]? = some x ∧ P x = true ∧ ∀ (j : Nat) (y : Station), j < k → s[j]? = some y → P y = false) (fun j y h => absurd h (Nat.not_lt_zero _)) ?_ ?_ ?_)
 ·intro k x _ hx hi
  unfold Mp.B2
  refine .bind' (.eq (hg k x hx) (A9 (fun D => .pure ⟨k, x, rfl, hx, D, hi⟩) fun D => .pure fun j y G hy => ?_))
  by_cases h : j < k
  ·exact hi j y h hy
  ·have : j = k := by omega
   subst this
   rw [hx] at hy; simp at hy; subst hy; exact D
 ·intro _ hi
  simp only [Sum.elim_inl]
  unfold Mp.J1
  exact .pure (.inl ⟨rfl, fun j y hy => hi j y (gs hy).1 hy⟩)
 ·intro b hb
  exact .pure (.inr hb)
theorem E1 {s : List Station} {g : Station → Option Bool} {P : Station → Bool} (hg : ∀ (k : Nat) (x : Station), s[k]? = some x → g x = some (P x)) :
  Mv s g = some (s.any P) := by
 have : Ok (Mv s g) fun r => r = s.any P := by
  unfold Mv
  refine .bind (Eb hg) fun r M => .pure ?_
  rcases M with ⟨rfl, h⟩ | ⟨k, x, rfl, hx, G, _⟩
  ·have : s.any P = false := by
    rw [List.any_eq_false]
    intro x hx
    obtain ⟨j, D⟩ := List.getElem?_of_mem hx
    rw [h j x D]; simp
   rw [this]; rfl
  ·have : s.any P = true := List.any_eq_true.2 ⟨x, mg hx, G⟩
   rw [this]; simp
 obtain ⟨r, h, rfl⟩ := this
 exact h
theorem Ko {s : List ByteArray} {v : ByteArray} :
  Ok (My s v) fun r => (r = -1 ∧ ∀ (j : Nat) (y : ByteArray), s[j]? = some y → (Wd v y) = false) ∨ ∃ (k : Nat) (y : ByteArray), r = (k : Int) ∧ s[k]? = some y ∧ (Wd v y) = true ∧ ∀ (j : Nat) (y : ByteArray), j < k → s[j]? = some y → (Wd v y) = false := by
 unfold My
 refine .bind' (.forL (fun k _ => ∀ (j : Nat) (y : ByteArray), j < k → s[j]? = some y → (Wd v y) = false) (fun r => ∃ (k : Nat) (y : ByteArray), r = (k : Int) ∧ s[k]? = some y ∧ (Wd v y) = true ∧ ∀ (j : Nat) (y : ByteArray), j < k → s[j]? = some y → (Wd v y) = false) (fun j y h => absurd h (Nat.not_lt_zero _)) ?_ ?_ ?_)
 ·intro k x _ hx hi
  unfold My.B2
  refine A9 (fun D => .pure ⟨k, x, rfl, hx, D, hi⟩) fun D => .pure fun j y G hy => ?_
  by_cases h : j < k
  ·exact hi j y h hy
  ·have : j = k := by omega
   subst this
   rw [hx] at hy; simp at hy; subst hy; exact D
 ·intro _ hi
  simp only [Sum.elim_inl]
  unfold My.J1
  exact .pure (.inl ⟨rfl, fun j y hy => hi j y (gs hy).1 hy⟩)
 ·intro b hb
  exact .pure (.inr hb)
theorem Kb {α β : Type} {l : List α} {g : α → β} {f : Nat → α → List β → Option (List β)} (hf : ∀ k x st, f k x st = (Da st [g x]).bind fun y => some y) (hl : l.length ≤ 1000) :
  Ok (forS f 0 l []) fun r => r = l.map g := by
 refine .forS (fun k st => st = (l.take k).map g) (by simp) ?_ fun st h => by rw [h]; simp
 rintro k x st hx rfl
 rw [hf]
 have D := (gs hx).1
 refine .bind' (.app (by simp; omega) (.pure ?_))
 rw [List.take_add_one, hx]
 simp
theorem Vl {n : Network} (h1 : n.Segments.length ≤ 1000) (h2 : n.Ports.length ≤ 1000) (D : n.Stations.length ≤ 1000) :
  Ok (Nu n) fun r => r.l = [n.Nodes, n.Segments.map (·.Name), n.Ports.map (·.Name), n.Stations.map (·.Name)] := by
 unfold Nu
 refine .bind (Kb (g := (·.Name)) (fun _ _ _ => rfl) h1) ?_
 rintro _ rfl
 unfold Nu.J1
 refine .bind (Kb (g := (·.Name)) (fun _ _ _ => rfl) h2) ?_
 rintro _ rfl
 unfold Nu.J2
 refine .bind (Kb (g := (·.Name)) (fun _ _ _ => rfl) D) ?_
 rintro _ rfl
 unfold Nu.J3
 exact .pure rfl
def Named (c : UInt8) (l : List ByteArray) : Prop := l.length ≤ 26 ∧ ∀ (k : Nat) (x : ByteArray), l[k]? = some x → x = nm c k
theorem NetOk.named {n : Network} (h : NetOk n) : ∀ l, l ∈ [n.Nodes, n.Segments.map (·.Name), n.Ports.map (·.Name), n.Stations.map (·.Name)] → ∃ c, (c = 110 ∨ c = 103 ∨ c = 113 ∨ c = 115) ∧ Named c l := by
 have h1 := h.nodes; have h2 := h.segs1; have G := h.ports1; have M := h.sts1
 intro l hl
 simp only [List.mem_cons, List.not_mem_nil, or_false] at hl
 rcases hl with rfl | rfl | rfl | rfl
 ·exact ⟨110, by simp, by omega, h.names⟩
 ·refine ⟨103, by simp, by simp; omega, fun k x hx => ?_⟩
  rw [List.getElem?_map] at hx
  obtain ⟨s, D, rfl⟩ := Option.map_eq_some_iff.1 hx
  exact (h.segs k s D).name
 ·refine ⟨113, by simp, by simp; omega, fun k x hx => ?_⟩
  rw [List.getElem?_map] at hx
  obtain ⟨s, D, rfl⟩ := Option.map_eq_some_iff.1 hx
  exact (h.ports k s D).name
 ·refine ⟨115, by simp, by simp; omega, fun k x hx => ?_⟩
  rw [List.getElem?_map] at hx
  obtain ⟨s, D, rfl⟩ := Option.map_eq_some_iff.1 hx
  exact (h.sts k s D).name
theorem lT {k : Nat} (h : k < 26) : k = 0 ∨ k = 1 ∨ k = 2 ∨ k = 3 ∨ k = 4 ∨ k = 5 ∨ k = 6 ∨ k = 7 ∨ k = 8 ∨ k = 9 ∨ k = 10 ∨ k = 11 ∨ k = 12 ∨ k = 13 ∨ k = 14 ∨ k = 15 ∨ k = 16 ∨ k = 17 ∨ k = 18 ∨ k = 19 ∨ k = 20 ∨ k = 21 ∨ k = 22 ∨ k = 23 ∨ k = 24 ∨ k = 25 := by omega
theorem kW {c : UInt8} (hc : c = 110 ∨ c = 103 ∨ c = 113 ∨ c = 115) {k : Nat} (D : k < 26) : Qf (nm c k) = some true := by
 rcases hc with rfl | rfl | rfl | rfl <;>
  rcases lT D with rfl | rfl | rfl | rfl | rfl | rfl | rfl | rfl | rfl | rfl | rfl | rfl | rfl | rfl | rfl | rfl | rfl | rfl | rfl | rfl | rfl | rfl | rfl | rfl | rfl | rfl <;> rfl
theorem dY {c : UInt8} {i j : Nat} (hi : i < 26) (G : j < 26) (h : Wd (nm c i) (nm c j) = true) : i = j := by
 have h1 : (nm c i).toList = (nm c j).toList := by simpa [Wd] using h
 have h2 : [c, 97 + UInt8.ofNat i] = [c, 97 + UInt8.ofNat j] := by simpa [nm, ByteArray.toList, ByteArray.toList.loop, ByteArray.size, ByteArray.get!] using h1
 simp only [List.cons.injEq, and_true, true_and] at h2
 have D := congrArg UInt8.toNat h2
 simp only [UInt8.toNat_add, UInt8.toNat_ofNat'] at D
 have : (97 : UInt8).toNat = 97 := rfl
 rw [this] at D
 omega
theorem fC (a : ByteArray) : Wd a a = true := by simp [Wd]
def mJ (l : List ByteArray) : Prop := l.length ≤ 26 ∧ (∀ (k : Nat) (x : ByteArray), l[k]? = some x → Qf x = some true) ∧ ∀ (i j : Nat) (x y : ByteArray), l[i]? = some x → l[j]? = some y → Wd x y = true → i = j
theorem Named.nmd {c : UInt8} (hc : c = 110 ∨ c = 103 ∨ c = 113 ∨ c = 115) {l : List ByteArray} (h : Named c l) : mJ l := by
 obtain ⟨h1, h2⟩ := h
 refine ⟨h1, fun k x G => ?_, fun i j x y hi D he => ?_⟩
 ·have := (gs G).1
  rw [h2 k x G]; exact kW hc (by omega)
 ·have M := (gs hi).1
  have O := (gs D).1
  have hx := h2 i x hi; have hy := h2 j y D
  subst hx; subst hy
  exact dY (by omega) (by omega) he
theorem V2 {l : List ByteArray} (h : mJ l) {k : Nat} {x : ByteArray} (D : l[k]? = some x) : Ok (My l x) fun r => r = (k : Int) := by
 obtain ⟨h1, _, h2⟩ := h
 refine Ko.mono ?_
 rintro r (⟨rfl, h⟩ | ⟨j, y, rfl, G, he, M⟩)
 ·have := h k x D
  rw [fC] at this; cases this
 ·have := h2 k j x y D G he
  omega
structure SegB (nodes : Nat) (s : Segment) : Prop where
 ends : 0 ≤ s.From ∧ s.From < (nodes : Int) ∧ 0 ≤ s.To ∧ s.To < (nodes : Int) ∧ s.From ≠ s.To
 cap : 1 ≤ s.Capacity ∧ s.Capacity ≤ 1000
 resist : 0 ≤ s.Resist ∧ s.Resist ≤ 1000
 wave : 0 ≤ s.Wave ∧ s.Wave ≤ 100000
 points : PointsOk s.Capacity s.Points
theorem SegOk.b {nodes k : Nat} {s : Segment} (h : SegOk nodes k s) : SegB nodes s := ⟨h.ends, h.cap, h.resist, h.wave, h.points⟩
theorem iX {nodes : Nat} {s : Segment} (h : SegB nodes s) : Nm s = some true := by
 have : Ok (Nm s) fun r => r = true := by
  have D := h.points
  have h1 := h.ends; have h2 := h.cap; have h3 := h.resist; have h4 := h.wave; have h5 := D.len
  unfold Nm
  refine A9 (fun hb => ?_) fun _ => ?_
  ·simp [De] at hb
   omega
  refine .bind' (.forL (fun _ _ => True) (fun _ => False) trivial ?_ ?_ fun _ h => h.elim)
  ·intro i p _ hi _
   have M := mg hi
   have g1 := D.height p M; have g2 := D.limit p M
   unfold Nm.B3
   refine A9 (fun hb => ?_) fun _ => A9 (fun hb => ?_) fun _ => Bb (fun X => ?_) fun X => ?_
   ·simp [De] at hb; omega
   ·simp [De] at hb; omega
   ·rw [Bg (by have := (gs hi).1; omega)]
    obtain ⟨j, rfl⟩ : ∃ j, i = j + 1 := ⟨i - 1, by omega⟩
    have G : j < s.Points.length := by have := (gs hi).1; omega
    have Y : s.Points[j]? = some s.Points[j] := gq G
    have Z := D.up j _ p Y hi
    refine .bind' (.ix j (by omega) G ?_)
    unfold Nm.J4
    refine Bb (fun h => ?_) fun _ => .pure trivial
    dsimp only at h; omega
   ·unfold Nm.J4
    exact .pure trivial
  ·intro _ _
   simp only [Sum.elim_inl]
   unfold Nm.J1 Nm.J2
   have O : s.Points[0]? = some s.Points[0] := gq (by omega)
   have W : s.Points[s.Points.length - 1]? = some s.Points[s.Points.length - 1] := gq (by omega)
   refine .bind' (.ix 0 rfl (by omega) (A9 (fun _ => ?_) fun hb => ?_))
   ·rw [Bg (by omega)]
    refine .bind' (.ix (s.Points.length - 1) (by omega) (by omega) (.pure ?_))
    have := D.last _ W
    dsimp only
    rw [this]; simp
   ·have := D.first _ O
    dsimp only at hb
    rw [this] at hb
    cases hb
 obtain ⟨r, h, rfl⟩ := this
 exact h
theorem Fq {α : Type} {l : List α} {P : α → Bool} (h : ∀ (k : Nat) (x : α), l[k]? = some x → P x = false) : l.any P = false := by
 rw [List.any_eq_false]
 intro x hx
 obtain ⟨j, D⟩ := List.getElem?_of_mem hx
 rw [h j x D]; simp
structure NetV (n : Network) : Prop where
 nodes : 1 ≤ n.Nodes.length ∧ n.Nodes.length ≤ 6
 segs1 : n.Segments.length ≤ 8
 segs : ∀ (k : Nat) (s : Segment), n.Segments[k]? = some s → ∃ j, SegOk n.Nodes.length j s
 ports1 : n.Ports.length ≤ 6
 ports : ∀ k s, n.Ports[k]? = some s → PortOk n.Nodes.length k s
 sts1 : n.Stations.length ≤ 6
 sts : ∀ k s, n.Stations[k]? = some s → StOk n.Nodes.length k s
 stsUp : ∀ (i j : Nat) (p q : Station), i < j → n.Stations[i]? = some p → n.Stations[j]? = some q → p.Node < q.Node
 vapour : -100000 ≤ n.Vapour ∧ n.Vapour ≤ 50000
 settle : 0 ≤ n.Settle ∧ n.Settle ≤ 100
 named : ∀ l, l ∈ [n.Nodes, n.Segments.map (·.Name), n.Ports.map (·.Name), n.Stations.map (·.Name)] → mJ l
theorem NetOk.v {n : Network} (h : NetOk n) : NetV n :=
 ⟨by have := h.nodes; omega, h.segs1.2, fun k s D => ⟨k, h.segs k s D⟩, h.ports1.2, h.ports, h.sts1, h.sts, h.stsUp, h.vapour, h.settle, fun l hl => let ⟨_, hc, hn⟩ := h.named l hl; hn.nmd hc⟩
structure NetW (n : Network) : Prop where
 nodes : 1 ≤ n.Nodes.length ∧ n.Nodes.length ≤ 6
 segs1 : n.Segments.length ≤ 8
 segs : ∀ (k : Nat) (s : Segment), n.Segments[k]? = some s → SegB n.Nodes.length s
 ports1 : n.Ports.length ≤ 6
 ports : ∀ (k : Nat) s, n.Ports[k]? = some s → (0 ≤ s.Node ∧ s.Node < (n.Nodes.length : Int)) ∧ 0 ≤ s.Pressure ∧ s.Pressure ≤ 100000000
 sts1 : n.Stations.length ≤ 6
 sts : ∀ k s, n.Stations[k]? = some s → StOk n.Nodes.length k s
 stsUp : ∀ (i j : Nat) (p q : Station), i < j → n.Stations[i]? = some p → n.Stations[j]? = some q → p.Node < q.Node
 vapour : -100000 ≤ n.Vapour ∧ n.Vapour ≤ 50000
 settle : 0 ≤ n.Settle ∧ n.Settle ≤ 100
 named : ∀ l, l ∈ [n.Nodes, n.Segments.map (·.Name), n.Ports.map (·.Name), n.Stations.map (·.Name)] → mJ l
theorem NetV.w {n : Network} (h : NetV n) : NetW n :=
 ⟨h.nodes, h.segs1, fun k s D => (h.segs k s D).choose_spec.b, h.ports1, fun k s D => ⟨(h.ports k s D).node, (h.ports k s D).pressure⟩, h.sts1, h.sts, h.stsUp, h.vapour, h.settle, h.named⟩
theorem Sd {n : Network} (h : NetW n) : Gk n = some 0 := by
 have : Ok (Gk n) fun r => r = 0 := by
  have h1 := h.nodes; have h2 := h.segs1; have h3 := h.ports1; have h4 := h.sts1; have h5 := h.vapour; have h6 := h.settle
  unfold Gk
  refine .bind (Q := fun r => r = true) ?_ ?_
  ·unfold T8
   refine A9 (fun hb => ?_) fun _ => .bind' (.eq (D6 (P := fun x => Mo x) fun _ _ _ => rfl) (.pure ?_))
   ·simp at hb; omega
   ·rw [Fq]; rfl
    intro k x hx
    have := (h.segs k x hx).points.len
    simp [Mo]; omega
  rintro _ rfl
  refine Dd (fun hb => by cases hb) fun _ => ?_
  refine .bind (Vl (by omega) (by omega) (by omega)) fun O Z => ?_
  refine .bind' (.forI (fun _ _ => True) (fun _ => False) trivial ?_ ?_ fun _ h => h.elim)
  ·intro k _ X _
   unfold Gk.B2
   refine .bind' (.ix k rfl (by rw [Z]; exact X) ?_)
   have W : k < O.l.length := by rw [Z]; exact X
   have hl := h.named O.l[k] (by rw [← Z]; exact List.getElem_mem _)
   refine .bind' (.eq (Hi (P := fun _ => false) fun j x hx => ?_) ?_)
   ·unfold P1
    rw [hl.2.1 j x hx]; rfl
   ·rw [Fq fun _ _ _ => rfl]
    exact .pure trivial
  ·intro _ _
   simp only [Sum.elim_inl]
   unfold Gk.J1
   refine .bind (Q := fun r => r = false) ?_ ?_
   ·unfold T6
    refine .bind (Vl (by omega) (by omega) (by omega)) fun O Z => ?_
    refine .bind' (.forI (fun _ _ => True) (fun _ => False) trivial ?_ ?_ fun _ h => h.elim)
    ·intro k _ X _
     unfold T6.B4
     refine .bind' (.ix k rfl (by rw [Z]; exact X) ?_)
     have W : k < O.l.length := by rw [Z]; exact X
     have hl := h.named O.l[k] (by rw [← Z]; exact List.getElem_mem _)
     refine .bind' (.forL (fun _ _ => True) (fun _ => False) trivial ?_ ?_ fun _ h => h.elim)
     ·intro j x _ hj _
      unfold T6.B6
      refine .bind (V2 hl hj) ?_
      rintro _ rfl
      refine Bb (fun h => by omega) fun _ => .pure trivial
     ·intro _ _
      exact .pure trivial
    ·intro _ _
     simp only [Sum.elim_inl]
     unfold T6.J1
     refine .bind' (.forL (fun _ _ => True) (fun _ => False) trivial ?_ ?_ fun _ h => h.elim)
     ·intro j x _ hj _
      unfold T6.B3
      refine .bind (Q := fun r => r = (j : Int)) ((Eb (P := fun y => K1 y x) fun _ _ _ => rfl).mono ?_) ?_
      ·rintro r (⟨rfl, hh⟩ | ⟨k, y, rfl, X, he, hlt⟩)
       ·have := hh j x hj
        simp [K1] at this
       ·simp [K1] at he
        by_cases hkj : k = j
        ·omega
        ·rcases Nat.lt_or_gt_of_ne hkj with G | G
         ·have := h.stsUp k j y x G X hj; omega
         ·have := h.stsUp j k x y G hj X; omega
      ·rintro _ rfl
       refine Bb (fun h => by omega) fun _ => .pure trivial
     ·intro _ _
      exact .pure rfl
   rintro _ rfl
   refine A9 (fun h => by cases h) fun _ => ?_
   refine .bind (Q := fun r => r = true) ?_ ?_
   ·unfold Ue
    let D : List Int → Prop := fun l => ∀ x, x ∈ l → 0 ≤ x ∧ x < (n.Nodes.length : Int)
    have app : ∀ {l m : List Int}, D l → D m → D (l ++ m) := fun h1 h2 x hx => by
     rcases List.mem_append.1 hx with hx | hx
     ·exact h1 x hx
     ·exact h2 x hx
    refine .bind (Q := fun l => l.length ≤ 100 ∧ D l) (.forS (fun k l => l.length ≤ 2 * k ∧ D l) ⟨by simp, by intro x hx; cases hx⟩ ?_ fun l hl => ⟨by omega, hl.2⟩) ?_
    ·rintro k s l Y ⟨l1, M⟩
     have W := (gs Y).1
     have he := (h.segs k s Y).ends
     unfold Ue.B6
     refine .bind' (.app (by simp; omega) (.pure ⟨by simp; omega, app M ?_⟩))
     intro x hx
     simp at hx
     rcases hx with rfl | rfl <;> omega
    rintro l ⟨l1, M⟩
    unfold Ue.J1
    refine .bind (Q := fun l => l.length ≤ 200 ∧ D l) (.forS (fun k l => l.length ≤ 100 + k ∧ D l) ⟨by omega, M⟩ ?_ fun l hl => ⟨by omega, hl.2⟩) ?_
    ·rintro k s l Y ⟨l1, M⟩
     have W := (gs Y).1
     have he := (h.ports k s Y).1
     unfold Ue.B5
     refine .bind' (.app (by simp; omega) (.pure ⟨by simp; omega, app M ?_⟩))
     intro x hx
     simp at hx; subst hx; omega
    rintro l ⟨l1, M⟩
    unfold Ue.J2
    refine .bind (Q := fun l => l.length ≤ 300 ∧ D l) (.forS (fun k l => l.length ≤ 200 + k ∧ D l) ⟨by omega, M⟩ ?_ fun l hl => ⟨by omega, hl.2⟩) ?_
    ·rintro k s l Y ⟨l1, M⟩
     have W := (gs Y).1
     have he := (h.sts k s Y).node
     unfold Ue.B4
     refine .bind' (.app (by simp; omega) (.pure ⟨by simp; omega, app M ?_⟩))
     intro x hx
     simp at hx; subst hx; omega
    rintro l ⟨l1, M⟩
    unfold Ue.J3
    refine .bind' (.eq (Gf (P := fun x => Mr x n) fun _ _ _ => rfl) (.pure ?_))
    rw [Fq]; rfl
    intro k x hx
    have := M x (mg hx)
    simp [Mr]; omega
   rintro _ rfl
   refine Dd (fun h => by cases h) fun _ => ?_
   refine .bind (Q := fun r => r = true) ?_ ?_
   ·unfold Ud
    refine .bind' (.eq (D6 (P := fun _ => false) fun k x hx => by unfold Pp; rw [iX (h.segs k x hx)]; rfl) ?_)
    rw [Fq fun _ _ _ => rfl]
    refine A9 (fun h => by cases h) fun _ => ?_
    refine .bind' (.eq (Fz (P := fun x => Ms x) fun _ _ _ => rfl) ?_)
    rw [Fq]
    ·refine A9 (fun h => by cases h) fun _ => ?_
     refine .bind' (.eq (E1 (P := fun x => Ni x) fun _ _ _ => rfl) ?_)
     rw [Fq]
     ·refine A9 (fun h => by cases h) fun _ => .pure ?_
      simp [De]; omega
     ·intro k x hx
      have h1 := (h.sts k x hx).head; have h2 := (h.sts k x hx).fall; have h3 := (h.sts k x hx).suction
      simp [Ni, De]; omega
    ·intro k x hx
     have h1 := (h.ports k x hx).2
     simp [Ms, De]; omega
   rintro _ rfl
   exact Dd (fun h => by cases h) fun _ => .pure rfl
 obtain ⟨r, h, rfl⟩ := this
 exact h
theorem Y3 {n : Network} (h : NetV n) : Gk n = some 0 := Sd h.w
theorem Jr {n : Network} (h : NetOk n) : Gk n = some 0 := Y3 h.v
structure NetG (n : Network) : Prop where
 nodes : 1 ≤ n.Nodes.length ∧ n.Nodes.length ≤ 6
 segs1 : n.Nodes.length - 1 ≤ n.Segments.length ∧ n.Segments.length ≤ 8
 segs : ∀ (k : Nat) (s : Segment), n.Segments[k]? = some s → SegB n.Nodes.length s
 ports1 : 2 ≤ n.Ports.length ∧ n.Ports.length ≤ 6
 ports : ∀ (k : Nat) s, n.Ports[k]? = some s → 0 ≤ s.Node ∧ s.Node < (n.Nodes.length : Int)
 sts1 : n.Stations.length ≤ 6
 check : Gk n = some 0
theorem NetOk.g {n : Network} (h : NetOk n) : NetG n :=
 ⟨by have := h.nodes; omega, h.segs1, fun k s D => (h.segs k s D).b, h.ports1, fun k s D => (h.ports k s D).node, h.sts1, Jr h⟩
theorem NetW.g {n : Network} (h : NetW n) (h1 : n.Nodes.length - 1 ≤ n.Segments.length) (h2 : 2 ≤ n.Ports.length) : NetG n :=
 ⟨h.nodes, ⟨h1, h.segs1⟩, h.segs, ⟨h2, h.ports1⟩, fun k s D => (h.ports k s D).1, h.sts1, Sd h⟩
theorem Lq {α : Type} {P : Nat → α → Prop} {l : List α} {x : α} (h : ∀ k s, l[k]? = some s → P k s) (hx : P l.length x) : ∀ k s, (l ++ [x])[k]? = some s → P k s := by
 intro k s D
 rw [List.getElem?_append] at D
 split at D
 ·exact h k s D
 ·have h2 := (gs D).1
  simp at h2
  have : k = l.length := by omega
  subst this
  simp at D; subst D; exact hx
theorem eJ {α : Type} {f : α → Int} {l : List α} {x : α} (h : ∀ (i j : Nat) (p q : α), i < j → l[i]? = some p → l[j]? = some q → f p < f q) (hx : ∀ (k : Nat) (p : α), l[k]? = some p → f p < f x) :
  ∀ (i j : Nat) (p q : α), i < j → (l ++ [x])[i]? = some p → (l ++ [x])[j]? = some q → f p < f q := by
 intro i j p q G M D
 have O := (gs D).1
 simp at O
 rw [List.getElem?_append_left (by omega)] at M
 rw [List.getElem?_append] at D
 split at D
 ·exact h i j p q G M D
 ·have : j = l.length := by omega
  subst this
  simp at D; subst D; exact hx i p M
structure PortsInv (nodes : Nat) (i : Int) (ports : List Port) (sts : List Station) : Prop where
 i0 : 0 ≤ i ∧ i ≤ (nodes : Int)
 pl : (ports.length : Int) ≤ i
 p1 : 0 < i → 1 ≤ ports.length
 p2 : i = (nodes : Int) → 2 ≤ ports.length
 po : ∀ k s, ports[k]? = some s → PortOk nodes k s ∧ s.Node < i
 pu : ∀ (i j : Nat) (p q : Port), i < j → ports[i]? = some p → ports[j]? = some q → p.Node < q.Node
 sl : (sts.length : Int) ≤ i
 so : ∀ k s, sts[k]? = some s → StOk nodes k s ∧ s.Node < i
 su : ∀ (i j : Nat) (p q : Station), i < j → sts[i]? = some p → sts[j]? = some q → p.Node < q.Node
theorem kV {s : Xq} (W : SrcOk s) : Ok (It s) fun r => NetOk r.1 ∧ SrcOk r.2 := by
 unfold It
 refine .bind (Eo W (by decide) (by decide)) fun r5 h5 => ?_
 refine .bind (Eo h5.1 (by decide) (by decide)) fun r8 h8 => ?_
 refine .bind (G7 h8.1 (by decide) (by decide) (by decide)) fun r650 h650 => ?_
 have c5 := h5.2; have c8 := h8.2
 simp only [List.mem_cons, List.not_mem_nil, or_false] at c5 c8
 refine .bind (Q := fun d : List Int × Int × List ByteArray => SrcOk ⟨d.1, d.2.1⟩ ∧ (2 ≤ d.2.2.length ∧ d.2.2.length ≤ 6) ∧ ∀ k x, d.2.2[k]? = some x → x = nm 110 k) ?_ ?_
 ·refine .loop (fun st : List ByteArray × Int => 0 ≤ st.2 ∧ (st.1.length : Int) + st.2 = r650.1 ∧ ∀ k x, st.1[k]? = some x → x = nm 110 k) (fun st => st.2.toNat) ⟨by dsimp only; omega, by simp, by simp⟩ (by dsimp only; omega) ?_
  rintro ⟨nodes, c⟩ ⟨O, i2, i3⟩
  dsimp only at O i2 i3
  unfold It.B12
  refine Bb (fun h => ?_) fun h => .pure ⟨h650.1, by dsimp only at h ⊢; omega, i3⟩
  dsimp only at h ⊢
  refine .bind' (.eq (O6 (by omega)) (.bind' (.app (by simp; omega) (.pure ?_))))
  rw [Bg (by omega)]
  exact ⟨⟨by dsimp only; omega, by simp; omega, Lq i3 rfl⟩, by dsimp only; omega⟩
 rintro ⟨L_, At, nodes⟩ ⟨W, hn, hnm⟩
 dsimp only at W hn hnm
 unfold It.J1
 refine .bind (Q := fun d : List Int × Int × List Segment => SrcOk ⟨d.1, d.2.1⟩ ∧ d.2.2.length = nodes.length - 1 ∧ ∀ k x, d.2.2[k]? = some x → SegOk nodes.length k x) ?_ ?_
 ·refine .loop (fun st : List Int × Int × List Segment × Int => SrcOk ⟨st.1, st.2.1⟩ ∧ (st.2.2.1.length : Int) = st.2.2.2 ∧ st.2.2.1.length ≤ nodes.length - 1 ∧ ∀ k x, st.2.2.1[k]? = some x → SegOk nodes.length k x) (fun st => nodes.length - st.2.2.1.length) ⟨W, by simp, by simp, by simp⟩ (by dsimp only; omega) ?_
  rintro ⟨L_, At, segs, i⟩ ⟨O, i2, i3, i4⟩
  dsimp only at O i2 i3 i4
  unfold It.B11
  dsimp only
  simp (disch := omega) only [Bg]
  refine Bb (fun h => ?_) fun h => .pure ⟨O, by dsimp only; omega, i4⟩
  refine .bind (dU O (nodes := nodes.length) (by omega) (by omega) (by omega) (by omega)) fun r641 af => ?_
  refine .bind' (.app (by simp; omega) (.pure ⟨⟨af.2, by simp; omega, by simp; omega, Lq i4 af.1⟩, by simp; omega⟩))
 rintro ⟨L_, At, segs⟩ ⟨W, X, hss⟩
 dsimp only at W X hss
 unfold It.J2
 refine .bind (Jc W (by decide) (by decide)) fun r531 ad => ?_
 refine .bind (Q := fun d : List Int × Int × List Segment => SrcOk ⟨d.1, d.2.1⟩ ∧ (nodes.length - 1 ≤ d.2.2.length ∧ d.2.2.length ≤ 8) ∧ ∀ k x, d.2.2[k]? = some x → SegOk nodes.length k x) ?_ ?_
 ·refine .loop (fun st : List Int × Int × List Segment × Int => SrcOk ⟨st.1, st.2.1⟩ ∧ 0 ≤ st.2.2.2 ∧ (st.2.2.1.length : Int) + st.2.2.2 ≤ 8 ∧ nodes.length - 1 ≤ st.2.2.1.length ∧ ∀ k x, st.2.2.1[k]? = some x → SegOk nodes.length k x) (fun st => st.2.2.2.toNat)
   ⟨ad.1, ad.2.1, by dsimp only; omega, by dsimp only; omega, hss⟩ (by dsimp only; omega) ?_
  rintro ⟨L_, At, segs, i⟩ ⟨O, i2, i3, i4, i5⟩
  dsimp only at O i2 i3 i4 i5
  unfold It.B10
  dsimp only
  simp (disch := omega) only [Bg]
  refine Bb (fun h => ?_) fun h => .pure ⟨O, by dsimp only; omega, i5⟩
  refine .bind (Jc O (by omega) (by omega)) fun r589 h589 => ?_
  simp (disch := omega) only [Bg]
  refine .bind (G7 h589.1 (by omega) (by omega) (by omega)) fun r591 h591 => ?_
  refine .bind (dU h591.1 (nodes := nodes.length) (by omega) (by omega) (by omega) (by omega)) fun r593 ae => ?_
  refine .bind' (.app (by simp; omega) (.pure ⟨⟨ae.2, by dsimp only; omega, by simp; omega, by simp; omega, Lq i5 ae.1⟩, by dsimp only; omega⟩))
 rintro ⟨L_, At, segs⟩ ⟨W, X, hss⟩
 dsimp only at W X hss
 unfold It.J3
 refine .bind (Q := fun d : List Int × Int × List Port × List Station => SrcOk ⟨d.1, d.2.1⟩ ∧ PortsInv nodes.length (nodes.length : Int) d.2.2.1 d.2.2.2) ?_ ?_
 ·refine .loop (fun st : List Int × Int × List Port × List Station × Int => SrcOk ⟨st.1, st.2.1⟩ ∧ PortsInv nodes.length st.2.2.2.2 st.2.2.1 st.2.2.2.1) (fun st => nodes.length - st.2.2.2.2.toNat)
   ⟨W, by dsimp only; omega, by simp, by simp, by dsimp only; omega, by simp, by simp, by simp, by simp, by simp⟩ (by dsimp only; omega) ?_
  rintro ⟨L_, At, ports, sts, i⟩ ⟨O, D⟩
  dsimp only at O D
  have hi := D.i0
  have j6 : ∀ (j : List Int × Int × List Port × List Station), SrcOk ⟨j.1, j.2.1⟩ → PortsInv nodes.length (i + 1) j.2.2.1 j.2.2.2 → i < (nodes.length : Int) →
    Ok (It.J6 (L_, At, ports, sts, i) j) (Sum.elim (fun st => (SrcOk ⟨st.1, st.2.1⟩ ∧ PortsInv nodes.length st.2.2.2.2 st.2.2.1 st.2.2.2.1) ∧ nodes.length - st.2.2.2.2.toNat < nodes.length - i.toNat) fun d => SrcOk ⟨d.1, d.2.1⟩ ∧ PortsInv nodes.length (nodes.length : Int) d.2.2.1 d.2.2.2) := by
   intro j h1 h2 h3
   unfold It.J6
   dsimp only
   rw [Bg (by omega)]
   exact .pure ⟨⟨h1, h2⟩, by dsimp only; omega⟩
  have j7 : ∀ (j : List Int × Int × List Port), SrcOk ⟨j.1, j.2.1⟩ → ((∀ G, (G.length : Int) ≤ i + 1 → (∀ k s, G[k]? = some s → StOk nodes.length k s ∧ s.Node < i + 1) →
     (∀ (i j : Nat) (p q : Station), i < j → G[i]? = some p → G[j]? = some q → p.Node < q.Node) → PortsInv nodes.length (i + 1) j.2.2 G)) → i < (nodes.length : Int) →
    Ok (It.J7 (L_, At, nodes) (L_, At, ports, sts, i) j) (Sum.elim (fun st => (SrcOk ⟨st.1, st.2.1⟩ ∧ PortsInv nodes.length st.2.2.2.2 st.2.2.1 st.2.2.2.1) ∧ nodes.length - st.2.2.2.2.toNat < nodes.length - i.toNat) fun d => SrcOk ⟨d.1, d.2.1⟩ ∧ PortsInv nodes.length (nodes.length : Int) d.2.2.1 d.2.2.2) := by
   intro j h1 h2 h3
   have old := h2 sts (by have := D.sl; omega) (fun k s M => ⟨(D.so k s M).1, by have := (D.so k s M).2; omega⟩) D.su
   unfold It.J7
   refine Bb (fun h => ?_) fun h => ?_
   ·refine .bind (Jc h1 (by decide) (by decide)) fun r507 ab => ?_
    unfold It.J8
    refine A9 (fun _ => ?_) fun _ => j6 (_, _, _, _) ab.1 old h3
    have hsl' := D.sl
    refine .bind' (.eq (O6 (by dsimp only; omega)) ?_)
    refine .bind (Eo ab.1 (by decide) (by decide)) fun r493 Y => ?_
    refine .bind (Eo Y.1 (by decide) (by decide)) fun r496 Z => ?_
    refine .bind (Eo Z.1 (by decide) (by decide)) fun r499 aa => ?_
    have c1 := Y.2; have c2 := Z.2; have c3 := aa.2
    simp only [List.mem_cons, List.not_mem_nil, or_false] at c1 c2 c3
    refine .bind' (.app (by simp; omega) (j6 (_, _, _, _) aa.1 (h2 _ (by simp; omega) ?_ ?_) h3))
    ·exact Lq (P := fun k s => StOk nodes.length k s ∧ s.Node < i + 1) (fun k s M => ⟨(D.so k s M).1, by have := (D.so k s M).2; omega⟩) ⟨⟨rfl, ⟨by dsimp only; omega, by dsimp only; omega⟩, by dsimp only; omega, by dsimp only; omega, by dsimp only; omega⟩, by dsimp only; omega⟩
    ·exact eJ (f := Station.Node) D.su fun k p M => (D.so k p M).2
   ·unfold It.J8
    refine A9 (fun h => by cases h) fun _ => j6 (_, _, _, _) h1 old h3
  have j9 : ∀ (j : List Int × Int × Bool), SrcOk ⟨j.1, j.2.1⟩ → (i = 0 ∨ i = (nodes.length : Int) - 1 → j.2.2 = true) → i < (nodes.length : Int) →
    Ok (It.J9 (L_, At, nodes) (L_, At, ports, sts, i) j) (Sum.elim (fun st => (SrcOk ⟨st.1, st.2.1⟩ ∧ PortsInv nodes.length st.2.2.2.2 st.2.2.1 st.2.2.2.1) ∧ nodes.length - st.2.2.2.2.toNat < nodes.length - i.toNat) fun d => SrcOk ⟨d.1, d.2.1⟩ ∧ PortsInv nodes.length (nodes.length : Int) d.2.2.1 d.2.2.2) := by
   intro j h1 h2 h3
   have hpl := D.pl
   have hp1 := D.p1
   unfold It.J9
   refine A9 (fun _ => ?_) fun hb => j7 (_, _, _) h1 (fun G q1 q2 q3 => ?_) h3
   ·refine .bind' (.eq (O6 (by dsimp only; omega)) ?_)
    refine .bind (Eo h1 (by decide) (by decide)) fun r518 ac => ?_
    have c1 := ac.2
    simp only [List.mem_cons, List.not_mem_nil, or_false] at c1
    refine .bind' (.app (by simp; omega) (j7 (_, _, _) ac.1 (fun G q1 q2 q3 => ⟨by omega, by simp; omega, by simp, fun _ => by simp; omega, ?_, ?_, q1, q2, q3⟩) h3))
    ·exact Lq (P := fun k s => PortOk nodes.length k s ∧ s.Node < i + 1) (fun k s M => ⟨(D.po k s M).1, by have := (D.po k s M).2; omega⟩) ⟨⟨rfl, ⟨by dsimp only; omega, by dsimp only; omega⟩, by dsimp only; omega⟩, by dsimp only; omega⟩
    ·exact eJ (f := Port.Node) D.pu fun k p M => (D.po k p M).2
   ·have hi0 : ¬ (i = 0 ∨ i = (nodes.length : Int) - 1) := fun h => by rw [h2 h] at hb; cases hb
    exact ⟨by omega, by dsimp only; omega, fun _ => by dsimp only; omega, fun _ => by omega, fun k s M => ⟨(D.po k s M).1, by have := (D.po k s M).2; omega⟩, D.pu, q1, q2, q3⟩
  unfold It.B5
  dsimp only
  rw [Bg (by omega)]
  refine Bb (fun h => ?_) fun h => .pure ⟨O, ?_⟩
  ·refine Cc (fun h0 => j9 (_, _, _) O (fun _ => rfl) (by omega)) fun h0 => Cc (fun h1 => j9 (_, _, _) O (fun _ => rfl) (by omega)) fun h1 => ?_
   refine .bind (Jc O (by decide) (by decide)) fun r527 h527 => j9 (_, _, _) h527.1 (fun h => by omega) (by omega)
  ·have : i = (nodes.length : Int) := by omega
   rw [← this]; exact D
 rintro ⟨L_, At, ports, sts⟩ ⟨W, D⟩
 dsimp only at W D
 unfold It.J4
 have := D.pl; have := D.sl
 exact .pure ⟨⟨hn, hnm, X, hss, ⟨D.p2 rfl, by dsimp only; omega⟩, fun k s M => (D.po k s M).1, D.pu, by dsimp only; omega, fun k s M => (D.so k s M).1, D.su, by dsimp only; omega, by dsimp only; omega⟩, W⟩
def ind (a v : Int) : Int := if a = v then 1 else 0
def wt (n : Network) (v : Int) : List Int := n.Segments.map fun s => ind s.To v - ind s.From v
def wp (n : Network) (v : Int) : List Int := n.Ports.map fun p => ind p.Node v
structure RateOk (s : Segment) (r : Int) : Prop where
 rng : -1000 ≤ r ∧ r ≤ 1000 ∧ -s.Capacity ≤ r ∧ r ≤ s.Capacity
 up : s.From < s.To → 0 ≤ r
 down : s.To < s.From → r ≤ 0
structure PlInv (n : Network) (rates ports : List Int) : Prop where
 rl : rates.length = n.Segments.length
 pl : ports.length = n.Ports.length
 rng : ∀ (k : Nat) (r : Int) (s : Segment), rates[k]? = some r → n.Segments[k]? = some s → RateOk s r
 prt : ∀ (k : Nat) (x : Int), ports[k]? = some x → -1000 ≤ x ∧ x ≤ 1000
 bal : ∀ v, Fl (wt n v) rates + Fl (wp n v) ports = 0
structure Hop1 (n : Network) (rates : List Int) (rate a : Int) (i : Nat) (x : Segment) (r b : Int) : Prop where
 seg : n.Segments[i]? = some x
 old : rates[i]? = some r
 lt : a < b
 ends : x.From = a ∧ x.To = b ∨ x.To = a ∧ x.From = b
 rng : r + rate ≤ 1000 ∧ rate - r ≤ 1000 ∧ r + rate ≤ x.Capacity ∧ rate - r ≤ x.Capacity
def Ph (n : Network) (rates : List Int) (rate a k b : Int) : Prop := ∃ (i : Nat) (x : Segment) (r : Int), k = (i : Int) ∧ Hop1 n rates rate a i x r b
theorem fX {n : Network} {rates ports way : List Int} {rate : Int} {s : Xq} {l : List Int} {q e : Int} {nd : Nat → Int} (h : PlInv n rates ports) (hr : 1 ≤ rate ∧ rate ≤ 300)
  (hw : ∀ (j : Nat) (k : Int), way[j]? = some k → Ph n rates rate (nd j) k (nd (j + 1))) :
  Ok (forJ (P7.B9 n (rate, s) (l, q, way, e)) 0 way.length rates) fun st => st.length = rates.length ∧ (∀ (k : Nat) (r : Int) (s : Segment), st[k]? = some r → n.Segments[k]? = some s → RateOk s r) ∧
   ∀ v, Fl (wt n v) st = Fl (wt n v) rates + (rate * ind (nd way.length) v - rate * ind (nd 0) v) := by
 refine .forJ (fun j st => st.length = rates.length ∧ (∀ (k : Nat) (r : Int) (s : Segment), st[k]? = some r → n.Segments[k]? = some s → RateOk s r) ∧
   (∀ (k : Nat) (s : Segment), n.Segments[k]? = some s → nd j ≤ s.From → nd j ≤ s.To → st[k]? = rates[k]?) ∧
   ∀ v, Fl (wt n v) st = Fl (wt n v) rates + (rate * ind (nd j) v - rate * ind (nd 0) v)) ⟨rfl, h.rng, fun _ _ _ _ _ => rfl, fun v => by omega⟩ ?_ fun st ⟨h1, h2, _, h4⟩ => ⟨h1, h2, h4⟩
 rintro j st hj ⟨h1, h2, h3, h4⟩
 obtain ⟨i, x, r, hk, X, hold, hlt, D, hrng⟩ := hw j way[j] (gq hj)
 have ab := (gs X).1
 have Y : st[i]? = some r := by
  rw [h3 i x X (by rcases D with h | h <;> omega) (by rcases D with h | h <;> omega)]; exact hold
 have W := h.rng i r x hold X
 have o1 := W.rng; have o2 := W.up; have o3 := W.down
 have hw : ∀ v, (wt n v)[i]? = some (ind x.To v - ind x.From v) := fun v => by unfold wt; rw [List.getElem?_map, X]; rfl
 have Z : ∀ y : Int, RateOk x y → (∀ v, (ind x.To v - ind x.From v) * (y - r) = rate * ind (nd (j + 1)) v - rate * ind (nd j) v) → Ok (P7.J10 (st.set i y)) fun st => st.length = rates.length ∧ (∀ (k : Nat) (r : Int) (s : Segment), st[k]? = some r → n.Segments[k]? = some s → RateOk s r) ∧
   (∀ (k : Nat) (s : Segment), n.Segments[k]? = some s → nd (j + 1) ≤ s.From → nd (j + 1) ≤ s.To → st[k]? = rates[k]?) ∧
   ∀ v, Fl (wt n v) st = Fl (wt n v) rates + (rate * ind (nd (j + 1)) v - rate * ind (nd 0) v) := by
  intro y hy hyv
  unfold P7.J10
  refine .pure ⟨by simp [h1], fun k r' s' O G => ?_, fun k s' G a1 a2 => ?_, fun v => ?_⟩
  ·rw [Ds] at O
   split at O
   ·rename_i hik
    obtain ⟨rfl, _⟩ := hik
    simp at O; subst O
    rw [X] at G; simp at G; subst G; exact hy
   ·exact h2 k r' s' O G
  ·have hne : i ≠ k := by
    rintro rfl
    rw [X] at G; simp at G; subst G
    rcases D with h | h <;> omega
   rw [List.getElem?_set_ne hne]
   exact h3 k s' G (by omega) (by omega)
  ·rw [Gt (hw v) Y, h4 v, hyv v]; omega
 unfold P7.B9
 refine .bind' (.ix j rfl hj ?_)
 dsimp only
 rw [hk]
 refine .bind' (.ix i rfl ab ?_)
 have hx : n.Segments[i] = x := by
  have := gq ab
  rw [X] at this; exact (Option.some.inj this).symm
 have M := (gs Y).1
 have ac : st[i] = r := by
  have := gq M
  rw [Y] at this; exact (Option.some.inj this).symm
 dsimp only
 rw [hx]
 refine Bb (fun aa => ?_) fun aa => ?_
 ·refine .bind' (.ix i rfl M ?_)
  dsimp only
  rw [ac, Bg (by omega)]
  have he : x.From = nd j ∧ x.To = nd (j + 1) := by rcases D with h | h <;> omega
  have := o2 aa
  refine Z _ ⟨by omega, fun _ => by omega, fun _ => by omega⟩ fun v => ?_
  rw [he.1, he.2, show r + rate - r = rate by omega, Int.sub_mul, Int.mul_comm, Int.mul_comm (ind (nd j) v)]
 ·refine .bind' (.ix i rfl M ?_)
  dsimp only
  rw [ac, Bg (by omega)]
  have he : x.To = nd j ∧ x.From = nd (j + 1) := by rcases D with h | h <;> omega
  have := o3 (by omega)
  refine Z _ ⟨by omega, fun _ => by omega, fun _ => by omega⟩ fun v => ?_
  rw [he.1, he.2, show r - rate - r = -rate by omega, Int.sub_mul, Int.mul_neg, Int.mul_neg, Int.mul_comm, Int.mul_comm (ind (nd (j + 1)) v)]; omega
theorem lI {x : Int} (h : -1000000 ≤ x ∧ x ≤ 1000000) : Is x = max x (-x) := by
 unfold Is
 rw [Bg (by omega), Int.zero_sub]
theorem dZ {l : List Int} {f : Nat → Int → List Int → Option (List Int)} (hf : ∀ k x st, f k x st = (Da st [wr (0 - x)]).bind fun y => some y) (hl : l.length ≤ 1000) (D : ∀ (k : Nat) (x : Int), l[k]? = some x → -1000000 ≤ x ∧ x ≤ 1000000) :
  Ok (forS f 0 l []) fun r => r = l.map fun x => -x := by
 refine .forS (fun k st => st = (l.take k).map fun x => -x) (by simp) ?_ fun st h => by rw [h]; simp
 rintro k x st hx rfl
 rw [hf]
 have G := (gs hx).1
 have := D k x hx
 refine .bind' (.app (by simp; omega) (.pure ?_))
 rw [List.take_add_one, hx, Bg (by omega)]
 simp
theorem Wx {p : Plan} (h1 : p.Rates.length ≤ 1000) (h2 : p.Ports.length ≤ 1000) (M : p.Pumps.length ≤ 1000) (D : ∀ (k : Nat) (x : Int), p.Rates[k]? = some x → -1000000 ≤ x ∧ x ≤ 1000000)
  (G : ∀ (k : Nat) (x : Int), p.Ports[k]? = some x → -1000000 ≤ x ∧ x ≤ 1000000) : M8 p = some ⟨p.Rates.map fun x => -x, p.Ports.map fun x => -x, p.Pumps⟩ := by
 have : Ok (M8 p) fun r => r = ⟨p.Rates.map fun x => -x, p.Ports.map fun x => -x, p.Pumps⟩ := by
  unfold M8
  refine .bind' (.app (by simp; omega) (.bind (dZ (fun _ _ _ => rfl) h1 D) ?_))
  rintro _ rfl
  unfold M8.J1
  refine .bind (dZ (fun _ _ _ => rfl) h2 G) ?_
  rintro _ rfl
  unfold M8.J2
  exact .pure (by simp)
 obtain ⟨r, h, rfl⟩ := this
 exact h
def WayTo (n : Network) (rates : List Int) (rate s0 : Int) (way : List Int) (t : Int) : Prop :=
 ∃ nd : Nat → Int, nd 0 = s0 ∧ nd way.length = t ∧ ∀ (j : Nat) (k : Int), way[j]? = some k → Ph n rates rate (nd j) k (nd (j + 1))
theorem WayTo.snoc {n : Network} {rates : List Int} {rate s0 : Int} {way : List Int} {m k t : Int} (h : WayTo n rates rate s0 way m) (O : Ph n rates rate m k t) : WayTo n rates rate s0 (way ++ [k]) t := by
 obtain ⟨nd, h1, h2, G⟩ := h
 refine ⟨fun i => if i ≤ way.length then nd i else t, by simp [h1], by simp; omega, fun j W D => ?_⟩
 rw [List.getElem?_append] at D
 split at D
 ·rename_i M
  have := G j W D
  dsimp only
  rw [if_pos (by omega), if_pos (by omega)]; exact this
 ·have hb := (gs D).1
  simp at hb
  have : j = way.length := by omega
  subst this
  simp at D; subst D
  dsimp only
  rw [if_pos (by omega), if_neg (by omega), h2]; exact O
def X1 (n : Network) (ports : List Int) (rate : Int) (a : Nat) (t e : Int) : Prop :=
 ∃ (D : Nat) (p : Port) (x : Int), e = (D : Int) ∧ D ≠ a ∧ n.Ports[D]? = some p ∧ p.Node = t ∧ ports[D]? = some x ∧ x ≤ 0 ∧ x - rate ≥ -1000
theorem kP {n : Network} (Y : NetOk n) {rates ports : List Int} {rate : Int} {a : Nat} {l0 : List Int} {q0 c0 s0 : Int} {sa s : Xq} (h : PlInv n rates ports) (hr : 1 ≤ rate ∧ rate ≤ 300) (hs : SrcOk s)
  (X : 0 ≤ s0 ∧ s0 < (n.Nodes.length : Int)) :
  Ok (Ch (P7.B11 n (l0, q0, rates, ports, c0) ((a : Int), sa) (rate, s)) Dm (s.L_, s.At, s0, [], -1)) fun d => SrcOk ⟨d.1, d.2.1⟩ ∧ (d.2.2.2 < 0 ∨ ∃ t, WayTo n rates rate s0 d.2.2.1 t ∧ X1 n ports rate a t d.2.2.2) := by
 have hnn := Y.nodes
 have hsn := Y.segs1
 refine .loop (fun st : List Int × Int × Int × List Int × Int => SrcOk ⟨st.1, st.2.1⟩ ∧ st.2.2.2.2 = -1 ∧ (0 ≤ st.2.2.1 ∧ st.2.2.1 < (n.Nodes.length : Int)) ∧ (st.2.2.2.1.length : Int) ≤ st.2.2.1 ∧ WayTo n rates rate s0 st.2.2.2.1 st.2.2.1) (fun st => n.Nodes.length - st.2.2.1.toNat)
  ⟨hs, rfl, X, by simp; omega, fun _ => s0, rfl, rfl, by simp⟩ (by dsimp only; omega) ?_
 rintro ⟨L_, At, at_, way, e⟩ ⟨i1, i2, i3, i4, i5⟩
 dsimp only at i1 i2 i3 i4 i5
 subst i2
 unfold P7.B11
 refine Bb (fun _ => ?_) fun h => absurd (show (-1 : Int) < 0 by decide) h
 refine .bind (Q := fun d : List Int × Int × Int => SrcOk ⟨d.1, d.2.1⟩ ∧ (d.2.2 = -1 ∨ X1 n ports rate a at_ d.2.2)) ?_ ?_
 ·refine .forS (fun _ d => SrcOk ⟨d.1, d.2.1⟩ ∧ (d.2.2 = -1 ∨ X1 n ports rate a at_ d.2.2)) ⟨i1, .inl rfl⟩ ?_ fun _ h => h
  rintro k p ⟨L2, A2, e2⟩ hp ⟨M, W⟩
  dsimp only at M W
  have no : ∀ {x : List Int × Int × Bool}, SrcOk ⟨x.1, x.2.1⟩ → x.2.2 = false → Ok (P7.J19 k (L2, A2, e2) x) fun d => SrcOk ⟨d.1, d.2.1⟩ ∧ (d.2.2 = -1 ∨ X1 n ports rate a at_ d.2.2) := by
   intro x h1 h2
   unfold P7.J19 P7.J18
   rw [h2]
   exact .pure ⟨h1, W⟩
  have hkl := (gs hp).1
  have hpl := h.pl
  unfold P7.B17
  refine Cc (fun he => ?_) fun _ => no M rfl
  refine Cj (fun hka => ?_) fun _ => no M rfl
  refine .bind' (.ix k rfl (by dsimp only; omega) ?_)
  have hx : ports[k]? = some ports[k] := gq (by omega)
  have hxr := h.prt k _ hx
  dsimp only
  rw [Bg (by omega)]
  refine Bb (fun hx0 => ?_) fun _ => no M rfl
  refine Bb (fun hxm => ?_) fun _ => no M rfl
  refine Bb (fun _ => ?_) fun _ => no M rfl
  refine .bind (Jc M (by decide) (by decide)) fun r G => ?_
  unfold P7.J19 P7.J18
  refine A9 (fun _ => .pure ⟨G.1, .inr ⟨k, p, ports[k], rfl, fun h => by omega, hp, he, hx, hx0, hxm⟩⟩) fun _ => .pure ⟨G.1, W⟩
 rintro ⟨L2, A2, e2⟩ ⟨M, W⟩
 dsimp only at M W
 unfold P7.J12
 refine Bb (fun X => .pure ⟨M, .inr ⟨at_, i5, ?_⟩⟩) fun X => ?_
 ·rcases W with h | h
  ·dsimp only at X; omega
  ·exact h
 have he2 : e2 = -1 := by
  rcases W with h | ⟨kk, _, _, h, _⟩
  ·exact h
  ·dsimp only at X; omega
 subst he2
 refine .bind (Q := fun out : List Int => out.length ≤ 1000 ∧ ∀ k, k ∈ out → ∃ t, Ph n rates rate at_ k t ∧ at_ < t ∧ t < (n.Nodes.length : Int)) ?_ ?_
 ·refine .forS (fun k out => out.length ≤ k ∧ ∀ k, k ∈ out → ∃ t, Ph n rates rate at_ k t ∧ at_ < t ∧ t < (n.Nodes.length : Int)) ⟨by simp, by simp⟩ ?_ fun out ho => ⟨by have := ho.1; omega, ho.2⟩
  rintro k x out hx ⟨o1, o2⟩
  have hkl := (gs hx).1
  have hxo := (Y.segs k x hx).ends
  have hxc := (Y.segs k x hx).cap
  have hrl := h.rl
  have hold : rates[k]? = some rates[k] := gq (by omega)
  have hro := (h.rng k _ x hold hx).rng
  have no : ∀ {x : Bool}, x = false → Ok (P7.J16 k out x) fun out => out.length ≤ k + 1 ∧ ∀ k, k ∈ out → ∃ t, Ph n rates rate at_ k t ∧ at_ < t ∧ t < (n.Nodes.length : Int) := by
   intro x hx
   unfold P7.J16 P7.J15
   rw [hx]
   exact .pure ⟨by omega, o2⟩
  have yes : ∀ t, (x.From = at_ ∧ x.To = t ∨ x.To = at_ ∧ x.From = t) → at_ < t → Ok (P7.J16 k out (decide ((wr ((Is rates[k]) + rate)) ≤ (min 1000 x.Capacity)))) fun out => out.length ≤ k + 1 ∧ ∀ k, k ∈ out → ∃ t, Ph n rates rate at_ k t ∧ at_ < t ∧ t < (n.Nodes.length : Int) := by
   intro t ht O
   unfold P7.J16 P7.J15
   refine Bb (fun hc => ?_) fun _ => .pure ⟨by omega, o2⟩
   rw [lI (by omega), Bg (by omega)] at hc
   refine .bind' (.app (by simp; omega) (.pure ⟨by simp; omega, fun k' D => ?_⟩))
   rcases List.mem_append.1 D with D | D
   ·exact o2 k' D
   ·simp at D; subst D
    exact ⟨t, ⟨k, x, rates[k], rfl, hx, hold, O, ht, by omega⟩, O, by rcases ht with h | h <;> omega⟩
  unfold P7.B14
  dsimp only
  simp (disch := omega) only [Bg]
  refine Cc (fun hf => ?_) fun _ => Cc (fun hf => ?_) fun _ => no rfl
  ·refine Bb (fun ht => ?_) fun _ => no rfl
   exact .bind' (.ix k rfl (by omega) (yes x.To (.inl ⟨hf, rfl⟩) (by omega)))
  ·refine Bb (fun ht => ?_) fun _ => no rfl
   exact .bind' (.ix k rfl (by omega) (yes x.From (.inr ⟨hf, rfl⟩) (by omega)))
 rintro out ⟨o1, o2⟩
 unfold P7.J13
 refine Cc (fun _ => .pure ⟨M, .inl (show (-1 : Int) < 0 by decide)⟩) fun hl => ?_
 refine .bind (Jc M (by omega) (by omega)) fun r G => ?_
 refine .bind' (.ix' G.2.1 G.2.2 fun k y _ hy => ?_)
 obtain ⟨t, hop, O, htn⟩ := o2 y (mg hy)
 have Z := hop
 obtain ⟨i, x, r0, rfl, hop⟩ := hop
 refine .bind' (.app (by simp; omega) ?_)
 have hil := (gs hop.seg).1
 have hxo := (Y.segs i x hop.seg).ends
 refine .bind' (.eq (Bd hop.seg) ?_)
 dsimp only
 have he := hop.ends
 have hw : wr (wr (x.From + x.To) - at_) = t := by
  simp (disch := omega) only [Bg]
  rcases he with h | h <;> omega
 rw [hw]
 exact .pure ⟨⟨G.1, rfl, ⟨by dsimp only; omega, htn⟩, by simp; omega, i5.snoc Z⟩, by dsimp only; omega⟩
structure PlanOk (n : Network) (p : Plan) : Prop where
 rl : p.Rates.length = n.Segments.length
 pl : p.Ports.length = n.Ports.length
 ml : p.Pumps.length = n.Stations.length
 rng : ∀ (k : Nat) (r : Int) (s : Segment), p.Rates[k]? = some r → n.Segments[k]? = some s → -1000 ≤ r ∧ r ≤ 1000 ∧ -s.Capacity ≤ r ∧ r ≤ s.Capacity
 prt : ∀ (k : Nat) (x : Int), p.Ports[k]? = some x → -1000 ≤ x ∧ x ≤ 1000
 bal : ∀ v, Fl (wt n v) p.Rates + Fl (wp n v) p.Ports = 0
 dir : (∀ (k : Nat) (r : Int) (s : Segment), p.Rates[k]? = some r → n.Segments[k]? = some s → (0 < r → s.From < s.To) ∧ (r < 0 → s.To < s.From)) ∨
  (∀ (k : Nat) (r : Int) (s : Segment), p.Rates[k]? = some r → n.Segments[k]? = some s → (0 < r → s.To < s.From) ∧ (r < 0 → s.From < s.To))
theorem Wv {n : Network} (hn : NetOk n) {s : Xq} (hs : SrcOk s) {rates ports : List Int} {c : Int} (hc : 0 ≤ c ∧ c < 5) (h : PlInv n rates ports) :
  Ok (Ch (P7.B4 n) Dm (s.L_, s.At, rates, ports, c)) fun d => SrcOk ⟨d.1, d.2.1⟩ ∧ PlInv n d.2.2.1 d.2.2.2 := by
 have hpn := hn.ports1
 refine .loop (fun st : List Int × Int × List Int × List Int × Int => SrcOk ⟨st.1, st.2.1⟩ ∧ PlInv n st.2.2.1 st.2.2.2.1 ∧ 0 ≤ st.2.2.2.2 ∧ st.2.2.2.2 < 5) (fun st => st.2.2.2.2.toNat) ⟨hs, h, hc⟩ (by dsimp only; omega) ?_
 rintro ⟨L_, At, rates, ports, c⟩ ⟨i1, M, i3⟩
 dsimp only at i1 M i3
 unfold P7.B4
 refine Bb (fun h0 => ?_) fun _ => .pure ⟨i1, M⟩
 dsimp only at h0
 have j5 : ∀ j : List Int × Int × List Int × List Int, SrcOk ⟨j.1, j.2.1⟩ → PlInv n j.2.2.1 j.2.2.2 → Ok (P7.J5 (L_, At, rates, ports, c) j)
   (Sum.elim (fun st => (SrcOk ⟨st.1, st.2.1⟩ ∧ PlInv n st.2.2.1 st.2.2.2.1 ∧ 0 ≤ st.2.2.2.2 ∧ st.2.2.2.2 < 5) ∧ st.2.2.2.2.toNat < c.toNat) fun d => SrcOk ⟨d.1, d.2.1⟩ ∧ PlInv n d.2.2.1 d.2.2.2) := by
  intro j h1 h2
  unfold P7.J5
  dsimp only
  rw [Bg (by omega)]
  exact .pure ⟨⟨h1, h2, by dsimp only; omega⟩, by dsimp only; omega⟩
 refine .bind (Jc i1 (by omega) (by omega)) fun ac D => ?_
 obtain ⟨ai, sa⟩ := ac
 dsimp only at D
 obtain ⟨a, rfl⟩ := El D.2.1
 have hal : a < n.Ports.length := by omega
 have ab : n.Ports[a]? = some n.Ports[a] := gq hal
 have hpo := (hn.ports a _ ab).node
 refine .bind' (.eq (Bd ab) ?_)
 refine .bind (Eo D.1 (by decide) (by decide)) fun r4101 O => ?_
 have c1 := O.2
 simp only [List.mem_cons, List.not_mem_nil, or_false] at c1
 refine .bind (G7 O.1 (by omega) (by omega) (by omega)) fun ad G => ?_
 obtain ⟨rate, s⟩ := ad
 dsimp only at G
 have W : 1 ≤ rate ∧ rate ≤ 300 := by omega
 have hxl : a < ports.length := by have := M.pl; omega
 have hx : ports[a]? = some ports[a] := gq hxl
 have hxr := M.prt a _ hx
 refine .bind' (.eq (Bd hx) ?_)
 dsimp only
 have ae : Ok (P7.J6 n (L_, At, rates, ports, c) ((a : Int), sa) (a, n.Ports[a]) (rate, s) true)
   (Sum.elim (fun st => (SrcOk ⟨st.1, st.2.1⟩ ∧ PlInv n st.2.2.1 st.2.2.2.1 ∧ 0 ≤ st.2.2.2.2 ∧ st.2.2.2.2 < 5) ∧ st.2.2.2.2.toNat < c.toNat) fun d => SrcOk ⟨d.1, d.2.1⟩ ∧ PlInv n d.2.2.1 d.2.2.2) := by
  unfold P7.J6
  exact j5 (_, _, _, _) G.1 M
 rw [Bg (by omega)]
 refine Bb (fun _ => ae) fun hx0 => ?_
 by_cases Y : ports[a] + rate > 1000
 ·simp only [Y, decide_true]; exact ae
 simp only [Y, decide_false]
 unfold P7.J6
 refine .bind (kP hn M W G.1 hpo) ?_
 rintro ⟨L2, A2, way, e⟩ ⟨w1, w2⟩
 dsimp only at w1 w2
 unfold P7.J7
 refine Bb (fun _ => j5 (_, _, _, _) w1 M) fun he => ?_
 dsimp only at he
 obtain ⟨t, ⟨nd, n0, n1, n2⟩, kk, p, x, rfl, hka, hp, hpt, X, hx0', hxm⟩ := w2.resolve_left he
 have hkl := (gs X).1
 have hxkr := M.prt kk _ X
 refine .bind' (.eq (Bd hx) (.bind' (.eq (Bd X) ?_)))
 dsimp only
 rw [Bg (by omega)]
 have aa : (ports.set a (ports[a] + rate))[kk]? = some x := by rw [List.getElem?_set_ne (Ne.symm hka)]; exact X
 refine .bind' (.eq (Bd aa) ?_)
 dsimp only
 rw [Bg (by omega)]
 unfold P7.J8
 refine .bind (fX M W n2) fun st hst => ?_
 obtain ⟨s1, s2, s3⟩ := hst
 dsimp only at s1 s2 s3
 refine j5 (_, _, _, _) w1 ⟨by dsimp only; rw [s1]; exact M.rl, by simp [M.pl], s2, fun k y Z => ?_, fun v => ?_⟩
 ·dsimp only at Z
  rw [Ds] at Z
  split at Z
  ·simp at Z; omega
  ·rw [Ds] at Z
   split at Z
   ·simp at Z; omega
   ·exact M.prt k y Z
 ·have w1 : (wp n v)[a]? = some (ind n.Ports[a].Node v) := by unfold wp; rw [List.getElem?_map, ab]; rfl
  have w2 : (wp n v)[kk]? = some (ind p.Node v) := by unfold wp; rw [List.getElem?_map, hp]; rfl
  dsimp only
  rw [Gt w2 aa, Gt w1 hx, s3 v, n0, n1, hpt]
  have := M.bal v
  have e1 : ind n.Ports[a].Node v * (ports[a] + rate - ports[a]) = rate * ind n.Ports[a].Node v := by rw [show ports[a] + rate - ports[a] = rate by omega, Int.mul_comm]
  have e2 : ind t v * (x - rate - x) = -(rate * ind t v) := by rw [show x - rate - x = -rate by omega, Int.mul_neg, Int.mul_comm]
  rw [e1, e2]
  omega
theorem iW {n : Network} (X : NetOk n) {s : Xq} (M : SrcOk s) : Ok (P7 s n) fun r => PlanOk n r.1 ∧ SrcOk r.2 := by
 have h1 := X.segs1; have h2 := X.ports1; have h3 := X.sts1
 unfold P7
 refine .bind' (.mk n.Segments.length rfl (by omega) (.bind' (.mk n.Ports.length rfl (by omega) ?_)))
 unfold P7.J1
 refine .bind (Q := fun d : List Int × Int × List Bool => SrcOk ⟨d.1, d.2.1⟩ ∧ d.2.2.length = n.Stations.length) ?_ ?_
 ·refine .loop (fun st : List Int × Int × List Bool × Int => SrcOk ⟨st.1, st.2.1⟩ ∧ (st.2.2.1.length : Int) = st.2.2.2 ∧ st.2.2.1.length ≤ n.Stations.length) (fun st => n.Stations.length - st.2.2.1.length) ⟨M, by simp, by simp⟩ (by dsimp only; omega) ?_
  rintro ⟨L_, At, pumps, i⟩ ⟨Y, i2, i3⟩
  dsimp only at Y i2 i3
  unfold P7.B20
  refine Bb (fun h0 => ?_) fun h0 => .pure ⟨Y, by dsimp only at h0 ⊢; omega⟩
  dsimp only at h0 ⊢
  refine .bind (Jc Y (by decide) (by decide)) fun r D => .bind' (.app (by simp; omega) (.pure ?_))
  rw [Bg (by omega)]
  exact ⟨⟨D.1, by simp; omega, by simp; omega⟩, by simp; omega⟩
 rintro ⟨L_, At, pumps⟩ ⟨Y, i2⟩
 dsimp only at Y i2
 unfold P7.J2
 refine .bind (Jc Y (by decide) (by decide)) fun r51 h51 => .bind (Jc h51.1 (by decide) (by decide)) fun r1787 O => ?_
 refine .bind (Wv X O.1 O.2 ⟨by simp, by simp, fun k r s D M => ?_, fun k x hx => ?_, fun v => ?_⟩) ?_
 ·have := mg D
  simp at this
  have hc := (X.segs k s M).cap
  exact ⟨by omega, fun _ => by omega, fun _ => by omega⟩
 ·have := mg hx
  simp at this
  omega
 ·rw [L4, L4]; omega
 rintro ⟨L2, A2, rates, ports⟩ ⟨j1, G⟩
 dsimp only at j1 G
 have hr0 : ∀ (k : Nat) (r : Int), rates[k]? = some r → -1000000 ≤ r ∧ r ≤ 1000000 := fun k r D => by
  have hk := (gs D).1
  have M : n.Segments[k]? = some _ := gq (by have := G.rl; omega)
  have := (G.rng k r _ D M).rng
  omega
 unfold P7.J3
 refine Cc (fun _ => ?_) fun _ => .pure ⟨⟨G.rl, G.pl, i2, fun k r s D M => (G.rng k r s D M).rng, G.prt, G.bal, .inl fun k r s D M => ?_⟩, j1⟩
 ·refine .bind' (.eq (Wx (by dsimp only; have := G.rl; omega) (by dsimp only; have := G.pl; omega) (by dsimp only; omega) hr0 fun k x hx => by have := G.prt k x hx; omega) (.pure ⟨⟨by simp [G.rl], by simp [G.pl], i2, fun k r s D M => ?_, fun k x hx => ?_, fun v => ?_, .inr fun k r s D M => ?_⟩, j1⟩))
  ·dsimp only at D
   rw [List.getElem?_map] at D
   obtain ⟨r', W, rfl⟩ := Option.map_eq_some_iff.1 D
   have := (G.rng k r' s W M).rng
   omega
  ·dsimp only at hx
   rw [List.getElem?_map] at hx
   obtain ⟨r', W, rfl⟩ := Option.map_eq_some_iff.1 hx
   have := G.prt k r' W
   omega
  ·dsimp only
   rw [O9, O9]
   have := G.bal v
   omega
  ·dsimp only at D
   rw [List.getElem?_map] at D
   obtain ⟨r', W, rfl⟩ := Option.map_eq_some_iff.1 D
   have Z := G.rng k r' s W M
   have h6 := (X.segs k s M).ends
   have := Z.up; have := Z.down
   omega
 ·have Z := G.rng k r s D M
  have h6 := (X.segs k s M).ends
  have := Z.up; have := Z.down
  omega
def Mj {n : Nat} (a : Arr Int n) (v : Nat) : Int := a.l.getD v 0
theorem O4 {n : Nat} {a : Arr Int n} {i v : Nat} {x : Int} (hv : v < n) : Mj (a.set i x) v = if i = v then x else Mj a v := by
 unfold Mj Arr.set
 dsimp only
 rw [List.getD_eq_getElem?_getD, List.getD_eq_getElem?_getD, Ds]
 have := a.h
 by_cases h : i = v
 ·rw [if_pos ⟨h, by omega⟩, if_pos h]; rfl
 ·rw [if_neg (fun D => h D.1), if_neg h]
theorem Ka {n : Nat} {a : Arr Int n} {i : Nat} {x : Int} (h : a.l[i]? = some x) : Mj a i = x := by
 unfold Mj; rw [List.getD_eq_getElem?_getD, h]; rfl
theorem Iw {n v : Nat} : Mj (Arr.rep n (0 : Int)) v = 0 := by
 unfold Mj Arr.rep
 dsimp only
 rw [List.getD_eq_getElem?_getD, List.getElem?_replicate]
 split <;> rfl
structure Strm (b : Int) (s : flow_streams) (f : Nat → Int) : Prop where
 come : ∀ v, v < 24 → 0 ≤ Mj s.come v ∧ Mj s.come v ≤ b
 leave : ∀ v, v < 24 → 0 ≤ Mj s.leave v ∧ Mj s.leave v ≤ b
 diff : ∀ v, v < 24 → Mj s.come v - Mj s.leave v = f v
theorem Fg (v : Int) : ind v v = 1 := if_pos rfl
theorem Gh {a v : Int} (h : a ≠ v) : ind a v = 0 := if_neg h
theorem T5 {s : flow_streams} {b : Int} {f : Nat → Int} (h : Strm b s f) (hb : 0 ≤ b ∧ b ≤ 1000000) {D to_ rate : Int} (hf : D < 24) (ht : to_ < 24) (W : -1 ≤ D ∧ -1 ≤ to_)
  (Y : -1000 ≤ rate ∧ rate ≤ 1000) : Ok (Jg s D to_ rate) fun r => Strm (b + 1000) r fun v => f v + (ind to_ v - ind D v) * rate := by
 have X : ∀ (D to_ rate : Int), D < 24 → to_ < 24 → -1 ≤ D ∧ -1 ≤ to_ → 0 ≤ rate ∧ rate ≤ 1000 → Ok (Jg.J1 s (D, to_, rate)) fun r => Strm (b + 1000) r fun v => f v + (ind to_ v - ind D v) * rate := by
  intro D to_ rate hf ht W Y
  have j2 : ∀ (Z : Arr Int 24), (∀ v, v < 24 → 0 ≤ Mj Z v ∧ Mj Z v ≤ b + 1000 ∧ Mj Z v = Mj s.leave v + ind D v * rate) → Ok (Jg.J2 s (D, to_, rate) Z) fun r => Strm (b + 1000) r fun v => f v + (ind to_ v - ind D v) * rate := by
   intro Z G
   unfold Jg.J2
   refine Bb (fun M => ?_) fun M => .pure ?_
   ·dsimp only at M
    obtain ⟨t, rfl⟩ := El M
    have hl := s.come.h
    refine .bind' (.ix t rfl (by omega) ?_)
    have hx : s.come.l[t]? = some s.come.l[t] := gq (by omega)
    have hvx := Ka hx
    have aa := h.come t (by omega)
    dsimp only
    rw [Bg (by omega)]
    refine .pure ⟨fun v hv => ?_, fun v hv => ⟨(G v hv).1, (G v hv).2.1⟩, fun v hv => ?_⟩
    ·have := h.come v hv
     dsimp only
     rw [O4 hv]; split <;> omega
    ·have h1 := h.diff v hv
     have h2 := (G v hv).2.2
     dsimp only
     rw [O4 hv, h2, Int.sub_mul]
     by_cases O : t = v
     ·subst O; rw [if_pos rfl, Fg]; omega
     ·rw [if_neg O, Gh (a := (t : Int)) (by omega)]; omega
   ·dsimp only at M
    refine ⟨fun v hv => ?_, fun v hv => ⟨(G v hv).1, (G v hv).2.1⟩, fun v hv => ?_⟩
    ·have := h.come v hv
     dsimp only; omega
    ·have h1 := h.diff v hv
     have h2 := (G v hv).2.2
     dsimp only
     rw [h2, Int.sub_mul, Gh (a := to_) (by omega)]; omega
  unfold Jg.J1
  refine Bb (fun M => ?_) fun M => ?_
  ·dsimp only at M
   obtain ⟨t, rfl⟩ := El M
   have hl := s.leave.h
   refine .bind' (.ix t rfl (by omega) ?_)
   have hx : s.leave.l[t]? = some s.leave.l[t] := gq (by omega)
   have hvx := Ka hx
   have aa := h.leave t (by omega)
   dsimp only
   rw [Bg (by omega)]
   refine j2 _ fun v hv => ?_
   have := h.leave v hv
   rw [O4 hv]
   by_cases O : t = v
   ·subst O; rw [if_pos rfl, Fg]; omega
   ·rw [if_neg O, Gh (by omega)]; omega
  ·dsimp only at M
   refine j2 _ fun v hv => ?_
   have := h.leave v hv
   rw [Gh (by omega)]; omega
 unfold Jg
 refine Bb (fun M => ?_) fun M => X _ _ _ hf ht W (by omega)
 rw [Bg (by omega)]
 refine (X to_ D (0 - rate) ht hf ⟨W.2, W.1⟩ (by omega)).mono fun r Y => ⟨Y.come, Y.leave, fun v hv => ?_⟩
 rw [Y.diff v hv]
 have : ∀ a b r : Int, (a - b) * (0 - r) = (b - a) * r := fun a b r => by rw [Int.zero_sub, Int.mul_neg, ← Int.neg_mul]; congr 1; omega
 rw [this]
def F3 (n : Network) (p : Plan) (D : List Bool) (j : Nat) : Prop :=
 ∃ (i : Nat) (s : Segment) (r : Int) (f : Nat), n.Segments[i]? = some s ∧ p.Rates[i]? = some r ∧ r ≠ 0 ∧ (Ef s r).2 = (j : Int) ∧ (Ef s r).1 = (f : Int) ∧ D[f]? = some false
def lY (n : Network) (p : Plan) : Prop := ∀ D : List Bool, D.length = n.Nodes.length → (∀ j : Nat, D[j]? = some false → F3 n p D j) → ∀ k : Nat, D[k]? ≠ some false
structure FlowOk (n : Network) (p : Plan) : Prop where
 rl : p.Rates.length = n.Segments.length
 pl : p.Ports.length = n.Ports.length
 ml : p.Pumps.length = n.Stations.length
 rng : ∀ (k : Nat) (r : Int) (s : Segment), p.Rates[k]? = some r → n.Segments[k]? = some s → -1000 ≤ r ∧ r ≤ 1000 ∧ -s.Capacity ≤ r ∧ r ≤ s.Capacity
 prt : ∀ (k : Nat) (x : Int), p.Ports[k]? = some x → -1000 ≤ x ∧ x ≤ 1000
 bal : ∀ v : Nat, v < 24 → Fl (wt n v) p.Rates + Fl (wp n v) p.Ports = 0
 acyc : lY n p
theorem T2 {s : Segment} {r : Int} (G : r ≠ 0) : Ef s r = (s.To, s.From) ∧ r < 0 ∨ Ef s r = (s.From, s.To) ∧ 0 < r := by
 unfold Ef
 by_cases D : r < 0
 ·exact .inl ⟨by rw [if_pos (by simp [D])], D⟩
 ·exact .inr ⟨by rw [if_neg (by simp [D])], by omega⟩
theorem PlanOk.flow {n : Network} {p : Plan} (h : PlanOk n p) : FlowOk n p := by
 refine ⟨h.rl, h.pl, h.ml, h.rng, h.prt, fun v _ => h.bal v, fun D hl i5 => ?_⟩
 rcases h.dir with Y | Y
 ·intro k
  induction k using Nat.strongRecOn with
  | ind k ih =>
   intro X
   have Z := (gs X).1
   obtain ⟨i, s, r, f, hs, hr, O, M, G, hf⟩ := i5 k X
   have := Y i r s hr hs
   refine ih f ?_ hf
   rcases T2 (s := s) O with ⟨he, W⟩ | ⟨he, W⟩ <;> rw [he] at M G <;> dsimp only at M G <;> omega
 ·have : ∀ m k : Nat, D.length - k = m → D[k]? ≠ some false := by
   intro m
   induction m using Nat.strongRecOn with
   | ind m ih =>
    intro k hm X
    have Z := (gs X).1
    obtain ⟨i, s, r, f, hs, hr, O, M, G, hf⟩ := i5 k X
    have hfl := (gs hf).1
    have := Y i r s hr hs
    refine ih (D.length - f) ?_ f rfl hf
    rcases T2 (s := s) O with ⟨he, W⟩ | ⟨he, W⟩ <;> rw [he] at M G <;> dsimp only at M G <;> omega
  exact fun k => this _ k rfl
theorem eX {n : Network} (M : NetG n) {p : Plan} (h : FlowOk n p) : Ok (Jd n p) fun r => Strm 14000 r fun _ => 0 := by
 have h1 := M.nodes; have h2 := M.segs1; have Y := M.ports1; have Z := h.rl; have h5 := h.pl
 unfold Jd
 refine .bind (.forS (fun k st => Strm (1000 * k) ⟨st.1, st.2⟩ fun v => Fl (wt n v) (p.Rates.take k)) ⟨fun v hv => ?_, fun v hv => ?_, fun v hv => ?_⟩ ?_ fun st h => h) ?_
 ·dsimp only; rw [Iw]; omega
 ·dsimp only; rw [Iw]; omega
 ·dsimp only; rw [Iw]; simp [Kc]
 ·intro k s st G hi
  have W := (gs G).1
  have O : p.Rates[k]? = some p.Rates[k] := gq (by omega)
  have X := h.rng k _ s O G
  have he := (M.segs k s G).ends
  unfold Jd.B4
  refine .bind' (.ix k rfl (by omega) (.bind (T5 hi (by omega) (by omega) (by omega) (by omega) (by dsimp only; omega)) fun r D => .pure ?_))
  refine ⟨fun v hv => ?_, fun v hv => ?_, fun v hv => ?_⟩
  ·have := D.come v hv; dsimp only; omega
  ·have := D.leave v hv; dsimp only; omega
  ·have := D.diff v hv
   dsimp only at this ⊢
   rw [this, F6 (w := wt n v) (a := ind s.To v - ind s.From v) (by unfold wt; rw [List.getElem?_map, G]; rfl) O]
 ·intro st hi
  rw [List.take_of_length_le (by omega)] at hi
  unfold Jd.J1
  refine .bind (.forS (fun k st => Strm (8000 + 1000 * k) ⟨st.1, st.2⟩ fun v => Fl (wt n v) p.Rates + Fl (wp n v) (p.Ports.take k)) ⟨fun v hv => ?_, fun v hv => ?_, fun v hv => ?_⟩ ?_ fun st h => h) ?_
  ·have := hi.come v hv; dsimp only at this ⊢; omega
  ·have := hi.leave v hv; dsimp only at this ⊢; omega
  ·have := hi.diff v hv; dsimp only at this ⊢; rw [this]; simp [Kc]
  ·intro k s st G hi
   have W := (gs G).1
   have O : p.Ports[k]? = some p.Ports[k] := gq (by omega)
   have X := h.prt k _ O
   have he := (M.ports k s G)
   unfold Jd.B3
   refine .bind' (.ix k rfl (by omega) (.bind (T5 hi (by omega) (by omega) (by omega) (by omega) (by dsimp only; omega)) fun r D => .pure ?_))
   refine ⟨fun v hv => ?_, fun v hv => ?_, fun v hv => ?_⟩
   ·have := D.come v hv; dsimp only; omega
   ·have := D.leave v hv; dsimp only; omega
   ·have := D.diff v hv
    dsimp only at this ⊢
    rw [this, F6 (w := wp n v) (a := ind s.Node v) (by unfold wp; rw [List.getElem?_map, G]; rfl) O, Gh (a := -1) (by omega), Int.sub_zero]; omega
  ·intro st hi
   rw [List.take_of_length_le (by omega)] at hi
   unfold Jd.J2
   refine .pure ⟨fun v hv => ?_, fun v hv => ?_, fun v hv => ?_⟩
   ·have := hi.come v hv; dsimp only at this ⊢; omega
   ·have := hi.leave v hv; dsimp only at this ⊢; omega
   ·have := hi.diff v hv; rw [h.bal v hv] at this; exact this
def U0 : List Bool → Nat
 | [] => 0
 | b :: l => (if b = true then 1 else 0) + U0 l
theorem Po : ∀ l : List Bool, U0 l ≤ l.length
 | [] => Nat.le_refl _
 | b :: l => by have := Po l; cases b <;> simp [U0] <;> omega
theorem Ul (n : Nat) : U0 (List.replicate n false) = 0 := by induction n with | zero => rfl | succ n ih => simp [List.replicate_succ, U0, ih]
theorem Uk : ∀ {l : List Bool} {k : Nat}, l[k]? = some false → U0 (l.set k true) = U0 l + 1
 | [], k, h => by simp at h
 | b :: l, 0, h => by simp at h; subst h; simp [U0]; omega
 | b :: l, k + 1, h => by simp at h; simp [U0, Uk h]; omega
theorem Um : ∀ {l : List Bool}, (∀ k : Nat, l[k]? ≠ some false) → U0 l = l.length
 | [], _ => rfl
 | b :: l, h => by
  have D := h 0
  have := Um (l := l) fun k => by have := h (k + 1); simpa using this
  cases b <;> simp [U0, this] at D ⊢; omega
theorem Y0 {n : Network} (hn : NetG n) {p : Plan} (h : FlowOk n p) : Ok (Py n p) fun r => r.length = n.Nodes.length := by
 have h1 := hn.nodes; have h2 := hn.segs1; have h4 := h.rl
 unfold Py
 refine .bind' (.mk n.Nodes.length rfl (by omega) ?_)
 refine .bind (Q := fun r : List Int => r.length = n.Nodes.length) ?_ fun r hr => .pure hr
 refine .loop (fun st : List Int × List Bool × Int => st.2.1.length = n.Nodes.length ∧ st.1.length = U0 st.2.1 ∧ 0 ≤ st.2.2 ∧ st.2.2 ≤ (n.Nodes.length : Int) ∧ ∀ j : Nat, (j : Int) < st.2.2 → st.2.1[j]? = some false → F3 n p st.2.1 j)
  (fun st => (n.Nodes.length - U0 st.2.1) * 10 + (n.Nodes.length - st.2.2.toNat)) ⟨by simp, by simp [Ul], by simp, by simp, fun j M => by dsimp only at M; omega⟩ (by dsimp only; rw [Ul]; omega) ?_
 rintro ⟨out, D, k⟩ ⟨Z, i2, i3, i4, i5⟩
 dsimp only at Z i2 i3 i4 i5
 have hc := Po D
 unfold Py.B2
 refine Bb (fun h0 => ?_) fun h0 => ?_
 ·dsimp only at h0
  obtain ⟨G, rfl⟩ := El i3
  have hkl : G < D.length := by omega
  have hx : D[G]? = some D[G] := gq hkl
  have next : F3 n p D G ∨ D[G] = true → Ok (Py.J3 (out, D, (G : Int))) (Sum.elim (fun st => (st.2.1.length = n.Nodes.length ∧ st.1.length = U0 st.2.1 ∧ 0 ≤ st.2.2 ∧ st.2.2 ≤ (n.Nodes.length : Int) ∧ ∀ j : Nat, (j : Int) < st.2.2 → st.2.1[j]? = some false → F3 n p st.2.1 j) ∧
    (n.Nodes.length - U0 st.2.1) * 10 + (n.Nodes.length - st.2.2.toNat) < (n.Nodes.length - U0 D) * 10 + (n.Nodes.length - (G : Int).toNat)) fun r : List Int => r.length = n.Nodes.length) := by
   intro hb
   unfold Py.J3
   dsimp only
   rw [Bg (by omega)]
   refine .pure ⟨⟨Z, i2, by dsimp only; omega, by dsimp only; omega, fun j M hf => ?_⟩, by dsimp only; omega⟩
   dsimp only at M hf
   by_cases hjk : j = G
   ·subst hjk
    rcases hb with hb | hb
    ·exact hb
    ·rw [hx, hb] at hf; cases hf
   ·exact i5 j (by omega) hf
  refine .bind' (.eq (Bd hx) (A9 (fun ht => next (.inr ht)) fun ht => ?_))
  dsimp only at ht
  refine .bind' (.forL (fun _ _ => True) (fun d => d = (out, D, (G : Int)) ∧ F3 n p D G) trivial ?_ ?_ ?_)
  ·intro i s _ hs _
   have hil := (gs hs).1
   have hr : p.Rates[i]? = some p.Rates[i] := gq (by omega)
   have he := (hn.segs i s hs).ends
   have no : Ok (Py.J6 (out, D, (G : Int)) false) (Sum.elim (fun _ : Unit => True) fun d => d = (out, D, (G : Int)) ∧ F3 n p D G) := by
    unfold Py.J6
    exact .pure trivial
   unfold Py.B5
   refine .bind' (.eq (Bd hr) (Cj (fun X => Cc (fun Y => ?_) fun _ => no) fun _ => no))
   dsimp only at X Y ⊢
   have hfr : 0 ≤ (Ef s p.Rates[i]).1 ∧ (Ef s p.Rates[i]).1 < (n.Nodes.length : Int) := by
    unfold Ef
    split <;> dsimp only <;> omega
   refine .bind' (.ix' hfr.1 (by omega) fun f x hf W => ?_)
   unfold Py.J6
   refine Dd (fun hx0 => .pure ⟨rfl, i, s, p.Rates[i], f, hs, hr, X, Y, hf, by dsimp only at hx0 W; rw [W, hx0]⟩) fun _ => .pure trivial
  ·intro _ _
   simp only [Sum.elim_inl]
   unfold Py.J4
   refine .bind' (.app (by simp; omega) ?_)
   unfold Py.J3
   dsimp only
   rw [Bg (by omega)]
   have hx' : D[G]? = some false := by rw [hx, ht]
   have O := Uk hx'
   have hcl := Po (D.set G true)
   simp at hcl
   refine .pure ⟨⟨by simp [Z], by simp [O, i2], by simp, by dsimp only; omega, fun j M => by dsimp only at M; omega⟩, ?_⟩
   dsimp only
   rw [O]; omega
  ·rintro _ ⟨rfl, hb⟩
   exact next (.inl hb)
 ·dsimp only at h0
  have hk : k = (n.Nodes.length : Int) := by omega
  subst hk
  have all := h.acyc D Z fun j M => i5 j (by have := (gs M).1; omega) M
  exact .pure (by simp only [Sum.elim_inr]; rw [i2, Um all, Z])
theorem Wy {n : Network} (D : NetG n) {p : Plan} (h : FlowOk n p) : Gj n p = some 0 := by
 have h1 := D.nodes; have h2 := D.segs1; have h3 := D.ports1; have O := h.rl; have W := h.pl; have X := h.ml; have h7 := D.sts1
 have : Ok (Gj n p) fun r => r = 0 := by
  unfold Gj
  refine .bind' (.eq (D.check) (Cj (fun h => absurd rfl h) fun _ => A9 (fun hb => ?_) fun _ => ?_))
  ·simp [O, W, X] at hb
  refine .bind' (.forL (fun _ _ => True) (fun _ => False) trivial ?_ ?_ fun _ h => h.elim)
  ·intro k s _ M _
   have Y := (gs M).1
   have G : p.Rates[k]? = some p.Rates[k] := gq (by omega)
   have Z := h.rng k _ s G M
   have hc := (D.segs k s M).cap
   unfold Gj.B2
   refine .bind' (.eq (Bd G) (Dd (fun hb => ?_) fun _ => .pure trivial))
   unfold M0 at hb
   rw [Bg (by omega)] at hb
   simp at hb
   omega
  ·intro _ _
   simp only [Sum.elim_inl]
   unfold Gj.J1
   refine .bind' (.eq (Gf (P := fun x => Nh x) fun _ _ _ => rfl) ?_)
   rw [Fq]
   ·refine A9 (fun h => by cases h) fun _ => .bind (eX D h) fun r G => ?_
    have he : r.come = r.leave := by
     refine Arr.ext' (List.ext_getElem (by rw [r.come.h, r.leave.h]) fun i a b => ?_)
     have := G.diff i (by rw [← r.come.h]; exact a)
     rw [Ka (gq a), Ka (gq b)] at this
     omega
    refine Dd (fun hb => ?_) fun _ => .bind (Y0 D h) fun r G => Bb (fun hb => ?_) fun _ => .pure rfl
    ·simp [he] at hb
    ·omega
   ·intro k x hx
    have := h.prt k x hx
    unfold Nh M0
    rw [Bg (by omega)]
    simp; omega
 obtain ⟨r, h, rfl⟩ := this
 exact h
theorem Hf {n : Network} (D : NetOk n) {p : Plan} (h : FlowOk n p) : Gj n p = some 0 := Wy D.g h
theorem Si {n : Network} (D : NetOk n) {p : Plan} (h : PlanOk n p) : Gj n p = some 0 := Hf D h.flow
end Go.Proofs.YtmaamhgjeampmaaGreat
