/- Plain proofs. No condition. -/
import Derived.Test.YtaoclefkknloiaaGreatZwB2
import Derived.Test.YtaoclefkknloiaaGreatZwD
set_option maxRecDepth 100000
namespace Go.Aw
set_option linter.unusedVariables false
set_option linter.defProp false
set_option linter.unusedSimpArgs false
def Ok {α : Type} (o : Option α) (P : α → Prop) : Prop := ∃ r, o = some r ∧ P r
section
variable {α β S B : Type}
theorem Ok.pure {x : α} {P : α → Prop} (h : P x) : Ok (some x) P := ⟨x, rfl, h⟩
theorem kO {o : Option α} {v : α} (h : Ok o fun r => r = v) : o = some v := by obtain ⟨r, h, rfl⟩ := h; exact h
theorem Ok.get {o : Option α} {P : α → Prop} (h : Ok o P) : ∃ r, o = some r ∧ P r := h
theorem Ok.mono {o : Option α} {P Q : α → Prop} (h : Ok o P) (k : ∀ x, P x → Q x) : Ok o Q := let ⟨r, h1, h2⟩ := h; ⟨r, h1, k r h2⟩
theorem Ok.bind {o : Option α} {f : α → Option β} {P : β → Prop} {Q : α → Prop} (h : Ok o Q) (k : ∀ x, Q x → Ok (f x) P) : Ok (o.bind f) P := by
 obtain ⟨r, rfl, G⟩ := h; exact k r G
theorem Ok.bind' {o : Option α} {f : α → Option β} {P : β → Prop} (h : Ok o fun x => Ok (f x) P) : Ok (o.bind f) P := h.bind fun _ k => k
theorem Ok.eq {o : Option α} {P : α → Prop} {x : α} (h : o = some x) (k : P x) : Ok o P := ⟨x, h, k⟩
theorem oY {c : Prop} [Decidable c] {a b : Option α} {P : α → Prop} (h1 : c → Ok a P) (h2 : ¬ c → Ok b P) : Ok (if c then a else b) P := by
 split <;> simp_all
theorem Ok.map {o : Option α} {f : α → β} {P : β → Prop} (h : Ok o fun x => P (f x)) : Ok (o.map f) P := by
 obtain ⟨r, rfl, G⟩ := h; exact ⟨_, rfl, G⟩
theorem Ok.chk {p : Prop} [Decidable p] {P : Unit → Prop} (h : p) (k : P ()) : Ok (chk p) P := ⟨(), oU h, k⟩
theorem Ok.ix {l : List α} {i : Int} {P : Nat × α → Prop} (k : Nat) (hi : i = (k : Int)) (G : k < l.length) (h : P (k, l[k])) : Ok (ix l i) P := by
 subst hi; exact ⟨_, Bd (gq G), h⟩
theorem Ok.ix' {l : List α} {i : Int} {P : Nat × α → Prop} (M : 0 ≤ i) (W : i < (l.length : Int)) (h : ∀ (k : Nat) (x : α), i = (k : Int) → l[k]? = some x → P (k, x)) : Ok (Aw.ix l i) P := by
 obtain ⟨k, rfl⟩ : ∃ k : Nat, i = (k : Int) := ⟨i.toNat, by omega⟩
 have G : k < l.length := by omega
 exact ⟨_, Bd (gq G), h k _ rfl (gq G)⟩
theorem Ok.app {l m : List α} {P : List α → Prop} (hl : l.length + m.length ≤ 68719476736) (h : P (l ++ m)) : Ok (Cy l m) P := ⟨_, Ga hl, h⟩
theorem Ok.mk {n : Int} {z : α} {P : List α → Prop} (m : Nat) (G : n = (m : Int)) (hl : m ≤ 68719476736) (h : P (List.replicate m z)) : Ok (Su n z) P := by
 subst G; exact ⟨_, oL z hl, h⟩
theorem Ok.quo {a b : Int} {P : Int → Prop} (hb : b ≠ 0) (h : P (wr (a.tdiv b))) : Ok (pV a b) P := ⟨_, if_pos hb, h⟩
theorem Ok.rem {a b : Int} {P : Int → Prop} (hb : b ≠ 0) (h : P (a.tmod b)) : Ok (fB a b) P := ⟨_, if_pos hb, h⟩
theorem Ok.sub {l : List α} {a b : Int} {P : List α → Prop} (x y : Nat) (G : a = (x : Int)) (hb : b = (y : Int)) (M : x ≤ y) (hl : y ≤ l.length) (h : P ((l.drop x).take (y - x))) : Ok (Yc l a b) P := by
 subst G; subst hb
 exact ⟨_, if_pos ⟨by omega, by omega, by omega⟩, by simpa using h⟩
theorem M7 {f : Nat → α → S → Option S} (I : Nat → S → Prop) (l : List α) : ∀ (m : List α) (k : Nat), l.drop k = m → ∀ st, I k st →
  (∀ k x st, l[k]? = some x → I k st → Ok (f k x st) (I (k + 1))) → k ≤ l.length → Ok (forS f k m st) (I l.length)
 | [], k, hm, st, hi, _, hk => by
  have : l.length - k = 0 := by simpa using congrArg List.length hm
  have : k = l.length := by omega
  subst this; exact .pure hi
 | x :: m, k, hm, st, hi, hf, hk => by
  have M : l[k]? = some x := by have := congrArg (fun z => z[0]?) hm; simpa using this
  have G : l.drop (k + 1) = m := by have := congrArg (List.drop 1) hm; simpa [Nat.add_comm] using this
  obtain ⟨Z, W, Y⟩ := hf k x st M hi
  simp only [forS, W]
  exact M7 I l m (k + 1) G Z Y hf (by have := (gs M).1; omega)
theorem Ok.forS {f : Nat → α → S → Option S} {l : List α} {st : S} {P : S → Prop} (I : Nat → S → Prop) (G : I 0 st)
  (hf : ∀ k x st, l[k]? = some x → I k st → Ok (f k x st) (I (k + 1))) (M : ∀ st, I l.length st → P st) : Ok (forS f 0 l st) P :=
 (M7 I l l 0 rfl st G hf (Nat.zero_le _)).mono M
theorem M8 {f : Nat → α → S → Option (S ⊕ B)} (I : Nat → S → Prop) (R : B → Prop) (l : List α) : ∀ (m : List α) (k : Nat), l.drop k = m → ∀ st, I k st →
  (∀ k x st, l[k]? = some x → I k st → Ok (f k x st) (Sum.elim (fun s => I (k + 1) s) R)) → k ≤ l.length → Ok (forL f k m st) (Sum.elim (fun s => I l.length s) R)
 | [], k, hm, st, hi, _, hk => by
  have : l.length - k = 0 := by simpa using congrArg List.length hm
  have : k = l.length := by omega
  subst this; exact .pure hi
 | x :: m, k, hm, st, hi, hf, hk => by
  have Z : l[k]? = some x := by have := congrArg (fun z => z[0]?) hm; simpa using this
  have G : l.drop (k + 1) = m := by have := congrArg (List.drop 1) hm; simpa [Nat.add_comm] using this
  obtain ⟨M, W, Y⟩ := hf k x st Z hi
  cases M with
  | inl M =>
   simp only [forL, W]
   exact M8 I R l m (k + 1) G M Y hf (by have := (gs Z).1; omega)
  | inr b => simp only [forL, W]; exact .pure Y
theorem Ok.forL {f : Nat → α → S → Option (S ⊕ B)} {l : List α} {st : S} {P : S ⊕ B → Prop} (I : Nat → S → Prop) (R : B → Prop) (G : I 0 st)
  (hf : ∀ k x st, l[k]? = some x → I k st → Ok (f k x st) (Sum.elim (fun s => I (k + 1) s) R)) (M : ∀ st, I l.length st → P (.inl st)) (W : ∀ b, R b → P (.inr b)) : Ok (forL f 0 l st) P :=
 (M8 I R l l 0 rfl st G hf (Nat.zero_le _)).mono fun x h => by cases x with | inl s => exact M s h | inr b => exact W b h
theorem M9 {f : Nat → S → Option S} (I : Nat → S → Prop) (n : Nat) : ∀ (m k : Nat), k + m = n → ∀ st, I k st →
  (∀ k st, k < n → I k st → Ok (f k st) (I (k + 1))) → Ok (forJ f k m st) (I n)
 | 0, k, hm, st, hi, _ => by have : k = n := (by omega); subst this; exact .pure hi
 | m + 1, k, hm, st, hi, hf => by
  obtain ⟨W, G, M⟩ := hf k st (by omega) hi
  simp only [forJ, G]
  exact M9 I n m (k + 1) (by omega) W M hf
theorem Ok.forJ {f : Nat → S → Option S} {n : Nat} {st : S} {P : S → Prop} (I : Nat → S → Prop) (G : I 0 st)
  (hf : ∀ k st, k < n → I k st → Ok (f k st) (I (k + 1))) (M : ∀ st, I n st → P st) : Ok (forJ f 0 n st) P :=
 (M9 I n n 0 (by omega) st G hf).mono M
theorem Na {f : Nat → S → Option (S ⊕ B)} (I : Nat → S → Prop) (R : B → Prop) (n : Nat) : ∀ (m k : Nat), k + m = n → ∀ st, I k st →
  (∀ k st, k < n → I k st → Ok (f k st) (Sum.elim (fun s => I (k + 1) s) R)) → Ok (forI f k m st) (Sum.elim (fun s => I n s) R)
 | 0, k, hm, st, hi, _ => by have : k = n := (by omega); subst this; exact .pure hi
 | m + 1, k, hm, st, hi, hf => by
  obtain ⟨G, M, W⟩ := hf k st (by omega) hi
  cases G with
  | inl G =>
   simp only [forI, M]
   exact Na I R n m (k + 1) (by omega) G W hf
  | inr b => simp only [forI, M]; exact .pure W
theorem Ok.forI {f : Nat → S → Option (S ⊕ B)} {n : Nat} {st : S} {P : S ⊕ B → Prop} (I : Nat → S → Prop) (R : B → Prop) (G : I 0 st)
  (hf : ∀ k st, k < n → I k st → Ok (f k st) (Sum.elim (fun s => I (k + 1) s) R)) (M : ∀ st, I n st → P (.inl st)) (W : ∀ b, R b → P (.inr b)) : Ok (forI f 0 n st) P :=
 (Na I R n n 0 (by omega) st G hf).mono fun x h => by cases x with | inl s => exact M s h | inr b => exact W b h
theorem M6 {f : S → Option (S ⊕ B)} {P : B → Prop} (I : S → Prop) (μ : S → Nat) (hf : ∀ st, I st → Ok (f st) (Sum.elim (fun s => I s ∧ μ s < μ st) P)) :
  ∀ (n : Nat) (st : S), I st → μ st < n → Ok (D7 f n st) P
 | 0, st, _, h => absurd h (Nat.not_lt_zero _)
 | n + 1, st, hi, h => by
  obtain ⟨r, M, G⟩ := hf st hi
  cases r with
  | inl s =>
   simp only [D7, M]
   exact M6 I μ hf n s G.1 (by have := G.2; omega)
  | inr b => simp only [D7, M]; exact .pure G
theorem Ok.loop {f : S → Option (S ⊕ B)} {P : B → Prop} {st : S} (I : S → Prop) (μ : S → Nat) (G : I st) (M : μ st < 18446744073709551616)
  (hf : ∀ st, I st → Ok (f st) (Sum.elim (fun s => I s ∧ μ s < μ st) P)) : Ok (D7 f Gz st) P :=
 M6 I μ hf _ st G M
end
def Gr : Li → Li → Int
 | w :: ws, x :: xs => w * x + Gr ws xs
 | _, _ => 0
theorem Kl (w : Li) : Gr w [] = 0 := by cases w <;> rfl
theorem Xm (w : Li) (n : Nat) : Gr w (List.replicate n 0) = 0 := by
 induction n generalizing w with
 | zero => exact Kl w
 | succ n ih => cases w with
  | nil => rfl
  | cons a w => simp [List.replicate_succ, Gr, ih]
theorem V6 {w l : Li} {k : Nat} {a x y : Int} (G : w[k]? = some a) (hl : l[k]? = some x) : Gr w (l.set k y) = Gr w l + a * (y - x) := by
 induction w generalizing l k with
 | nil => simp at G
 | cons b w ih =>
  cases l with
  | nil => simp at hl
  | cons z l =>
   cases k with
   | zero =>
    simp at G hl
    subst G; subst hl
    simp only [List.set_cons_zero, Gr, Int.mul_sub]; omega
   | succ k =>
    simp at G hl
    simp only [List.set_cons_succ, Gr, ih G hl]; omega
theorem aG (w l : Li) : Gr w (l.map fun x => -x) = -Gr w l := by
 induction w generalizing l with
 | nil => rfl
 | cons b w ih =>
  cases l with
  | nil => rfl
  | cons z l => simp only [List.map_cons, Gr, ih, Int.mul_neg]; omega
theorem Gb {w l : Li} {k : Nat} {a x : Int} (G : w[k]? = some a) (hl : l[k]? = some x) : Gr w (l.take (k + 1)) = Gr w (l.take k) + a * x := by
 induction w generalizing l k with
 | nil => simp at G
 | cons b w ih =>
  cases l with
  | nil => simp at hl
  | cons z l =>
   cases k with
   | zero => simp at G hl; subst G; subst hl; simp [Gr, Kl]
   | succ k =>
    simp at G hl
    simp only [List.take_succ_cons, Gr, ih G hl]; omega
theorem E2 {α : Type} {l : List α} {k i : Nat} {x : α} : (l.set k x)[i]? = if k = i ∧ i < l.length then some x else l[i]? := by
 rw [List.getElem?_set]
 by_cases h : k = i
 ·subst h
  by_cases G : k < l.length
  ·simp [G]
  ·simp [G]
 ·simp [h]
theorem Ep {a b : Nat} (h : some (a : Int) = some (b : Int)) : a = b := Int.ofNat.inj (Option.some.inj h)
inductive Rep (u : List Int) : Nat → Nat → Nat → Prop
 | root {k : Nat} : u[k]? = some (k : Int) → Rep u 0 k k
 | step {k j m r : Nat} : u[k]? = some (j : Int) → k ≠ j → Rep u m j r → Rep u (m + 1) k r
theorem Rep.det {u : Li} {m k r : Nat} (h : Rep u m k r) : ∀ {M r' : Nat}, Rep u M k r' → m = M ∧ r = r' := by
 induction h with
 | root h =>
  intro M r' W
  cases W with
  | root _ => exact ⟨rfl, rfl⟩
  | step h1 h2 _ => rw [h] at h1; have := Ep h1; omega
 | step h1 h2 h3 ih =>
  intro M r' W
  cases W with
  | root h => rw [h] at h1; have := Ep h1; omega
  | step G h5 h6 =>
   rw [h1] at G; have G := Ep G
   subst G
   obtain ⟨rfl, rfl⟩ := ih h6
   exact ⟨rfl, rfl⟩
theorem cE {u : Li} {k j i : Nat} (Y : u[k]? = some (j : Int)) (hne : k ≠ j) (hj : u[j]? = some (i : Int)) :
  ∀ (m x r : Nat), Rep u m x r → ∃ m', m' ≤ m ∧ Rep (u.set k (i : Int)) m' x r := by
 intro m
 induction m using Nat.strongRecOn with
 | ind m ih =>
  intro x r h
  have Z : k < u.length := (gs Y).1
  cases h with
  | root h =>
   refine ⟨0, Nat.le_refl _, .root ?_⟩
   rw [List.getElem?_set]
   by_cases hx : k = x
   ·subst hx; rw [h] at Y; have := Ep Y; omega
   ·simp [hx, h]
  | @step _ y m' _ W h2 h3 =>
   by_cases hx : k = x
   ·subst hx
    rw [Y] at W; have W := Ep W
    subst W
    cases h3 with
    | root M =>
     rw [hj] at M; have M := Ep M
     subst M
     obtain ⟨m2, aa, G⟩ := ih 0 (by omega) i i (.root hj)
     have : m2 = 0 := by omega
     subst this
     exact ⟨1, by omega, .step (by simp [Z]) h2 G⟩
    | @step _ z m'' _ M h5 h6 =>
     rw [hj] at M; have M := Ep M
     subst M
     have hki : k ≠ i := by
      rintro rfl
      have := (Rep.det h6 (.step Y hne (.step hj h5 h6))).1
      omega
     obtain ⟨m2, aa, G⟩ := ih m'' (by omega) i r h6
     exact ⟨m2 + 1, by omega, .step (by simp [Z]) hki G⟩
   ·obtain ⟨m2, aa, G⟩ := ih m' (by omega) y r h3
    exact ⟨m2 + 1, by omega, .step (by rw [List.getElem?_set]; simp [hx, W]) h2 G⟩
structure Uni (n : Nat) (u : List Int) (d : Nat) (ρ : Nat → Nat) : Prop where
 len : u.length = n
 lt : ∀ k, k < n → ρ k < n
 rep : ∀ k, k < n → ∃ m, m ≤ d ∧ Rep u m k (ρ k)
theorem Uni.at_ {n d : Nat} {u : Li} {ρ : Nat → Nat} (h : Uni n u d ρ) {k : Nat} (W : k < n) : ∃ j : Nat, u[k]? = some (j : Int) ∧ j < n ∧ ρ j = ρ k := by
 obtain ⟨m, _, Y⟩ := h.rep k W
 generalize Z : ρ k = r at Y
 cases Y with
 | root h1 => exact ⟨k, h1, W, Z⟩
 | @step _ j _ _ h1 h2 h3 =>
  have M : j < n := by
   rw [← h.len]
   cases h3 with
   | root h => exact (gs h).1
   | step h _ _ => exact (gs h).1
  refine ⟨j, h1, M, ?_⟩
  obtain ⟨m', _, G⟩ := h.rep j M
  exact (G.det h3).2
theorem Uni.step {n d : Nat} {u : Li} {ρ : Nat → Nat} (h : Uni n u d ρ) {k j i m : Nat} (Z : u[k]? = some (j : Int)) (hne : k ≠ j) (W : u[j]? = some (i : Int)) (hr : Rep u m k (ρ k)) :
  ∃ m', m' < m ∧ Rep (u.set k (i : Int)) m' i (ρ i) ∧ ρ i = ρ k := by
 have hj' : j < n := by rw [← h.len]; exact (gs W).1
 have hk' : k < n := by rw [← h.len]; exact (gs Z).1
 obtain ⟨y, e1, hy, e2⟩ := h.at_ hj'
 obtain ⟨y2, e3, hy2, e4⟩ := h.at_ hk'
 rw [W] at e1; have e1 := Ep e1; subst e1
 rw [Z] at e3; have e3 := Ep e3; subst e3
 have M : ρ i = ρ k := by rw [e2, e4]
 generalize ρ k = r at hr M
 cases hr with
 | root Y => rw [Y] at Z; have := Ep Z; omega
 | @step _ y m1 _ Y h2 h3 =>
  rw [Z] at Y; have Y := Ep Y
  subst Y
  have : ∃ m2, m2 ≤ m1 ∧ Rep u m2 i r := by
   cases h3 with
   | root G => rw [W] at G; have G := Ep G; exact ⟨0, by omega, by rw [G]; rw [G] at W; exact .root W⟩
   | step G h5 h6 => rw [W] at G; have G := Ep G; subst G; exact ⟨_, by omega, h6⟩
  obtain ⟨m2, G, h5⟩ := this
  obtain ⟨m3, h6, h7⟩ := cE Z hne W m2 i _ h5
  exact ⟨m3, by omega, by rw [M]; exact h7, M⟩
inductive Conn (R : Nat → Nat → Prop) : Nat → Nat → Prop
 | refl (x : Nat) : Conn R x x
 | edge {x y : Nat} : R x y → Conn R x y
 | symm {x y : Nat} : Conn R x y → Conn R y x
 | trans {x y z : Nat} : Conn R x y → Conn R y z → Conn R x z
theorem Conn.mono {R R' : Nat → Nat → Prop} (h : ∀ x y, R x y → Conn R' x y) {x y : Nat} (c : Conn R x y) : Conn R' x y := by
 induction c with
 | refl x => exact .refl x
 | edge e => exact h _ _ e
 | symm _ ih => exact ih.symm
 | trans _ _ i1 i2 => exact i1.trans i2
end Go.Aw
namespace Go.Proofs.YtaoclefkknloiaaGreat
set_option linter.unusedVariables false
set_option linter.defProp false
set_option linter.unusedSimpArgs false
open Go.Aw
abbrev Yb := KS
structure SrcOk (s : Yb) : Prop where
 at0 : 0 ≤ s.At
 at1 : s.At ≤ (s.L_.length : Int)
 len : s.L_.length ≤ 2000
theorem Bf {α : Type} {c : Prop} [Decidable c] {a b : Option α} {P : α → Prop} (h1 : c → Ok a P) (h2 : ¬ c → Ok b P) : Ok (if decide c = true then a else b) P := by
 by_cases G : c
 ·rw [if_pos (by simp [G])]; exact h1 G
 ·rw [if_neg (by simp [G])]; exact h2 G
theorem Cw {α : Type} {c : Bool} {a b : Option α} {P : α → Prop} (h1 : c = true → Ok a P) (h2 : c = false → Ok b P) : Ok (if c = true then a else b) P := by
 cases c
 ·rw [if_neg (by simp)]; exact h2 rfl
 ·rw [if_pos rfl]; exact h1 rfl
theorem aM {α : Type} {c : Bool} {a b : Option α} {P : α → Prop} (h1 : c = false → Ok a P) (h2 : c = true → Ok b P) : Ok (if (!c) = true then a else b) P := by
 cases c
 ·exact h1 rfl
 ·exact h2 rfl
theorem Dk {α : Type} {x y : Int} {a b : Option α} {P : α → Prop} (h1 : x = y → Ok a P) (h2 : x ≠ y → Ok b P) : Ok (if (x == y) = true then a else b) P := by
 by_cases h : x = y
 ·rw [if_pos (by simp [h])]; exact h1 h
 ·rw [if_neg (by simp [h])]; exact h2 h
theorem Fc {α : Type} {x y : Int} {a b : Option α} {P : α → Prop} (h1 : x ≠ y → Ok a P) (h2 : x = y → Ok b P) : Ok (if (x != y) = true then a else b) P := by
 by_cases h : x = y
 ·rw [if_neg (by simp [h])]; exact h2 h
 ·rw [if_pos (by simp [h])]; exact h1 h
theorem oK (x : Int) {n : Int} (h1 : 1 ≤ n) (h2 : n ≤ 9223372036854775807) : Ok (Vu x n) fun r => 0 ≤ r ∧ r < n := by
 unfold Vu Vu.J1
 have G := Int.tmod_lt_of_pos x (show 0 < n by omega)
 have M : -n < x.tmod n := by
  have := Int.tmod_lt_of_pos (-x) (show 0 < n by omega)
  rw [Int.neg_tmod] at this; omega
 refine Bf (fun h => by omega) fun _ => .bind' (.rem (by omega) ?_)
 refine Bf (fun h => .pure ?_) (fun h => .pure ?_)
 ·rw [Bp (by omega)]; omega
 ·omega
theorem oG (l : Li) : Ok (Vo l) SrcOk := by
 unfold Vo
 refine .bind' (.sub 0 (min l.length 2000) rfl (by omega) (by omega) (by omega) (.pure ?_))
 exact ⟨Int.le_refl _, by simp, by simp; omega⟩
theorem nZ {s : Yb} (h : SrcOk s) : Ok (Vg s) fun r => SrcOk r.2 := by
 obtain ⟨M, W, G⟩ := h
 unfold Vg
 refine Bf (fun _ => .pure ⟨M, W, G⟩) fun h => ?_
 simp (disch := omega) only [Bp]
 refine .bind' (.ix' (by omega) (by omega) fun k x _ _ => .pure ⟨by dsimp only; omega, by dsimp only; omega, G⟩)
theorem Gj {s : Yb} (h : SrcOk s) {n : Int} (h1 : 1 ≤ n) (h2 : n ≤ 9223372036854775807) : Ok (Dq s n) fun r => SrcOk r.2 ∧ 0 ≤ r.1 ∧ r.1 < n := by
 unfold Dq
 exact .bind (nZ h) fun x G => .bind (oK _ h1 h2) fun y M => .pure ⟨G, M⟩
theorem Gd {s : Yb} (h : SrcOk s) {lo hi : Int} (h1 : lo ≤ hi) (h2 : -1000000000 ≤ lo) (M : hi ≤ 1000000000) : Ok (G4 s lo hi) fun r => SrcOk r.2 ∧ lo ≤ r.1 ∧ r.1 ≤ hi := by
 unfold G4
 simp (disch := omega) only [Bp]
 refine .bind (Gj h (by omega) (by omega)) fun x G => .pure ⟨G.1, ?_⟩
 dsimp only
 rw [Bp (by omega)]; omega
theorem Es {s : Yb} (h : SrcOk s) {l : Li} (h1 : 1 ≤ l.length) (h2 : l.length ≤ 1000) : Ok (Ev s l) fun r => SrcOk r.2 ∧ r.1 ∈ l := by
 unfold Ev
 refine .bind (Gj h (by omega) (by omega)) fun x G => .bind' (.ix' G.2.1 G.2.2 fun k y _ M => .pure ⟨G.1, mg M⟩)
def nm (c : UInt8) (k : Nat) : Bt := ⟨#[c, 97 + UInt8.ofNat k]⟩
theorem Pp {c : UInt8} {k : Nat} (M : k < 26) : Lt ⟨#[c]⟩ (k : Int) = some (nm c k) := by
 unfold Lt
 have G : ((k : Int).tmod 26) = (k : Int) := by rw [Int.tmod_eq_emod_of_nonneg (by omega)]; omega
 rw [G, Bp (by omega)]
 have : k = 0 ∨ k = 1 ∨ k = 2 ∨ k = 3 ∨ k = 4 ∨ k = 5 ∨ k = 6 ∨ k = 7 ∨ k = 8 ∨ k = 9 ∨ k = 10 ∨ k = 11 ∨ k = 12 ∨ k = 13 ∨ k = 14 ∨ k = 15 ∨ k = 16 ∨ k = 17 ∨ k = 18 ∨ k = 19 ∨ k = 20 ∨ k = 21 ∨ k = 22 ∨ k = 23 ∨ k = 24 ∨ k = 25 := by omega
 rcases this with rfl | rfl | rfl | rfl | rfl | rfl | rfl | rfl | rfl | rfl | rfl | rfl | rfl | rfl | rfl | rfl | rfl | rfl | rfl | rfl | rfl | rfl | rfl | rfl | rfl | rfl <;> rfl
structure PointsOk (cap : Int) (l : List Point) : Prop where
 len : 2 ≤ l.length ∧ l.length ≤ 8
 first : ∀ p, l[0]? = some p → p.At = 0
 last : ∀ p, l[l.length - 1]? = some p → p.At = cap
 up : ∀ i p q, l[i]? = some p → l[i + 1]? = some q → p.At < q.At
 height : ∀ p, p ∈ l → -500 ≤ p.Height ∧ p.Height ≤ 5000
 limit : ∀ p, p ∈ l → 0 ≤ p.Limit ∧ p.Limit ≤ 100000000
structure SegOk (nodes k : Nat) (s : Segment) : Prop where
 name : s.Name = nm 103 k
 ends : 0 ≤ s.From ∧ s.From < (nodes : Int) ∧ 0 ≤ s.To ∧ s.To < (nodes : Int) ∧ s.From ≠ s.To
 cap : 1 ≤ s.Capacity ∧ s.Capacity ≤ 1000
 resist : 0 ≤ s.Resist ∧ s.Resist ≤ 1000
 wave : 0 ≤ s.Wave ∧ s.Wave ≤ 100000
 points : PointsOk s.Capacity s.Points
structure PortOk (nodes k : Nat) (p : Port) : Prop where
 name : p.Name = nm 113 k
 node : 0 ≤ p.Node ∧ p.Node < (nodes : Int)
 pressure : 0 ≤ p.Pressure ∧ p.Pressure ≤ 100000000
structure StOk (nodes k : Nat) (p : Station) : Prop where
 name : p.Name = nm 115 k
 node : 0 ≤ p.Node ∧ p.Node < (nodes : Int)
 head : 0 ≤ p.Head ∧ p.Head ≤ 2000000
 fall : 0 ≤ p.Fall ∧ p.Fall ≤ 100000
 suction : 0 ≤ p.Suction ∧ p.Suction ≤ 400000
structure NetOk (n : Network) : Prop where
 nodes : 2 ≤ n.Nodes.length ∧ n.Nodes.length ≤ 6
 names : ∀ k x, n.Nodes[k]? = some x → x = nm 110 k
 segs1 : n.Nodes.length - 1 ≤ n.Segments.length ∧ n.Segments.length ≤ 8
 segs : ∀ k s, n.Segments[k]? = some s → SegOk n.Nodes.length k s
 ports1 : 2 ≤ n.Ports.length ∧ n.Ports.length ≤ 6
 ports : ∀ k s, n.Ports[k]? = some s → PortOk n.Nodes.length k s
 portsUp : ∀ (i j : Nat) (p q : Port), i < j → n.Ports[i]? = some p → n.Ports[j]? = some q → p.Node < q.Node
 sts1 : n.Stations.length ≤ 6
 sts : ∀ k s, n.Stations[k]? = some s → StOk n.Nodes.length k s
 stsUp : ∀ (i j : Nat) (p q : Sn), i < j → n.Stations[i]? = some p → n.Stations[j]? = some q → p.Node < q.Node
 vapour : -100000 ≤ n.Vapour ∧ n.Vapour ≤ 50000
 settle : 0 ≤ n.Settle ∧ n.Settle ≤ 100
def lit (f : List Piece) : Li := f.flatMap fun p => List.replicate p.Volume.toNat p.Batch
def Uw (l : List Piece) (p : Piece) : List Piece :=
 match l.getLast? with
 | some q => if q.Batch = p.Batch then l.dropLast ++ [⟨q.Batch, q.Volume + p.Volume⟩] else l ++ [p]
 | none => [p]
def Ci (L : Li) : List Piece := L.foldl (fun a b => Uw a ⟨b, 1⟩) []
theorem E1 : lit [] = [] := rfl
theorem Ry (p : Piece) (f : List Piece) : lit (p :: f) = List.replicate p.Volume.toNat p.Batch ++ lit f := rfl
theorem Dr (f g : List Piece) : lit (f ++ g) = lit f ++ lit g := by simp [lit]
theorem Ea (p : Piece) : lit [p] = List.replicate p.Volume.toNat p.Batch := by simp [lit]
theorem Pn (p : Piece) : Uw [] p = [p] := rfl
theorem Eo (l : List Piece) (q p : Piece) : Uw (l ++ [q]) p = if q.Batch = p.Batch then l ++ [⟨q.Batch, q.Volume + p.Volume⟩] else l ++ [q] ++ [p] := by
 simp [Uw]
theorem lE {α : Type} {l : List α} (h : l ≠ []) : ∃ a x, l = a ++ [x] := ⟨l.dropLast, l.getLast h, (List.dropLast_concat_getLast h).symm⟩
theorem Em {α : Type} (l : List α) : l = [] ∨ ∃ a x, l = a ++ [x] := by
 by_cases h : l = []
 ·exact .inl h
 ·exact .inr (lE h)
theorem lJ (l : List Piece) (b v w : Int) : Uw (Uw l ⟨b, v⟩) ⟨b, w⟩ = Uw l ⟨b, v + w⟩ := by
 rcases Em l with rfl | ⟨a, q, rfl⟩
 ·have := Eo [] ⟨b, v⟩ ⟨b, w⟩
  simpa [Pn] using this
 ·rw [Eo, Eo]
  by_cases h : q.Batch = b
  ·simp only [h, if_pos]; rw [Eo]; simp [Int.add_assoc]
  ·simp only [h, if_false]; rw [Eo]; simp
theorem Ir : Ci [] = [] := rfl
theorem Mp (L : Li) (b : Int) : Ci (L ++ [b]) = Uw (Ci L) ⟨b, 1⟩ := by simp [Ci, List.foldl_append]
theorem V1 (L : Li) (b : Int) : ∀ v : Nat, 1 ≤ v → Ci (L ++ List.replicate v b) = Uw (Ci L) ⟨b, (v : Int)⟩
 | 0, h => absurd h (by omega)
 | 1, _ => by rw [show List.replicate 1 b = [b] from rfl]; exact Mp L b
 | v + 2, _ => by
  rw [List.replicate_succ', ← List.append_assoc, Mp, V1 L b (v + 1) (by omega), lJ]
  congr 2
theorem lK {l : List Piece} {p : Piece} (hl : ∀ q, q ∈ l → 0 ≤ q.Volume) (G : 0 ≤ p.Volume) : lit (Uw l p) = lit l ++ List.replicate p.Volume.toNat p.Batch := by
 rcases Em l with rfl | ⟨a, q, rfl⟩
 ·simp [Pn, lit]
 ·have M := hl q (by simp)
  rw [Eo]
  split
  ·rename_i h
   rw [Dr, Dr, Ea, Ea, List.append_assoc]
   congr 1
   dsimp only
   rw [← h, Int.toNat_add M G, List.replicate_append_replicate]
  ·rw [Dr, Ea]
structure Can (f : List Piece) : Prop where
 pos : ∀ p, p ∈ f → 1 ≤ p.Volume
 ne : ∀ (i : Nat) (p q : Piece), f[i]? = some p → f[i + 1]? = some q → p.Batch ≠ q.Batch
theorem Can.nil : Can [] := ⟨by simp, by simp⟩
theorem Can.snoc {a : List Piece} {x : Piece} (h : Can a) (Z : 1 ≤ x.Volume) (Y : ∀ q, a.getLast? = some q → q.Batch ≠ x.Batch) : Can (a ++ [x]) := by
 refine ⟨fun p G => ?_, fun i p q G M => ?_⟩
 ·rcases List.mem_append.1 G with G | G
  ·exact h.pos p G
  ·simp at G; subst G; exact Z
 ·rw [List.getElem?_append] at G M
  split at M
  ·rw [if_pos (by omega)] at G; exact h.ne i p q G M
  ·rename_i hi
   have W := (gs M).1
   simp at W
   have e : i + 1 = a.length := by omega
   rw [if_pos (by omega)] at G
   simp [e] at M
   subst M
   refine Y p ?_
   rw [List.getLast?_eq_getElem?, show a.length - 1 = i by omega]; exact G
theorem Can.init {a : List Piece} {x : Piece} (h : Can (a ++ [x])) : Can a :=
 ⟨fun p G => h.pos p (by simp [G]), fun i p q G M => by
  have W := (gs G).1
  have Y := (gs M).1
  exact h.ne i p q (by rw [List.getElem?_append_left W]; exact G) (by rw [List.getElem?_append_left Y]; exact M)⟩
theorem Can.last {a : List Piece} {q x : Piece} (h : Can (a ++ [q] ++ [x])) : q.Batch ≠ x.Batch :=
 h.ne a.length q x (by simp) (by simp)
theorem lL {l : List Piece} {p : Piece} (h : Can l) (M : 1 ≤ p.Volume) : Can (Uw l p) := by
 rcases Em l with rfl | ⟨a, q, rfl⟩
 ·rw [Pn]; exact Can.snoc (a := []) .nil M (by simp)
 ·rw [Eo]
  have Y := h.pos q (by simp)
  split
  ·refine h.init.snoc (by dsimp only; omega) fun z G => ?_
   rcases Em a with rfl | ⟨c, y, rfl⟩
   ·simp at G
   ·simp at G; subst G; exact h.last
  ·rename_i W
   refine h.snoc M fun z G => ?_
   simp at G; subst G; exact W
theorem D9 (L : Li) : Can (Ci L) := by
 have : ∀ n (L : Li), L.length = n → Can (Ci L) := by
  intro n
  induction n with
  | zero => intro L h; rw [List.length_eq_zero_iff.1 h]; exact .nil
  | succ n ih =>
   intro L h
   rcases Em L with rfl | ⟨a, x, rfl⟩
   ·simp at h
   ·rw [Mp]; exact lL (ih a (by simpa using h)) (by simp)
 exact this _ L rfl
theorem Mo {α : Type} {P : List α → Prop} (h0 : P []) (h1 : ∀ a x, P a → P (a ++ [x])) : ∀ l, P l := by
 have : ∀ n (l : List α), l.length = n → P l := by
  intro n
  induction n with
  | zero => intro l h; rw [List.length_eq_zero_iff.1 h]; exact h0
  | succ n ih =>
   intro l h
   rcases Em l with rfl | ⟨a, x, rfl⟩
   ·exact h0
   ·exact h1 a x (ih a (by simpa using h))
 exact fun l => this _ l rfl
theorem C9 (L : Li) : lit (Ci L) = L := by
 induction L using Mo with
 | h0 => rfl
 | h1 a x ih => rw [Mp, lK (fun q G => by have := (D9 a).pos q G; omega) (by simp), ih]; rfl
theorem iC (f : List Piece) : ∀ (L : Li), (∀ p, p ∈ f → 1 ≤ p.Volume) → f.foldl Uw (Ci L) = Ci (L ++ lit f) := by
 induction f with
 | nil => intro L _; simp [E1]
 | cons p f ih =>
  intro L h
  have G := h p (by simp)
  rw [List.foldl_cons, Ry, ← List.append_assoc, ← ih _ fun q M => h q (by simp [M])]
  congr 1
  rw [V1 _ _ _ (by omega)]
  congr 1
  obtain ⟨b, v⟩ := p
  dsimp only at G ⊢
  simp; omega
theorem iD (f : List Piece) : ∀ (a : List Piece), Can (a ++ f) → f.foldl Uw a = a ++ f := by
 induction f with
 | nil => intro a _; simp
 | cons p f ih =>
  intro a h
  have e : Uw a p = a ++ [p] := by
   rcases Em a with rfl | ⟨c, q, rfl⟩
   ·rfl
   ·rw [Eo, if_neg]
    exact h.ne c.length q p (by simp) (by simp)
  rw [List.foldl_cons, e, ih _ (by simpa using h)]; simp
theorem Pm {f : List Piece} (h : Can f) : Ci (lit f) = f := by
 have G := iC f [] h.pos
 rw [Ir, List.nil_append] at G
 rw [← G]; exact iD f [] (by simpa using h)
theorem Can.eq {f : List Piece} {L : Li} (h : Can f) (hl : lit f = L) : f = Ci L := by rw [← hl, Pm h]
theorem Z8 (f : List Piece) : lit f.reverse = (lit f).reverse := by
 induction f with
 | nil => rfl
 | cons p f ih => rw [List.reverse_cons, Dr, ih, Ea, Ry, List.reverse_append, List.reverse_replicate]
theorem Can.rev {f : List Piece} (h : Can f) : Can f.reverse := by
 refine ⟨fun p G => h.pos p (by simpa using G), fun i p q G M => ?_⟩
 have W := (gs M).1
 rw [List.length_reverse] at W
 rw [List.getElem?_reverse (by omega)] at G M
 exact (h.ne (f.length - 1 - (i + 1)) q p M (by rw [show f.length - 1 - (i + 1) + 1 = f.length - 1 - i by omega]; exact G)).symm
theorem Ip (L : Li) : (Ci L).reverse = Ci L.reverse := (D9 L).rev.eq (by rw [Z8, C9])
def vol (f : List Piece) : Int := (f.map (·.Volume)).sum
theorem kY : vol [] = 0 := rfl
theorem Fm (f g : List Piece) : vol (f ++ g) = vol f + vol g := by simp [vol]
theorem Ju (p : Piece) (f : List Piece) : vol (p :: f) = p.Volume + vol f := by simp [vol]
theorem En {f : List Piece} (h : ∀ p, p ∈ f → 0 ≤ p.Volume) : ((lit f).length : Int) = vol f := by
 induction f with
 | nil => rfl
 | cons p f ih =>
  have := h p (by simp)
  rw [Ry, Ju, List.length_append, List.length_replicate, ← ih fun q G => h q (by simp [G])]; omega
theorem F8 {f : List Piece} (h : ∀ p, p ∈ f → 0 ≤ p.Volume) : 0 ≤ vol f := by rw [← En h]; omega
theorem Cs (L : Li) : vol (Ci L) = (L.length : Int) := by
 rw [← En fun p G => by have := (D9 L).pos p G; omega, C9]
theorem Im {f : List Piece} (h : ∀ p, p ∈ f → 0 ≤ p.Volume) {p : Piece} (M : p ∈ f) : p.Volume ≤ vol f := by
 obtain ⟨a, b, rfl⟩ := List.append_of_mem M
 have W := F8 (f := a) fun q G => h q (by simp [G])
 have Y := F8 (f := b) fun q G => h q (by simp [G])
 rw [Fm, Ju]; omega
theorem Z9 {f : List Piece} (h : ∀ p, p ∈ f → 1 ≤ p.Volume) {p : Piece} (G : p ∈ f) : p.Batch ∈ lit f := by
 have := h p G
 exact List.mem_flatMap.2 ⟨p, G, by simp; omega⟩
theorem Ti {L : Li} {p : Piece} (G : p ∈ Ci L) : p.Batch ∈ L := by
 have := Z9 (D9 L).pos G
 rwa [C9] at this
theorem V3 {f : List Piece} (h : ∀ p, p ∈ f → 1 ≤ p.Volume) : (f.length : Int) ≤ vol f := by
 induction f with
 | nil => simp [kY]
 | cons p f ih =>
  have := h p (by simp)
  have := ih fun q G => h q (by simp [G])
  rw [Ju, List.length_cons]; omega
theorem Fo (L : Li) : (Ci L).length ≤ L.length := by
 have := V3 (D9 L).pos
 rw [Cs] at this; omega
theorem Sf {L : Li} : Ci L = [] ↔ L = [] := ⟨fun h => by rw [← C9 L, h]; rfl, fun h => by rw [h]; rfl⟩
theorem Fa {f : List Piece} {k : Nat} {p : Piece} (h : f[k]? = some p) : vol (f.take (k + 1)) = vol (f.take k) + p.Volume := by
 rw [List.take_add_one, h, Fm]; simp [vol]
def S6 (L : Li) : Prop := ∀ b, b ∈ L → 0 ≤ b ∧ b < 1000
structure Vd (f : List Piece) : Prop where
 len : f.length ≤ 200
 can : Can f
 bat : S6 (lit f)
 vol : vol f ≤ 1000000
theorem Vd.nn {f : List Piece} (h : Vd f) : ∀ p, p ∈ f → 0 ≤ p.Volume := fun p G => by have := h.can.pos p G; omega
theorem Wq {L : Li} (h1 : (Ci L).length ≤ 200) (h2 : S6 L) (G : L.length ≤ 1000000) : Vd (Ci L) :=
 ⟨h1, D9 L, by rw [C9]; exact h2, by rw [Cs]; omega⟩
theorem Vd.rev {f : List Piece} (h : Vd f) : Vd f.reverse :=
 ⟨by simpa using h.len, h.can.rev, by rw [Z8]; exact fun b G => h.bat b (by simpa using G), by have := h.vol; simpa [Go.Proofs.YtaoclefkknloiaaGreat.vol] using this⟩
structure PInv (l : List Point) (at_ : Int) : Prop where
 len : 1 ≤ l.length
 first : ∀ p, l[0]? = some p → p.At = 0
 last : ∀ p, l[l.length - 1]? = some p → p.At = at_
 up : ∀ i p q, l[i]? = some p → l[i + 1]? = some q → p.At < q.At
 height : ∀ p, p ∈ l → -500 ≤ p.Height ∧ p.Height ≤ 5000
 limit : ∀ p, p ∈ l → 0 ≤ p.Limit ∧ p.Limit ≤ 100000000
theorem PInv.append {l : List Point} {at_ : Int} (h : PInv l at_) {p : Point} (h1 : at_ < p.At) (h2 : -500 ≤ p.Height ∧ p.Height ≤ 5000) (Z : 0 ≤ p.Limit ∧ p.Limit ≤ 100000000) : PInv (l ++ [p]) p.At := by
 have hl := h.len
 refine ⟨by simp, fun q G => h.first q ?_, fun q G => ?_, fun i a b W M => ?_, fun q G => ?_, fun q G => ?_⟩
 ·rw [List.getElem?_append_left (by omega)] at G; exact G
 ·rw [List.getElem?_append_right (by simp)] at G; simp at G; rw [G]
 ·rw [List.getElem?_append] at W M
  split at M
  ·rw [if_pos (by omega)] at W; exact h.up i a b W M
  ·rename_i hi
   have Y := (gs M).1
   simp at Y
   have : i + 1 = l.length := by omega
   rw [if_pos (by omega)] at W
   have h4 := h.last a (by rw [show l.length - 1 = i by omega]; exact W)
   simp [this] at M
   rw [← M]; omega
 ·rcases List.mem_append.1 G with G | G
  ·exact h.height q G
  ·simp at G; subst G; exact h2
 ·rcases List.mem_append.1 G with G | G
  ·exact h.limit q G
  ·simp at G; subst G; exact Z
theorem PInv.done {l : List Point} {at_ : Int} (h : PInv l at_) (h1 : 2 ≤ l.length ∧ l.length ≤ 8) : PointsOk at_ l := ⟨h1, h.first, h.last, h.up, h.height, h.limit⟩
theorem Gl {n : Int} (h : 0 ≤ n) : ∃ k : Nat, n = (k : Int) := ⟨n.toNat, by omega⟩
theorem fS {s : Yb} (hs : SrcOk s) {nodes k : Nat} (hk : k < 26) {a b : Int} (ha : 0 ≤ a ∧ a < (nodes : Int)) (hb : 0 ≤ b ∧ b < (nodes : Int)) (an : a ≠ b) :
  Ok (Nn s (k : Int) a b) fun r => SegOk nodes k r.1 ∧ SrcOk r.2 := by
 have ab : ∀ (j : Li × Int × Int × Int), SrcOk ⟨j.1, j.2.1⟩ → 0 ≤ j.2.2.1 ∧ j.2.2.1 < (nodes : Int) → 0 ≤ j.2.2.2 ∧ j.2.2.2 < (nodes : Int) → j.2.2.1 ≠ j.2.2.2 →
   Ok (Nn.J1 (k : Int) j) fun r => SegOk nodes k r.1 ∧ SrcOk r.2 := by
  intro j hs h1 h2 h3
  unfold Nn.J1
  refine .bind' (.eq (Pp hk) ?_)
  refine .bind (Es hs (by decide) (by decide)) fun W ag => ?_
  refine .bind (Es ag.1 (by decide) (by decide)) fun r14 ah => ?_
  refine .bind (Es ah.1 (by decide) (by decide)) fun r17 ai => ?_
  refine .bind (Es ai.1 (by decide) (by decide)) fun au am => ?_
  refine .bind (Gd am.1 (by decide) (by decide) (by decide)) fun r25 h25 => ?_
  have c11 := ag.2; have c14 := ah.2; have c17 := ai.2; have c22 := am.2
  simp only [List.mem_cons, List.not_mem_nil, or_false] at c11 c14 c17 c22
  refine .bind' (.app (by simp) ?_)
  refine .bind (Q := fun d : Li × Int × List Point => SrcOk ⟨d.1, d.2.1⟩ ∧ ∃ G, PInv d.2.2 G ∧ G < W.1 ∧ d.2.2.length ≤ 7) ?_ ?_
  ·refine .loop (fun M => SrcOk ⟨M.1, M.2.1⟩ ∧ PInv M.2.2.1 M.2.2.2 ∧ 0 ≤ M.2.2.2 ∧ M.2.2.2 < W.1 ∧ M.2.2.1.length ≤ 7) (fun M => 7 - M.2.2.1.length)
    ⟨h25.1, ⟨by simp, by simp, by simp, by simp, by simp; omega, by simp; omega⟩, by simp, by simp; omega, by simp⟩ (by dsimp only; omega) ?_
   rintro ⟨L_, At, ae, G⟩ ⟨i1, i2, i3, i4, i5⟩
   dsimp only at i1 i2 i3 i4 i5 ⊢
   have j4 : ∀ (x : Li × Int × Bool), SrcOk ⟨x.1, x.2.1⟩ → (x.2.2 = true → ae.length < 7) → Ok (Nn.J4 W au (L_, At, ae, G) x) (Sum.elim (fun M => (SrcOk ⟨M.1, M.2.1⟩ ∧ PInv M.2.2.1 M.2.2.2 ∧ 0 ≤ M.2.2.2 ∧ M.2.2.2 < W.1 ∧ M.2.2.1.length ≤ 7) ∧ 7 - M.2.2.1.length < 7 - ae.length) fun d => SrcOk ⟨d.1, d.2.1⟩ ∧ ∃ G, PInv d.2.2 G ∧ G < W.1 ∧ d.2.2.length ≤ 7) := by
    intro x hx hl
    unfold Nn.J4
    refine Cw (fun hb => ?_) fun _ => .pure ⟨hx, G, i2, i4, i5⟩
    have hl := hl hb
    refine .bind (Gd hx (by decide) (by decide) (by decide)) fun r197 Z => ?_
    dsimp only
    rw [Bp (by omega)]
    refine Bf (fun _ => .pure ⟨Z.1, G, i2, i4, i5⟩) fun aq => ?_
    refine .bind (Gd Z.1 (by decide) (by decide) (by decide)) fun ac aj => ?_
    refine .bind (Es aj.1 (by decide) (by decide)) fun ad aa => ?_
    have Y := aa.2
    simp only [List.mem_cons, List.not_mem_nil, or_false] at Y
    refine .bind (Gj aa.1 (by decide) (by decide)) fun r206 ak => ?_
    refine .bind' (.app (by simp; omega) (.pure ⟨⟨ak.1, ?_, by dsimp only; omega, by dsimp only; omega, by simp; omega⟩, by simp; omega⟩))
    have hh : -50 ≤ ac.1 * ad.1 ∧ ac.1 * ad.1 ≤ 600 := by
     rcases Y with h | h | h <;> rw [h] <;> omega
    refine i2.append ?_ ?_ ?_ <;> simp (disch := omega) only [Bp] <;> omega
   unfold Nn.B3
   refine Bf (fun h => ?_) fun h => ?_
   ·refine .bind (Gj i1 (by decide) (by decide)) fun r213 al => j4 (_, _, _) al.1 fun _ => by dsimp only at h; omega
   ·exact j4 (_, _, _) i1 (by simp)
  ·rintro ⟨dl, da, dp⟩ ⟨hd, G, hp, aq, ao⟩
   dsimp only at hd hp ao
   unfold Nn.J2
   refine .bind (Gd hd (by decide) (by decide) (by decide)) fun ar af => ?_
   have h1l := hp.len
   refine .bind' (.app (by simp; omega) (.pure ⟨⟨rfl, ⟨h1.1, h1.2, h2.1, h2.2, h3⟩, by dsimp only; omega, by dsimp only; omega, by dsimp only; omega, ?_⟩, af.1⟩))
   exact (hp.append (p := ⟨W.1, ar.1, au.1⟩) aq (by dsimp only; omega) (by dsimp only; omega)).done (by simp; omega)
 unfold Nn
 refine .bind (Gj hs (by decide) (by decide)) fun r hr => ?_
 exact Dk (fun _ => ab _ hr.1 hb ha (Ne.symm an)) fun _ => ab _ hr.1 ha hb an
theorem Nd {s : Li} {g : Int → Option Bool} {P : Int → Bool} (hg : ∀ (k : Nat) (x : Int), s[k]? = some x → g x = some (P x)) :
  Ok (Re s g) fun r => (r = -1 ∧ ∀ (j : Nat) (y : Int), s[j]? = some y → P y = false) ∨ ∃ (k : Nat) (x : Int), r = (k : Int) ∧ s[k]? = some x ∧ P x = true ∧ ∀ (j : Nat) (y : Int), j < k → s[j]? = some y → P y = false := by
 unfold Re
 refine .bind' (.forL (fun k _ => ∀ (j : Nat) (y : Int), j < k → s[j]? = some y → P y = false) (fun r => ∃ (k : Nat) (x : Int), r = (k : Int) ∧ s[k]? = some x ∧ P x = true ∧ ∀ (j : Nat) (y : Int), j < k → s[j]? = some y → P y = false) (fun j y h => absurd h (Nat.not_lt_zero _)) ?_ ?_ ?_)
 ·intro k x _ Y M
  unfold Re.B2
  refine .bind' (.eq (hg k x Y) (Cw (fun W => .pure ⟨k, x, rfl, Y, W, M⟩) fun W => .pure fun j y hj G => ?_))
  by_cases h : j < k
  ·exact M j y h G
  ·have : j = k := by omega
   subst this
   rw [Y] at G; simp at G; subst G; exact W
 ·intro _ M
  simp only [Sum.elim_inl]
  unfold Re.J1
  exact .pure (.inl ⟨rfl, fun j y G => M j y (gs G).1 G⟩)
 ·intro b Z
  exact .pure (.inr Z)
theorem Eh {s : Li} {g : Int → Option Bool} {P : Int → Bool} (hg : ∀ (k : Nat) (x : Int), s[k]? = some x → g x = some (P x)) :
  Jf s g = some (s.any P) := by
 have : Ok (Jf s g) fun r => r = s.any P := by
  unfold Jf
  refine .bind (Nd hg) fun r Y => .pure ?_
  rcases Y with ⟨rfl, h⟩ | ⟨k, x, rfl, G, W, _⟩
  ·have : s.any P = false := by
    rw [List.any_eq_false]
    intro x G
    obtain ⟨j, M⟩ := List.getElem?_of_mem G
    rw [h j x M]; simp
   rw [this]; rfl
  ·have : s.any P = true := List.any_eq_true.2 ⟨x, mg G, W⟩
   rw [this]; simp
 obtain ⟨r, h, rfl⟩ := this
 exact h
theorem Ie {s : List Bt} {g : Bt → Option Bool} {P : Bt → Bool} (hg : ∀ (k : Nat) (x : Bt), s[k]? = some x → g x = some (P x)) :
  Ok (Qj s g) fun r => (r = -1 ∧ ∀ (j : Nat) (y : Bt), s[j]? = some y → P y = false) ∨ ∃ (k : Nat) (x : Bt), r = (k : Int) ∧ s[k]? = some x ∧ P x = true ∧ ∀ (j : Nat) (y : Bt), j < k → s[j]? = some y → P y = false := by
 unfold Qj
 refine .bind' (.forL (fun k _ => ∀ (j : Nat) (y : Bt), j < k → s[j]? = some y → P y = false) (fun r => ∃ (k : Nat) (x : Bt), r = (k : Int) ∧ s[k]? = some x ∧ P x = true ∧ ∀ (j : Nat) (y : Bt), j < k → s[j]? = some y → P y = false) (fun j y h => absurd h (Nat.not_lt_zero _)) ?_ ?_ ?_)
 ·intro k x _ Y M
  unfold Qj.B2
  refine .bind' (.eq (hg k x Y) (Cw (fun W => .pure ⟨k, x, rfl, Y, W, M⟩) fun W => .pure fun j y hj G => ?_))
  by_cases h : j < k
  ·exact M j y h G
  ·have : j = k := by omega
   subst this
   rw [Y] at G; simp at G; subst G; exact W
 ·intro _ M
  simp only [Sum.elim_inl]
  unfold Qj.J1
  exact .pure (.inl ⟨rfl, fun j y G => M j y (gs G).1 G⟩)
 ·intro b Z
  exact .pure (.inr Z)
theorem Hd {s : List Bt} {g : Bt → Option Bool} {P : Bt → Bool} (hg : ∀ (k : Nat) (x : Bt), s[k]? = some x → g x = some (P x)) :
  Qq s g = some (s.any P) := by
 have : Ok (Qq s g) fun r => r = s.any P := by
  unfold Qq
  refine .bind (Ie hg) fun r Y => .pure ?_
  rcases Y with ⟨rfl, h⟩ | ⟨k, x, rfl, G, W, _⟩
  ·have : s.any P = false := by
    rw [List.any_eq_false]
    intro x G
    obtain ⟨j, M⟩ := List.getElem?_of_mem G
    rw [h j x M]; simp
   rw [this]; rfl
  ·have : s.any P = true := List.any_eq_true.2 ⟨x, mg G, W⟩
   rw [this]; simp
 obtain ⟨r, h, rfl⟩ := this
 exact h
theorem Fj {s : List Sg} {g : Sg → Option Bool} {P : Sg → Bool} (hg : ∀ (k : Nat) (x : Sg), s[k]? = some x → g x = some (P x)) :
  Ok (Rb s g) fun r => (r = -1 ∧ ∀ (j : Nat) (y : Sg), s[j]? = some y → P y = false) ∨ ∃ (k : Nat) (x : Sg), r = (k : Int) ∧ s[k]? = some x ∧ P x = true ∧ ∀ (j : Nat) (y : Sg), j < k → s[j]? = some y → P y = false := by
 unfold Rb
 refine .bind' (.forL (fun k _ => ∀ (j : Nat) (y : Sg), j < k → s[j]? = some y → P y = false) (fun r => ∃ (k : Nat) (x : Sg), r = (k : Int) ∧ s[k]? = some x ∧ P x = true ∧ ∀ (j : Nat) (y : Sg), j < k → s[j]? = some y → P y = false) (fun j y h => absurd h (Nat.not_lt_zero _)) ?_ ?_ ?_)
 ·intro k x _ Y M
  unfold Rb.B2
  refine .bind' (.eq (hg k x Y) (Cw (fun W => .pure ⟨k, x, rfl, Y, W, M⟩) fun W => .pure fun j y hj G => ?_))
  by_cases h : j < k
  ·exact M j y h G
  ·have : j = k := by omega
   subst this
   rw [Y] at G; simp at G; subst G; exact W
 ·intro _ M
  simp only [Sum.elim_inl]
  unfold Rb.J1
  exact .pure (.inl ⟨rfl, fun j y G => M j y (gs G).1 G⟩)
 ·intro b Z
  exact .pure (.inr Z)
theorem Dz {s : List Sg} {g : Sg → Option Bool} {P : Sg → Bool} (hg : ∀ (k : Nat) (x : Sg), s[k]? = some x → g x = some (P x)) :
  Nl s g = some (s.any P) := by
 have : Ok (Nl s g) fun r => r = s.any P := by
  unfold Nl
  refine .bind (Fj hg) fun r Y => .pure ?_
  rcases Y with ⟨rfl, h⟩ | ⟨k, x, rfl, G, W, _⟩
  ·have : s.any P = false := by
    rw [List.any_eq_false]
    intro x G
    obtain ⟨j, M⟩ := List.getElem?_of_mem G
    rw [h j x M]; simp
   rw [this]; rfl
  ·have : s.any P = true := List.any_eq_true.2 ⟨x, mg G, W⟩
   rw [this]; simp
 obtain ⟨r, h, rfl⟩ := this
 exact h
theorem Gx {s : List Port} {g : Port → Option Bool} {P : Port → Bool} (hg : ∀ (k : Nat) (x : Port), s[k]? = some x → g x = some (P x)) :
  Ok (Qm s g) fun r => (r = -1 ∧ ∀ (j : Nat) (y : Port), s[j]? = some y → P y = false) ∨ ∃ (k : Nat) (x : Port), r = (k : Int) ∧ s[k]? = some x ∧ P x = true ∧ ∀ (j : Nat) (y : Port), j < k → s[j]? = some y → P y = false := by
 unfold Qm
 refine .bind' (.forL (fun k _ => ∀ (j : Nat) (y : Port), j < k → s[j]? = some y → P y = false) (fun r => ∃ (k : Nat) (x : Port), r = (k : Int) ∧ s[k]? = some x ∧ P x = true ∧ ∀ (j : Nat) (y : Port), j < k → s[j]? = some y → P y = false) (fun j y h => absurd h (Nat.not_lt_zero _)) ?_ ?_ ?_)
 ·intro k x _ Y M
  unfold Qm.B2
  refine .bind' (.eq (hg k x Y) (Cw (fun W => .pure ⟨k, x, rfl, Y, W, M⟩) fun W => .pure fun j y hj G => ?_))
  by_cases h : j < k
  ·exact M j y h G
  ·have : j = k := by omega
   subst this
   rw [Y] at G; simp at G; subst G; exact W
 ·intro _ M
  simp only [Sum.elim_inl]
  unfold Qm.J1
  exact .pure (.inl ⟨rfl, fun j y G => M j y (gs G).1 G⟩)
 ·intro b Z
  exact .pure (.inr Z)
theorem F7 {s : List Port} {g : Port → Option Bool} {P : Port → Bool} (hg : ∀ (k : Nat) (x : Port), s[k]? = some x → g x = some (P x)) :
  Q7 s g = some (s.any P) := by
 have : Ok (Q7 s g) fun r => r = s.any P := by
  unfold Q7
  refine .bind (Gx hg) fun r Y => .pure ?_
  rcases Y with ⟨rfl, h⟩ | ⟨k, x, rfl, G, W, _⟩
  ·have : s.any P = false := by
    rw [List.any_eq_false]
    intro x G
    obtain ⟨j, M⟩ := List.getElem?_of_mem G
    rw [h j x M]; simp
   rw [this]; rfl
  ·have : s.any P = true := List.any_eq_true.2 ⟨x, mg G, W⟩
   rw [this]; simp
 obtain ⟨r, h, rfl⟩ := this
 exact h
theorem Eb {s : List Sn} {g : Sn → Option Bool} {P : Sn → Bool} (hg : ∀ (k : Nat) (x : Sn), s[k]? = some x → g x = some (P x)) :
  Ok (Nj s g) fun r => (r = -1 ∧ ∀ (j : Nat) (y : Sn), s[j]? = some y → P y = false) ∨ ∃ (k : Nat) (x : Sn), r = (k : Int) ∧ s[k]? = some x ∧ P x = true ∧ ∀ (j : Nat) (y : Sn), j < k → s[j]? = some y → P y = false := by
 unfold Nj
 refine .bind' (.forL (fun k _ => ∀ (j : Nat) (y : Sn), j < k → s[j]? = some y → P y = false) (fun r => ∃ (k : Nat) (x : Sn), r = (k : Int) ∧ s[k]? = some x ∧ P x = true ∧ ∀ (j : Nat) (y : Sn), j < k → s[j]? = some y → P y = false) (fun j y h => absurd h (Nat.not_lt_zero _)) ?_ ?_ ?_)
 ·intro k x _ Y M
  unfold Nj.B2
  refine .bind' (.eq (hg k x Y) (Cw (fun W => .pure ⟨k, x, rfl, Y, W, M⟩) fun W => .pure fun j y hj G => ?_))
  by_cases h : j < k
  ·exact M j y h G
  ·have : j = k := by omega
   subst this
   rw [Y] at G; simp at G; subst G; exact W
 ·intro _ M
  simp only [Sum.elim_inl]
  unfold Nj.J1
  exact .pure (.inl ⟨rfl, fun j y G => M j y (gs G).1 G⟩)
 ·intro b Z
  exact .pure (.inr Z)
theorem E6 {s : List Sn} {g : Sn → Option Bool} {P : Sn → Bool} (hg : ∀ (k : Nat) (x : Sn), s[k]? = some x → g x = some (P x)) :
  Qh s g = some (s.any P) := by
 have : Ok (Qh s g) fun r => r = s.any P := by
  unfold Qh
  refine .bind (Eb hg) fun r Y => .pure ?_
  rcases Y with ⟨rfl, h⟩ | ⟨k, x, rfl, G, W, _⟩
  ·have : s.any P = false := by
    rw [List.any_eq_false]
    intro x G
    obtain ⟨j, M⟩ := List.getElem?_of_mem G
    rw [h j x M]; simp
   rw [this]; rfl
  ·have : s.any P = true := List.any_eq_true.2 ⟨x, mg G, W⟩
   rw [this]; simp
 obtain ⟨r, h, rfl⟩ := this
 exact h
theorem Ky {s : List Bt} {v : Bt} :
  Ok (Qi s v) fun r => (r = -1 ∧ ∀ (j : Nat) (y : Bt), s[j]? = some y → (Wh v y) = false) ∨ ∃ (k : Nat) (y : Bt), r = (k : Int) ∧ s[k]? = some y ∧ (Wh v y) = true ∧ ∀ (j : Nat) (y : Bt), j < k → s[j]? = some y → (Wh v y) = false := by
 unfold Qi
 refine .bind' (.forL (fun k _ => ∀ (j : Nat) (y : Bt), j < k → s[j]? = some y → (Wh v y) = false) (fun r => ∃ (k : Nat) (y : Bt), r = (k : Int) ∧ s[k]? = some y ∧ (Wh v y) = true ∧ ∀ (j : Nat) (y : Bt), j < k → s[j]? = some y → (Wh v y) = false) (fun j y h => absurd h (Nat.not_lt_zero _)) ?_ ?_ ?_)
 ·intro k x _ Y M
  unfold Qi.B2
  refine Cw (fun W => .pure ⟨k, x, rfl, Y, W, M⟩) fun W => .pure fun j y hj G => ?_
  by_cases h : j < k
  ·exact M j y h G
  ·have : j = k := by omega
   subst this
   rw [Y] at G; simp at G; subst G; exact W
 ·intro _ M
  simp only [Sum.elim_inl]
  unfold Qi.J1
  exact .pure (.inl ⟨rfl, fun j y G => M j y (gs G).1 G⟩)
 ·intro b Z
  exact .pure (.inr Z)
end Go.Proofs.YtaoclefkknloiaaGreat
namespace Go.Aw
set_option linter.unusedVariables false
set_option linter.defProp false
set_option linter.unusedSimpArgs false
theorem Ok.any {α B : Type} {f : Nat → α → Unit → Option (Unit ⊕ B)} {l : List α} {d : B} (P : Nat → α → Prop)
  (hf : ∀ (k : Nat) x, l[k]? = some x → Ok (f k x ()) fun o => (P k x ∧ o = .inr d) ∨ (¬ P k x ∧ o = .inl ())) :
  Ok (Aw.forL f 0 l ()) fun o => ((∃ (k : Nat) (x : α), l[k]? = some x ∧ P k x) ∧ o = .inr d) ∨ ((∀ (k : Nat) (x : α), l[k]? = some x → ¬ P k x) ∧ o = .inl ()) := by
 refine .forL (fun m _ => ∀ (k : Nat) (x : α), k < m → l[k]? = some x → ¬ P k x) (fun b => b = d ∧ ∃ (k : Nat) (x : α), l[k]? = some x ∧ P k x) (fun k x h => absurd h (Nat.not_lt_zero _)) ?_ ?_ ?_
 ·intro k x _ G Y
  refine (hf k x G).mono ?_
  rintro o (⟨h, rfl⟩ | ⟨h, rfl⟩)
  ·exact ⟨rfl, k, x, G, h⟩
  ·intro j y Z W
   by_cases M : j = k
   ·subst M; rw [G] at W; cases W; exact h
   ·exact Y j y (by omega) W
 ·exact fun _ h => .inr ⟨fun k x G => h k x (gs G).1 G, rfl⟩
 ·rintro b ⟨rfl, h⟩; exact .inl ⟨h, rfl⟩
def rE := @Ok.any
theorem Mm {B : Type} {f : Nat → Unit → Option (Unit ⊕ B)} {n : Nat} {d : B} (P : Nat → Prop)
  (hf : ∀ (k : Nat), k < n → Ok (f k ()) fun o => (P k ∧ o = .inr d) ∨ (¬ P k ∧ o = .inl ())) :
  Ok (Aw.forI f 0 n ()) fun o => ((∃ k, k < n ∧ P k) ∧ o = .inr d) ∨ ((∀ k, k < n → ¬ P k) ∧ o = .inl ()) := by
 refine .forI (fun m _ => ∀ k, k < m → ¬ P k) (fun b => b = d ∧ ∃ k, k < n ∧ P k) (fun k h => absurd h (Nat.not_lt_zero _)) ?_ ?_ ?_
 ·intro k _ M W
  refine (hf k M).mono ?_
  rintro o (⟨h, rfl⟩ | ⟨h, rfl⟩)
  ·exact ⟨rfl, k, M, h⟩
  ·intro j Y
   by_cases G : j = k
   ·subst G; exact h
   ·exact W j (by omega)
 ·exact fun _ h => .inr ⟨h, rfl⟩
 ·rintro b ⟨rfl, h⟩; exact .inl ⟨h, rfl⟩
theorem Ok.test {B : Type} {c : Bool} {d : B} {P : Prop} (h : c = true ↔ P) : Ok (if c = true then some (.inr d) else some (.inl ()) : Option (Unit ⊕ B)) fun o => (P ∧ o = .inr d) ∨ (¬ P ∧ o = .inl ()) := by
 by_cases G : c = true
 ·rw [if_pos G]; exact .pure (.inl ⟨h.1 G, rfl⟩)
 ·rw [if_neg G]; exact .pure (.inr ⟨fun M => G (h.2 M), rfl⟩)
theorem aL {α B : Type} {l : List α} {k : Nat} {d : B} {f : Int → Option (Int ⊕ (B ⊕ Unit))} (P : α → Prop) (hk : k ≤ l.length) (hl : l.length ≤ 1000000)
  (hf : ∀ (i : Nat) (y : α), i < k → l[i]? = some y → Ok (f (i : Int)) fun o => (P y ∧ o = .inr (.inl d)) ∨ (¬ P y ∧ o = .inl (wr ((i : Int) + 1)))) (he : f (k : Int) = some (.inr (.inr ()))) :
  Ok (D7 f Gz 0) fun o => ((∃ (j : Nat) (y : α), j < k ∧ l[j]? = some y ∧ P y) ∧ o = .inl d) ∨ ((¬ ∃ (j : Nat) (y : α), j < k ∧ l[j]? = some y ∧ P y) ∧ o = .inr ()) := by
 refine .loop (fun i : Int => 0 ≤ i ∧ i ≤ (k : Int) ∧ ∀ (j : Nat) (y : α), (j : Int) < i → l[j]? = some y → ¬ P y) (fun i => k - i.toNat) ⟨by omega, by omega, fun j y h => by omega⟩ (by omega) ?_
 rintro i ⟨i0, i1, Z⟩
 obtain ⟨i, rfl⟩ : ∃ m : Nat, i = (m : Int) := ⟨i.toNat, by omega⟩
 by_cases W : i = k
 ·subst W
  rw [he]
  exact .pure (.inr ⟨fun ⟨j, y, hj, M, hp⟩ => Z j y (by omega) M hp, rfl⟩)
 have M : l[i]? = some (l[i]'(by omega)) := gq _
 refine (hf i _ (by omega) M).mono ?_
 rintro o (⟨h, rfl⟩ | ⟨h, rfl⟩)
 ·exact .inl ⟨⟨i, _, by omega, M, h⟩, rfl⟩
 ·simp only [Sum.elim_inl]
  rw [Bp (by omega)]
  refine ⟨⟨by omega, by omega, fun j y hj G => ?_⟩, by omega⟩
  by_cases Y : j = i
  ·subst Y; rw [M] at G; cases G; exact h
  ·exact Z j y (by omega) G
theorem V5 {α β : Type} {l : List α} {st : List β} {g : α → List β} {f : Nat → α → List β → Option (List β)} (hf : ∀ k x st, f k x st = (Cy st (g x)).bind fun y => some y) (hg : ∀ x, (g x).length ≤ 2) (hl : l.length ≤ 1000) (W : st.length ≤ 1000000) :
  Ok (Aw.forS f 0 l st) fun r => r = st ++ l.flatMap g ∧ r.length ≤ st.length + 2000 := by
 refine .forS (fun k r => r = st ++ (l.take k).flatMap g ∧ r.length ≤ st.length + 2 * k) (by simp) ?_ fun r h => ⟨by rw [h.1]; simp, by omega⟩
 rintro k x r G ⟨rfl, h⟩
 rw [hf]
 have M := (gs G).1
 have := hg x
 refine .bind' (.app (by omega) (.pure ⟨?_, by rw [List.length_append]; omega⟩))
 rw [List.take_add_one, G]; simp
theorem C5 {α : Type} {c : Bool} {Q : Prop} {x y : Option α} {P : α → Prop} (h : c = true ↔ Q) (h1 : Q → Ok x P) (h2 : ¬ Q → Ok y P) : Ok (if c = true then x else y) P :=
 oY (fun G => h1 (h.1 G)) fun G => h2 fun M => G (h.2 M)
end Go.Aw
namespace Go.Proofs.YtaoclefkknloiaaGreat
set_option linter.unusedVariables false
set_option linter.defProp false
set_option linter.unusedSimpArgs false
open Go.Aw
theorem Kk {α β : Type} {l : List α} {g : α → β} {f : Nat → α → List β → Option (List β)} (hf : ∀ k x st, f k x st = (Cy st [g x]).bind fun y => some y) (hl : l.length ≤ 1000) :
  Ok (forS f 0 l []) fun r => r = l.map g := by
 refine .forS (fun k st => st = (l.take k).map g) (by simp) ?_ fun st h => by rw [h]; simp
 rintro k x st G rfl
 rw [hf]
 have M := (gs G).1
 refine .bind' (.app (by simp; omega) (.pure ?_))
 rw [List.take_add_one, G]
 simp
theorem Xd {n : Nw} (h1 : n.Segments.length ≤ 1000) (h2 : n.Ports.length ≤ 1000) (G : n.Stations.length ≤ 1000) :
  Ok (Nv n) fun r => r.l = [n.Nodes, n.Segments.map (·.Name), n.Ports.map (·.Name), n.Stations.map (·.Name)] := by
 unfold Nv
 refine .bind (Kk (g := (·.Name)) (fun _ _ _ => rfl) h1) ?_
 rintro _ rfl
 unfold Nv.J1
 refine .bind (Kk (g := (·.Name)) (fun _ _ _ => rfl) h2) ?_
 rintro _ rfl
 unfold Nv.J2
 refine .bind (Kk (g := (·.Name)) (fun _ _ _ => rfl) G) ?_
 rintro _ rfl
 unfold Nv.J3
 exact .pure rfl
theorem gT (a : Bt) : Wh a a = true := by simp [Wh]
def eY (n : Nw) : List (List Bt) := [n.Nodes, n.Segments.map (·.Name), n.Ports.map (·.Name), n.Stations.map (·.Name)]
def P1 (s : Sg) : Prop := 2 ≤ s.Points.length ∧ s.Points.length ≤ 8
def Lim (n : Nw) : Prop := (1 ≤ n.Nodes.length ∧ n.Nodes.length ≤ 24 ∧ n.Segments.length ≤ 32 ∧ n.Ports.length ≤ 24 ∧ n.Stations.length ≤ 12) ∧ ∀ (k : Nat) (s : Sg), n.Segments[k]? = some s → P1 s
def Ma (c : Int) : Prop := 97 ≤ c ∧ c ≤ 122
def ch (x : Bt) (k : Nat) : Int := ((x.data.getD k 0).toNat : Int)
def Ly (x : Bt) : Prop := (1 ≤ x.size ∧ x.size ≤ 12 ∧ Ma (ch x 0)) ∧ ∀ k, k < x.size → Ma (ch x k) ∨ (48 ≤ ch x k ∧ ch x k ≤ 57) ∨ ch x k = 45
def Yw (l : List Bt) : Prop := ∃ (k : Nat) (x : Bt), l[k]? = some x ∧ ¬ Ly x
def Kb (n : Nw) : Prop := ∃ k, k < 4 ∧ ∃ l, (eY n)[k]? = some l ∧ Yw l
def fO (l : List Bt) (k : Nat) (x : Bt) : Prop := ∃ (j : Nat) (y : Bt), j < k ∧ l[j]? = some y ∧ x.toList = y.toList
def pC (l : List Bt) : Prop := ∃ (k : Nat) (x : Bt), l[k]? = some x ∧ fO l k x
def Yv (l : List Sn) (k : Nat) (x : Sn) : Prop := ∃ (j : Nat) (y : Sn), j < k ∧ l[j]? = some y ∧ x.Node = y.Node
def Qc (n : Nw) : Prop := ∃ k, k < 4 ∧ ∃ l, (eY n)[k]? = some l ∧ pC l
def Qb (n : Nw) : Prop := ∃ (k : Nat) (x : Sn), n.Stations[k]? = some x ∧ Yv n.Stations k x
def At (n : Nw) (k : Int) : Prop := 0 ≤ k ∧ k < (n.Nodes.length : Int)
def P2 (n : Nw) : Prop := (∀ (k : Nat) (s : Sg), n.Segments[k]? = some s → At n s.From ∧ At n s.To) ∧ (∀ (k : Nat) (s : Port), n.Ports[k]? = some s → At n s.Node) ∧ ∀ (k : Nat) (s : Sn), n.Stations[k]? = some s → At n s.Node
def fN (p : Point) : Prop := (-500 ≤ p.Height ∧ p.Height ≤ 5000) ∧ 0 ≤ p.Limit ∧ p.Limit ≤ 100000000
def La (s : Sg) (k : Nat) (p : Point) : Prop := ¬ fN p ∨ ∃ q, 0 < k ∧ s.Points[k - 1]? = some q ∧ p.At ≤ q.At
structure PipeOk (s : Segment) : Prop where
 ends : s.From ≠ s.To
 cap : 1 ≤ s.Capacity ∧ s.Capacity ≤ 1000000
 resist : 0 ≤ s.Resist ∧ s.Resist ≤ 1000
 wave : 0 ≤ s.Wave ∧ s.Wave ≤ 100000
 first : ∀ p, s.Points[0]? = some p → p.At = 0
 last : ∀ p, s.Points[s.Points.length - 1]? = some p → p.At = s.Capacity
 pts : ∀ (k : Nat) (p : Point), s.Points[k]? = some p → ¬ La s k p
structure StnOk (s : Station) : Prop where
 head : 0 ≤ s.Head ∧ s.Head ≤ 100000000
 fall : 0 ≤ s.Fall ∧ s.Fall ≤ 100000
 suction : 0 ≤ s.Suction ∧ s.Suction ≤ 100000000
structure Proper (n : Network) : Prop where
 segs : ∀ (k : Nat) (s : Sg), n.Segments[k]? = some s → PipeOk s
 ports : ∀ (k : Nat) (s : Port), n.Ports[k]? = some s → 0 ≤ s.Pressure ∧ s.Pressure ≤ 100000000
 sts : ∀ (k : Nat) (s : Sn), n.Stations[k]? = some s → StnOk s
 vapour : -100000 ≤ n.Vapour ∧ n.Vapour ≤ 100000000
 settle : 0 ≤ n.Settle ∧ n.Settle ≤ 100
def NetRes (n : Nw) (r : Int) : Prop := (¬ Lim n ∧ r = 4) ∨ (Lim n ∧ ((Kb n ∧ r = 3) ∨ (¬ Kb n ∧ (((Qc n ∨ Qb n) ∧ r = 7) ∨ (¬ (Qc n ∨ Qb n) ∧ ((¬ P2 n ∧ r = 8) ∨ (P2 n ∧ ((¬ Proper n ∧ r = 9) ∨ (Proper n ∧ r = 0)))))))))
theorem NetRes.uniq {n : Nw} {r r' : Int} (h : NetRes n r) (G : NetRes n r') : r = r' := by
 unfold NetRes at h G
 rcases h with ⟨a, rfl⟩ | ⟨a, ⟨b, rfl⟩ | ⟨b, ⟨c, rfl⟩ | ⟨c, ⟨d, rfl⟩ | ⟨d, ⟨e, rfl⟩ | ⟨e, rfl⟩⟩⟩⟩⟩ <;>
  rcases G with ⟨M, rfl⟩ | ⟨M, ⟨W, rfl⟩ | ⟨W, ⟨Y, rfl⟩ | ⟨Y, ⟨Z, rfl⟩ | ⟨Z, ⟨e', rfl⟩ | ⟨e', rfl⟩⟩⟩⟩⟩ <;> first | rfl | contradiction
structure Sane (n : Network) : Prop where
 nodes : n.Nodes.length ≤ 1000
 segs : n.Segments.length ≤ 1000
 ports : n.Ports.length ≤ 1000
 sts : n.Stations.length ≤ 1000
 pts : ∀ (k : Nat) (s : Sg), n.Segments[k]? = some s → s.Points.length ≤ 1000
theorem Mg {a b : Bt} : Wh a b = true ↔ a.toList = b.toList := by simp [Wh]
theorem Pq {x : Bt} {k : Nat} (h : k < x.size) : mW x (k : Int) = some (k, ch x k) := by
 unfold mW ch; rw [if_pos ⟨by omega, by omega⟩]; simp
theorem mQ {c : Bool} {P : Prop} (h : c = true ↔ P) : (c = true ∧ P) ∨ (c = false ∧ ¬ P) := by
 cases c
 ·exact .inr ⟨rfl, fun G => by cases h.2 G⟩
 ·exact .inl ⟨rfl, h.1 rfl⟩
theorem Mu {x : Bt} : Ok (Il x) fun r => r = true ↔ Ly x := by
 have Y : ¬ (1 ≤ x.size ∧ x.size ≤ 12 ∧ Ma (ch x 0)) → Ok (Il.J1 x true) fun r => r = true ↔ Ly x := fun h => by
  unfold Il.J1
  exact .pure ⟨fun h => (by cases h), fun W => absurd W.1 h⟩
 unfold Il
 refine Bf (fun h => Y (by omega)) fun Z => Bf (fun h => Y (by omega)) fun h2 => ?_
 refine .bind' (.eq (Pq (k := 0) (by omega)) ?_)
 have e : (Jo (ch x 0) != 1) = true ↔ ¬ Ma (ch x 0) := by
  unfold Jo Jo.J1 Ma
  by_cases a : (decide (ch x 0 ≥ 97) && decide (ch x 0 ≤ 122)) = true
  ·rw [if_pos a]; simp at a ⊢; omega
  ·rw [if_neg a]
   simp at a
   refine ⟨fun _ => by omega, fun _ => ?_⟩
   split <;> (try split) <;> rfl
 rcases mQ e with ⟨e, G⟩ | ⟨e, G⟩
 ·dsimp only; rw [e]; exact Y (fun h => G h.2.2)
 dsimp only
 rw [e]
 unfold Il.J1
 refine Cw (fun h => by cases h) fun _ => .bind' (.chk (by omega) ?_)
 refine .bind (Mm (d := false) (P := fun k => ¬ (Ma (ch x k) ∨ (48 ≤ ch x k ∧ ch x k ≤ 57) ∨ ch x k = 45)) fun k M => ?_) ?_
 ·unfold Il.B3
  refine .bind' (.eq (Pq (by simpa using M)) (.test ?_))
  dsimp only
  unfold Jo Jo.J1 Ma
  split
  ·rename_i h; simp at h ⊢; omega
  ·split
   ·rename_i h; simp at h ⊢; omega
   ·split
    ·rename_i h; simp at h ⊢; omega
    ·rename_i Z h2 G; simp at Z h2 G ⊢; omega
 ·rintro _ (⟨⟨k, M, h⟩, rfl⟩ | ⟨h, rfl⟩)
  ·exact .pure ⟨fun h => (by cases h), fun W => absurd (W.2 k (by simpa using M)) h⟩
  ·refine .pure ⟨fun _ => ⟨⟨by omega, by omega, Classical.not_not.1 G⟩, fun k M => Classical.not_not.1 (h k (by simpa using M))⟩, fun _ => rfl⟩
theorem Y2 {k0 : Nat} {l : List Bt} : Ok (forL (Qf.B6 (k0, l)) 0 l ()) fun o => (pC l ∧ o = .inr true) ∨ (¬ pC l ∧ o = .inl ()) := by
 refine (Ok.any (d := true) (P := fO l) fun k x W => ?_).mono fun o h => h.imp (fun h => h) fun h => ⟨fun ⟨k, x, W, Z⟩ => h.1 k x W Z, h.2⟩
 unfold Qf.B6
 refine .bind Ky fun r hr => .test ?_
 rcases hr with ⟨rfl, h⟩ | ⟨j, y, rfl, hj, he, M⟩
 ·have := h k x W
  rw [gT] at this; cases this
 ·simp only [decide_eq_true_eq]
  refine ⟨fun h => ⟨j, y, by omega, hj, Mg.1 he⟩, fun ⟨i, z, hi, hz, Y⟩ => ?_⟩
  by_cases G : i < j
  ·have := M i z G hz
   rw [Mg.2 Y] at this; cases this
  ·omega
theorem Zq {n : Nw} {l : List (List Bt)} (h : l = eY n) {k : Nat} (G : k < 4) : ∃ x, l[k]? = some x ∧ (eY n)[k]? = some x := by
 subst h
 exact ⟨(eY n)[k]'G, gq _, gq _⟩
theorem gM {n : Nw} (hn : Sane n) : Ok (Qf n) fun r => r = true ↔ (Qc n ∨ Qb n) := by
 unfold Qf
 refine .bind (Xd hn.segs hn.ports hn.sts) fun r hr => .bind (Mm (d := true) (P := fun k => ∃ l, (eY n)[k]? = some l ∧ pC l) fun k Y => ?_) ?_
 ·obtain ⟨l, h1, G⟩ := Zq hr Y
  unfold Qf.B4
  refine .bind' (.eq (Bd h1) (.bind Y2 ?_))
  rintro _ (⟨h, rfl⟩ | ⟨h, rfl⟩)
  ·exact .pure (.inl ⟨⟨l, G, h⟩, rfl⟩)
  ·refine .pure (.inr ⟨fun ⟨m, h3, h4⟩ => ?_, rfl⟩)
   rw [G] at h3; cases h3; exact h h4
 rintro _ (⟨h, rfl⟩ | ⟨h, rfl⟩)
 ·exact .pure ⟨fun _ => .inl h, fun _ => rfl⟩
 unfold Qf.J1
 refine .bind (Ok.any (d := true) (P := Yv n.Stations) fun k x hx => ?_) ?_
 ·unfold Qf.B3
  refine .bind (Eb (P := fun y => Ji y x) fun _ _ _ => rfl) fun r hr => .test ?_
  rcases hr with ⟨rfl, h⟩ | ⟨j, y, rfl, hj, he, Z⟩
  ·have := h k x hx
   simp [Ji] at this
  ·simp only [decide_eq_true_eq]
   refine ⟨fun h => ⟨j, y, by omega, hj, by simp [Ji] at he; exact he.symm⟩, fun ⟨i, z, hi, hz, hxz⟩ => ?_⟩
   by_cases W : i < j
   ·have := Z i z W hz
    simp [Ji, hxz] at this
   ·omega
 ·rintro _ (⟨M, rfl⟩ | ⟨M, rfl⟩)
  ·exact .pure ⟨fun _ => .inr M, fun _ => rfl⟩
  ·refine .pure ⟨fun h => (by cases h), fun G => ?_⟩
   rcases G with ⟨k, Y, G⟩ | ⟨k, x, hx, hd⟩
   ·exact absurd G (h k Y)
   ·exact absurd hd (M k x hx)
theorem iA {n : Nw} (Y : Sane n) : Ok (Q8 n) fun r => r = true ↔ P2 n := by
 unfold Q8
 refine .bind (V5 (g := fun s : Sg => [s.From, s.To]) (fun _ _ _ => rfl) (fun _ => by simp) Y.segs (by simp)) ?_
 rintro l1 ⟨Z, M⟩
 unfold Q8.J1
 refine .bind (V5 (g := fun s : Port => [s.Node]) (fun _ _ _ => rfl) (fun _ => by simp) Y.ports (by simp at M; omega)) ?_
 rintro l2 ⟨e2, hl2⟩
 unfold Q8.J2
 refine .bind (V5 (g := fun s : Sn => [s.Node]) (fun _ _ _ => rfl) (fun _ => by simp) Y.sts (by simp at M; omega)) ?_
 rintro l3 ⟨e3, -⟩
 subst e3 e2 Z
 unfold Q8.J3
 refine .bind' (.eq (Eh (P := fun x => Ll x n) fun _ _ _ => rfl) (.pure ?_))
 have e : ∀ x, Ll x n = false ↔ At n x := fun x => by unfold At; simp [Ll]
 rw [Bool.not_eq_true', List.any_eq_false]
 simp only [List.nil_append, List.mem_append, List.mem_flatMap, List.mem_cons, List.not_mem_nil, or_false, Bool.not_eq_true, e]
 refine ⟨fun h => ⟨fun k s G => ⟨h _ (.inl (.inl ⟨s, mg G, .inl rfl⟩)), h _ (.inl (.inl ⟨s, mg G, .inr rfl⟩))⟩, fun k s G => h _ (.inl (.inr ⟨s, mg G, rfl⟩)), fun k s G => h _ (.inr ⟨s, mg G, rfl⟩)⟩, fun h x hx => ?_⟩
 rcases hx with (⟨s, G, rfl | rfl⟩ | ⟨s, G, rfl⟩) | ⟨s, G, rfl⟩ <;> obtain ⟨k, W⟩ := List.getElem?_of_mem G
 ·exact (h.1 k s W).1
 ·exact (h.1 k s W).2
 ·exact h.2.1 k s W
 ·exact h.2.2 k s W
theorem Ym {a b c : Int} : De a b c = true ↔ b ≤ a ∧ a ≤ c := by simp [De]
theorem Mj {a b c : Int} : (!(De a b c)) = true ↔ ¬ (b ≤ a ∧ a ≤ c) := by rw [← Ym]; simp
theorem Z4 {s : Sg} (Z : s.Points.length ≤ 1000) {k : Nat} {p : Point} (M : s.Points[k]? = some p) (W : 0 < k) : ∃ q, s.Points[k - 1]? = some q ∧ ix s.Points (wr ((k : Int) - 1)) = some (k - 1, q) := by
 have Y := (gs M).1
 have G : s.Points[k - 1]? = some (s.Points[k - 1]'(by omega)) := gq _
 refine ⟨_, G, ?_⟩
 rw [Bp (by omega), show ((k : Int) - 1) = ((k - 1 : Nat) : Int) by omega]
 exact Bd G
theorem aH {s : Sg} {k : Nat} {p q : Point} (h : fN p) (Y : 0 < k) (W : s.Points[k - 1]? = some q) : La s k p ↔ p.At ≤ q.At := by
 refine ⟨fun G => ?_, fun G => .inr ⟨q, Y, W, G⟩⟩
 rcases G with G | ⟨Z, _, M, G⟩
 ·exact absurd h G
 ·rw [W] at M; cases M; exact G
theorem aF {s : Sg} (h2 : 2 ≤ s.Points.length ∧ s.Points.length ≤ 1000) : ∃ p q, s.Points[0]? = some p ∧ s.Points[s.Points.length - 1]? = some q ∧ ix s.Points 0 = some (0, p) ∧ ix s.Points (wr ((s.Points.length : Int) - 1)) = some (s.Points.length - 1, q) := by
 have G : s.Points[0]? = some (s.Points[0]'(by omega)) := gq _
 have M : s.Points[s.Points.length - 1]? = some (s.Points[s.Points.length - 1]'(by omega)) := gq _
 refine ⟨_, _, G, M, Bd G, ?_⟩
 rw [Bp (by omega), show ((s.Points.length : Int) - 1) = ((s.Points.length - 1 : Nat) : Int) by omega]
 exact Bd M
theorem Z5 {s : Sg} (h2 : 2 ≤ s.Points.length ∧ s.Points.length ≤ 1000) : Ok (Lw s) fun r => r = true ↔ PipeOk s := by
 obtain ⟨p0, pl, e0, el, i0, il⟩ := aF h2
 unfold Lw
 refine C5 (Q := ¬ (s.From ≠ s.To ∧ (1 ≤ s.Capacity ∧ s.Capacity ≤ 1000000) ∧ (0 ≤ s.Resist ∧ s.Resist ≤ 1000) ∧ 0 ≤ s.Wave ∧ s.Wave ≤ 100000)) ?_ (fun h => .pure ⟨fun h => (by cases h), fun G => absurd ⟨G.ends, G.cap, G.resist, G.wave⟩ h⟩) fun h => ?_
 ·simp only [Bool.or_eq_true, Mj, beq_iff_eq]; omega
 obtain ⟨a1, a2, a3, a4⟩ := Classical.not_not.1 h
 refine .bind (Ok.any (d := false) (P := La s) fun k p G => ?_) ?_
 ·have Z : ∀ b : Bool, (b = true ↔ La s k p) → Ok (Lw.J4 b) fun o => (La s k p ∧ o = .inr false) ∨ (¬ La s k p ∧ o = .inl ()) := fun b h => by unfold Lw.J4; exact .test h
  unfold Lw.B3
  refine C5 Mj (fun h => Z _ ⟨fun _ => .inl fun M => h M.1, fun _ => rfl⟩) fun h1 => C5 Mj (fun h => Z _ ⟨fun _ => .inl fun M => h M.2, fun _ => rfl⟩) fun h3 => ?_
  have M : fN p := ⟨Classical.not_not.1 h1, Classical.not_not.1 h3⟩
  refine Bf (fun W => ?_) fun W => Z _ ⟨fun h => (by cases h), fun Y => ?_⟩
  ·obtain ⟨q, hq, hi⟩ := Z4 h2.2 G (by omega)
   exact .bind' (.eq hi (Z _ (by rw [aH M (by omega) hq]; simp)))
  ·rcases Y with Y | ⟨q, hk, _⟩
   ·exact absurd M Y
   ·omega
 ·rintro _ (⟨⟨k, p, G, Y⟩, rfl⟩ | ⟨h, rfl⟩)
  ·exact .pure ⟨fun h => (by cases h), fun h => absurd Y (h.pts k p G)⟩
  ·simp only [Sum.elim_inl]
   unfold Lw.J1 Lw.J2
   rw [i0, il]
   refine .bind' (.pure (C5 (Q := p0.At = 0) (by simp) (fun W => .bind' (.pure (.pure ?_))) fun W => .pure ⟨fun h => (by cases h), fun h => absurd (h.first _ e0) W⟩))
   dsimp only
   rw [beq_iff_eq]
   refine ⟨fun hl => ⟨a1, a2, a3, a4, fun p G => ?_, fun p G => ?_, h⟩, fun G => G.last _ el⟩
   ·rw [e0] at G; cases G; exact W
   ·rw [el] at G; cases G; exact hl
theorem It {α : Type} {l : List α} {P : α → Bool} {Q : α → Prop} (h : ∀ (k : Nat) (x : α), l[k]? = some x → (P x = true ↔ Q x)) : l.any P = true ↔ ∃ (k : Nat) (x : α), l[k]? = some x ∧ Q x := by
 rw [List.any_eq_true]
 refine ⟨fun ⟨x, G, W⟩ => ?_, fun ⟨k, x, G, Y⟩ => ⟨x, mg G, (h k x G).2 Y⟩⟩
 obtain ⟨k, M⟩ := List.getElem?_of_mem G
 exact ⟨k, x, M, (h k x M).1 W⟩
theorem Lim.pts {n : Nw} (hl : Lim n) {k : Nat} {s : Sg} (G : n.Segments[k]? = some s) : 2 ≤ s.Points.length ∧ s.Points.length ≤ 1000 := by
 have := hl.2 k s G; unfold P1 at this; omega
theorem oN {n : Nw} : Ok (Qo n) fun r => r = true ↔ Lim n := by
 unfold Qo
 refine C5 (Q := ¬ (1 ≤ n.Nodes.length ∧ n.Nodes.length ≤ 24 ∧ n.Segments.length ≤ 32 ∧ n.Ports.length ≤ 24 ∧ n.Stations.length ≤ 12)) (by simp; omega) (fun h => .pure ⟨fun h => (by cases h), fun G => absurd G.1 h⟩) fun h => ?_
 refine .bind' (.eq (Dz (P := fun x => Lj x) fun _ _ _ => rfl) (.pure ?_))
 have e := It (l := n.Segments) (P := fun x => Lj x) (Q := fun s => ¬ P1 s) fun k s _ => by simp [Lj, P1]; omega
 rw [Bool.not_eq_true', ← Bool.not_eq_true, e]
 exact ⟨fun Y => ⟨Classical.not_not.1 h, fun k s W => Classical.not_not.1 fun M => Y ⟨k, s, W, M⟩⟩, fun G ⟨k, s, W, M⟩ => M (G.2 k s W)⟩
theorem bB {n : Nw} (hl : Lim n) : Ok (Vs n) fun r => r = true ↔ Proper n := by
 unfold Vs
 refine .bind' (.eq (Dz (P := fun s => !((Lw s).getD false)) fun k s G => ?_) ?_)
 ·obtain ⟨b, W, _⟩ := Z5 (hl.pts G)
  unfold Vf
  rw [W]; rfl
 have Y := It (l := n.Segments) (P := fun s => !((Lw s).getD false)) (Q := fun s => ¬ PipeOk s) fun k s G => by
  obtain ⟨b, W, he⟩ := Z5 (hl.pts G)
  rw [W, ← he]; simp
 refine C5 Y (fun ⟨k, s, G, M⟩ => .pure ⟨fun h => (by cases h), fun h => absurd (h.segs k s G) M⟩) fun h1 => ?_
 refine .bind' (.eq (F7 (P := fun x => Lm x) fun _ _ _ => rfl) ?_)
 have Z := It (l := n.Ports) (P := fun x => Lm x) (Q := fun s => ¬ (0 ≤ s.Pressure ∧ s.Pressure ≤ 100000000)) fun k s G => by unfold Lm; exact Mj
 refine C5 Z (fun ⟨k, s, G, M⟩ => .pure ⟨fun h => (by cases h), fun h => absurd (h.ports k s G) M⟩) fun h2 => ?_
 refine .bind' (.eq (E6 (P := fun x => Lu x) fun _ _ _ => rfl) ?_)
 have e3 := It (l := n.Stations) (P := fun x => Lu x) (Q := fun s => ¬ StnOk s) fun k s G => by
  unfold Lu
  simp only [Bool.or_eq_true, Mj]
  exact ⟨fun h G => h.elim (fun h => h G.head) fun h => h.elim (fun h => h G.fall) fun h => h G.suction, fun h => Classical.byContradiction fun hn => h ⟨by omega, by omega, by omega⟩⟩
 refine C5 e3 (fun ⟨k, s, G, M⟩ => .pure ⟨fun h => (by cases h), fun h => absurd (h.sts k s G) M⟩) fun h3 => .pure ?_
 rw [Bool.and_eq_true, Ym, Ym]
 exact ⟨fun h => ⟨fun k s G => Classical.not_not.1 fun M => h1 ⟨k, s, G, M⟩, fun k s G => Classical.not_not.1 fun M => h2 ⟨k, s, G, M⟩, fun k s G => Classical.not_not.1 fun M => h3 ⟨k, s, G, M⟩, h.1, h.2⟩, fun h => ⟨h.vapour, h.settle⟩⟩
theorem Lim.sane {n : Nw} (h : Lim n) : Sane n := by
 have := h.1
 exact ⟨by omega, by omega, by omega, by omega, fun k s G => by have := h.2 k s G; unfold P1 at this; omega⟩
theorem Z7 {n : Nw} : Ok (Fy n) (NetRes n) := by
 unfold Fy
 refine .bind oN fun r1 h1 => C5 (Q := ¬ Lim n) (by rw [← h1]; simp) (fun h => .pure (.inl ⟨h, rfl⟩)) fun aa => ?_
 have M := Classical.not_not.1 aa
 have W := M.sane
 refine .bind (Xd W.segs W.ports W.sts) fun r hr => .bind (Mm (d := 3) (P := fun k => ∃ l, (eY n)[k]? = some l ∧ Yw l) fun k G => ?_) ?_
 ·obtain ⟨l, g1, g2⟩ := Zq hr G
  unfold Fy.B2
  refine .bind' (.eq (Bd g1) (.bind' (.eq (Hd (P := fun x => !((Il x).getD false)) fun j x hx => ?_) (.test ?_))))
  ·obtain ⟨b, Z, _⟩ := Mu (x := x)
   unfold Vi
   rw [Z]; rfl
  ·rw [It (Q := fun x => ¬ Ly x) fun j x hx => by obtain ⟨b, Z, he⟩ := Mu (x := x); rw [Z, ← he]; simp]
   exact ⟨fun h => ⟨l, g2, h⟩, fun ⟨m, g3, h⟩ => by rw [g2] at g3; cases g3; exact h⟩
 rintro _ (⟨h, rfl⟩ | ⟨h, rfl⟩)
 ·exact .pure (.inr ⟨M, .inl ⟨h, rfl⟩⟩)
 have Y : ¬ Kb n := fun ⟨k, G, h'⟩ => h k G h'
 simp only [Sum.elim_inl]
 unfold Fy.J1
 refine .bind (gM W) fun r2 h2 => C5 h2 (fun h => .pure (.inr ⟨M, .inr ⟨Y, .inl ⟨h, rfl⟩⟩⟩)) fun ht => ?_
 refine .bind (iA W) fun r3 h3 => C5 (Q := ¬ P2 n) (by rw [← h3]; simp) (fun h => .pure (.inr ⟨M, .inr ⟨Y, .inr ⟨ht, .inl ⟨h, rfl⟩⟩⟩⟩)) fun G => ?_
 have G := Classical.not_not.1 G
 refine .bind (bB M) fun r4 h4 => C5 (Q := ¬ Proper n) (by rw [← h4]; simp) (fun h => .pure (.inr ⟨M, .inr ⟨Y, .inr ⟨ht, .inr ⟨G, .inl ⟨h, rfl⟩⟩⟩⟩⟩)) fun hp => ?_
 exact .pure (.inr ⟨M, .inr ⟨Y, .inr ⟨ht, .inr ⟨G, .inr ⟨Classical.not_not.1 hp, rfl⟩⟩⟩⟩⟩)
theorem oI {n : Nw} (_ : Sane n) : Ok (Fy n) (NetRes n) := Z7
theorem NetRes.good {n : Nw} (h : NetRes n 0) : Lim n ∧ ¬ Kb n ∧ ¬ (Qc n ∨ Qb n) ∧ P2 n ∧ Proper n := by
 rcases h with ⟨_, h⟩ | ⟨a, ⟨_, h⟩ | ⟨b, ⟨_, h⟩ | ⟨c, ⟨_, h⟩ | ⟨d, ⟨_, h⟩ | ⟨e, _⟩⟩⟩⟩⟩
 ·cases h
 ·cases h
 ·cases h
 ·cases h
 ·cases h
 ·exact ⟨a, b, c, d, e⟩
def Named (c : UInt8) (l : List Bt) : Prop := l.length ≤ 26 ∧ ∀ (k : Nat) (x : Bt), l[k]? = some x → x = nm c k
theorem NetOk.named {n : Nw} (h : NetOk n) : ∀ l, l ∈ [n.Nodes, n.Segments.map (·.Name), n.Ports.map (·.Name), n.Stations.map (·.Name)] → ∃ c, (c = 110 ∨ c = 103 ∨ c = 113 ∨ c = 115) ∧ Named c l := by
 have Y := h.nodes; have Z := h.segs1; have h3 := h.ports1; have h4 := h.sts1
 intro l W
 simp only [List.mem_cons, List.not_mem_nil, or_false] at W
 rcases W with rfl | rfl | rfl | rfl
 ·exact ⟨110, by simp, by omega, h.names⟩
 ·refine ⟨103, by simp, by simp; omega, fun k x G => ?_⟩
  rw [List.getElem?_map] at G
  obtain ⟨s, M, rfl⟩ := Option.map_eq_some_iff.1 G
  exact (h.segs k s M).name
 ·refine ⟨113, by simp, by simp; omega, fun k x G => ?_⟩
  rw [List.getElem?_map] at G
  obtain ⟨s, M, rfl⟩ := Option.map_eq_some_iff.1 G
  exact (h.ports k s M).name
 ·refine ⟨115, by simp, by simp; omega, fun k x G => ?_⟩
  rw [List.getElem?_map] at G
  obtain ⟨s, M, rfl⟩ := Option.map_eq_some_iff.1 G
  exact (h.sts k s M).name
theorem lU {c : UInt8} (hc : 97 ≤ c.toNat ∧ c.toNat ≤ 122) {k : Nat} (hk : k < 26) : Il (nm c k) = some true := by
 obtain ⟨b, Y, Z⟩ := Mu (x := nm c k)
 have M : ch (nm c k) 0 = (c.toNat : Int) := rfl
 have W : ch (nm c k) 1 = 97 + k := by
  show (((97 + UInt8.ofNat k).toNat : Nat) : Int) = _
  rw [UInt8.toNat_add, UInt8.toNat_ofNat', show (97 : UInt8).toNat = 97 from rfl]
  omega
 rw [Y, Z.2 ⟨⟨by show 1 ≤ 2; omega, by show 2 ≤ 12; omega, by rw [M]; unfold Ma; omega⟩, fun j G => ?_⟩]
 have G : j < 2 := G
 refine .inl ?_
 unfold Ma
 match j, G with
 | 0, _ => rw [M]; omega
 | 1, _ => rw [W]; omega
theorem oJ {c : UInt8} (hc : c = 110 ∨ c = 103 ∨ c = 113 ∨ c = 115) {k : Nat} (G : k < 26) : Il (nm c k) = some true := by
 refine lU ?_ G
 rcases hc with rfl | rfl | rfl | rfl <;> decide
theorem oD {c : UInt8} {i j : Nat} (hi : i < 26) (Y : j < 26) (h : Wh (nm c i) (nm c j) = true) : i = j := by
 have W : (nm c i).toList = (nm c j).toList := by simpa [Wh] using h
 have G : [c, 97 + UInt8.ofNat i] = [c, 97 + UInt8.ofNat j] := by simpa [nm, ByteArray.toList, ByteArray.toList.loop, ByteArray.size, ByteArray.get!] using W
 simp only [List.cons.injEq, and_true, true_and] at G
 have M := congrArg UInt8.toNat G
 simp only [UInt8.toNat_add, UInt8.toNat_ofNat'] at M
 have : (97 : UInt8).toNat = 97 := rfl
 rw [this] at M
 omega
def pS (l : List Bt) : Prop := l.length ≤ 26 ∧ (∀ (k : Nat) (x : Bt), l[k]? = some x → Il x = some true) ∧ ∀ (i j : Nat) (x y : Bt), l[i]? = some x → l[j]? = some y → Wh x y = true → i = j
theorem Named.nmd {c : UInt8} (hc : c = 110 ∨ c = 103 ∨ c = 113 ∨ c = 115) {l : List Bt} (h : Named c l) : pS l := by
 obtain ⟨Z, G⟩ := h
 refine ⟨Z, fun k x Y => ?_, fun i j x y M W he => ?_⟩
 ·have := (gs Y).1
  rw [G k x Y]; exact oJ hc (by omega)
 ·have hi' := (gs M).1
  have hj' := (gs W).1
  have hx := G i x M; have hy := G j y W
  subst hx; subst hy
  exact oD (by omega) (by omega) he
structure SegB (nodes : Nat) (s : Segment) : Prop where
 ends : 0 ≤ s.From ∧ s.From < (nodes : Int) ∧ 0 ≤ s.To ∧ s.To < (nodes : Int) ∧ s.From ≠ s.To
 cap : 1 ≤ s.Capacity ∧ s.Capacity ≤ 1000
 resist : 0 ≤ s.Resist ∧ s.Resist ≤ 1000
 wave : 0 ≤ s.Wave ∧ s.Wave ≤ 100000
 points : PointsOk s.Capacity s.Points
theorem SegOk.b {nodes k : Nat} {s : Sg} (h : SegOk nodes k s) : SegB nodes s := ⟨h.ends, h.cap, h.resist, h.wave, h.points⟩
theorem bP {α : Type} {l : List α} {P : α → Bool} (h : ∀ (k : Nat) (x : α), l[k]? = some x → P x = false) : l.any P = false := by
 rw [List.any_eq_false]
 intro x M
 obtain ⟨j, G⟩ := List.getElem?_of_mem M
 rw [h j x G]; simp
structure NetV (n : Network) : Prop where
 nodes : 1 ≤ n.Nodes.length ∧ n.Nodes.length ≤ 6
 segs1 : n.Segments.length ≤ 8
 segs : ∀ (k : Nat) (s : Sg), n.Segments[k]? = some s → ∃ j, SegOk n.Nodes.length j s
 ports1 : n.Ports.length ≤ 6
 ports : ∀ k s, n.Ports[k]? = some s → PortOk n.Nodes.length k s
 sts1 : n.Stations.length ≤ 6
 sts : ∀ k s, n.Stations[k]? = some s → StOk n.Nodes.length k s
 stsUp : ∀ (i j : Nat) (p q : Sn), i < j → n.Stations[i]? = some p → n.Stations[j]? = some q → p.Node < q.Node
 vapour : -100000 ≤ n.Vapour ∧ n.Vapour ≤ 50000
 settle : 0 ≤ n.Settle ∧ n.Settle ≤ 100
 named : ∀ l, l ∈ [n.Nodes, n.Segments.map (·.Name), n.Ports.map (·.Name), n.Stations.map (·.Name)] → pS l
theorem NetOk.v {n : Nw} (h : NetOk n) : NetV n :=
 ⟨by have := h.nodes; omega, h.segs1.2, fun k s M => ⟨k, h.segs k s M⟩, h.ports1.2, h.ports, h.sts1, h.sts, h.stsUp, h.vapour, h.settle, fun l G => let ⟨_, hc, hn⟩ := h.named l G; hn.nmd hc⟩
structure NetW (n : Network) : Prop where
 nodes : 1 ≤ n.Nodes.length ∧ n.Nodes.length ≤ 6
 segs1 : n.Segments.length ≤ 8
 segs : ∀ (k : Nat) (s : Sg), n.Segments[k]? = some s → SegB n.Nodes.length s
 ports1 : n.Ports.length ≤ 6
 ports : ∀ (k : Nat) s, n.Ports[k]? = some s → (0 ≤ s.Node ∧ s.Node < (n.Nodes.length : Int)) ∧ 0 ≤ s.Pressure ∧ s.Pressure ≤ 100000000
 sts1 : n.Stations.length ≤ 6
 sts : ∀ k s, n.Stations[k]? = some s → StOk n.Nodes.length k s
 stsUp : ∀ (i j : Nat) (p q : Sn), i < j → n.Stations[i]? = some p → n.Stations[j]? = some q → p.Node < q.Node
 vapour : -100000 ≤ n.Vapour ∧ n.Vapour ≤ 50000
 settle : 0 ≤ n.Settle ∧ n.Settle ≤ 100
 named : ∀ l, l ∈ [n.Nodes, n.Segments.map (·.Name), n.Ports.map (·.Name), n.Stations.map (·.Name)] → pS l
theorem NetV.w {n : Nw} (h : NetV n) : NetW n :=
 ⟨h.nodes, h.segs1, fun k s G => (h.segs k s G).choose_spec.b, h.ports1, fun k s G => ⟨(h.ports k s G).node, (h.ports k s G).pressure⟩, h.sts1, h.sts, h.stsUp, h.vapour, h.settle, h.named⟩
theorem NetW.res {n : Nw} (h : NetW n) : NetRes n 0 := by
 have h1 := h.nodes; have h2 := h.segs1; have h3 := h.ports1; have h4 := h.sts1; have h5 := h.vapour; have h6 := h.settle
 refine .inr ⟨⟨by omega, fun k s G => (h.segs k s G).points.len⟩, .inr ⟨?_, .inr ⟨?_, .inr ⟨⟨fun k s G => ?_, fun k s G => (h.ports k s G).1, fun k s G => (h.sts k s G).node⟩, .inr ⟨⟨fun k s G => ?_, fun k s G => (h.ports k s G).2, fun k s G => ⟨?_, ?_, ?_⟩, by omega, h6⟩, rfl⟩⟩⟩⟩⟩
 ·rintro ⟨k, hk, l, hl, j, x, Y, hn⟩
  obtain ⟨b, M, Z⟩ := Mu (x := x)
  rw [(h.named l (mg hl)).2.1 j x Y] at M
  cases M
  exact hn (Z.1 rfl)
 ·rintro (⟨k, hk, l, hl, i, x, Y, j, y, hj, hy, Z⟩ | ⟨i, x, Y, j, y, hj, hy, Z⟩)
  ·have := (h.named l (mg hl)).2.2 i j x y Y hy (Mg.2 Z)
   omega
  ·have := h.stsUp j i y x hj hy Y
   omega
 ·have := (h.segs k s G).ends
  exact ⟨⟨by omega, by omega⟩, by omega, by omega⟩
 ·have G := h.segs k s G
  have W := G.points
  refine ⟨G.ends.2.2.2.2, by have := G.cap; omega, G.resist, G.wave, W.first, W.last, fun k p hk M => ?_⟩
  have hm := mg hk
  rcases M with M | ⟨q, h0, hq, hle⟩
  ·exact M ⟨W.height p hm, W.limit p hm⟩
  ·have := W.up (k - 1) q p hq (by rw [show k - 1 + 1 = k by omega]; exact hk)
   omega
 ·have := (h.sts k s G).head; omega
 ·have := (h.sts k s G).fall; omega
 ·have := (h.sts k s G).suction; omega
theorem NetW.sane {n : Nw} (h : NetW n) : Sane n := by
 have M := h.nodes; have W := h.segs1; have Y := h.ports1; have Z := h.sts1
 exact ⟨by omega, by omega, by omega, by omega, fun k s G => by have := (h.segs k s G).points.len; omega⟩
theorem Tn {n : Nw} (h : NetW n) : Fy n = some 0 := by
 obtain ⟨r, G, M⟩ := oI h.sane
 rw [G, M.uniq h.res]
theorem bD {n : Nw} (h : NetV n) : Fy n = some 0 := Tn h.w
theorem gY {n : Nw} (h : NetOk n) : Fy n = some 0 := bD h.v
structure NetC (n : Network) : Prop where
 nodes : 1 ≤ n.Nodes.length ∧ n.Nodes.length ≤ 24
 segs1 : n.Segments.length ≤ 32
 segs : ∀ (k : Nat) (s : Sg), n.Segments[k]? = some s → (0 ≤ s.From ∧ s.From < (n.Nodes.length : Int) ∧ 0 ≤ s.To ∧ s.To < (n.Nodes.length : Int) ∧ s.From ≠ s.To) ∧ 1 ≤ s.Capacity ∧ s.Capacity ≤ 1000000
 ports1 : n.Ports.length ≤ 24
 ports : ∀ (k : Nat) s, n.Ports[k]? = some s → 0 ≤ s.Node ∧ s.Node < (n.Nodes.length : Int)
 sts1 : n.Stations.length ≤ 12
 check : Fy n = some 0
structure NetG (n : Network) : Prop where
 nodes : 1 ≤ n.Nodes.length ∧ n.Nodes.length ≤ 6
 segs1 : n.Nodes.length - 1 ≤ n.Segments.length ∧ n.Segments.length ≤ 8
 segs : ∀ (k : Nat) (s : Sg), n.Segments[k]? = some s → SegB n.Nodes.length s
 ports1 : 2 ≤ n.Ports.length ∧ n.Ports.length ≤ 6
 ports : ∀ (k : Nat) s, n.Ports[k]? = some s → 0 ≤ s.Node ∧ s.Node < (n.Nodes.length : Int)
 sts1 : n.Stations.length ≤ 6
 check : Fy n = some 0
theorem NetG.c {n : Nw} (h : NetG n) : NetC n := by
 have M := h.nodes; have W := h.segs1; have Y := h.ports1; have Z := h.sts1
 exact ⟨by omega, by omega, fun k s G => ⟨(h.segs k s G).ends, by have := (h.segs k s G).cap; omega⟩, by omega, h.ports, by omega, h.check⟩
theorem NetRes.c {n : Nw} (h : NetRes n 0) (h0 : Fy n = some 0) : NetC n := by
 obtain ⟨a, b, c, d, e⟩ := h.good
 have := a.1
 refine ⟨by omega, by omega, fun k s G => ⟨?_, (e.segs k s G).cap⟩, by omega, d.2.1, by omega, h0⟩
 obtain ⟨⟨M, W⟩, Y, Z⟩ := d.1 k s G
 exact ⟨M, W, Y, Z, (e.segs k s G).ends⟩
theorem NetOk.g {n : Nw} (h : NetOk n) : NetG n :=
 ⟨by have := h.nodes; omega, h.segs1, fun k s G => (h.segs k s G).b, h.ports1, fun k s G => (h.ports k s G).node, h.sts1, gY h⟩
theorem NetW.g {n : Nw} (h : NetW n) (h1 : n.Nodes.length - 1 ≤ n.Segments.length) (h2 : 2 ≤ n.Ports.length) : NetG n :=
 ⟨h.nodes, ⟨h1, h.segs1⟩, h.segs, ⟨h2, h.ports1⟩, fun k s G => (h.ports k s G).1, h.sts1, Tn h⟩
theorem Rw {st : List Piece} {x : Piece} {J : Bool → Option (List Piece)} (M : ∀ b, J b = if b = true then Option.bind (ix st (wr ((st.length : Int) - 1))) fun p => some (st.set p.1 (⟨p.2.Batch, wr (p.2.Volume + x.Volume)⟩ : Piece)) else Option.bind (Cy st ([x] : List Piece)) fun l => some l)
  (hl : st.length ≤ 1000000000) (hv : ∀ q, q ∈ st → 0 ≤ q.Volume ∧ q.Volume ≤ 1000000000) (Z : 0 ≤ x.Volume ∧ x.Volume ≤ 1000000000) :
  (if decide ((st.length : Int) > 0) = true then Option.bind (ix st (wr ((st.length : Int) - 1))) fun p => J (p.2.Batch == x.Batch) else J false) = some (Uw st x) := by
 rcases Em st with rfl | ⟨a, q, rfl⟩
 ·rw [if_neg (by simp), M, if_neg (by simp), Ga (by simp)]; rfl
 ·have Y := hv q (by simp)
  have e : wr (((a ++ [q]).length : Int) - 1) = (a.length : Int) := by
   simp at hl
   rw [List.length_append, List.length_singleton]; rw [Bp (by omega)]; omega
  have W : ix (a ++ [q]) (wr (((a ++ [q]).length : Int) - 1)) = some (a.length, q) := by
   rw [e]; exact Bd (by simp)
  rw [if_pos (by simp), W, Option.bind_some, M, Eo]
  by_cases G : q.Batch = x.Batch
  ·rw [if_pos (by simp [G]), W, Option.bind_some, if_pos G]
   dsimp only
   rw [Bp (by omega)]; simp
  ·rw [if_neg (by simp [G]), Ga (by simp at hl ⊢; omega), if_neg G]; rfl
theorem N0 {M : Li} (h : M.length ≤ 1000000000) : (Ci M).length ≤ 1000000000 ∧ ∀ q, q ∈ Ci M → 0 ≤ q.Volume ∧ q.Volume ≤ 1000000000 := by
 have := Fo M
 refine ⟨by omega, fun q G => ?_⟩
 have Z := (D9 M).pos q G
 have W := Im (fun p Y => by have := (D9 M).pos p Y; omega) G
 rw [Cs] at W; omega
theorem Iq {M : Li} {x : Piece} (G : 1 ≤ x.Volume) : Uw (Ci M) x = Ci (M ++ List.replicate x.Volume.toNat x.Batch) := by
 rw [V1 _ _ _ (by omega)]
 obtain ⟨b, v⟩ := x
 dsimp only at G ⊢
 rw [show ((v.toNat : Nat) : Int) = v by omega]
theorem Rt {B : Nat → Piece → List Piece → Option (List Piece)} (c : Int) (hc : 0 ≤ c)
  (hB : ∀ k x M, M.length ≤ 1000000000 → c ≤ x.Volume → x.Volume ≤ 1000000000 → B k x (Ci M) = some (Ci (M ++ List.replicate x.Volume.toNat x.Batch))) {L : Li} {f : List Piece}
  (hf : ∀ p, p ∈ f → c ≤ p.Volume) (hl : (L.length : Int) + vol f ≤ 1000000000) : forS B 0 f (Ci L) = some (Ci (L ++ lit f)) := by
 have W : ∀ p, p ∈ f → 0 ≤ p.Volume := fun p G => by have := hf p G; omega
 have : Ok (forS B 0 f (Ci L)) fun r => r = Ci (L ++ lit f) := by
  refine .forS (fun k st => st = Ci (L ++ lit (f.take k))) (by simp [E1]) ?_ fun st h => by rw [h, List.take_length]
  rintro k x _ hx rfl
  have hm := mg hx
  have Y := Im W hm
  have Z := F8 (f := f.take k) fun p G => W p (List.mem_of_mem_take G)
  have h3 : vol f = vol (f.take k) + vol (f.drop k) := by rw [← Fm, List.take_append_drop]
  have h4 := F8 (f := f.drop k) fun p G => W p (List.mem_of_mem_drop G)
  have h5 := En (f := f.take k) fun p G => W p (List.mem_of_mem_take G)
  refine ⟨_, hB k x _ (by rw [List.length_append]; omega) (hf x hm) (by omega), ?_⟩
  rw [List.take_add_one, hx]
  simp [Dr, Ea, List.append_assoc]
 obtain ⟨r, Y, Z⟩ := this
 rw [Y, Z]
theorem Rz {N : Li} {f : List Piece} (hf : ∀ p, p ∈ f → 1 ≤ p.Volume) (hl : (N.length : Int) + vol f ≤ 1000000000) : Ls (Ci N) f = some (Ci (N ++ lit f)) := by
 unfold Ls
 rw [Rt (B := Ls.B2) 1 (by omega) (fun k x M Y W Z => ?_) hf hl]; · rfl
 have G := N0 Y
 unfold Ls.B2
 rw [Rw (J := Ls.J4 x (Ci M)) (fun b => rfl) G.1 G.2 (by omega), Iq W]
theorem Ru {x : Piece} (h : x.Volume = 0) (M : Li) : M ++ List.replicate x.Volume.toNat x.Batch = M := by simp [h]
theorem Ix {f : List Piece} (hf : ∀ p, p ∈ f → 0 ≤ p.Volume) (hl : vol f ≤ 1000000000) : Lh f = some (Ci (lit f)) := by
 unfold Lh
 rw [show ([] : List Piece) = Ci [] from rfl, Rt (B := Lh.B2) 0 (by omega) (fun k x M Y Z h2 => ?_) hf (by simpa using hl)]; · rfl
 have W := N0 Y
 unfold Lh.B2
 by_cases G : x.Volume = 0
 ·rw [if_pos (by simp [G]), Ru G]; rfl
 ·rw [if_neg (by simp [G]), Rw (J := Lh.J4 x (Ci M)) (fun b => rfl) W.1 W.2 (by omega), Iq (by omega)]
theorem G9 {f : List Piece} (hf : ∀ p, p ∈ f → 0 ≤ p.Volume) (hl : vol f ≤ 1000000000) : If f = some (Ci (lit f)) := by
 unfold If
 rw [show ([] : List Piece) = Ci [] from rfl, Rt (B := If.B2) 0 (by omega) (fun k x M Y Z h2 => ?_) hf (by simpa using hl)]; · rfl
 have W := N0 Y
 unfold If.B2
 by_cases G : x.Volume = 0
 ·rw [if_pos (by simp [G]), Ru G]; rfl
 ·rw [if_neg (by simp [G]), Rw (J := If.J4 x (Ci M)) (fun b => rfl) W.1 W.2 (by omega), Iq (by omega)]
theorem Z3 (l : List Piece) (x : Piece) : (Uw l x).length ≤ l.length + 1 := by
 rcases Em l with rfl | ⟨a, q, rfl⟩
 ·simp [Pn]
 ·rw [Eo]; split <;> simp
theorem Xz {f : List Piece} (hf : ∀ p, p ∈ f → 0 ≤ p.Volume) : (Ci (lit f)).length ≤ f.length := by
 induction f using Mo with
 | h0 => simp [E1, Ir]
 | h1 a x ih =>
  have h1 := ih fun p G => hf p (by simp [G])
  have M := hf x (by simp)
  rw [Dr, Ea, List.length_append, List.length_singleton]
  by_cases h0 : x.Volume = 0
  ·rw [Ru h0]; omega
  ·rw [← Iq (by omega)]
   have := Z3 (Ci (lit a)) x
   omega
theorem Wu {B : Nat → Piece → Int → Option Int} (hB : ∀ k x s, B k x s = some (wr (s + x.Volume))) {f : List Piece} (hf : ∀ p, p ∈ f → 0 ≤ p.Volume) (hl : vol f ≤ 1000000000) : forS B 0 f 0 = some (vol f) := by
 have : Ok (forS B 0 f 0) fun r => r = vol f := by
  refine .forS (fun k M => M = vol (f.take k)) rfl ?_ fun M h => by rw [h, List.take_length]
  rintro k x _ hx rfl
  rw [hB]
  have Z : vol f = vol (f.take (k + 1)) + vol (f.drop (k + 1)) := by rw [← Fm, List.take_append_drop]
  have h4 := F8 (f := f.drop (k + 1)) fun p G => hf p (List.mem_of_mem_drop G)
  have h5 := F8 (f := f.take (k + 1)) fun p G => hf p (List.mem_of_mem_take G)
  refine .pure ?_
  rw [Fa hx] at Z h5 ⊢
  exact Bp (by omega)
 obtain ⟨r, W, Y⟩ := this
 rw [W, Y]
theorem Jv {f : List Piece} (hf : ∀ p, p ∈ f → 0 ≤ p.Volume) (hl : vol f ≤ 1000000000) : Jk f = some (vol f) := by
 unfold Jk; rw [Wu (B := Jk.B2) (fun _ _ _ => rfl) hf hl]; rfl
theorem Rl {f : List Piece} (hf : ∀ p, p ∈ f → 0 ≤ p.Volume) (hl : vol f ≤ 1000000000) : Lo f = some (vol f) := by
 unfold Lo; rw [Wu (B := Lo.B2) (fun _ _ _ => rfl) hf hl]; rfl
theorem Vd.piece {f : List Piece} (h : Vd f) {p : Piece} (G : p ∈ f) : 0 ≤ p.Batch ∧ p.Batch < 1000 ∧ 1 ≤ p.Volume ∧ p.Volume ≤ 1000000 := by
 have M := h.can.pos p G
 have W := h.bat _ (Z9 h.can.pos G)
 have Y := Im h.nn G
 have := h.vol
 omega
theorem Vd.litre {f : List Piece} (h : Vd f) {p : Piece} (G : p ∈ f) : Ho p = true := by
 have := h.piece G
 unfold Ho; simp; omega
theorem Hw {f : List Piece} (h : Vd f) : Hm f = some true := by
 have M := h.len; have h2 := h.vol
 have : Ok (Hm f) fun r => r = true := by
  unfold Hm
  refine Bf (fun h => by omega) fun _ => .bind' (.forL (fun _ _ => True) (fun _ => False) trivial ?_ ?_ (fun _ h => h.elim))
  ·intro k x _ G _
   have hp := h.piece (mg G)
   have e : ∀ b, b = false → Ok (Hm.J3 b) (Sum.elim (fun _ : Unit => True) fun _ : Bool => False) := by rintro _ rfl; exact .pure trivial
   unfold Hm.B2
   rw [h.litre (mg G)]
   rw [if_neg (by simp), if_neg (by simp; omega)]
   refine Bf (fun hk => ?_) fun _ => e _ rfl
   have W := (gs G).1
   rw [Bp (by omega)]
   refine .bind' (.ix' (by omega) (by omega) fun j y hj Z => e _ ?_)
   have Y := h.can.ne j y x Z (by rw [show j + 1 = k by omega]; exact G)
   simpa using Y
  ·intro _ _
   unfold Hm.J1
   exact .bind' (.eq (Jv h.nn (by omega)) (.pure (by simp; omega)))
 obtain ⟨r, M, rfl⟩ := this
 exact M
theorem Te {f : List Piece} (h : Vd f) : Vh f = some (vol f) := by
 have G := h.vol
 unfold Vh
 rw [Hw h, Option.bind_some, if_neg (by simp), Jv h.nn (by omega)]; rfl
theorem Hz {f : List Piece} (h : f.length ≤ 100000) : Hq f = some f := by
 unfold Hq
 rw [Ga (by simp; omega)]; rfl
theorem gZ {f : List Piece} (h : Vd f) : Jl f = some f := by
 have W := h.len; have Y := h.vol
 have : Ok (Nk f (fun x => some (Ii x))) fun r => r = false := by
  unfold Nk Qr
  refine .bind (Q := fun r => r = -1) (.bind' (.forL (fun _ _ => True) (fun _ => False) trivial ?_ (fun _ _ => .pure rfl) (fun _ h => h.elim))) (by rintro _ rfl; exact .pure (by simp))
  intro k x _ M _
  unfold Qr.B2
  rw [Option.bind_some]
  unfold Ii
  rw [h.litre (mg M)]
  exact .pure trivial
 obtain ⟨r, G, rfl⟩ := this
 unfold Jl
 rw [if_neg (by simp; omega), G, Option.bind_some]
 unfold Jl.J1
 rw [if_neg (by simp), Ix h.nn (by omega), Option.bind_some, Pm h.can]
theorem gE {f : List Piece} (hf : ∀ p, p ∈ f → 0 ≤ p.Volume) (hl : vol f ≤ 100000000) (hlen : f.length ≤ 100000) {m : Nat} (hm : m ≤ 100000000) : Nu f (m : Int) = some (Ci ((lit f).take m), Ci ((lit f).drop m)) := by
 have : Ok (Nu f (m : Int)) fun r => r = (Ci ((lit f).take m), Ci ((lit f).drop m)) := by
  unfold Nu
  refine .bind' (.eq (Hz hlen) (.bind' (.eq (Hz hlen) ?_)))
  refine .bind (Q := fun st : Int × List Piece × List Piece => (lit st.2.1 = (lit f).take m ∧ (∀ p, p ∈ st.2.1 → 0 ≤ p.Volume)) ∧ (lit st.2.2 = (lit f).drop m ∧ ∀ p, p ∈ st.2.2 → 0 ≤ p.Volume))
   (.forS (fun k st => ∃ a b : List Piece, a.length = k ∧ b.length = k ∧ st = (((m - (lit (f.take k)).length : Nat) : Int), a ++ f.drop k, b ++ f.drop k) ∧ (lit a = (lit (f.take k)).take m ∧ (∀ p, p ∈ a → 0 ≤ p.Volume)) ∧ (lit b = (lit (f.take k)).drop m ∧ ∀ p, p ∈ b → 0 ≤ p.Volume))
    ⟨[], [], rfl, rfl, by simp [E1], by simp [E1], by simp [E1]⟩ ?_ ?_) ?_
  ·rintro k x _ hx ⟨a, b, ha, hb, rfl, ⟨Y, G⟩, Z, M⟩
   have hx0 := hf x (mg hx)
   have hxv := Im hf (mg hx)
   have hkl := (gs hx).1
   have hd : f.drop k = x :: f.drop (k + 1) := by
    rw [List.drop_eq_getElem_cons hkl]; congr 1
    exact (gs hx).2
   have ga : (a ++ f.drop k)[k]? = some x := by rw [hd, ← ha]; simp
   have gb : (b ++ f.drop k)[k]? = some x := by rw [hd, ← hb]; simp
   have sa : ∀ y, (a ++ f.drop k).set k y = a ++ [y] ++ f.drop (k + 1) := fun y => by rw [hd, ← ha]; simp
   have sb : ∀ y, (b ++ f.drop k).set k y = b ++ [y] ++ f.drop (k + 1) := fun y => by rw [hd, ← hb]; simp
   unfold Nu.B2
   dsimp only
   refine .bind' (.eq (Bd ga) ?_)
   dsimp only
   rw [sa]
   have ga' : (a ++ [(⟨x.Batch, min x.Volume ((m - (lit (f.take k)).length : Nat) : Int)⟩ : Piece)] ++ f.drop (k + 1))[k]? = some (⟨x.Batch, min x.Volume ((m - (lit (f.take k)).length : Nat) : Int)⟩ : Piece) := by rw [← ha]; simp
   refine .bind' (.eq (Bd ga') (.bind' (.eq (Bd gb) (.pure ?_))))
   dsimp only
   rw [sb]
   have aa : lit (f.take (k + 1)) = lit (f.take k) ++ List.replicate x.Volume.toNat x.Batch := by
    rw [List.take_add_one, hx]; simp [Dr, Ea]
   rw [Bp (by omega), Bp (by omega)]
   refine ⟨a ++ [(⟨x.Batch, min x.Volume ((m - (lit (f.take k)).length : Nat) : Int)⟩ : Piece)], b ++ [(⟨x.Batch, x.Volume - min x.Volume ((m - (lit (f.take k)).length : Nat) : Int)⟩ : Piece)], by simp [ha], by simp [hb], ?_, ⟨?_, ?_⟩, ?_, ?_⟩
   ·congr 1
    rw [aa, List.length_append, List.length_replicate]; omega
   ·rw [Dr, Ea, Y, aa, List.take_append]
    congr 1
    rw [List.take_replicate]; dsimp only; congr 1; omega
   ·intro p W
    rcases List.mem_append.1 W with W | W
    ·exact G p W
    ·simp at W; subst W; dsimp only; omega
   ·rw [Dr, Ea, Z, aa, List.drop_append]
    congr 1
    rw [List.drop_replicate]; dsimp only; congr 1; omega
   ·intro p W
    rcases List.mem_append.1 W with W | W
    ·exact M p W
    ·simp at W; subst W; dsimp only; omega
  ·rintro _ ⟨a, b, _, _, rfl, ⟨Y, G⟩, Z, M⟩
   dsimp only
   rw [List.take_length] at Y Z
   rw [List.drop_length, List.append_nil, List.append_nil]
   exact ⟨⟨Y, G⟩, Z, M⟩
  ·rintro ⟨_, a, b⟩ ⟨⟨Y, G⟩, Z, M⟩
   dsimp only at Y G Z M
   have hl' := En hf
   have va := En G
   have vb := En M
   rw [Y, List.length_take] at va
   rw [Z, List.length_drop] at vb
   unfold Nu.J1
   refine .bind' (.eq (Ix (f := a) G (by omega)) (.bind' (.eq (Ix (f := b) M (by omega)) (.pure ?_))))
   rw [Y, Z]
 obtain ⟨r, Y, rfl⟩ := this
 exact Y
theorem Y5 {f : List Piece} (hl : f.length ≤ 100000) : Qp f = some f.reverse := by
 have : Ok (Qp f) fun r => r = f.reverse := by
  unfold Qp
  rw [Bp (by omega)]
  refine .bind (Q := fun r => r = f.reverse) (.loop (fun G => ∃ i : Nat, G.2.1 = (i : Int) ∧ G.2.2 = (f.length : Int) - 1 - i ∧ 2 * (i : Int) ≤ f.length + 1 ∧ G.1.length = f.length ∧ ∀ j : Nat, j < f.length → G.1[j]? = if j < i ∨ f.length - 1 - j < i then f[f.length - 1 - j]? else f[j]?) (fun G => f.length + 1 - G.2.1.toNat)
   ⟨0, rfl, by simp, by omega, rfl, fun j hj => by rw [if_neg (by omega)]⟩ (by simp; omega) ?_) (by rintro _ rfl; exact .pure rfl)
  rintro ⟨l, a, b⟩ ⟨i, Z, h2, h3, h4, M⟩
  dsimp only at Z h2 h3 h4 M
  subst Z; subst h2
  unfold Qp.B1
  refine Bf (fun h => ?_) fun h => .pure ?_
  ·dsimp only at h ⊢
   obtain ⟨j, hj⟩ : ∃ j : Nat, (f.length : Int) - 1 - i = (j : Int) := ⟨f.length - 1 - i, by omega⟩
   rw [hj]
   have e1 : l[j]? = f[j]? := by rw [M j (by omega), if_neg (by omega)]
   have e2 : l[i]? = f[i]? := by rw [M i (by omega), if_neg (by omega)]
   have g1 : f[j]? = some f[j] := gq (by omega)
   have g2 : f[i]? = some f[i] := gq (by omega)
   rw [g1] at e1; rw [g2] at e2
   refine .bind' (.eq (Bd e1) (.bind' (.eq (Bd e2) ?_)))
   dsimp only
   refine .bind' (.eq (Bd (x := f[j]) ?_) ?_)
   ·rw [List.getElem?_set_ne (by omega)]; exact e1
   dsimp only
   unfold Qp.J2
   refine .pure ⟨⟨i + 1, ?_, ?_, by omega, by simp [h4], fun k hk => ?_⟩, ?_⟩
   ·dsimp only; rw [Bp (by omega)]; omega
   ·dsimp only; rw [Bp (by omega)]; omega
   ·dsimp only
    rw [List.getElem?_set, List.length_set]
    by_cases Y : j = k
    ·subst Y
     rw [if_pos rfl, if_pos (by omega), if_pos (by omega), show f.length - 1 - j = i by omega, g2]
    ·rw [if_neg Y, List.getElem?_set]
     by_cases W : i = k
     ·subst W
      rw [if_pos rfl, if_pos (by omega), if_pos (by omega), show f.length - 1 - i = j by omega, g1]
     ·rw [if_neg W, M k hk]
      congr 1
      exact propext (by constructor <;> intro h <;> omega)
   ·dsimp only; rw [Bp (by omega)]; omega
  ·dsimp only at h ⊢
   refine List.ext_getElem? fun k => ?_
   by_cases hk : k < f.length
   ·rw [M k hk, List.getElem?_reverse hk]
    split
    ·rfl
    ·rw [show f.length - 1 - k = k by omega]
   ·rw [List.getElem?_eq_none (by omega), List.getElem?_eq_none (by simp; omega)]
 obtain ⟨r, Z, rfl⟩ := this
 exact Z
theorem Tf {f : List Piece} (hl : f.length ≤ 100000) : Qk f = some f.reverse := by
 unfold Qk
 rw [Hz hl, Option.bind_some, Y5 hl]; rfl
theorem bA {F I : Li} (W : Vd (Ci F)) (G : Vd (Ci I)) : Ok (Lx (Ci F) (Ci I) true) fun r => r.2.2 = 4 ∧ (200 < (Ci ((F ++ I).drop I.length)).length ∨ 200 < (Ci ((F ++ I).take I.length)).length) ∨ r = (Ci ((F ++ I).drop I.length), Ci ((F ++ I).take I.length), 0) ∧ (Ci ((F ++ I).drop I.length)).length ≤ 200 ∧ (Ci ((F ++ I).take I.length)).length ≤ 200 := by
 have Y := W.vol; have Z := G.vol
 have l1 := W.len; have l2 := G.len
 rw [Cs] at Y Z
 unfold Lx
 refine .bind' (.eq (Hw W) ?_)
 rw [if_neg (by simp)]
 refine .bind' (.eq (Hw G) ?_)
 unfold Lx.J1
 rw [if_neg (by simp), if_pos rfl]
 refine .bind' (.eq (Hz (by omega)) (.bind' (.app (by omega) (.bind' (.eq (Jv G.nn (by rw [Cs]; omega)) ?_)))))
 rw [Cs]
 refine .bind' (.eq (gE (m := I.length) ?_ ?_ (by rw [List.length_append]; omega) (by omega)) ?_)
 ·intro p M
  rcases List.mem_append.1 M with M | M
  ·exact W.nn p M
  ·exact G.nn p M
 ·rw [Fm, Cs, Cs]; omega
 rw [Dr, C9, C9]
 unfold Lx.J2
 dsimp only
 refine Cw (fun h => .pure (.inl ⟨rfl, by simp at h; omega⟩)) fun h => .pure (.inr ⟨rfl, ?_⟩)
 simp at h; omega
theorem aZ {F I : Li} (G : Vd (Ci F)) (W : Vd (Ci I)) : Ok (Lx (Ci F) (Ci I) false) fun r => r.2.2 = 4 ∧ (200 < (Ci ((I ++ F).take F.length)).length ∨ 200 < (Ci ((I ++ F).drop F.length)).length) ∨ r = (Ci ((I ++ F).take F.length), Ci ((I ++ F).drop F.length), 0) ∧ (Ci ((I ++ F).take F.length)).length ≤ 200 ∧ (Ci ((I ++ F).drop F.length)).length ≤ 200 := by
 have Y := G.vol; have Z := W.vol
 have l1 := G.len; have l2 := W.len
 rw [Cs] at Y Z
 unfold Lx
 refine .bind' (.eq (Hw G) ?_)
 rw [if_neg (by simp)]
 refine .bind' (.eq (Hw W) ?_)
 unfold Lx.J1
 rw [if_neg (by simp), if_neg (by simp)]
 refine .bind' (.eq (Hz (by omega)) (.bind' (.app (by omega) (.bind' (.eq (Jv G.nn (by rw [Cs]; omega)) ?_)))))
 rw [Cs]
 refine .bind' (.eq (gE (m := F.length) ?_ ?_ (by rw [List.length_append]; omega) (by omega)) ?_)
 ·intro p M
  rcases List.mem_append.1 M with M | M
  ·exact W.nn p M
  ·exact G.nn p M
 ·rw [Fm, Cs, Cs]; omega
 rw [Dr, C9, C9]
 unfold Lx.J2
 dsimp only
 refine Cw (fun h => .pure (.inl ⟨rfl, by simp at h; omega⟩)) fun h => .pure (.inr ⟨rfl, ?_⟩)
 simp at h; omega
theorem Ml {α : Type} {P : Nat → α → Prop} {l : List α} {x : α} (h : ∀ k s, l[k]? = some s → P k s) (W : P l.length x) : ∀ k s, (l ++ [x])[k]? = some s → P k s := by
 intro k s G
 rw [List.getElem?_append] at G
 split at G
 ·exact h k s G
 ·have M := (gs G).1
  simp at M
  have : k = l.length := by omega
  subst this
  simp at G; subst G; exact W
theorem gH {α : Type} {f : α → Int} {l : List α} {x : α} (h : ∀ (i j : Nat) (p q : α), i < j → l[i]? = some p → l[j]? = some q → f p < f q) (Z : ∀ (k : Nat) (p : α), l[k]? = some p → f p < f x) :
  ∀ (i j : Nat) (p q : α), i < j → (l ++ [x])[i]? = some p → (l ++ [x])[j]? = some q → f p < f q := by
 intro i j p q M W G
 have Y := (gs G).1
 simp at Y
 rw [List.getElem?_append_left (by omega)] at W
 rw [List.getElem?_append] at G
 split at G
 ·exact h i j p q M W G
 ·have : j = l.length := by omega
  subst this
  simp at G; subst G; exact Z i p W
structure PortsInv (nodes : Nat) (i : Int) (ports : List Port) (sts : List Station) : Prop where
 i0 : 0 ≤ i ∧ i ≤ (nodes : Int)
 pl : (ports.length : Int) ≤ i
 p1 : 0 < i → 1 ≤ ports.length
 p2 : i = (nodes : Int) → 2 ≤ ports.length
 po : ∀ k s, ports[k]? = some s → PortOk nodes k s ∧ s.Node < i
 pu : ∀ (i j : Nat) (p q : Port), i < j → ports[i]? = some p → ports[j]? = some q → p.Node < q.Node
 sl : (sts.length : Int) ≤ i
 so : ∀ k s, sts[k]? = some s → StOk nodes k s ∧ s.Node < i
 su : ∀ (i j : Nat) (p q : Sn), i < j → sts[i]? = some p → sts[j]? = some q → p.Node < q.Node
theorem oH {s : Yb} (hs : SrcOk s) : Ok (Vr s) fun r => NetOk r.1 ∧ SrcOk r.2 := by
 unfold Vr
 refine .bind (Es hs (by decide) (by decide)) fun r5 h5 => ?_
 refine .bind (Es h5.1 (by decide) (by decide)) fun r8 h8 => ?_
 refine .bind (Gd h8.1 (by decide) (by decide) (by decide)) fun r650 h650 => ?_
 have c5 := h5.2; have c8 := h8.2
 simp only [List.mem_cons, List.not_mem_nil, or_false] at c5 c8
 refine .bind (Q := fun d : Li × Int × List Bt => SrcOk ⟨d.1, d.2.1⟩ ∧ (2 ≤ d.2.2.length ∧ d.2.2.length ≤ 6) ∧ ∀ k x, d.2.2[k]? = some x → x = nm 110 k) ?_ ?_
 ·refine .loop (fun G : List Bt × Int => 0 ≤ G.2 ∧ (G.1.length : Int) + G.2 = r650.1 ∧ ∀ k x, G.1[k]? = some x → x = nm 110 k) (fun G => G.2.toNat) ⟨by dsimp only; omega, by simp, by simp⟩ (by dsimp only; omega) ?_
  rintro ⟨nodes, c⟩ ⟨i1, i2, i3⟩
  dsimp only at i1 i2 i3
  unfold Vr.B12
  refine Bf (fun h => ?_) fun h => .pure ⟨h650.1, by dsimp only at h ⊢; omega, i3⟩
  dsimp only at h ⊢
  refine .bind' (.eq (Pp (by omega)) (.bind' (.app (by simp; omega) (.pure ?_))))
  rw [Bp (by omega)]
  exact ⟨⟨by dsimp only; omega, by simp; omega, Ml i3 rfl⟩, by dsimp only; omega⟩
 rintro ⟨L_, At, nodes⟩ ⟨hs, hn, hnm⟩
 dsimp only at hs hn hnm
 unfold Vr.J1
 refine .bind (Q := fun d : Li × Int × List Sg => SrcOk ⟨d.1, d.2.1⟩ ∧ d.2.2.length = nodes.length - 1 ∧ ∀ k x, d.2.2[k]? = some x → SegOk nodes.length k x) ?_ ?_
 ·refine .loop (fun G : Li × Int × List Sg × Int => SrcOk ⟨G.1, G.2.1⟩ ∧ (G.2.2.1.length : Int) = G.2.2.2 ∧ G.2.2.1.length ≤ nodes.length - 1 ∧ ∀ k x, G.2.2.1[k]? = some x → SegOk nodes.length k x) (fun G => nodes.length - G.2.2.1.length) ⟨hs, by simp, by simp, by simp⟩ (by dsimp only; omega) ?_
  rintro ⟨L_, At, segs, i⟩ ⟨i1, i2, i3, i4⟩
  dsimp only at i1 i2 i3 i4
  unfold Vr.B11
  dsimp only
  simp (disch := omega) only [Bp]
  refine Bf (fun h => ?_) fun h => .pure ⟨i1, by dsimp only; omega, i4⟩
  refine .bind (fS i1 (nodes := nodes.length) (by omega) (by omega) (by omega) (by omega)) fun r641 h641 => ?_
  refine .bind' (.app (by simp; omega) (.pure ⟨⟨h641.2, by simp; omega, by simp; omega, Ml i4 h641.1⟩, by simp; omega⟩))
 rintro ⟨L_, At, segs⟩ ⟨hs, hsl, hss⟩
 dsimp only at hs hsl hss
 unfold Vr.J2
 refine .bind (Gj hs (by decide) (by decide)) fun r531 h531 => ?_
 refine .bind (Q := fun d : Li × Int × List Sg => SrcOk ⟨d.1, d.2.1⟩ ∧ (nodes.length - 1 ≤ d.2.2.length ∧ d.2.2.length ≤ 8) ∧ ∀ k x, d.2.2[k]? = some x → SegOk nodes.length k x) ?_ ?_
 ·refine .loop (fun G : Li × Int × List Sg × Int => SrcOk ⟨G.1, G.2.1⟩ ∧ 0 ≤ G.2.2.2 ∧ (G.2.2.1.length : Int) + G.2.2.2 ≤ 8 ∧ nodes.length - 1 ≤ G.2.2.1.length ∧ ∀ k x, G.2.2.1[k]? = some x → SegOk nodes.length k x) (fun G => G.2.2.2.toNat)
   ⟨h531.1, h531.2.1, by dsimp only; omega, by dsimp only; omega, hss⟩ (by dsimp only; omega) ?_
  rintro ⟨L_, At, segs, i⟩ ⟨i1, i2, i3, i4, i5⟩
  dsimp only at i1 i2 i3 i4 i5
  unfold Vr.B10
  dsimp only
  simp (disch := omega) only [Bp]
  refine Bf (fun h => ?_) fun h => .pure ⟨i1, by dsimp only; omega, i5⟩
  refine .bind (Gj i1 (by omega) (by omega)) fun r589 h589 => ?_
  simp (disch := omega) only [Bp]
  refine .bind (Gd h589.1 (by omega) (by omega) (by omega)) fun r591 h591 => ?_
  refine .bind (fS h591.1 (nodes := nodes.length) (by omega) (by omega) (by omega) (by omega)) fun r593 h593 => ?_
  refine .bind' (.app (by simp; omega) (.pure ⟨⟨h593.2, by dsimp only; omega, by simp; omega, by simp; omega, Ml i5 h593.1⟩, by dsimp only; omega⟩))
 rintro ⟨L_, At, segs⟩ ⟨hs, hsl, hss⟩
 dsimp only at hs hsl hss
 unfold Vr.J3
 refine .bind (Q := fun d : Li × Int × List Port × List Sn => SrcOk ⟨d.1, d.2.1⟩ ∧ PortsInv nodes.length (nodes.length : Int) d.2.2.1 d.2.2.2) ?_ ?_
 ·refine .loop (fun G : Li × Int × List Port × List Sn × Int => SrcOk ⟨G.1, G.2.1⟩ ∧ PortsInv nodes.length G.2.2.2.2 G.2.2.1 G.2.2.2.1) (fun G => nodes.length - G.2.2.2.2.toNat)
   ⟨hs, by dsimp only; omega, by simp, by simp, by dsimp only; omega, by simp, by simp, by simp, by simp, by simp⟩ (by dsimp only; omega) ?_
  rintro ⟨L_, At, Z, sts, i⟩ ⟨i1, M⟩
  dsimp only at i1 M
  have hi := M.i0
  have j6 : ∀ (j : Li × Int × List Port × List Sn), SrcOk ⟨j.1, j.2.1⟩ → PortsInv nodes.length (i + 1) j.2.2.1 j.2.2.2 → i < (nodes.length : Int) →
    Ok (Vr.J6 (L_, At, Z, sts, i) j) (Sum.elim (fun G => (SrcOk ⟨G.1, G.2.1⟩ ∧ PortsInv nodes.length G.2.2.2.2 G.2.2.1 G.2.2.2.1) ∧ nodes.length - G.2.2.2.2.toNat < nodes.length - i.toNat) fun d => SrcOk ⟨d.1, d.2.1⟩ ∧ PortsInv nodes.length (nodes.length : Int) d.2.2.1 d.2.2.2) := by
   intro j h1 h2 h3
   unfold Vr.J6
   dsimp only
   rw [Bp (by omega)]
   exact .pure ⟨⟨h1, h2⟩, by dsimp only; omega⟩
  have j7 : ∀ (j : Li × Int × List Port), SrcOk ⟨j.1, j.2.1⟩ → ((∀ W, (W.length : Int) ≤ i + 1 → (∀ k s, W[k]? = some s → StOk nodes.length k s ∧ s.Node < i + 1) →
     (∀ (i j : Nat) (p q : Sn), i < j → W[i]? = some p → W[j]? = some q → p.Node < q.Node) → PortsInv nodes.length (i + 1) j.2.2 W)) → i < (nodes.length : Int) →
    Ok (Vr.J7 (L_, At, nodes) (L_, At, Z, sts, i) j) (Sum.elim (fun G => (SrcOk ⟨G.1, G.2.1⟩ ∧ PortsInv nodes.length G.2.2.2.2 G.2.2.1 G.2.2.2.1) ∧ nodes.length - G.2.2.2.2.toNat < nodes.length - i.toNat) fun d => SrcOk ⟨d.1, d.2.1⟩ ∧ PortsInv nodes.length (nodes.length : Int) d.2.2.1 d.2.2.2) := by
   intro j h1 h2 h3
   have old := h2 sts (by have := M.sl; omega) (fun k s Y => ⟨(M.so k s Y).1, by have := (M.so k s Y).2; omega⟩) M.su
   unfold Vr.J7
   refine Bf (fun h => ?_) fun h => ?_
   ·refine .bind (Gj h1 (by decide) (by decide)) fun r507 h507 => ?_
    unfold Vr.J8
    refine Cw (fun _ => ?_) fun _ => j6 (_, _, _, _) h507.1 old h3
    have hsl' := M.sl
    refine .bind' (.eq (Pp (by dsimp only; omega)) ?_)
    refine .bind (Es h507.1 (by decide) (by decide)) fun r493 h493 => ?_
    refine .bind (Es h493.1 (by decide) (by decide)) fun r496 h496 => ?_
    refine .bind (Es h496.1 (by decide) (by decide)) fun r499 h499 => ?_
    have c1 := h493.2; have c2 := h496.2; have c3 := h499.2
    simp only [List.mem_cons, List.not_mem_nil, or_false] at c1 c2 c3
    refine .bind' (.app (by simp; omega) (j6 (_, _, _, _) h499.1 (h2 _ (by simp; omega) ?_ ?_) h3))
    ·exact Ml (P := fun k s => StOk nodes.length k s ∧ s.Node < i + 1) (fun k s Y => ⟨(M.so k s Y).1, by have := (M.so k s Y).2; omega⟩) ⟨⟨rfl, ⟨by dsimp only; omega, by dsimp only; omega⟩, by dsimp only; omega, by dsimp only; omega, by dsimp only; omega⟩, by dsimp only; omega⟩
    ·exact gH (f := Station.Node) M.su fun k p Y => (M.so k p Y).2
   ·unfold Vr.J8
    refine Cw (fun h => by cases h) fun _ => j6 (_, _, _, _) h1 old h3
  have j9 : ∀ (j : Li × Int × Bool), SrcOk ⟨j.1, j.2.1⟩ → (i = 0 ∨ i = (nodes.length : Int) - 1 → j.2.2 = true) → i < (nodes.length : Int) →
    Ok (Vr.J9 (L_, At, nodes) (L_, At, Z, sts, i) j) (Sum.elim (fun G => (SrcOk ⟨G.1, G.2.1⟩ ∧ PortsInv nodes.length G.2.2.2.2 G.2.2.1 G.2.2.2.1) ∧ nodes.length - G.2.2.2.2.toNat < nodes.length - i.toNat) fun d => SrcOk ⟨d.1, d.2.1⟩ ∧ PortsInv nodes.length (nodes.length : Int) d.2.2.1 d.2.2.2) := by
   intro j h1 h2 h3
   have hpl := M.pl
   have hp1 := M.p1
   unfold Vr.J9
   refine Cw (fun _ => ?_) fun hb => j7 (_, _, _) h1 (fun W q1 q2 q3 => ?_) h3
   ·refine .bind' (.eq (Pp (by dsimp only; omega)) ?_)
    refine .bind (Es h1 (by decide) (by decide)) fun r518 h518 => ?_
    have c1 := h518.2
    simp only [List.mem_cons, List.not_mem_nil, or_false] at c1
    refine .bind' (.app (by simp; omega) (j7 (_, _, _) h518.1 (fun W q1 q2 q3 => ⟨by omega, by simp; omega, by simp, fun _ => by simp; omega, ?_, ?_, q1, q2, q3⟩) h3))
    ·exact Ml (P := fun k s => PortOk nodes.length k s ∧ s.Node < i + 1) (fun k s Y => ⟨(M.po k s Y).1, by have := (M.po k s Y).2; omega⟩) ⟨⟨rfl, ⟨by dsimp only; omega, by dsimp only; omega⟩, by dsimp only; omega⟩, by dsimp only; omega⟩
    ·exact gH (f := Port.Node) M.pu fun k p Y => (M.po k p Y).2
   ·have hi0 : ¬ (i = 0 ∨ i = (nodes.length : Int) - 1) := fun h => by rw [h2 h] at hb; cases hb
    exact ⟨by omega, by dsimp only; omega, fun _ => by dsimp only; omega, fun _ => by omega, fun k s Y => ⟨(M.po k s Y).1, by have := (M.po k s Y).2; omega⟩, M.pu, q1, q2, q3⟩
  unfold Vr.B5
  dsimp only
  rw [Bp (by omega)]
  refine Bf (fun h => ?_) fun h => .pure ⟨i1, ?_⟩
  ·refine Dk (fun h0 => j9 (_, _, _) i1 (fun _ => rfl) (by omega)) fun h0 => Dk (fun h1 => j9 (_, _, _) i1 (fun _ => rfl) (by omega)) fun h1 => ?_
   refine .bind (Gj i1 (by decide) (by decide)) fun r527 h527 => j9 (_, _, _) h527.1 (fun h => by omega) (by omega)
  ·have : i = (nodes.length : Int) := by omega
   rw [← this]; exact M
 rintro ⟨L_, At, Z, sts⟩ ⟨hs, M⟩
 dsimp only at hs M
 unfold Vr.J4
 have := M.pl; have := M.sl
 exact .pure ⟨⟨hn, hnm, hsl, hss, ⟨M.p2 rfl, by dsimp only; omega⟩, fun k s Y => (M.po k s Y).1, M.pu, by dsimp only; omega, fun k s Y => (M.so k s Y).1, M.su, by dsimp only; omega, by dsimp only; omega⟩, hs⟩
def ind (a v : Int) : Int := if a = v then 1 else 0
def wt (n : Nw) (v : Int) : Li := n.Segments.map fun s => ind s.To v - ind s.From v
def wp (n : Nw) (v : Int) : Li := n.Ports.map fun p => ind p.Node v
structure RateOk (s : Segment) (r : Int) : Prop where
 rng : -1000 ≤ r ∧ r ≤ 1000 ∧ -s.Capacity ≤ r ∧ r ≤ s.Capacity
 up : s.From < s.To → 0 ≤ r
 down : s.To < s.From → r ≤ 0
structure PlInv (n : Network) (rates ports : List Int) : Prop where
 rl : rates.length = n.Segments.length
 pl : ports.length = n.Ports.length
 rng : ∀ (k : Nat) (r : Int) (s : Sg), rates[k]? = some r → n.Segments[k]? = some s → RateOk s r
 prt : ∀ (k : Nat) (x : Int), ports[k]? = some x → -1000 ≤ x ∧ x ≤ 1000
 bal : ∀ v, Gr (wt n v) rates + Gr (wp n v) ports = 0
structure Hop1 (n : Network) (rates : List Int) (rate a : Int) (i : Nat) (x : Segment) (r b : Int) : Prop where
 seg : n.Segments[i]? = some x
 old : rates[i]? = some r
 lt : a < b
 ends : x.From = a ∧ x.To = b ∨ x.To = a ∧ x.From = b
 rng : r + rate ≤ 1000 ∧ rate - r ≤ 1000 ∧ r + rate ≤ x.Capacity ∧ rate - r ≤ x.Capacity
def P3 (n : Nw) (rates : Li) (rate a k b : Int) : Prop := ∃ (i : Nat) (x : Sg) (r : Int), k = (i : Int) ∧ Hop1 n rates rate a i x r b
theorem iM {n : Nw} {rates ports Z : Li} {rate : Int} {s : Yb} {l : Li} {q e : Int} {nd : Nat → Int} (h : PlInv n rates ports) (hr : 1 ≤ rate ∧ rate ≤ 300)
  (hw : ∀ (j : Nat) (k : Int), Z[j]? = some k → P3 n rates rate (nd j) k (nd (j + 1))) :
  Ok (forJ (Qu.B9 n (rate, s) (l, q, Z, e)) 0 Z.length rates) fun st => st.length = rates.length ∧ (∀ (k : Nat) (r : Int) (s : Sg), st[k]? = some r → n.Segments[k]? = some s → RateOk s r) ∧
   ∀ v, Gr (wt n v) st = Gr (wt n v) rates + (rate * ind (nd Z.length) v - rate * ind (nd 0) v) := by
 refine .forJ (fun j st => st.length = rates.length ∧ (∀ (k : Nat) (r : Int) (s : Sg), st[k]? = some r → n.Segments[k]? = some s → RateOk s r) ∧
   (∀ (k : Nat) (s : Sg), n.Segments[k]? = some s → nd j ≤ s.From → nd j ≤ s.To → st[k]? = rates[k]?) ∧
   ∀ v, Gr (wt n v) st = Gr (wt n v) rates + (rate * ind (nd j) v - rate * ind (nd 0) v)) ⟨rfl, h.rng, fun _ _ _ _ _ => rfl, fun v => by omega⟩ ?_ fun st ⟨h1, h2, _, h4⟩ => ⟨h1, h2, h4⟩
 rintro j st hj ⟨h1, h2, h3, h4⟩
 obtain ⟨i, x, r, hk, hs, aa, hlt, G, hrng⟩ := hw j Z[j] (gq hj)
 have hil := (gs hs).1
 have hst : st[i]? = some r := by
  rw [h3 i x hs (by rcases G with h | h <;> omega) (by rcases G with h | h <;> omega)]; exact aa
 have ab := h.rng i r x aa hs
 have o1 := ab.rng; have o2 := ab.up; have o3 := ab.down
 have hw : ∀ v, (wt n v)[i]? = some (ind x.To v - ind x.From v) := fun v => by unfold wt; rw [List.getElem?_map, hs]; rfl
 have fin : ∀ y : Int, RateOk x y → (∀ v, (ind x.To v - ind x.From v) * (y - r) = rate * ind (nd (j + 1)) v - rate * ind (nd j) v) → Ok (Qu.J10 (st.set i y)) fun st => st.length = rates.length ∧ (∀ (k : Nat) (r : Int) (s : Sg), st[k]? = some r → n.Segments[k]? = some s → RateOk s r) ∧
   (∀ (k : Nat) (s : Sg), n.Segments[k]? = some s → nd (j + 1) ≤ s.From → nd (j + 1) ≤ s.To → st[k]? = rates[k]?) ∧
   ∀ v, Gr (wt n v) st = Gr (wt n v) rates + (rate * ind (nd (j + 1)) v - rate * ind (nd 0) v) := by
  intro y hy hyv
  unfold Qu.J10
  refine .pure ⟨by simp [h1], fun k r' s' Y M => ?_, fun k s' M a1 a2 => ?_, fun v => ?_⟩
  ·rw [E2] at Y
   split at Y
   ·rename_i hik
    obtain ⟨rfl, _⟩ := hik
    simp at Y; subst Y
    rw [hs] at M; simp at M; subst M; exact hy
   ·exact h2 k r' s' Y M
  ·have hne : i ≠ k := by
    rintro rfl
    rw [hs] at M; simp at M; subst M
    rcases G with h | h <;> omega
   rw [List.getElem?_set_ne hne]
   exact h3 k s' M (by omega) (by omega)
  ·rw [V6 (hw v) hst, h4 v, hyv v]; omega
 unfold Qu.B9
 refine .bind' (.ix j rfl hj ?_)
 dsimp only
 rw [hk]
 refine .bind' (.ix i rfl hil ?_)
 have hx : n.Segments[i] = x := by
  have := gq hil
  rw [hs] at this; exact (Option.some.inj this).symm
 have W := (gs hst).1
 have hsr : st[i] = r := by
  have := gq W
  rw [hst] at this; exact (Option.some.inj this).symm
 dsimp only
 rw [hx]
 refine Bf (fun hft => ?_) fun hft => ?_
 ·refine .bind' (.ix i rfl W ?_)
  dsimp only
  rw [hsr, Bp (by omega)]
  have he : x.From = nd j ∧ x.To = nd (j + 1) := by rcases G with h | h <;> omega
  have := o2 hft
  refine fin _ ⟨by omega, fun _ => by omega, fun _ => by omega⟩ fun v => ?_
  rw [he.1, he.2, show r + rate - r = rate by omega, Int.sub_mul, Int.mul_comm, Int.mul_comm (ind (nd j) v)]
 ·refine .bind' (.ix i rfl W ?_)
  dsimp only
  rw [hsr, Bp (by omega)]
  have he : x.To = nd j ∧ x.From = nd (j + 1) := by rcases G with h | h <;> omega
  have := o3 (by omega)
  refine fin _ ⟨by omega, fun _ => by omega, fun _ => by omega⟩ fun v => ?_
  rw [he.1, he.2, show r - rate - r = -rate by omega, Int.sub_mul, Int.mul_neg, Int.mul_neg, Int.mul_comm, Int.mul_comm (ind (nd (j + 1)) v)]; omega
end Go.Proofs.YtaoclefkknloiaaGreat
