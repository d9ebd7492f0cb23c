/- Plain proofs. No condition. -/
import Derived.Test.YtehbcbedipkifaaGreatDoorZxB2
import Derived.Test.YtehbcbedipkifaaGreatDoorZxD
import Derived.Lib.SlicesCompact
set_option maxRecDepth 100000
namespace Go.Aw
set_option linter.unusedVariables false
set_option linter.unusedSimpArgs false
def Ok {α : Type} (o : Option α) (P : α → Prop) : Prop := ∃ r, o = some r ∧ P r
section
variable {α β S B : Type}
theorem Ok.pure {x : α} {P : α → Prop} (h : P x) : Ok (some x) P := ⟨x, rfl, h⟩
theorem Ok.get {o : Option α} {P : α → Prop} (h : Ok o P) : ∃ r, o = some r ∧ P r := h
theorem Ok.mono {o : Option α} {P Q : α → Prop} (h : Ok o P) (k : ∀ x, P x → Q x) : Ok o Q := let ⟨r, h1, h2⟩ := h; ⟨r, h1, k r h2⟩
theorem Ok.bind {o : Option α} {f : α → Option β} {P : β → Prop} {Q : α → Prop} (h : Ok o Q) (k : ∀ x, Q x → Ok (f x) P) : Ok (o.bind f) P := by
 obtain ⟨r, rfl, hr⟩ := h; exact k r hr
theorem Ok.bind' {o : Option α} {f : α → Option β} {P : β → Prop} (h : Ok o fun x => Ok (f x) P) : Ok (o.bind f) P := h.bind fun _ k => k
theorem Ok.eq {o : Option α} {P : α → Prop} {x : α} (h : o = some x) (k : P x) : Ok o P := ⟨x, h, k⟩
theorem Ok.map {o : Option α} {f : α → β} {P : β → Prop} (h : Ok o fun x => P (f x)) : Ok (o.map f) P := by
 obtain ⟨r, rfl, hr⟩ := h; exact ⟨_, rfl, hr⟩
theorem Ok.chk {p : Prop} [Decidable p] {P : Unit → Prop} (h : p) (k : P ()) : Ok (chk p) P := ⟨(), chk_eq h, k⟩
theorem Ok.ix {l : List α} {i : Int} {P : Nat × α → Prop} (k : Nat) (hi : i = (k : Int)) (hk : k < l.length) (h : P (k, l[k])) : Ok (ix l i) P := by
 subst hi; exact ⟨_, ix_nat (gq hk), h⟩
theorem Ok.ix' {l : List α} {i : Int} {P : Nat × α → Prop} (h0 : 0 ≤ i) (hk : i < (l.length : Int)) (h : ∀ (k : Nat) (x : α), i = (k : Int) → l[k]? = some x → P (k, x)) : Ok (Aw.ix l i) P := by
 obtain ⟨k, rfl⟩ : ∃ k : Nat, i = (k : Int) := ⟨i.toNat, by omega⟩
 have hk' : k < l.length := by omega
 exact ⟨_, ix_nat (gq hk'), h k _ rfl (gq hk')⟩
theorem Ok.app {l m : List α} {P : List α → Prop} (hl : l.length + m.length ≤ 68719476736) (h : P (l ++ m)) : Ok (app? l m) P := ⟨_, app?_eq hl, h⟩
theorem Ok.mk {n : Int} {z : α} {P : List α → Prop} (m : Nat) (hm : n = (m : Int)) (hl : m ≤ 68719476736) (h : P (List.replicate m z)) : Ok (mk? n z) P := by
 subst hm; exact ⟨_, mk?_eq z hl, h⟩
theorem Ok.quo {a b : Int} {P : Int → Prop} (hb : b ≠ 0) (h : P (wr (a.tdiv b))) : Ok (quo? a b) P := ⟨_, if_pos hb, h⟩
theorem Ok.rem {a b : Int} {P : Int → Prop} (hb : b ≠ 0) (h : P (a.tmod b)) : Ok (rem? a b) P := ⟨_, if_pos hb, h⟩
theorem Ok.sub {l : List α} {a b : Int} {P : List α → Prop} (x y : Nat) (ha : a = (x : Int)) (hb : b = (y : Int)) (hxy : x ≤ y) (hl : y ≤ l.length) (h : P ((l.drop x).take (y - x))) : Ok (sub? l a b) P := by
 subst ha; subst hb
 exact ⟨_, if_pos ⟨by omega, by omega, by omega⟩, by simpa using h⟩
theorem Ok.forS_from {f : Nat → α → S → Option S} (I : Nat → S → Prop) (l : List α) : ∀ (m : List α) (k : Nat), l.drop k = m → ∀ st, I k st →
  (∀ k x st, l[k]? = some x → I k st → Ok (f k x st) (I (k + 1))) → k ≤ l.length → Ok (forS f k m st) (I l.length)
 | [], k, hm, st, hi, _, hk => by
  have : l.length - k = 0 := by simpa using congrArg List.length hm
  have : k = l.length := by omega
  subst this; exact .pure hi
 | x :: m, k, hm, st, hi, hf, hk => by
  have hx : l[k]? = some x := by have := congrArg (fun z => z[0]?) hm; simpa using this
  have hm' : l.drop (k + 1) = m := by have := congrArg (List.drop 1) hm; simpa [Nat.add_comm] using this
  obtain ⟨s', h1, h2⟩ := hf k x st hx hi
  simp only [forS, h1]
  exact Ok.forS_from I l m (k + 1) hm' s' h2 hf (by have := (gs hx).1; omega)
theorem Ok.forS {f : Nat → α → S → Option S} {l : List α} {st : S} {P : S → Prop} (I : Nat → S → Prop) (h0 : I 0 st)
  (hf : ∀ k x st, l[k]? = some x → I k st → Ok (f k x st) (I (k + 1))) (hP : ∀ st, I l.length st → P st) : Ok (forS f 0 l st) P :=
 (Ok.forS_from I l l 0 rfl st h0 hf (Nat.zero_le _)).mono hP
theorem Ok.forL_from {f : Nat → α → S → Option (S ⊕ B)} (I : Nat → S → Prop) (R : B → Prop) (l : List α) : ∀ (m : List α) (k : Nat), l.drop k = m → ∀ st, I k st →
  (∀ k x st, l[k]? = some x → I k st → Ok (f k x st) (Sum.elim (fun s => I (k + 1) s) R)) → k ≤ l.length → Ok (forL f k m st) (Sum.elim (fun s => I l.length s) R)
 | [], k, hm, st, hi, _, hk => by
  have : l.length - k = 0 := by simpa using congrArg List.length hm
  have : k = l.length := by omega
  subst this; exact .pure hi
 | x :: m, k, hm, st, hi, hf, hk => by
  have hx : l[k]? = some x := by have := congrArg (fun z => z[0]?) hm; simpa using this
  have hm' : l.drop (k + 1) = m := by have := congrArg (List.drop 1) hm; simpa [Nat.add_comm] using this
  obtain ⟨s', h1, h2⟩ := hf k x st hx hi
  cases s' with
  | inl s' =>
   simp only [forL, h1]
   exact Ok.forL_from I R l m (k + 1) hm' s' h2 hf (by have := (gs hx).1; omega)
  | inr b => simp only [forL, h1]; exact .pure h2
theorem Ok.forL {f : Nat → α → S → Option (S ⊕ B)} {l : List α} {st : S} {P : S ⊕ B → Prop} (I : Nat → S → Prop) (R : B → Prop) (h0 : I 0 st)
  (hf : ∀ k x st, l[k]? = some x → I k st → Ok (f k x st) (Sum.elim (fun s => I (k + 1) s) R)) (hP : ∀ st, I l.length st → P (.inl st)) (hR : ∀ b, R b → P (.inr b)) : Ok (forL f 0 l st) P :=
 (Ok.forL_from I R l l 0 rfl st h0 hf (Nat.zero_le _)).mono fun x h => by cases x with | inl s => exact hP s h | inr b => exact hR b h
theorem Ok.forJ_from {f : Nat → S → Option S} (I : Nat → S → Prop) (n : Nat) : ∀ (m k : Nat), k + m = n → ∀ st, I k st →
  (∀ k st, k < n → I k st → Ok (f k st) (I (k + 1))) → Ok (forJ f k m st) (I n)
 | 0, k, hm, st, hi, _ => by have : k = n := (by omega); subst this; exact .pure hi
 | m + 1, k, hm, st, hi, hf => by
  obtain ⟨s', h1, h2⟩ := hf k st (by omega) hi
  simp only [forJ, h1]
  exact Ok.forJ_from I n m (k + 1) (by omega) s' h2 hf
theorem Ok.forJ {f : Nat → S → Option S} {n : Nat} {st : S} {P : S → Prop} (I : Nat → S → Prop) (h0 : I 0 st)
  (hf : ∀ k st, k < n → I k st → Ok (f k st) (I (k + 1))) (hP : ∀ st, I n st → P st) : Ok (forJ f 0 n st) P :=
 (Ok.forJ_from I n n 0 (by omega) st h0 hf).mono hP
theorem Ok.forI_from {f : Nat → S → Option (S ⊕ B)} (I : Nat → S → Prop) (R : B → Prop) (n : Nat) : ∀ (m k : Nat), k + m = n → ∀ st, I k st →
  (∀ k st, k < n → I k st → Ok (f k st) (Sum.elim (fun s => I (k + 1) s) R)) → Ok (forI f k m st) (Sum.elim (fun s => I n s) R)
 | 0, k, hm, st, hi, _ => by have : k = n := (by omega); subst this; exact .pure hi
 | m + 1, k, hm, st, hi, hf => by
  obtain ⟨s', h1, h2⟩ := hf k st (by omega) hi
  cases s' with
  | inl s' =>
   simp only [forI, h1]
   exact Ok.forI_from I R n m (k + 1) (by omega) s' h2 hf
  | inr b => simp only [forI, h1]; exact .pure h2
theorem Ok.forI {f : Nat → S → Option (S ⊕ B)} {n : Nat} {st : S} {P : S ⊕ B → Prop} (I : Nat → S → Prop) (R : B → Prop) (h0 : I 0 st)
  (hf : ∀ k st, k < n → I k st → Ok (f k st) (Sum.elim (fun s => I (k + 1) s) R)) (hP : ∀ st, I n st → P (.inl st)) (hR : ∀ b, R b → P (.inr b)) : Ok (forI f 0 n st) P :=
 (Ok.forI_from I R n n 0 (by omega) st h0 hf).mono fun x h => by cases x with | inl s => exact hP s h | inr b => exact hR b h
theorem Ok.loop_from {f : S → Option (S ⊕ B)} {P : B → Prop} (I : S → Prop) (μ : S → Nat) (hf : ∀ st, I st → Ok (f st) (Sum.elim (fun s => I s ∧ μ s < μ st) P)) :
  ∀ (n : Nat) (st : S), I st → μ st < n → Ok (loopN f n st) P
 | 0, st, _, h => absurd h (Nat.not_lt_zero _)
 | n + 1, st, hi, h => by
  obtain ⟨r, h1, h2⟩ := hf st hi
  cases r with
  | inl s =>
   simp only [loopN, h1]
   exact Ok.loop_from I μ hf n s h2.1 (by have := h2.2; omega)
  | inr b => simp only [loopN, h1]; exact .pure h2
theorem Ok.loop {f : S → Option (S ⊕ B)} {P : B → Prop} {st : S} (I : S → Prop) (μ : S → Nat) (h0 : I st) (hm : μ st < 18446744073709551616)
  (hf : ∀ st, I st → Ok (f st) (Sum.elim (fun s => I s ∧ μ s < μ st) P)) : Ok (loopN f lots st) P :=
 Ok.loop_from I μ hf _ st h0 hm
end
def dot : List Int → List Int → Int
 | w :: ws, x :: xs => w * x + dot ws xs
 | _, _ => 0
theorem dot_nil (w : List Int) : dot w [] = 0 := by cases w <;> rfl
theorem dot_neg (w l : List Int) : dot w (l.map fun x => -x) = -dot w l := by
 induction w generalizing l with
 | nil => rfl
 | cons b w ih =>
  cases l with
  | nil => rfl
  | cons z l => simp only [List.map_cons, dot, ih, Int.mul_neg]; omega
theorem dot_take_succ {w l : List Int} {k : Nat} {a x : Int} (hw : w[k]? = some a) (hl : l[k]? = some x) : dot w (l.take (k + 1)) = dot w (l.take k) + a * x := by
 induction w generalizing l k with
 | nil => simp at hw
 | cons b w ih =>
  cases l with
  | nil => simp at hl
  | cons z l =>
   cases k with
   | zero => simp at hw hl; subst hw; subst hl; simp [dot, dot_nil]
   | succ k =>
    simp at hw hl
    simp only [List.take_succ_cons, dot, ih hw hl]; omega
theorem get_set {α : Type} {l : List α} {k i : Nat} {x : α} : (l.set k x)[i]? = if k = i ∧ i < l.length then some x else l[i]? := by
 rw [List.getElem?_set]
 by_cases h : k = i
 ·subst h
  by_cases h2 : k < l.length
  ·simp [h2]
  ·simp [h2]
 ·simp [h]
theorem inj_some {a b : Nat} (h : some (a : Int) = some (b : Int)) : a = b := Int.ofNat.inj (Option.some.inj h)
inductive Rep (u : List Int) : Nat → Nat → Nat → Prop
 | root {k : Nat} : u[k]? = some (k : Int) → Rep u 0 k k
 | step {k j m r : Nat} : u[k]? = some (j : Int) → k ≠ j → Rep u m j r → Rep u (m + 1) k r
theorem Rep.det {u : List Int} {m k r : Nat} (h : Rep u m k r) : ∀ {m' r' : Nat}, Rep u m' k r' → m = m' ∧ r = r' := by
 induction h with
 | root h =>
  intro m' r' h'
  cases h' with
  | root _ => exact ⟨rfl, rfl⟩
  | step h1 h2 _ => rw [h] at h1; have := inj_some h1; omega
 | step h1 h2 h3 ih =>
  intro m' r' h'
  cases h' with
  | root h => rw [h] at h1; have := inj_some h1; omega
  | step h4 h5 h6 =>
   rw [h1] at h4; have h4 := inj_some h4
   subst h4
   obtain ⟨rfl, rfl⟩ := ih h6
   exact ⟨rfl, rfl⟩
theorem Rep.halve {u : List Int} {k j i : Nat} (hk : u[k]? = some (j : Int)) (hne : k ≠ j) (hj : u[j]? = some (i : Int)) :
  ∀ (m x r : Nat), Rep u m x r → ∃ m', m' ≤ m ∧ Rep (u.set k (i : Int)) m' x r := by
 intro m
 induction m using Nat.strongRecOn with
 | ind m ih =>
  intro x r h
  have hkl : k < u.length := (gs hk).1
  cases h with
  | root h =>
   refine ⟨0, Nat.le_refl _, .root ?_⟩
   rw [List.getElem?_set]
   by_cases hx : k = x
   ·subst hx; rw [h] at hk; have := inj_some hk; omega
   ·simp [hx, h]
  | @step _ y m' _ h1 h2 h3 =>
   by_cases hx : k = x
   ·subst hx
    rw [hk] at h1; have h1 := inj_some h1
    subst h1
    cases h3 with
    | root h4 =>
     rw [hj] at h4; have h4 := inj_some h4
     subst h4
     obtain ⟨m2, hm2, hr2⟩ := ih 0 (by omega) i i (.root hj)
     have : m2 = 0 := by omega
     subst this
     exact ⟨1, by omega, .step (by simp [hkl]) h2 hr2⟩
    | @step _ z m'' _ h4 h5 h6 =>
     rw [hj] at h4; have h4 := inj_some h4
     subst h4
     have hki : k ≠ i := by
      rintro rfl
      have := (Rep.det h6 (.step hk hne (.step hj h5 h6))).1
      omega
     obtain ⟨m2, hm2, hr2⟩ := ih m'' (by omega) i r h6
     exact ⟨m2 + 1, by omega, .step (by simp [hkl]) hki hr2⟩
   ·obtain ⟨m2, hm2, hr2⟩ := ih m' (by omega) y r h3
    exact ⟨m2 + 1, by omega, .step (by rw [List.getElem?_set]; simp [hx, h1]) h2 hr2⟩
structure Uni (n : Nat) (u : List Int) (d : Nat) (ρ : Nat → Nat) : Prop where
 len : u.length = n
 lt : ∀ k, k < n → ρ k < n
 rep : ∀ k, k < n → ∃ m, m ≤ d ∧ Rep u m k (ρ k)
theorem Uni.at_ {n d : Nat} {u : List Int} {ρ : Nat → Nat} (h : Uni n u d ρ) {k : Nat} (hk : k < n) : ∃ j : Nat, u[k]? = some (j : Int) ∧ j < n ∧ ρ j = ρ k := by
 obtain ⟨m, _, hr⟩ := h.rep k hk
 generalize he : ρ k = r at hr
 cases hr with
 | root h1 => exact ⟨k, h1, hk, he⟩
 | @step _ j _ _ h1 h2 h3 =>
  have hj : j < n := by
   rw [← h.len]
   cases h3 with
   | root h => exact (gs h).1
   | step h _ _ => exact (gs h).1
  refine ⟨j, h1, hj, ?_⟩
  obtain ⟨m', _, hr'⟩ := h.rep j hj
  exact (hr'.det h3).2
theorem Uni.halve {n d : Nat} {u : List Int} {ρ : Nat → Nat} (h : Uni n u d ρ) {k j i : Nat} (hk : u[k]? = some (j : Int)) (hne : k ≠ j) (hj : u[j]? = some (i : Int)) :
  Uni n (u.set k (i : Int)) d ρ :=
 ⟨by simp [h.len], h.lt, fun x hx => let ⟨m, h1, h2⟩ := h.rep x hx; let ⟨m', h3, h4⟩ := Rep.halve hk hne hj m x _ h2; ⟨m', by omega, h4⟩⟩
theorem Uni.step {n d : Nat} {u : List Int} {ρ : Nat → Nat} (h : Uni n u d ρ) {k j i m : Nat} (hk : u[k]? = some (j : Int)) (hne : k ≠ j) (hj : u[j]? = some (i : Int)) (hr : Rep u m k (ρ k)) :
  ∃ m', m' < m ∧ Rep (u.set k (i : Int)) m' i (ρ i) ∧ ρ i = ρ k := by
 have hj' : j < n := by rw [← h.len]; exact (gs hj).1
 have hk' : k < n := by rw [← h.len]; exact (gs hk).1
 obtain ⟨y, e1, hy, e2⟩ := h.at_ hj'
 obtain ⟨y2, e3, hy2, e4⟩ := h.at_ hk'
 rw [hj] at e1; have e1 := inj_some e1; subst e1
 rw [hk] at e3; have e3 := inj_some e3; subst e3
 have hik : ρ i = ρ k := by rw [e2, e4]
 generalize ρ k = r at hr hik
 cases hr with
 | root h1 => rw [h1] at hk; have := inj_some hk; omega
 | @step _ y m1 _ h1 h2 h3 =>
  rw [hk] at h1; have h1 := inj_some h1
  subst h1
  have : ∃ m2, m2 ≤ m1 ∧ Rep u m2 i r := by
   cases h3 with
   | root h4 => rw [hj] at h4; have h4 := inj_some h4; exact ⟨0, by omega, by rw [h4]; rw [h4] at hj; exact .root hj⟩
   | step h4 h5 h6 => rw [hj] at h4; have h4 := inj_some h4; subst h4; exact ⟨_, by omega, h6⟩
  obtain ⟨m2, h4, h5⟩ := this
  obtain ⟨m3, h6, h7⟩ := Rep.halve hk hne hj m2 i _ h5
  exact ⟨m3, by omega, by rw [hik]; exact h7, hik⟩
inductive Conn (R : Nat → Nat → Prop) : Nat → Nat → Prop
 | refl (x : Nat) : Conn R x x
 | edge {x y : Nat} : R x y → Conn R x y
 | symm {x y : Nat} : Conn R x y → Conn R y x
 | trans {x y z : Nat} : Conn R x y → Conn R y z → Conn R x z
theorem Conn.mono {R R' : Nat → Nat → Prop} (h : ∀ x y, R x y → Conn R' x y) {x y : Nat} (c : Conn R x y) : Conn R' x y := by
 induction c with
 | refl x => exact .refl x
 | edge e => exact h _ _ e
 | symm _ ih => exact ih.symm
 | trans _ _ i1 i2 => exact i1.trans i2
end Go.Aw
namespace Go.Proofs.YtehbcbedipkifaaGreatDoor
set_option linter.unusedVariables false
set_option linter.unusedSimpArgs false
open Go.Aw
abbrev Src := KS
structure SrcOk (s : Src) : Prop where
 at0 : 0 ≤ s.At
 at1 : s.At ≤ (s.L_.length : Int)
 len : s.L_.length ≤ 2000
theorem SrcOk.eta {s : Src} (h : SrcOk s) : SrcOk ⟨s.L_, s.At⟩ := h
theorem Ok.iteD {α : Type} {c : Prop} [Decidable c] {a b : Option α} {P : α → Prop} (h1 : c → Ok a P) (h2 : ¬ c → Ok b P) : Ok (if decide c = true then a else b) P := by
 by_cases hc : c
 ·rw [if_pos (by simp [hc])]; exact h1 hc
 ·rw [if_neg (by simp [hc])]; exact h2 hc
theorem Ok.iteB {α : Type} {c : Bool} {a b : Option α} {P : α → Prop} (h1 : c = true → Ok a P) (h2 : c = false → Ok b P) : Ok (if c = true then a else b) P := by
 cases c
 ·rw [if_neg (by simp)]; exact h2 rfl
 ·rw [if_pos rfl]; exact h1 rfl
theorem Ok.iteN {α : Type} {c : Bool} {a b : Option α} {P : α → Prop} (h1 : c = false → Ok a P) (h2 : c = true → Ok b P) : Ok (if (!c) = true then a else b) P := by
 cases c
 ·exact h1 rfl
 ·exact h2 rfl
theorem Ok.iteE {α : Type} {x y : Int} {a b : Option α} {P : α → Prop} (h1 : x = y → Ok a P) (h2 : x ≠ y → Ok b P) : Ok (if (x == y) = true then a else b) P := by
 by_cases h : x = y
 ·rw [if_pos (by simp [h])]; exact h1 h
 ·rw [if_neg (by simp [h])]; exact h2 h
theorem Ok.iteU {α : Type} {x y : Int} {a b : Option α} {P : α → Prop} (h1 : x ≠ y → Ok a P) (h2 : x = y → Ok b P) : Ok (if (x != y) = true then a else b) P := by
 by_cases h : x = y
 ·rw [if_neg (by simp [h])]; exact h2 h
 ·rw [if_pos (by simp [h])]; exact h1 h
theorem mod_ok (x : Int) {n : Int} (h1 : 1 ≤ n) (h2 : n ≤ 9223372036854775807) : Ok (L.zbjp x n) fun r => 0 ≤ r ∧ r < n := by
 unfold L.zbjp L.zbjp.J1
 have ha := Int.tmod_lt_of_pos x (show 0 < n by omega)
 have hb : -n < x.tmod n := by
  have := Int.tmod_lt_of_pos (-x) (show 0 < n by omega)
  rw [Int.neg_tmod] at this; omega
 refine Ok.iteD (fun h => by omega) fun _ => .bind' (.rem (by omega) ?_)
 refine Ok.iteD (fun h => .pure ?_) (fun h => .pure ?_)
 ·rw [wr_id (by omega)]; omega
 ·omega
theorem new_ok (l : List Int) : Ok (L.ziti l) SrcOk := by
 unfold L.ziti
 refine .bind' (.sub 0 (min l.length 2000) rfl (by omega) (by omega) (by omega) (.pure ?_))
 exact ⟨Int.le_refl _, by simp, by simp; omega⟩
theorem raw_ok {s : Src} (h : SrcOk s) : Ok (L.zxpl s) fun r => SrcOk r.2 := by
 obtain ⟨h1, h2, h3⟩ := h
 unfold L.zxpl
 refine Ok.iteD (fun _ => .pure ⟨h1, h2, h3⟩) fun h => ?_
 simp (disch := omega) only [wr_id]
 refine .bind' (.ix' (by omega) (by omega) fun k x _ _ => .pure ⟨by dsimp only; omega, by dsimp only; omega, h3⟩)
theorem n_ok {s : Src} (h : SrcOk s) {n : Int} (h1 : 1 ≤ n) (h2 : n ≤ 9223372036854775807) : Ok (L.zdjb s n) fun r => SrcOk r.2 ∧ 0 ≤ r.1 ∧ r.1 < n := by
 unfold L.zdjb
 exact .bind (raw_ok h) fun x hx => .bind (mod_ok _ h1 h2) fun y hy => .pure ⟨hx, hy⟩
theorem range_ok {s : Src} (h : SrcOk s) {lo hi : Int} (h1 : lo ≤ hi) (h2 : -1000000000 ≤ lo) (h3 : hi ≤ 1000000000) : Ok (L.ziuk s lo hi) fun r => SrcOk r.2 ∧ lo ≤ r.1 ∧ r.1 ≤ hi := by
 unfold L.ziuk
 simp (disch := omega) only [wr_id]
 refine .bind (n_ok h (by omega) (by omega)) fun x hx => .pure ⟨hx.1, ?_⟩
 dsimp only
 rw [wr_id (by omega)]; omega
theorem pick_ok {s : Src} (h : SrcOk s) {l : List Int} (h1 : 1 ≤ l.length) (h2 : l.length ≤ 1000) : Ok (L.ztqk s l) fun r => SrcOk r.2 ∧ r.1 ∈ l := by
 unfold L.ztqk
 refine .bind (n_ok h (by omega) (by omega)) fun x hx => .bind' (.ix' hx.2.1 hx.2.2 fun k y _ hy => .pure ⟨hx.1, mg hy⟩)
def nm (c : UInt8) (k : Nat) : ByteArray := ⟨#[c, 97 + UInt8.ofNat k]⟩
theorem name_ok {c : UInt8} {k : Nat} (hk : k < 26) : L.zeyi ⟨#[c]⟩ (k : Int) = some (nm c k) := by
 unfold L.zeyi
 have hm : ((k : Int).tmod 26) = (k : Int) := by rw [Int.tmod_eq_emod_of_nonneg (by omega)]; omega
 rw [hm, wr_id (by omega)]
 have : k = 0 ∨ k = 1 ∨ k = 2 ∨ k = 3 ∨ k = 4 ∨ k = 5 ∨ k = 6 ∨ k = 7 ∨ k = 8 ∨ k = 9 ∨ k = 10 ∨ k = 11 ∨ k = 12 ∨ k = 13 ∨ k = 14 ∨ k = 15 ∨ k = 16 ∨ k = 17 ∨ k = 18 ∨ k = 19 ∨ k = 20 ∨ k = 21 ∨ k = 22 ∨ k = 23 ∨ k = 24 ∨ k = 25 := by omega
 rcases this with rfl | rfl | rfl | rfl | rfl | rfl | rfl | rfl | rfl | rfl | rfl | rfl | rfl | rfl | rfl | rfl | rfl | rfl | rfl | rfl | rfl | rfl | rfl | rfl | rfl | rfl <;> rfl
structure PointsOk (cap : Int) (l : List Point) : Prop where
 len : 2 ≤ l.length ∧ l.length ≤ 8
 first : ∀ p, l[0]? = some p → p.At = 0
 last : ∀ p, l[l.length - 1]? = some p → p.At = cap
 up : ∀ i p q, l[i]? = some p → l[i + 1]? = some q → p.At < q.At
 height : ∀ p, p ∈ l → -500 ≤ p.Height ∧ p.Height ≤ 5000
 limit : ∀ p, p ∈ l → 0 ≤ p.Limit ∧ p.Limit ≤ 100000000
structure SegOk (nodes k : Nat) (s : Segment) : Prop where
 name : s.Name = nm 103 k
 ends : 0 ≤ s.From ∧ s.From < (nodes : Int) ∧ 0 ≤ s.To ∧ s.To < (nodes : Int) ∧ s.From ≠ s.To
 cap : 1 ≤ s.Capacity ∧ s.Capacity ≤ 1000
 resist : 0 ≤ s.Resist ∧ s.Resist ≤ 1000
 wave : 0 ≤ s.Wave ∧ s.Wave ≤ 100000
 points : PointsOk s.Capacity s.Points
structure PortOk (nodes k : Nat) (p : Port) : Prop where
 node : 0 ≤ p.Node ∧ p.Node < (nodes : Int)
 pressure : 0 ≤ p.Pressure ∧ p.Pressure ≤ 100000000
structure StOk (nodes k : Nat) (p : Station) : Prop where
 name : L.zcvq p.Name = some true
 node : 0 ≤ p.Node ∧ p.Node < (nodes : Int)
 head : 0 ≤ p.Head ∧ p.Head ≤ 2000000
 fall : 0 ≤ p.Fall ∧ p.Fall ≤ 100000
 suction : 0 ≤ p.Suction ∧ p.Suction ≤ 400000
def Nmd (l : List ByteArray) : Prop := l.length ≤ 26 ∧ (∀ (k : Nat) (x : ByteArray), l[k]? = some x → L.zcvq x = some true) ∧ ∀ (i j : Nat) (x y : ByteArray), l[i]? = some x → l[j]? = some y → sEq x y = true → i = j
structure NetOk (n : Network) : Prop where
 nodes : 2 ≤ n.Nodes.length ∧ n.Nodes.length ≤ 6
 segs1 : n.Nodes.length - 1 ≤ n.Segments.length ∧ n.Segments.length ≤ 8
 segs : ∀ k s, n.Segments[k]? = some s → SegOk n.Nodes.length k s
 ports1 : 2 ≤ n.Ports.length ∧ n.Ports.length ≤ 6
 ports : ∀ k s, n.Ports[k]? = some s → PortOk n.Nodes.length k s
 portsUp : ∀ (i j : Nat) (p q : Port), i < j → n.Ports[i]? = some p → n.Ports[j]? = some q → p.Node < q.Node
 sts1 : n.Stations.length ≤ 6
 sts : ∀ k s, n.Stations[k]? = some s → StOk n.Nodes.length k s
 stsUp : ∀ (i j : Nat) (p q : Station), i < j → n.Stations[i]? = some p → n.Stations[j]? = some q → p.Node < q.Node
 vapour : -100000 ≤ n.Vapour ∧ n.Vapour ≤ 50000
 settle : 0 ≤ n.Settle ∧ n.Settle ≤ 100
 named : ∀ l, l ∈ [n.Nodes, n.Segments.map (·.Name), n.Ports.map (·.Name), n.Stations.map (·.Name)] → Nmd l
structure PInv (l : List Point) (at_ : Int) : Prop where
 len : 1 ≤ l.length
 first : ∀ p, l[0]? = some p → p.At = 0
 last : ∀ p, l[l.length - 1]? = some p → p.At = at_
 up : ∀ i p q, l[i]? = some p → l[i + 1]? = some q → p.At < q.At
 height : ∀ p, p ∈ l → -500 ≤ p.Height ∧ p.Height ≤ 5000
 limit : ∀ p, p ∈ l → 0 ≤ p.Limit ∧ p.Limit ≤ 100000000
theorem PInv.append {l : List Point} {at_ : Int} (h : PInv l at_) {p : Point} (h1 : at_ < p.At) (h2 : -500 ≤ p.Height ∧ p.Height ≤ 5000) (h3 : 0 ≤ p.Limit ∧ p.Limit ≤ 100000000) : PInv (l ++ [p]) p.At := by
 have hl := h.len
 refine ⟨by simp, fun q hq => h.first q ?_, fun q hq => ?_, fun i a b ha hb => ?_, fun q hq => ?_, fun q hq => ?_⟩
 ·rw [List.getElem?_append_left (by omega)] at hq; exact hq
 ·rw [List.getElem?_append_right (by simp)] at hq; simp at hq; rw [hq]
 ·rw [List.getElem?_append] at ha hb
  split at hb
  ·rw [if_pos (by omega)] at ha; exact h.up i a b ha hb
  ·rename_i hi
   have hb' := (gs hb).1
   simp at hb'
   have : i + 1 = l.length := by omega
   rw [if_pos (by omega)] at ha
   have h4 := h.last a (by rw [show l.length - 1 = i by omega]; exact ha)
   simp [this] at hb
   rw [← hb]; omega
 ·rcases List.mem_append.1 hq with hq | hq
  ·exact h.height q hq
  ·simp at hq; subst hq; exact h2
 ·rcases List.mem_append.1 hq with hq | hq
  ·exact h.limit q hq
  ·simp at hq; subst hq; exact h3
theorem PInv.done {l : List Point} {at_ : Int} (h : PInv l at_) (h1 : 2 ≤ l.length ∧ l.length ≤ 8) : PointsOk at_ l := ⟨h1, h.first, h.last, h.up, h.height, h.limit⟩
theorem nat_of {n : Int} (h : 0 ≤ n) : ∃ k : Nat, n = (k : Int) := ⟨n.toNat, by omega⟩
theorem seg_ok {s : Src} (hs : SrcOk s) {nodes k : Nat} (hk : k < 26) {a b : Int} (ha : 0 ≤ a ∧ a < (nodes : Int)) (hb : 0 ≤ b ∧ b < (nodes : Int)) (hab : a ≠ b) :
  Ok (L.zsex s (k : Int) a b) fun r => SegOk nodes k r.1 ∧ SrcOk r.2 := by
 have main : ∀ (j : List Int × Int × Int × Int), SrcOk ⟨j.1, j.2.1⟩ → 0 ≤ j.2.2.1 ∧ j.2.2.1 < (nodes : Int) → 0 ≤ j.2.2.2 ∧ j.2.2.2 < (nodes : Int) → j.2.2.1 ≠ j.2.2.2 →
   Ok (L.zsex.J1 (k : Int) j) fun r => SegOk nodes k r.1 ∧ SrcOk r.2 := by
  intro j hs h1 h2 h3
  unfold L.zsex.J1
  refine .bind' (.eq (name_ok hk) ?_)
  refine .bind (pick_ok hs (by decide) (by decide)) fun r11 h11 => ?_
  refine .bind (pick_ok h11.1 (by decide) (by decide)) fun r14 h14 => ?_
  refine .bind (pick_ok h14.1 (by decide) (by decide)) fun r17 h17 => ?_
  refine .bind (pick_ok h17.1 (by decide) (by decide)) fun r22 h22 => ?_
  refine .bind (range_ok h22.1 (by decide) (by decide) (by decide)) fun r25 h25 => ?_
  have c11 := h11.2; have c14 := h14.2; have c17 := h17.2; have c22 := h22.2
  simp only [List.mem_cons, List.not_mem_nil, or_false] at c11 c14 c17 c22
  refine .bind' (.app (by simp) ?_)
  refine .bind (Q := fun d : List Int × Int × List Point => SrcOk ⟨d.1, d.2.1⟩ ∧ ∃ at_, PInv d.2.2 at_ ∧ at_ < r11.1 ∧ d.2.2.length ≤ 7) ?_ ?_
  ·refine .loop (fun st => SrcOk ⟨st.1, st.2.1⟩ ∧ PInv st.2.2.1 st.2.2.2 ∧ 0 ≤ st.2.2.2 ∧ st.2.2.2 < r11.1 ∧ st.2.2.1.length ≤ 7) (fun st => 7 - st.2.2.1.length)
    ⟨h25.1, ⟨by simp, by simp, by simp, by simp, by simp; omega, by simp; omega⟩, by simp, by simp; omega, by simp⟩ (by dsimp only; omega) ?_
   rintro ⟨L_, At, pts, at_⟩ ⟨i1, i2, i3, i4, i5⟩
   dsimp only at i1 i2 i3 i4 i5 ⊢
   have j4 : ∀ (x : List Int × Int × Bool), SrcOk ⟨x.1, x.2.1⟩ → (x.2.2 = true → pts.length < 7) → Ok (L.zsex.J4 r11 r22 (L_, At, pts, at_) x) (Sum.elim (fun st => (SrcOk ⟨st.1, st.2.1⟩ ∧ PInv st.2.2.1 st.2.2.2 ∧ 0 ≤ st.2.2.2 ∧ st.2.2.2 < r11.1 ∧ st.2.2.1.length ≤ 7) ∧ 7 - st.2.2.1.length < 7 - pts.length) fun d => SrcOk ⟨d.1, d.2.1⟩ ∧ ∃ at_, PInv d.2.2 at_ ∧ at_ < r11.1 ∧ d.2.2.length ≤ 7) := by
    intro x hx hl
    unfold L.zsex.J4
    refine Ok.iteB (fun hb => ?_) fun _ => .pure ⟨hx, at_, i2, i4, i5⟩
    have hl := hl hb
    refine .bind (range_ok hx (by decide) (by decide) (by decide)) fun r197 h197 => ?_
    dsimp only
    rw [wr_id (by omega)]
    refine Ok.iteD (fun _ => .pure ⟨h197.1, at_, i2, i4, i5⟩) fun hlt => ?_
    refine .bind (range_ok h197.1 (by decide) (by decide) (by decide)) fun r201 h201 => ?_
    refine .bind (pick_ok h201.1 (by decide) (by decide)) fun r204 h204 => ?_
    have c204 := h204.2
    simp only [List.mem_cons, List.not_mem_nil, or_false] at c204
    refine .bind (n_ok h204.1 (by decide) (by decide)) fun r206 h206 => ?_
    refine .bind' (.app (by simp; omega) (.pure ⟨⟨h206.1, ?_, by dsimp only; omega, by dsimp only; omega, by simp; omega⟩, by simp; omega⟩))
    have hh : -50 ≤ r201.1 * r204.1 ∧ r201.1 * r204.1 ≤ 600 := by
     rcases c204 with h | h | h <;> rw [h] <;> omega
    refine i2.append ?_ ?_ ?_ <;> simp (disch := omega) only [wr_id] <;> omega
   unfold L.zsex.B3
   refine Ok.iteD (fun h => ?_) fun h => ?_
   ·refine .bind (n_ok i1 (by decide) (by decide)) fun r213 h213 => j4 (_, _, _) h213.1 fun _ => by dsimp only at h; omega
   ·exact j4 (_, _, _) i1 (by simp)
  ·rintro ⟨dl, da, dp⟩ ⟨hd, at_, hp, hlt, hlen⟩
   dsimp only at hd hp hlen
   unfold L.zsex.J2
   refine .bind (range_ok hd (by decide) (by decide) (by decide)) fun r106 h106 => ?_
   have h1l := hp.len
   refine .bind' (.app (by simp; omega) (.pure ⟨⟨rfl, ⟨h1.1, h1.2, h2.1, h2.2, h3⟩, by dsimp only; omega, by dsimp only; omega, by dsimp only; omega, ?_⟩, h106.1⟩))
   exact (hp.append (p := ⟨r11.1, r106.1, r22.1⟩) hlt (by dsimp only; omega) (by dsimp only; omega)).done (by simp; omega)
 unfold L.zsex
 refine .bind (n_ok hs (by decide) (by decide)) fun r hr => ?_
 exact Ok.iteE (fun _ => main _ hr.1 hb ha (Ne.symm hab)) fun _ => main _ hr.1 ha hb hab
theorem indexFunc_int_int {s : List Int} {g : Int → Option Bool} {P : Int → Bool} (hg : ∀ (k : Nat) (x : Int), s[k]? = some x → g x = some (P x)) :
  Ok (L.zapw s g) fun r => (r = -1 ∧ ∀ (j : Nat) (y : Int), s[j]? = some y → P y = false) ∨ ∃ (k : Nat) (x : Int), r = (k : Int) ∧ s[k]? = some x ∧ P x = true ∧ ∀ (j : Nat) (y : Int), j < k → s[j]? = some y → P y = false := by
 unfold L.zapw
 refine .bind' (.forL (fun k _ => ∀ (j : Nat) (y : Int), j < k → s[j]? = some y → P y = false) (fun r => ∃ (k : Nat) (x : Int), r = (k : Int) ∧ s[k]? = some x ∧ P x = true ∧ ∀ (j : Nat) (y : Int), j < k → s[j]? = some y → P y = false) (fun j y h => absurd h (Nat.not_lt_zero _)) ?_ ?_ ?_)
 ·intro k x _ hx hi
  unfold L.zapw.B2
  refine .bind' (.eq (hg k x hx) (Ok.iteB (fun hp => .pure ⟨k, x, rfl, hx, hp, hi⟩) fun hp => .pure fun j y hj hy => ?_))
  by_cases h : j < k
  ·exact hi j y h hy
  ·have : j = k := by omega
   subst this
   rw [hx] at hy; simp at hy; subst hy; exact hp
 ·intro _ hi
  simp only [Sum.elim_inl]
  unfold L.zapw.J1
  exact .pure (.inl ⟨rfl, fun j y hy => hi j y (gs hy).1 hy⟩)
 ·intro b hb
  exact .pure (.inr hb)
theorem containsFunc_int_int {s : List Int} {g : Int → Option Bool} {P : Int → Bool} (hg : ∀ (k : Nat) (x : Int), s[k]? = some x → g x = some (P x)) :
  L.zvoj s g = some (s.any P) := by
 have : Ok (L.zvoj s g) fun r => r = s.any P := by
  unfold L.zvoj
  refine .bind (indexFunc_int_int hg) fun r hr => .pure ?_
  rcases hr with ⟨rfl, h⟩ | ⟨k, x, rfl, hx, hp, _⟩
  ·have : s.any P = false := by
    rw [List.any_eq_false]
    intro x hx
    obtain ⟨j, hj⟩ := List.getElem?_of_mem hx
    rw [h j x hj]; simp
   rw [this]; rfl
  ·have : s.any P = true := List.any_eq_true.2 ⟨x, mg hx, hp⟩
   rw [this]; simp
 obtain ⟨r, h, rfl⟩ := this
 exact h
theorem indexFunc_string_string {s : List ByteArray} {g : ByteArray → Option Bool} {P : ByteArray → Bool} (hg : ∀ (k : Nat) (x : ByteArray), s[k]? = some x → g x = some (P x)) :
  Ok (L.zqyu s g) fun r => (r = -1 ∧ ∀ (j : Nat) (y : ByteArray), s[j]? = some y → P y = false) ∨ ∃ (k : Nat) (x : ByteArray), r = (k : Int) ∧ s[k]? = some x ∧ P x = true ∧ ∀ (j : Nat) (y : ByteArray), j < k → s[j]? = some y → P y = false := by
 unfold L.zqyu
 refine .bind' (.forL (fun k _ => ∀ (j : Nat) (y : ByteArray), j < k → s[j]? = some y → P y = false) (fun r => ∃ (k : Nat) (x : ByteArray), r = (k : Int) ∧ s[k]? = some x ∧ P x = true ∧ ∀ (j : Nat) (y : ByteArray), j < k → s[j]? = some y → P y = false) (fun j y h => absurd h (Nat.not_lt_zero _)) ?_ ?_ ?_)
 ·intro k x _ hx hi
  unfold L.zqyu.B2
  refine .bind' (.eq (hg k x hx) (Ok.iteB (fun hp => .pure ⟨k, x, rfl, hx, hp, hi⟩) fun hp => .pure fun j y hj hy => ?_))
  by_cases h : j < k
  ·exact hi j y h hy
  ·have : j = k := by omega
   subst this
   rw [hx] at hy; simp at hy; subst hy; exact hp
 ·intro _ hi
  simp only [Sum.elim_inl]
  unfold L.zqyu.J1
  exact .pure (.inl ⟨rfl, fun j y hy => hi j y (gs hy).1 hy⟩)
 ·intro b hb
  exact .pure (.inr hb)
theorem containsFunc_string_string {s : List ByteArray} {g : ByteArray → Option Bool} {P : ByteArray → Bool} (hg : ∀ (k : Nat) (x : ByteArray), s[k]? = some x → g x = some (P x)) :
  L.zmkj s g = some (s.any P) := by
 have : Ok (L.zmkj s g) fun r => r = s.any P := by
  unfold L.zmkj
  refine .bind (indexFunc_string_string hg) fun r hr => .pure ?_
  rcases hr with ⟨rfl, h⟩ | ⟨k, x, rfl, hx, hp, _⟩
  ·have : s.any P = false := by
    rw [List.any_eq_false]
    intro x hx
    obtain ⟨j, hj⟩ := List.getElem?_of_mem hx
    rw [h j x hj]; simp
   rw [this]; rfl
  ·have : s.any P = true := List.any_eq_true.2 ⟨x, mg hx, hp⟩
   rw [this]; simp
 obtain ⟨r, h, rfl⟩ := this
 exact h
theorem indexFunc_api_Segment_api_Segment {s : List Segment} {g : Segment → Option Bool} {P : Segment → Bool} (hg : ∀ (k : Nat) (x : Segment), s[k]? = some x → g x = some (P x)) :
  Ok (L.zbuy s g) fun r => (r = -1 ∧ ∀ (j : Nat) (y : Segment), s[j]? = some y → P y = false) ∨ ∃ (k : Nat) (x : Segment), r = (k : Int) ∧ s[k]? = some x ∧ P x = true ∧ ∀ (j : Nat) (y : Segment), j < k → s[j]? = some y → P y = false := by
 unfold L.zbuy
 refine .bind' (.forL (fun k _ => ∀ (j : Nat) (y : Segment), j < k → s[j]? = some y → P y = false) (fun r => ∃ (k : Nat) (x : Segment), r = (k : Int) ∧ s[k]? = some x ∧ P x = true ∧ ∀ (j : Nat) (y : Segment), j < k → s[j]? = some y → P y = false) (fun j y h => absurd h (Nat.not_lt_zero _)) ?_ ?_ ?_)
 ·intro k x _ hx hi
  unfold L.zbuy.B2
  refine .bind' (.eq (hg k x hx) (Ok.iteB (fun hp => .pure ⟨k, x, rfl, hx, hp, hi⟩) fun hp => .pure fun j y hj hy => ?_))
  by_cases h : j < k
  ·exact hi j y h hy
  ·have : j = k := by omega
   subst this
   rw [hx] at hy; simp at hy; subst hy; exact hp
 ·intro _ hi
  simp only [Sum.elim_inl]
  unfold L.zbuy.J1
  exact .pure (.inl ⟨rfl, fun j y hy => hi j y (gs hy).1 hy⟩)
 ·intro b hb
  exact .pure (.inr hb)
theorem containsFunc_api_Segment_api_Segment {s : List Segment} {g : Segment → Option Bool} {P : Segment → Bool} (hg : ∀ (k : Nat) (x : Segment), s[k]? = some x → g x = some (P x)) :
  L.zwuu s g = some (s.any P) := by
 have : Ok (L.zwuu s g) fun r => r = s.any P := by
  unfold L.zwuu
  refine .bind (indexFunc_api_Segment_api_Segment hg) fun r hr => .pure ?_
  rcases hr with ⟨rfl, h⟩ | ⟨k, x, rfl, hx, hp, _⟩
  ·have : s.any P = false := by
    rw [List.any_eq_false]
    intro x hx
    obtain ⟨j, hj⟩ := List.getElem?_of_mem hx
    rw [h j x hj]; simp
   rw [this]; rfl
  ·have : s.any P = true := List.any_eq_true.2 ⟨x, mg hx, hp⟩
   rw [this]; simp
 obtain ⟨r, h, rfl⟩ := this
 exact h
theorem indexFunc_api_Port_api_Port {s : List Port} {g : Port → Option Bool} {P : Port → Bool} (hg : ∀ (k : Nat) (x : Port), s[k]? = some x → g x = some (P x)) :
  Ok (L.zobp s g) fun r => (r = -1 ∧ ∀ (j : Nat) (y : Port), s[j]? = some y → P y = false) ∨ ∃ (k : Nat) (x : Port), r = (k : Int) ∧ s[k]? = some x ∧ P x = true ∧ ∀ (j : Nat) (y : Port), j < k → s[j]? = some y → P y = false := by
 unfold L.zobp
 refine .bind' (.forL (fun k _ => ∀ (j : Nat) (y : Port), j < k → s[j]? = some y → P y = false) (fun r => ∃ (k : Nat) (x : Port), r = (k : Int) ∧ s[k]? = some x ∧ P x = true ∧ ∀ (j : Nat) (y : Port), j < k → s[j]? = some y → P y = false) (fun j y h => absurd h (Nat.not_lt_zero _)) ?_ ?_ ?_)
 ·intro k x _ hx hi
  unfold L.zobp.B2
  refine .bind' (.eq (hg k x hx) (Ok.iteB (fun hp => .pure ⟨k, x, rfl, hx, hp, hi⟩) fun hp => .pure fun j y hj hy => ?_))
  by_cases h : j < k
  ·exact hi j y h hy
  ·have : j = k := by omega
   subst this
   rw [hx] at hy; simp at hy; subst hy; exact hp
 ·intro _ hi
  simp only [Sum.elim_inl]
  unfold L.zobp.J1
  exact .pure (.inl ⟨rfl, fun j y hy => hi j y (gs hy).1 hy⟩)
 ·intro b hb
  exact .pure (.inr hb)
theorem containsFunc_api_Port_api_Port {s : List Port} {g : Port → Option Bool} {P : Port → Bool} (hg : ∀ (k : Nat) (x : Port), s[k]? = some x → g x = some (P x)) :
  L.zdru s g = some (s.any P) := by
 have : Ok (L.zdru s g) fun r => r = s.any P := by
  unfold L.zdru
  refine .bind (indexFunc_api_Port_api_Port hg) fun r hr => .pure ?_
  rcases hr with ⟨rfl, h⟩ | ⟨k, x, rfl, hx, hp, _⟩
  ·have : s.any P = false := by
    rw [List.any_eq_false]
    intro x hx
    obtain ⟨j, hj⟩ := List.getElem?_of_mem hx
    rw [h j x hj]; simp
   rw [this]; rfl
  ·have : s.any P = true := List.any_eq_true.2 ⟨x, mg hx, hp⟩
   rw [this]; simp
 obtain ⟨r, h, rfl⟩ := this
 exact h
theorem indexFunc_api_Station_api_Station {s : List Station} {g : Station → Option Bool} {P : Station → Bool} (hg : ∀ (k : Nat) (x : Station), s[k]? = some x → g x = some (P x)) :
  Ok (L.zywf s g) fun r => (r = -1 ∧ ∀ (j : Nat) (y : Station), s[j]? = some y → P y = false) ∨ ∃ (k : Nat) (x : Station), r = (k : Int) ∧ s[k]? = some x ∧ P x = true ∧ ∀ (j : Nat) (y : Station), j < k → s[j]? = some y → P y = false := by
 unfold L.zywf
 refine .bind' (.forL (fun k _ => ∀ (j : Nat) (y : Station), j < k → s[j]? = some y → P y = false) (fun r => ∃ (k : Nat) (x : Station), r = (k : Int) ∧ s[k]? = some x ∧ P x = true ∧ ∀ (j : Nat) (y : Station), j < k → s[j]? = some y → P y = false) (fun j y h => absurd h (Nat.not_lt_zero _)) ?_ ?_ ?_)
 ·intro k x _ hx hi
  unfold L.zywf.B2
  refine .bind' (.eq (hg k x hx) (Ok.iteB (fun hp => .pure ⟨k, x, rfl, hx, hp, hi⟩) fun hp => .pure fun j y hj hy => ?_))
  by_cases h : j < k
  ·exact hi j y h hy
  ·have : j = k := by omega
   subst this
   rw [hx] at hy; simp at hy; subst hy; exact hp
 ·intro _ hi
  simp only [Sum.elim_inl]
  unfold L.zywf.J1
  exact .pure (.inl ⟨rfl, fun j y hy => hi j y (gs hy).1 hy⟩)
 ·intro b hb
  exact .pure (.inr hb)
theorem containsFunc_api_Station_api_Station {s : List Station} {g : Station → Option Bool} {P : Station → Bool} (hg : ∀ (k : Nat) (x : Station), s[k]? = some x → g x = some (P x)) :
  L.ztlc s g = some (s.any P) := by
 have : Ok (L.ztlc s g) fun r => r = s.any P := by
  unfold L.ztlc
  refine .bind (indexFunc_api_Station_api_Station hg) fun r hr => .pure ?_
  rcases hr with ⟨rfl, h⟩ | ⟨k, x, rfl, hx, hp, _⟩
  ·have : s.any P = false := by
    rw [List.any_eq_false]
    intro x hx
    obtain ⟨j, hj⟩ := List.getElem?_of_mem hx
    rw [h j x hj]; simp
   rw [this]; rfl
  ·have : s.any P = true := List.any_eq_true.2 ⟨x, mg hx, hp⟩
   rw [this]; simp
 obtain ⟨r, h, rfl⟩ := this
 exact h
theorem index_string_string {s : List ByteArray} {v : ByteArray} :
  Ok (L.zsbv s v) fun r => (r = -1 ∧ ∀ (j : Nat) (y : ByteArray), s[j]? = some y → (sEq v y) = false) ∨ ∃ (k : Nat) (y : ByteArray), r = (k : Int) ∧ s[k]? = some y ∧ (sEq v y) = true ∧ ∀ (j : Nat) (y : ByteArray), j < k → s[j]? = some y → (sEq v y) = false := by
 unfold L.zsbv
 refine .bind' (.forL (fun k _ => ∀ (j : Nat) (y : ByteArray), j < k → s[j]? = some y → (sEq v y) = false) (fun r => ∃ (k : Nat) (y : ByteArray), r = (k : Int) ∧ s[k]? = some y ∧ (sEq v y) = true ∧ ∀ (j : Nat) (y : ByteArray), j < k → s[j]? = some y → (sEq v y) = false) (fun j y h => absurd h (Nat.not_lt_zero _)) ?_ ?_ ?_)
 ·intro k x _ hx hi
  unfold L.zsbv.B2
  refine Ok.iteB (fun hp => .pure ⟨k, x, rfl, hx, hp, hi⟩) fun hp => .pure fun j y hj hy => ?_
  by_cases h : j < k
  ·exact hi j y h hy
  ·have : j = k := by omega
   subst this
   rw [hx] at hy; simp at hy; subst hy; exact hp
 ·intro _ hi
  simp only [Sum.elim_inl]
  unfold L.zsbv.J1
  exact .pure (.inl ⟨rfl, fun j y hy => hi j y (gs hy).1 hy⟩)
 ·intro b hb
  exact .pure (.inr hb)
theorem maps_ok {α β : Type} {l : List α} {g : α → β} {f : Nat → α → List β → Option (List β)} (hf : ∀ k x st, f k x st = (app? st [g x]).bind fun y => some y) (hl : l.length ≤ 1000) :
  Ok (forS f 0 l []) fun r => r = l.map g := by
 refine .forS (fun k st => st = (l.take k).map g) (by simp) ?_ fun st h => by rw [h]; simp
 rintro k x st hx rfl
 rw [hf]
 have hk := (gs hx).1
 refine .bind' (.app (by simp; omega) (.pure ?_))
 rw [List.take_add_one, hx]
 simp
theorem names_ok {n : Network} (h1 : n.Segments.length ≤ 1000) (h2 : n.Ports.length ≤ 1000) (h3 : n.Stations.length ≤ 1000) :
  Ok (L.zalp n) fun r => r.l = [n.Nodes, n.Segments.map (·.Name), n.Ports.map (·.Name), n.Stations.map (·.Name)] := by
 unfold L.zalp
 refine .bind (maps_ok (g := (·.Name)) (fun _ _ _ => rfl) h1) ?_
 rintro _ rfl
 unfold L.zalp.J1
 refine .bind (maps_ok (g := (·.Name)) (fun _ _ _ => rfl) h2) ?_
 rintro _ rfl
 unfold L.zalp.J2
 refine .bind (maps_ok (g := (·.Name)) (fun _ _ _ => rfl) h3) ?_
 rintro _ rfl
 unfold L.zalp.J3
 exact .pure rfl
theorem lt26 {k : Nat} (h : k < 26) : k = 0 ∨ k = 1 ∨ k = 2 ∨ k = 3 ∨ k = 4 ∨ k = 5 ∨ k = 6 ∨ k = 7 ∨ k = 8 ∨ k = 9 ∨ k = 10 ∨ k = 11 ∨ k = 12 ∨ k = 13 ∨ k = 14 ∨ k = 15 ∨ k = 16 ∨ k = 17 ∨ k = 18 ∨ k = 19 ∨ k = 20 ∨ k = 21 ∨ k = 22 ∨ k = 23 ∨ k = 24 ∨ k = 25 := by omega
theorem nameOk {c : UInt8} (hc : c = 110 ∨ c = 103 ∨ c = 113 ∨ c = 115) {k : Nat} (hk : k < 26) : L.zcvq (nm c k) = some true := by
 rcases hc with rfl | rfl | rfl | rfl <;>
  rcases lt26 hk with rfl | rfl | rfl | rfl | rfl | rfl | rfl | rfl | rfl | rfl | rfl | rfl | rfl | rfl | rfl | rfl | rfl | rfl | rfl | rfl | rfl | rfl | rfl | rfl | rfl | rfl <;> rfl
theorem nm_inj {c : UInt8} {i j : Nat} (hi : i < 26) (hj : j < 26) (h : sEq (nm c i) (nm c j) = true) : i = j := by
 have h1 : (nm c i).toList = (nm c j).toList := by simpa [sEq] using h
 have h2 : [c, 97 + UInt8.ofNat i] = [c, 97 + UInt8.ofNat j] := by simpa [nm, ByteArray.toList, ByteArray.toList.loop, ByteArray.size, ByteArray.get!] using h1
 simp only [List.cons.injEq, and_true, true_and] at h2
 have h3 := congrArg UInt8.toNat h2
 simp only [UInt8.toNat_add, UInt8.toNat_ofNat'] at h3
 have : (97 : UInt8).toNat = 97 := rfl
 rw [this] at h3
 omega
theorem sEq_refl (a : ByteArray) : sEq a a = true := by simp [sEq]
theorem twice_names {l : List ByteArray} (h : Nmd l) {k : Nat} {x : ByteArray} (hk : l[k]? = some x) : Ok (L.zsbv l x) fun r => r = (k : Int) := by
 obtain ⟨h1, _, h2⟩ := h
 refine index_string_string.mono ?_
 rintro r (⟨rfl, h⟩ | ⟨j, y, rfl, hj, he, hlt⟩)
 ·have := h k x hk
  rw [sEq_refl] at this; cases this
 ·have := h2 k j x y hk hj he
  omega
theorem pipe_ok {nodes k : Nat} {s : Segment} (h : SegOk nodes k s) : L.zcxq s = some true := by
 have : Ok (L.zcxq s) fun r => r = true := by
  have hp := h.points
  have h1 := h.ends; have h2 := h.cap; have h3 := h.resist; have h4 := h.wave; have h5 := hp.len
  unfold L.zcxq
  refine Ok.iteB (fun hb => ?_) fun _ => ?_
  ·simp [L.zvhs] at hb
   omega
  refine .bind' (.forL (fun _ _ => True) (fun _ => False) trivial ?_ ?_ fun _ h => h.elim)
  ·intro i p _ hi _
   have hm := mg hi
   have g1 := hp.height p hm; have g2 := hp.limit p hm
   unfold L.zcxq.B3
   refine Ok.iteB (fun hb => ?_) fun _ => Ok.iteB (fun hb => ?_) fun _ => Ok.iteD (fun h0 => ?_) fun h0 => ?_
   ·simp [L.zvhs] at hb; omega
   ·simp [L.zvhs] at hb; omega
   ·rw [wr_id (by have := (gs hi).1; omega)]
    obtain ⟨j, rfl⟩ : ∃ j, i = j + 1 := ⟨i - 1, by omega⟩
    have hjl : j < s.Points.length := by have := (gs hi).1; omega
    have hj : s.Points[j]? = some s.Points[j] := gq hjl
    have hup := hp.up j _ p hj hi
    refine .bind' (.ix j (by omega) hjl ?_)
    unfold L.zcxq.J4
    refine Ok.iteD (fun h => ?_) fun _ => .pure trivial
    dsimp only at h; omega
   ·unfold L.zcxq.J4
    exact .pure trivial
  ·intro _ _
   simp only [Sum.elim_inl]
   unfold L.zcxq.J1 L.zcxq.J2
   have e0 : s.Points[0]? = some s.Points[0] := gq (by omega)
   have el : s.Points[s.Points.length - 1]? = some s.Points[s.Points.length - 1] := gq (by omega)
   refine .bind' (.ix 0 rfl (by omega) (Ok.iteB (fun _ => ?_) fun hb => ?_))
   ·rw [wr_id (by omega)]
    refine .bind' (.ix (s.Points.length - 1) (by omega) (by omega) (.pure ?_))
    have := hp.last _ el
    dsimp only
    rw [this]; simp
   ·have := hp.first _ e0
    dsimp only at hb
    rw [this] at hb
    cases hb
 obtain ⟨r, h, rfl⟩ := this
 exact h
theorem any_false {α : Type} {l : List α} {P : α → Bool} (h : ∀ (k : Nat) (x : α), l[k]? = some x → P x = false) : l.any P = false := by
 rw [List.any_eq_false]
 intro x hx
 obtain ⟨j, hj⟩ := List.getElem?_of_mem hx
 rw [h j x hj]; simp
structure NetV (n : Network) : Prop where
 nodes : 1 ≤ n.Nodes.length ∧ n.Nodes.length ≤ 6
 segs1 : n.Segments.length ≤ 8
 segs : ∀ (k : Nat) (s : Segment), n.Segments[k]? = some s → ∃ j, SegOk n.Nodes.length j s
 ports1 : n.Ports.length ≤ 6
 ports : ∀ k s, n.Ports[k]? = some s → PortOk n.Nodes.length k s
 sts1 : n.Stations.length ≤ 6
 sts : ∀ k s, n.Stations[k]? = some s → StOk n.Nodes.length k s
 stsUp : ∀ (i j : Nat) (p q : Station), i < j → n.Stations[i]? = some p → n.Stations[j]? = some q → p.Node < q.Node
 vapour : -100000 ≤ n.Vapour ∧ n.Vapour ≤ 50000
 settle : 0 ≤ n.Settle ∧ n.Settle ≤ 100
 named : ∀ l, l ∈ [n.Nodes, n.Segments.map (·.Name), n.Ports.map (·.Name), n.Stations.map (·.Name)] → Nmd l
theorem NetOk.v {n : Network} (h : NetOk n) : NetV n :=
 ⟨by have := h.nodes; omega, h.segs1.2, fun k s hs => ⟨k, h.segs k s hs⟩, h.ports1.2, h.ports, h.sts1, h.sts, h.stsUp, h.vapour, h.settle, h.named⟩
theorem netCheckV {n : Network} (h : NetV n) : L.zfta n = some 0 := by
 have : Ok (L.zfta n) fun r => r = 0 := by
  have h1 := h.nodes; have h2 := h.segs1; have h3 := h.ports1; have h4 := h.sts1; have h5 := h.vapour; have h6 := h.settle
  unfold L.zfta
  refine .bind (Q := fun r => r = true) ?_ ?_
  ·unfold L.znhd
   refine Ok.iteB (fun hb => ?_) fun _ => .bind' (.eq (containsFunc_api_Segment_api_Segment (P := fun x => L.zzec x) fun _ _ _ => rfl) (.pure ?_))
   ·simp at hb; omega
   ·rw [any_false]; rfl
    intro k x hx
    have := (h.segs k x hx).choose_spec.points.len
    simp [L.zzec]; omega
  rintro _ rfl
  refine Ok.iteN (fun hb => by cases hb) fun _ => ?_
  refine .bind (names_ok (by omega) (by omega) (by omega)) fun r45 hr => ?_
  refine .bind' (.forI (fun _ _ => True) (fun _ => False) trivial ?_ ?_ fun _ h => h.elim)
  ·intro k _ hk _
   unfold L.zfta.B2
   refine .bind' (.ix k rfl (by rw [hr]; exact hk) ?_)
   have hkl : k < r45.l.length := by rw [hr]; exact hk
   have hl := h.named r45.l[k] (by rw [← hr]; exact List.getElem_mem _)
   refine .bind' (.eq (containsFunc_string_string (P := fun _ => false) fun j x hx => ?_) ?_)
   ·unfold L.zqbg
    rw [hl.2.1 j x hx]; rfl
   ·rw [any_false fun _ _ _ => rfl]
    exact .pure trivial
  ·intro _ _
   simp only [Sum.elim_inl]
   unfold L.zfta.J1
   refine .bind (Q := fun r => r = false) ?_ ?_
   ·unfold L.zybm
    refine .bind (names_ok (by omega) (by omega) (by omega)) fun r45 hr => ?_
    refine .bind' (.forI (fun _ _ => True) (fun _ => False) trivial ?_ ?_ fun _ h => h.elim)
    ·intro k _ hk _
     unfold L.zybm.B4
     refine .bind' (.ix k rfl (by rw [hr]; exact hk) ?_)
     have hkl : k < r45.l.length := by rw [hr]; exact hk
     have hl := h.named r45.l[k] (by rw [← hr]; exact List.getElem_mem _)
     refine .bind' (.forL (fun _ _ => True) (fun _ => False) trivial ?_ ?_ fun _ h => h.elim)
     ·intro j x _ hj _
      unfold L.zybm.B6
      refine .bind (twice_names hl hj) ?_
      rintro _ rfl
      refine Ok.iteD (fun h => by omega) fun _ => .pure trivial
     ·intro _ _
      exact .pure trivial
    ·intro _ _
     simp only [Sum.elim_inl]
     unfold L.zybm.J1
     refine .bind' (.forL (fun _ _ => True) (fun _ => False) trivial ?_ ?_ fun _ h => h.elim)
     ·intro j x _ hj _
      unfold L.zybm.B3
      refine .bind (Q := fun r => r = (j : Int)) ((indexFunc_api_Station_api_Station (P := fun y => L.zsgv y x) fun _ _ _ => rfl).mono ?_) ?_
      ·rintro r (⟨rfl, hh⟩ | ⟨k, y, rfl, hk, he, hlt⟩)
       ·have := hh j x hj
        simp [L.zsgv] at this
       ·simp [L.zsgv] at he
        by_cases hkj : k = j
        ·omega
        ·rcases Nat.lt_or_gt_of_ne hkj with hlt2 | hlt2
         ·have := h.stsUp k j y x hlt2 hk hj; omega
         ·have := h.stsUp j k x y hlt2 hj hk; omega
      ·rintro _ rfl
       refine Ok.iteD (fun h => by omega) fun _ => .pure trivial
     ·intro _ _
      exact .pure rfl
   rintro _ rfl
   refine Ok.iteB (fun h => by cases h) fun _ => ?_
   refine .bind (Q := fun r => r = true) ?_ ?_
   ·unfold L.zctd
    let good : List Int → Prop := fun l => ∀ x, x ∈ l → 0 ≤ x ∧ x < (n.Nodes.length : Int)
    have app : ∀ {l m : List Int}, good l → good m → good (l ++ m) := fun h1 h2 x hx => by
     rcases List.mem_append.1 hx with hx | hx
     ·exact h1 x hx
     ·exact h2 x hx
    refine .bind (Q := fun l => l.length ≤ 100 ∧ good l) (.forS (fun k l => l.length ≤ 2 * k ∧ good l) ⟨by simp, by intro x hx; cases hx⟩ ?_ fun l hl => ⟨by omega, hl.2⟩) ?_
    ·rintro k s l hs ⟨l1, l2⟩
     have hkl := (gs hs).1
     have he := (h.segs k s hs).choose_spec.ends
     unfold L.zctd.B6
     refine .bind' (.app (by simp; omega) (.pure ⟨by simp; omega, app l2 ?_⟩))
     intro x hx
     simp at hx
     rcases hx with rfl | rfl <;> omega
    rintro l ⟨l1, l2⟩
    unfold L.zctd.J1
    refine .bind (Q := fun l => l.length ≤ 200 ∧ good l) (.forS (fun k l => l.length ≤ 100 + k ∧ good l) ⟨by omega, l2⟩ ?_ fun l hl => ⟨by omega, hl.2⟩) ?_
    ·rintro k s l hs ⟨l1, l2⟩
     have hkl := (gs hs).1
     have he := (h.ports k s hs).node
     unfold L.zctd.B5
     refine .bind' (.app (by simp; omega) (.pure ⟨by simp; omega, app l2 ?_⟩))
     intro x hx
     simp at hx; subst hx; omega
    rintro l ⟨l1, l2⟩
    unfold L.zctd.J2
    refine .bind (Q := fun l => l.length ≤ 300 ∧ good l) (.forS (fun k l => l.length ≤ 200 + k ∧ good l) ⟨by omega, l2⟩ ?_ fun l hl => ⟨by omega, hl.2⟩) ?_
    ·rintro k s l hs ⟨l1, l2⟩
     have hkl := (gs hs).1
     have he := (h.sts k s hs).node
     unfold L.zctd.B4
     refine .bind' (.app (by simp; omega) (.pure ⟨by simp; omega, app l2 ?_⟩))
     intro x hx
     simp at hx; subst hx; omega
    rintro l ⟨l1, l2⟩
    unfold L.zctd.J3
    refine .bind' (.eq (containsFunc_int_int (P := fun x => L.zxqi x n) fun _ _ _ => rfl) (.pure ?_))
    rw [any_false]; rfl
    intro k x hx
    have := l2 x (mg hx)
    simp [L.zxqi]; omega
   rintro _ rfl
   refine Ok.iteN (fun h => by cases h) fun _ => ?_
   refine .bind (Q := fun r => r = true) ?_ ?_
   ·unfold L.zdqn
    refine .bind' (.eq (containsFunc_api_Segment_api_Segment (P := fun _ => false) fun k x hx => by unfold L.zyto; rw [pipe_ok (h.segs k x hx).choose_spec]; rfl) ?_)
    rw [any_false fun _ _ _ => rfl]
    refine Ok.iteB (fun h => by cases h) fun _ => ?_
    refine .bind' (.eq (containsFunc_api_Port_api_Port (P := fun x => L.zxcm x) fun _ _ _ => rfl) ?_)
    rw [any_false]
    ·refine Ok.iteB (fun h => by cases h) fun _ => ?_
     refine .bind' (.eq (containsFunc_api_Station_api_Station (P := fun x => L.zeku x) fun _ _ _ => rfl) ?_)
     rw [any_false]
     ·refine Ok.iteB (fun h => by cases h) fun _ => .pure ?_
      simp [L.zvhs]; omega
     ·intro k x hx
      have h1 := (h.sts k x hx).head; have h2 := (h.sts k x hx).fall; have h3 := (h.sts k x hx).suction
      simp [L.zeku, L.zvhs]; omega
    ·intro k x hx
     have h1 := (h.ports k x hx).pressure
     simp [L.zxcm, L.zvhs]; omega
   rintro _ rfl
   exact Ok.iteN (fun h => by cases h) fun _ => .pure rfl
 obtain ⟨r, h, rfl⟩ := this
 exact h
theorem netCheck {n : Network} (h : NetOk n) : L.zfta n = some 0 := netCheckV h.v
def ind (a v : Int) : Int := if a = v then 1 else 0
def wt (n : Network) (v : Int) : List Int := n.Segments.map fun s => ind s.To v - ind s.From v
def wp (n : Network) (v : Int) : List Int := n.Ports.map fun p => ind p.Node v
structure Hop1 (n : Network) (rates : List Int) (rate a : Int) (i : Nat) (x : Segment) (r b : Int) : Prop where
 seg : n.Segments[i]? = some x
 old : rates[i]? = some r
 lt : a < b
 ends : x.From = a ∧ x.To = b ∨ x.To = a ∧ x.From = b
 rng : r + rate ≤ 1000 ∧ rate - r ≤ 1000 ∧ r + rate ≤ x.Capacity ∧ rate - r ≤ x.Capacity
def HopAt (n : Network) (rates : List Int) (rate a k b : Int) : Prop := ∃ (i : Nat) (x : Segment) (r : Int), k = (i : Int) ∧ Hop1 n rates rate a i x r b
def WayTo (n : Network) (rates : List Int) (rate s0 : Int) (way : List Int) (t : Int) : Prop :=
 ∃ nd : Nat → Int, nd 0 = s0 ∧ nd way.length = t ∧ ∀ (j : Nat) (k : Int), way[j]? = some k → HopAt n rates rate (nd j) k (nd (j + 1))
theorem WayTo.snoc {n : Network} {rates : List Int} {rate s0 : Int} {way : List Int} {m k t : Int} (h : WayTo n rates rate s0 way m) (hk : HopAt n rates rate m k t) : WayTo n rates rate s0 (way ++ [k]) t := by
 obtain ⟨nd, h1, h2, h3⟩ := h
 refine ⟨fun i => if i ≤ way.length then nd i else t, by simp [h1], by simp; omega, fun j k' hj => ?_⟩
 rw [List.getElem?_append] at hj
 split at hj
 ·rename_i hjl
  have := h3 j k' hj
  dsimp only
  rw [if_pos (by omega), if_pos (by omega)]; exact this
 ·have hb := (gs hj).1
  simp at hb
  have : j = way.length := by omega
  subst this
  simp at hj; subst hj
  dsimp only
  rw [if_pos (by omega), if_neg (by omega), h2]; exact hk
def val {n : Nat} (a : Arr Int n) (v : Nat) : Int := a.l.getD v 0
theorem val_set {n : Nat} {a : Arr Int n} {i v : Nat} {x : Int} (hv : v < n) : val (a.set i x) v = if i = v then x else val a v := by
 unfold val Arr.set
 dsimp only
 rw [List.getD_eq_getElem?_getD, List.getD_eq_getElem?_getD, get_set]
 have := a.h
 by_cases h : i = v
 ·rw [if_pos ⟨h, by omega⟩, if_pos h]; rfl
 ·rw [if_neg (fun h' => h h'.1), if_neg h]
theorem val_get {n : Nat} {a : Arr Int n} {i : Nat} {x : Int} (h : a.l[i]? = some x) : val a i = x := by
 unfold val; rw [List.getD_eq_getElem?_getD, h]; rfl
theorem val_rep {n v : Nat} : val (Arr.rep n (0 : Int)) v = 0 := by
 unfold val Arr.rep
 dsimp only
 rw [List.getD_eq_getElem?_getD, List.getElem?_replicate]
 split <;> rfl
structure Strm (b : Int) (s : flow_streams) (f : Nat → Int) : Prop where
 come : ∀ v, v < 24 → 0 ≤ val s.come v ∧ val s.come v ≤ b
 leave : ∀ v, v < 24 → 0 ≤ val s.leave v ∧ val s.leave v ≤ b
 diff : ∀ v, v < 24 → val s.come v - val s.leave v = f v
theorem ind_self (v : Int) : ind v v = 1 := if_pos rfl
theorem ind_ne {a v : Int} (h : a ≠ v) : ind a v = 0 := if_neg h
theorem add_ok {s : flow_streams} {b : Int} {f : Nat → Int} (h : Strm b s f) (hb : 0 ≤ b ∧ b ≤ 1000000) {from_ to_ rate : Int} (hf : from_ < 24) (ht : to_ < 24) (hft : -1 ≤ from_ ∧ -1 ≤ to_)
  (hr : -1000 ≤ rate ∧ rate ≤ 1000) : Ok (L.zuui s from_ to_ rate) fun r => Strm (b + 1000) r fun v => f v + (ind to_ v - ind from_ v) * rate := by
 have main : ∀ (from_ to_ rate : Int), from_ < 24 → to_ < 24 → -1 ≤ from_ ∧ -1 ≤ to_ → 0 ≤ rate ∧ rate ≤ 1000 → Ok (L.zuui.J1 s (from_, to_, rate)) fun r => Strm (b + 1000) r fun v => f v + (ind to_ v - ind from_ v) * rate := by
  intro from_ to_ rate hf ht hft hr
  have j2 : ∀ (lv : Arr Int 24), (∀ v, v < 24 → 0 ≤ val lv v ∧ val lv v ≤ b + 1000 ∧ val lv v = val s.leave v + ind from_ v * rate) → Ok (L.zuui.J2 s (from_, to_, rate) lv) fun r => Strm (b + 1000) r fun v => f v + (ind to_ v - ind from_ v) * rate := by
   intro lv hlv
   unfold L.zuui.J2
   refine Ok.iteD (fun h0 => ?_) fun h0 => .pure ?_
   ·dsimp only at h0
    obtain ⟨t, rfl⟩ := nat_of h0
    have hl := s.come.h
    refine .bind' (.ix t rfl (by omega) ?_)
    have hx : s.come.l[t]? = some s.come.l[t] := gq (by omega)
    have hvx := val_get hx
    have hcx := h.come t (by omega)
    dsimp only
    rw [wr_id (by omega)]
    refine .pure ⟨fun v hv => ?_, fun v hv => ⟨(hlv v hv).1, (hlv v hv).2.1⟩, fun v hv => ?_⟩
    ·have := h.come v hv
     dsimp only
     rw [val_set hv]; split <;> omega
    ·have h1 := h.diff v hv
     have h2 := (hlv v hv).2.2
     dsimp only
     rw [val_set hv, h2, Int.sub_mul]
     by_cases htv : t = v
     ·subst htv; rw [if_pos rfl, ind_self]; omega
     ·rw [if_neg htv, ind_ne (a := (t : Int)) (by omega)]; omega
   ·dsimp only at h0
    refine ⟨fun v hv => ?_, fun v hv => ⟨(hlv v hv).1, (hlv v hv).2.1⟩, fun v hv => ?_⟩
    ·have := h.come v hv
     dsimp only; omega
    ·have h1 := h.diff v hv
     have h2 := (hlv v hv).2.2
     dsimp only
     rw [h2, Int.sub_mul, ind_ne (a := to_) (by omega)]; omega
  unfold L.zuui.J1
  refine Ok.iteD (fun h0 => ?_) fun h0 => ?_
  ·dsimp only at h0
   obtain ⟨t, rfl⟩ := nat_of h0
   have hl := s.leave.h
   refine .bind' (.ix t rfl (by omega) ?_)
   have hx : s.leave.l[t]? = some s.leave.l[t] := gq (by omega)
   have hvx := val_get hx
   have hcx := h.leave t (by omega)
   dsimp only
   rw [wr_id (by omega)]
   refine j2 _ fun v hv => ?_
   have := h.leave v hv
   rw [val_set hv]
   by_cases htv : t = v
   ·subst htv; rw [if_pos rfl, ind_self]; omega
   ·rw [if_neg htv, ind_ne (by omega)]; omega
  ·dsimp only at h0
   refine j2 _ fun v hv => ?_
   have := h.leave v hv
   rw [ind_ne (by omega)]; omega
 unfold L.zuui
 refine Ok.iteD (fun h0 => ?_) fun h0 => main _ _ _ hf ht hft (by omega)
 rw [wr_id (by omega)]
 refine (main to_ from_ (0 - rate) ht hf ⟨hft.2, hft.1⟩ (by omega)).mono fun r hr => ⟨hr.come, hr.leave, fun v hv => ?_⟩
 rw [hr.diff v hv]
 have : ∀ a b r : Int, (a - b) * (0 - r) = (b - a) * r := fun a b r => by rw [Int.zero_sub, Int.mul_neg, ← Int.neg_mul]; congr 1; omega
 rw [this]
def Blocked (n : Network) (p : Plan) (there : List Bool) (j : Nat) : Prop :=
 ∃ (i : Nat) (s : Segment) (r : Int) (f : Nat), n.Segments[i]? = some s ∧ p.Rates[i]? = some r ∧ r ≠ 0 ∧ (L.ztzg s r).2 = (j : Int) ∧ (L.ztzg s r).1 = (f : Int) ∧ there[f]? = some false
def Acyc (n : Network) (p : Plan) : Prop := ∀ there : List Bool, there.length = n.Nodes.length → (∀ j : Nat, there[j]? = some false → Blocked n p there j) → ∀ k : Nat, there[k]? ≠ some false
structure FlowOk (n : Network) (p : Plan) : Prop where
 rl : p.Rates.length = n.Segments.length
 pl : p.Ports.length = n.Ports.length
 ml : p.Pumps.length = n.Stations.length
 rng : ∀ (k : Nat) (r : Int) (s : Segment), p.Rates[k]? = some r → n.Segments[k]? = some s → -1000 ≤ r ∧ r ≤ 1000 ∧ -s.Capacity ≤ r ∧ r ≤ s.Capacity
 prt : ∀ (k : Nat) (x : Int), p.Ports[k]? = some x → -1000 ≤ x ∧ x ≤ 1000
 bal : ∀ v : Nat, v < 24 → dot (wt n v) p.Rates + dot (wp n v) p.Ports = 0
 acyc : Acyc n p
theorem endsOf {s : Segment} {r : Int} (hr0 : r ≠ 0) : L.ztzg s r = (s.To, s.From) ∧ r < 0 ∨ L.ztzg s r = (s.From, s.To) ∧ 0 < r := by
 unfold L.ztzg
 by_cases hn : r < 0
 ·exact .inl ⟨by rw [if_pos (by simp [hn])], hn⟩
 ·exact .inr ⟨by rw [if_neg (by simp [hn])], by omega⟩
theorem sums_ok {n : Network} (hn : NetOk n) {p : Plan} (h : FlowOk n p) : Ok (L.zzkf n p) fun r => Strm 14000 r fun _ => 0 := by
 have h1 := hn.nodes; have h2 := hn.segs1; have h3 := hn.ports1; have h4 := h.rl; have h5 := h.pl
 unfold L.zzkf
 refine .bind (.forS (fun k st => Strm (1000 * k) ⟨st.1, st.2⟩ fun v => dot (wt n v) (p.Rates.take k)) ⟨fun v hv => ?_, fun v hv => ?_, fun v hv => ?_⟩ ?_ fun st h => h) ?_
 ·dsimp only; rw [val_rep]; omega
 ·dsimp only; rw [val_rep]; omega
 ·dsimp only; rw [val_rep]; simp [dot_nil]
 ·intro k s st hs hi
  have hkl := (gs hs).1
  have hr : p.Rates[k]? = some p.Rates[k] := gq (by omega)
  have hrr := h.rng k _ s hr hs
  have he := (hn.segs k s hs).ends
  unfold L.zzkf.B4
  refine .bind' (.ix k rfl (by omega) (.bind (add_ok hi (by omega) (by omega) (by omega) (by omega) (by dsimp only; omega)) fun r hr2 => .pure ?_))
  refine ⟨fun v hv => ?_, fun v hv => ?_, fun v hv => ?_⟩
  ·have := hr2.come v hv; dsimp only; omega
  ·have := hr2.leave v hv; dsimp only; omega
  ·have := hr2.diff v hv
   dsimp only at this ⊢
   rw [this, dot_take_succ (w := wt n v) (a := ind s.To v - ind s.From v) (by unfold wt; rw [List.getElem?_map, hs]; rfl) hr]
 ·intro st hi
  rw [List.take_of_length_le (by omega)] at hi
  unfold L.zzkf.J1
  refine .bind (.forS (fun k st => Strm (8000 + 1000 * k) ⟨st.1, st.2⟩ fun v => dot (wt n v) p.Rates + dot (wp n v) (p.Ports.take k)) ⟨fun v hv => ?_, fun v hv => ?_, fun v hv => ?_⟩ ?_ fun st h => h) ?_
  ·have := hi.come v hv; dsimp only at this ⊢; omega
  ·have := hi.leave v hv; dsimp only at this ⊢; omega
  ·have := hi.diff v hv; dsimp only at this ⊢; rw [this]; simp [dot_nil]
  ·intro k s st hs hi
   have hkl := (gs hs).1
   have hr : p.Ports[k]? = some p.Ports[k] := gq (by omega)
   have hrr := h.prt k _ hr
   have he := (hn.ports k s hs).node
   unfold L.zzkf.B3
   refine .bind' (.ix k rfl (by omega) (.bind (add_ok hi (by omega) (by omega) (by omega) (by omega) (by dsimp only; omega)) fun r hr2 => .pure ?_))
   refine ⟨fun v hv => ?_, fun v hv => ?_, fun v hv => ?_⟩
   ·have := hr2.come v hv; dsimp only; omega
   ·have := hr2.leave v hv; dsimp only; omega
   ·have := hr2.diff v hv
    dsimp only at this ⊢
    rw [this, dot_take_succ (w := wp n v) (a := ind s.Node v) (by unfold wp; rw [List.getElem?_map, hs]; rfl) hr, ind_ne (a := -1) (by omega), Int.sub_zero]; omega
  ·intro st hi
   rw [List.take_of_length_le (by omega)] at hi
   unfold L.zzkf.J2
   refine .pure ⟨fun v hv => ?_, fun v hv => ?_, fun v hv => ?_⟩
   ·have := hi.come v hv; dsimp only at this ⊢; omega
   ·have := hi.leave v hv; dsimp only at this ⊢; omega
   ·have := hi.diff v hv; rw [h.bal v hv] at this; exact this
def cnt : List Bool → Nat
 | [] => 0
 | b :: l => (if b = true then 1 else 0) + cnt l
theorem cnt_le : ∀ l : List Bool, cnt l ≤ l.length
 | [] => Nat.le_refl _
 | b :: l => by have := cnt_le l; cases b <;> simp [cnt] <;> omega
theorem cnt_rep (n : Nat) : cnt (List.replicate n false) = 0 := by induction n with | zero => rfl | succ n ih => simp [List.replicate_succ, cnt, ih]
theorem cnt_set : ∀ {l : List Bool} {k : Nat}, l[k]? = some false → cnt (l.set k true) = cnt l + 1
 | [], k, h => by simp at h
 | b :: l, 0, h => by simp at h; subst h; simp [cnt]; omega
 | b :: l, k + 1, h => by simp at h; simp [cnt, cnt_set h]; omega
theorem cnt_all : ∀ {l : List Bool}, (∀ k : Nat, l[k]? ≠ some false) → cnt l = l.length
 | [], _ => rfl
 | b :: l, h => by
  have h0 := h 0
  have := cnt_all (l := l) fun k => by have := h (k + 1); simpa using this
  cases b <;> simp [cnt, this] at h0 ⊢; omega
theorem order_ok {n : Network} (hn : NetOk n) {p : Plan} (h : FlowOk n p) : Ok (L.zsgw n p) fun r => r.length = n.Nodes.length := by
 have h1 := hn.nodes; have h2 := hn.segs1; have h4 := h.rl
 unfold L.zsgw
 refine .bind' (.mk n.Nodes.length rfl (by omega) ?_)
 refine .bind (Q := fun r : List Int => r.length = n.Nodes.length) ?_ fun r hr => .pure hr
 refine .loop (fun st : List Int × List Bool × Int => st.2.1.length = n.Nodes.length ∧ st.1.length = cnt st.2.1 ∧ 0 ≤ st.2.2 ∧ st.2.2 ≤ (n.Nodes.length : Int) ∧ ∀ j : Nat, (j : Int) < st.2.2 → st.2.1[j]? = some false → Blocked n p st.2.1 j)
  (fun st => (n.Nodes.length - cnt st.2.1) * 10 + (n.Nodes.length - st.2.2.toNat)) ⟨by simp, by simp [cnt_rep], by simp, by simp, fun j hj => by dsimp only at hj; omega⟩ (by dsimp only; rw [cnt_rep]; omega) ?_
 rintro ⟨out, there, k⟩ ⟨i1, i2, i3, i4, i5⟩
 dsimp only at i1 i2 i3 i4 i5
 have hc := cnt_le there
 unfold L.zsgw.B2
 refine Ok.iteD (fun h0 => ?_) fun h0 => ?_
 ·dsimp only at h0
  obtain ⟨kk, rfl⟩ := nat_of i3
  have hkl : kk < there.length := by omega
  have hx : there[kk]? = some there[kk] := gq hkl
  have next : Blocked n p there kk ∨ there[kk] = true → Ok (L.zsgw.J3 (out, there, (kk : Int))) (Sum.elim (fun st => (st.2.1.length = n.Nodes.length ∧ st.1.length = cnt st.2.1 ∧ 0 ≤ st.2.2 ∧ st.2.2 ≤ (n.Nodes.length : Int) ∧ ∀ j : Nat, (j : Int) < st.2.2 → st.2.1[j]? = some false → Blocked n p st.2.1 j) ∧
    (n.Nodes.length - cnt st.2.1) * 10 + (n.Nodes.length - st.2.2.toNat) < (n.Nodes.length - cnt there) * 10 + (n.Nodes.length - (kk : Int).toNat)) fun r : List Int => r.length = n.Nodes.length) := by
   intro hb
   unfold L.zsgw.J3
   dsimp only
   rw [wr_id (by omega)]
   refine .pure ⟨⟨i1, i2, by dsimp only; omega, by dsimp only; omega, fun j hj hf => ?_⟩, by dsimp only; omega⟩
   dsimp only at hj hf
   by_cases hjk : j = kk
   ·subst hjk
    rcases hb with hb | hb
    ·exact hb
    ·rw [hx, hb] at hf; cases hf
   ·exact i5 j (by omega) hf
  refine .bind' (.eq (ix_nat hx) (Ok.iteB (fun ht => next (.inr ht)) fun ht => ?_))
  dsimp only at ht
  refine .bind' (.forL (fun _ _ => True) (fun d => d = (out, there, (kk : Int)) ∧ Blocked n p there kk) trivial ?_ ?_ ?_)
  ·intro i s _ hs _
   have hil := (gs hs).1
   have hr : p.Rates[i]? = some p.Rates[i] := gq (by omega)
   have he := (hn.segs i s hs).ends
   have no : Ok (L.zsgw.J6 (out, there, (kk : Int)) false) (Sum.elim (fun _ : Unit => True) fun d => d = (out, there, (kk : Int)) ∧ Blocked n p there kk) := by
    unfold L.zsgw.J6
    exact .pure trivial
   unfold L.zsgw.B5
   refine .bind' (.eq (ix_nat hr) (Ok.iteU (fun hr0 => Ok.iteE (fun hto => ?_) fun _ => no) fun _ => no))
   dsimp only at hr0 hto ⊢
   have hfr : 0 ≤ (L.ztzg s p.Rates[i]).1 ∧ (L.ztzg s p.Rates[i]).1 < (n.Nodes.length : Int) := by
    unfold L.ztzg
    split <;> dsimp only <;> omega
   refine .bind' (.ix' hfr.1 (by omega) fun f x hf hfx => ?_)
   unfold L.zsgw.J6
   refine Ok.iteN (fun hx0 => .pure ⟨rfl, i, s, p.Rates[i], f, hs, hr, hr0, hto, hf, by dsimp only at hx0 hfx; rw [hfx, hx0]⟩) fun _ => .pure trivial
  ·intro _ _
   simp only [Sum.elim_inl]
   unfold L.zsgw.J4
   refine .bind' (.app (by simp; omega) ?_)
   unfold L.zsgw.J3
   dsimp only
   rw [wr_id (by omega)]
   have hx' : there[kk]? = some false := by rw [hx, ht]
   have hcs := cnt_set hx'
   have hcl := cnt_le (there.set kk true)
   simp at hcl
   refine .pure ⟨⟨by simp [i1], by simp [hcs, i2], by simp, by dsimp only; omega, fun j hj => by dsimp only at hj; omega⟩, ?_⟩
   dsimp only
   rw [hcs]; omega
  ·rintro _ ⟨rfl, hb⟩
   exact next (.inl hb)
 ·dsimp only at h0
  have hk : k = (n.Nodes.length : Int) := by omega
  subst hk
  have all := h.acyc there i1 fun j hj => i5 j (by have := (gs hj).1; omega) hj
  exact .pure (by simp only [Sum.elim_inr]; rw [i2, cnt_all all, i1])
theorem flowCheckF {n : Network} (hn : NetOk n) {p : Plan} (h : FlowOk n p) : L.zmqu n p = some 0 := by
 have h1 := hn.nodes; have h2 := hn.segs1; have h3 := hn.ports1; have h4 := h.rl; have h5 := h.pl; have h6 := h.ml; have h7 := hn.sts1
 have : Ok (L.zmqu n p) fun r => r = 0 := by
  unfold L.zmqu
  refine .bind' (.eq (netCheck hn) (Ok.iteU (fun h => absurd rfl h) fun _ => Ok.iteB (fun hb => ?_) fun _ => ?_))
  ·simp [h4, h5, h6] at hb
  refine .bind' (.forL (fun _ _ => True) (fun _ => False) trivial ?_ ?_ fun _ h => h.elim)
  ·intro k s _ hs _
   have hkl := (gs hs).1
   have hr : p.Rates[k]? = some p.Rates[k] := gq (by omega)
   have hrr := h.rng k _ s hr hs
   have hc := (hn.segs k s hs).cap
   unfold L.zmqu.B2
   refine .bind' (.eq (ix_nat hr) (Ok.iteN (fun hb => ?_) fun _ => .pure trivial))
   unfold L.zqkj at hb
   rw [wr_id (by omega)] at hb
   simp at hb
   omega
  ·intro _ _
   simp only [Sum.elim_inl]
   unfold L.zmqu.J1
   refine .bind' (.eq (containsFunc_int_int (P := fun x => L.zfct x) fun _ _ _ => rfl) ?_)
   rw [any_false]
   ·refine Ok.iteB (fun h => by cases h) fun _ => .bind (sums_ok hn h) fun r hr => ?_
    have he : r.come = r.leave := by
     refine Arr.ext' (List.ext_getElem (by rw [r.come.h, r.leave.h]) fun i a b => ?_)
     have := hr.diff i (by rw [← r.come.h]; exact a)
     rw [val_get (gq a), val_get (gq b)] at this
     omega
    refine Ok.iteN (fun hb => ?_) fun _ => .bind (order_ok hn h) fun r hr => Ok.iteD (fun hb => ?_) fun _ => .pure rfl
    ·simp [he] at hb
    ·omega
   ·intro k x hx
    have := h.prt k x hx
    unfold L.zfct L.zqkj
    rw [wr_id (by omega)]
    simp; omega
 obtain ⟨r, h, rfl⟩ := this
 exact h
theorem floor_of {a b q r : Int} (hb : 0 < b) (h : b * q + r = a) (h0 : 0 ≤ r) (h1 : r < b) : a / b = q ∧ a % b = r :=
 (Int.ediv_emod_unique hb).2 ⟨by omega, h0, h1⟩
theorem floor_t {a b : Int} (hb : 0 < b) : (a.tmod b < 0 → a / b = a.tdiv b - 1 ∧ a % b = a.tmod b + b) ∧ (¬ a.tmod b < 0 → a / b = a.tdiv b ∧ a % b = a.tmod b) := by
 have h := Int.mul_tdiv_add_tmod a b
 have h2 : a.tmod b < b := Int.tmod_lt_of_pos a hb
 have h3 : -b < a.tmod b := by have := Int.lt_tmod_of_pos a hb; exact this
 refine ⟨fun hn => floor_of hb ?_ (by omega) (by omega), fun hn => floor_of hb h (by omega) h2⟩
 rw [Int.mul_sub, Int.mul_one]; omega
def dn (a b : Int) : Int := a / b
def up (a b : Int) : Int := if 0 < a % b then a / b + 1 else a / b
theorem dn_up {a b : Int} (hb : 0 < b) : dn a b ≤ up a b ∧ up a b ≤ dn a b + 1 := by
 unfold dn up; split <;> omega
theorem dn_mono {a c b : Int} (hb : 0 < b) (h : a ≤ c) : dn a b ≤ dn c b := Int.ediv_le_ediv hb h
theorem up_eq {a b : Int} (hb : 0 < b) : up a b = -((-a) / b) := by
 unfold up
 have h1 := Int.mul_ediv_add_emod a b; have h2 := Int.emod_nonneg a (by omega : b ≠ 0); have h3 := Int.emod_lt_of_pos a hb
 split
 ·have := (floor_of (a := -a) (b := b) (q := -(a / b) - 1) (r := b - a % b) hb (by rw [Int.mul_sub, Int.mul_one, Int.mul_neg]; omega) (by omega) (by omega)).1
  omega
 ·have := (floor_of (a := -a) (b := b) (q := -(a / b)) (r := 0) hb (by rw [Int.mul_neg]; omega) (by omega) hb).1
  omega
theorem up_mono {a c b : Int} (hb : 0 < b) (h : a ≤ c) : up a b ≤ up c b := by
 rw [up_eq hb, up_eq hb]
 have := Int.ediv_le_ediv hb (show -c ≤ -a by omega)
 omega
theorem dn_neg {a b : Int} (hb : 0 < b) : dn (-a) b = - up a b := by rw [up_eq hb]; unfold dn; omega
theorem up_neg {a b : Int} (hb : 0 < b) : up (-a) b = - dn a b := by rw [up_eq hb]; unfold dn; rw [Int.neg_neg]
theorem dn_nonneg {a b : Int} (hb : 0 < b) (h : 0 ≤ a) : 0 ≤ dn a b := Int.ediv_nonneg h (by omega)
theorem dn_small {a b : Int} (hb : 0 < b) : -(a.natAbs : Int) ≤ dn a b ∧ dn a b ≤ (a.natAbs : Int) := by
 refine ⟨?_, ?_⟩
 ·have h : b * (-(a.natAbs : Int)) ≤ a := by
   have h1 : (1 : Int) * a.natAbs ≤ b * a.natAbs := Int.mul_le_mul_of_nonneg_right (by omega) (by omega)
   rw [Int.mul_neg]; omega
  unfold dn
  exact (Int.le_ediv_iff_mul_le hb).2 (by rw [Int.mul_comm]; exact h)
 ·unfold dn
  by_cases ha : 0 ≤ a
  ·have := Int.ediv_le_self b ha; omega
  ·have := Int.ediv_neg_of_neg_of_pos (by omega : a < 0) hb; omega
theorem up_small {a b : Int} (hb : 0 < b) : -(a.natAbs : Int) ≤ up a b ∧ up a b ≤ (a.natAbs : Int) := by
 have h := dn_small (a := -a) hb
 rw [dn_neg hb, Int.natAbs_neg] at h; omega
theorem compact_mem' {l : List Int} {x : Int} (h : x ∈ Lib.compact l) : x ∈ l := by
 simp only [Lib.compact, Lib.compactUpTo, List.mem_map, List.mem_filter, List.mem_range] at h
 obtain ⟨i, ⟨hi, _⟩, rfl⟩ := h
 simp [hi]
theorem compact_ix {l : List Int} (h : l.Pairwise (· ≤ ·)) : ∀ (k : Nat) (x : Int), l[k]? = some x → ∃ j, j ≤ k ∧ l[j]? = some x ∧ Lib.keeps l.toArray j = true
 | 0, x, hx => ⟨0, Nat.le_refl _, hx, Lib.keeps_lt_one _ 0 (by omega)⟩
 | k + 1, x, hx => by
  have hk := (gs hx).1
  have hx' : l[k]? = some l[k] := gq (by omega)
  by_cases he : x = l[k]
  ·obtain ⟨j, h1, h2, h3⟩ := compact_ix h k l[k] hx'
   exact ⟨j, by omega, by rw [he]; exact h2, h3⟩
  ·refine ⟨k + 1, Nat.le_refl _, hx, Lib.keeps_pos ?_⟩
   have e1 : l.toArray[k + 1]! = x := by simp [hk, getElem!_pos l (k + 1) hk]; exact (gs hx).2
   have e2 : l.toArray[k + 1 - 1]! = l[k] := by simp [show k < l.length by omega, getElem!_pos l k (by omega)]
   rw [e1, e2]; exact he
theorem compact_mem {l : List Int} (h : l.Pairwise (· ≤ ·)) {x : Int} : x ∈ Lib.compact l ↔ x ∈ l := by
 refine ⟨compact_mem', fun hx => ?_⟩
 obtain ⟨k, hk⟩ := List.getElem?_of_mem hx
 obtain ⟨j, _, h2, h3⟩ := compact_ix h k x hk
 have hj := (gs h2).1
 simp only [Lib.compact, Lib.compactUpTo, List.mem_map, List.mem_filter, List.mem_range]
 refine ⟨j, ⟨hj, h3⟩, ?_⟩
 simp [hj, getElem!_pos l j hj]; exact (gs h2).2
theorem compact_up {l : List Int} (h : l.Pairwise (· ≤ ·)) : (Lib.compact l).Pairwise (· < ·) := by
 unfold Lib.compact Lib.compactUpTo
 have hr : ((List.range l.length).filter (Lib.keeps l.toArray)).Pairwise (· < ·) := List.Pairwise.filter _ List.pairwise_lt_range
 rw [List.pairwise_map]
 refine List.Pairwise.imp_of_mem ?_ hr
 intro i j hi hj hij
 simp only [List.mem_filter, List.mem_range] at hi hj
 have hi1 := hi.1; have hj1 := hj.1
 have e1 : l.toArray[i]! = l[i] := by simp [hi1, getElem!_pos l i hi1]
 have e2 : l.toArray[j]! = l[j] := by simp [hj1, getElem!_pos l j hj1]
 rw [e1, e2]
 have hp := List.pairwise_iff_getElem.1 h
 have hj0 : 0 < j := by omega
 have hne : l[j] ≠ l[j - 1] := by
  intro he
  have : Lib.keeps l.toArray j = false := Lib.keeps_neg hj0 (by
   rw [e2, he]
   simp [show j - 1 < l.length by omega, getElem!_pos l (j - 1) (by omega)])
  rw [this] at hj
  exact absurd hj.2 (by simp)
 have h1 := hp (j - 1) j (by omega) hj1 (by omega)
 by_cases hij' : i = j - 1
 ·subst hij'; omega
 ·have := hp i (j - 1) (by omega) (by omega) (by omega)
  omega
def asc (l : List Int) : List Int := Lib.compact (l.mergeSort fun x y => decide (x ≤ y))
theorem sort_up (l : List Int) : (l.mergeSort fun x y => decide (x ≤ y)).Pairwise (· ≤ ·) := by
 have := List.pairwise_mergeSort (le := fun x y : Int => decide (x ≤ y)) (by intro a b c; simp; omega) (by intro a b; simp; omega) l
 exact this.imp (by intro a b h; simpa using h)
theorem asc_mem {l : List Int} {x : Int} : x ∈ asc l ↔ x ∈ l := by unfold asc; rw [compact_mem (sort_up l), List.mem_mergeSort]
theorem asc_up (l : List Int) : (asc l).Pairwise (· < ·) := compact_up (sort_up l)
def sumV : List Piece → Int
 | [] => 0
 | p :: l => p.Volume + sumV l
theorem sumV_append : ∀ l m : List Piece, sumV (l ++ m) = sumV l + sumV m
 | [], m => by simp [sumV]
 | x :: l, m => by simp only [List.cons_append, sumV, sumV_append l m]; omega
theorem sumV_take {l : List Piece} {k : Nat} {p : Piece} (h : l[k]? = some p) : sumV (l.take (k + 1)) = sumV (l.take k) + p.Volume := by
 rw [List.take_add_one, h, sumV_append]; simp [sumV]
theorem sumV_len : ∀ {l : List Piece}, (∀ p, p ∈ l → 1 ≤ p.Volume) → (l.length : Int) ≤ sumV l
 | [], _ => by simp [sumV]
 | x :: l, h => by
  have := h x (by simp)
  have := sumV_len (l := l) fun p hp => h p (by simp [hp])
  simp only [sumV, List.length_cons]; omega
theorem sumV_le_take {l : List Piece} (h : ∀ p, p ∈ l → 1 ≤ p.Volume) (k : Nat) : 0 ≤ sumV (l.take k) ∧ sumV (l.take k) ≤ sumV l := by
 have e : sumV l = sumV (l.take k) + sumV (l.drop k) := by rw [← sumV_append, List.take_append_drop]
 have h1 := sumV_len (l := l.take k) fun p hp => h p (List.mem_of_mem_take hp)
 have h2 := sumV_len (l := l.drop k) fun p hp => h p (List.mem_of_mem_drop hp)
 omega
structure Pcs (l : List Piece) : Prop where
 len : l.length ≤ 12
 vol : ∀ p, p ∈ l → 1 ≤ p.Volume
 bat : ∀ p, p ∈ l → 0 ≤ p.Batch ∧ p.Batch < 3
 next : ∀ (i : Nat) (p q : Piece), l[i]? = some p → l[i + 1]? = some q → p.Batch ≠ q.Batch
structure FillOk (cap : Int) (l : List Piece) : Prop extends Pcs l where
 sum : sumV l = cap
theorem Pcs.snoc {l : List Piece} (h : Pcs l) {p : Piece} (h1 : l.length < 12) (h2 : 1 ≤ p.Volume) (h3 : 0 ≤ p.Batch ∧ p.Batch < 3) (h4 : ∀ q, l[l.length - 1]? = some q → q.Batch ≠ p.Batch) : Pcs (l ++ [p]) := by
 refine ⟨by simp; omega, fun q hq => ?_, fun q hq => ?_, fun i q r hq hr => ?_⟩
 ·rcases List.mem_append.1 hq with hq | hq
  ·exact h.vol q hq
  ·simp at hq; subst hq; exact h2
 ·rcases List.mem_append.1 hq with hq | hq
  ·exact h.bat q hq
  ·simp at hq; subst hq; exact h3
 ·have hi := (gs hr).1
  simp at hi
  rw [List.getElem?_append_left (by omega)] at hq
  by_cases he : i + 1 < l.length
  ·rw [List.getElem?_append_left he] at hr
   exact h.next i q r hq hr
  ·have : i + 1 = l.length := by omega
   rw [List.getElem?_append_right (by omega), this] at hr
   simp at hr; subst hr
   exact h4 q (by rw [show l.length - 1 = i by omega]; exact hq)
theorem fill_ok {s : Src} (hs : SrcOk s) {v : Int} (hv : 1 ≤ v ∧ v ≤ 1000) : Ok (L.zdti s v 3) fun r => FillOk v r.1 ∧ SrcOk r.2 := by
 unfold L.zdti
 refine .bind (Q := fun d : List Int × Int × List Piece => SrcOk ⟨d.1, d.2.1⟩ ∧ FillOk v d.2.2) ?_ fun d hd => by unfold L.zdti.J1; exact .pure ⟨hd.2, hd.1⟩
 refine .loop (fun st : List Int × Int × Int × List Piece => SrcOk ⟨st.1, st.2.1⟩ ∧ 0 ≤ st.2.2.1 ∧ Pcs st.2.2.2 ∧ sumV st.2.2.2 + st.2.2.1 = v ∧ (st.2.2.2.length = 12 → st.2.2.1 = 0)) (fun st => st.2.2.1.toNat)
  ⟨hs, by dsimp only; omega, ⟨by simp, by simp, by simp, by simp⟩, by simp [sumV], by simp⟩ (by dsimp only; omega) ?_
 rintro ⟨L_, At, vol, out⟩ ⟨h1, h2, h3, h4, h5⟩
 dsimp only at h1 h2 h3 h4 h5
 have hsum := sumV_len h3.vol
 have hlen := h3.len
 unfold L.zdti.B2
 dsimp only
 refine Ok.iteB (fun hc => ?_) fun hc => .pure ⟨h1, h3, ?_⟩
 rotate_left
 ·dsimp only
  simp at hc
  by_cases h0 : 0 < vol
  ·have := hc h0; have := h5 (by omega); omega
  ·omega
 simp at hc
 refine .bind (n_ok h1 (by decide) (by decide)) ?_
 rintro ⟨b, s1⟩ ⟨hs1, hb⟩
 have hw : wr ((wr (vol * 2)).tdiv 3) = vol * 2 / 3 := by rw [wr_id (x := vol * 2) (by omega), Int.tdiv_eq_ediv_of_nonneg (by omega), wr_id (by omega)]
 dsimp only
 rw [hw]
 refine .bind (range_ok hs1 (by omega) (by decide) (by omega)) ?_
 rintro ⟨x, s2⟩ ⟨hs2, hx⟩
 dsimp only at hb hx hs2 ⊢
 have j4 : ∀ (y : Int) (z : Int), 1 ≤ y → (out.length = 11 → y = vol) → (0 ≤ z ∧ z < 3) → (∀ q, out[out.length - 1]? = some q → q.Batch ≠ z) →
   Ok (L.zdti.J4 (L_, At, vol, out) (x, s2) y z) (Sum.elim (fun st : List Int × Int × Int × List Piece => (SrcOk ⟨st.1, st.2.1⟩ ∧ 0 ≤ st.2.2.1 ∧ Pcs st.2.2.2 ∧ sumV st.2.2.2 + st.2.2.1 = v ∧ (st.2.2.2.length = 12 → st.2.2.1 = 0)) ∧ st.2.2.1.toNat < vol.toNat)
    fun d : List Int × Int × List Piece => SrcOk ⟨d.1, d.2.1⟩ ∧ FillOk v d.2.2) := by
  intro y z hy hy2 hz hq
  unfold L.zdti.J4
  dsimp only
  refine .bind' (.app (by simp; omega) (.pure ⟨⟨hs2.eta, ?_, h3.snoc (by omega) (by dsimp only; omega) hz hq, ?_, ?_⟩, ?_⟩))
  ·dsimp only; rw [wr_id (by omega)]; omega
  ·dsimp only; rw [sumV_append, wr_id (by omega)]; simp only [sumV]; omega
  ·intro h; dsimp only at h ⊢; rw [wr_id (by omega)]; simp at h; have := hy2 (by omega); omega
  ·dsimp only; rw [wr_id (by omega)]; omega
 have j3 : ∀ y : Int, 1 ≤ y → (out.length = 11 → y = vol) → Ok (L.zdti.J3 3 (L_, At, vol, out) (b, s1) (x, s2) y) (Sum.elim (fun st : List Int × Int × Int × List Piece => (SrcOk ⟨st.1, st.2.1⟩ ∧ 0 ≤ st.2.2.1 ∧ Pcs st.2.2.2 ∧ sumV st.2.2.2 + st.2.2.1 = v ∧ (st.2.2.2.length = 12 → st.2.2.1 = 0)) ∧ st.2.2.1.toNat < vol.toNat)
    fun d : List Int × Int × List Piece => SrcOk ⟨d.1, d.2.1⟩ ∧ FillOk v d.2.2) := by
  intro y hy hy2
  unfold L.zdti.J3
  dsimp only
  refine Ok.iteD (fun h0 => ?_) fun h0 => ?_
  ·have hl1 : out[out.length - 1]? = some (out[out.length - 1]'(by omega)) := gq _
   obtain ⟨q, hqe⟩ : ∃ q, q = out[out.length - 1]'(by omega) := ⟨_, rfl⟩
   rw [← hqe] at hl1
   have e0 : wr ((out.length : Int) - 1) = ((out.length - 1 : Nat) : Int) := by rw [wr_id (by omega)]; omega
   rw [e0]
   have hbat := h3.bat q (mg hl1)
   refine .bind' (.eq (ix_nat hl1) ?_)
   dsimp only
   unfold L.zdti.J5
   refine Ok.iteB (fun he => ?_) fun he => ?_
   ·have he' : q.Batch = b := by simpa using he
    dsimp only
    have hr : (wr (b + 1)).tmod 3 = (b + 1) % 3 := by rw [wr_id (by omega), Int.tmod_eq_emod_of_nonneg (by omega)]
    refine .bind' (.rem (by decide) ?_)
    rw [hr, e0]
    refine .bind' (.eq (ix_nat hl1) (Ok.iteE (fun h => ?_) fun h => j4 y _ hy hy2 (by omega) fun q' hq' => ?_))
    ·dsimp only at h; omega
    ·rw [hl1] at hq'; cases hq'; exact h
   ·refine j4 y b hy hy2 hb fun q' hq' => ?_
    rw [hl1] at hq'; cases hq'
    simpa using he
  ·unfold L.zdti.J5
   refine Ok.iteB (fun h => by cases h) fun _ => j4 y b hy hy2 hb fun q hq => ?_
   have : out.length = 0 := by omega
   have := (gs hq).1
   omega
 refine Ok.iteE (fun h => j3 vol (by omega) fun _ => rfl) fun h => j3 x (by omega) fun hh => by omega
structure ProdOk (k : Nat) (p : Product) : Prop where
 name : p.Name = nm 112 k
 density : 400 ≤ p.Density ∧ p.Density ≤ 1200
 expansion : 0 ≤ p.Expansion ∧ p.Expansion ≤ 2000
 compress : 0 ≤ p.Compress ∧ p.Compress ≤ 5000
 friction : 1 ≤ p.Friction ∧ p.Friction ≤ 2000
structure ProdsOk (l : List Product) : Prop where
 len : 1 ≤ l.length ∧ l.length ≤ 4
 all : ∀ (k : Nat) (p : Product), l[k]? = some p → ProdOk k p
theorem product_ok {s : Src} (hs : SrcOk s) {k : Nat} (hk : k < 26) : Ok (L.zjig s (k : Int)) fun r => ProdOk k r.1 ∧ SrcOk r.2 := by
 unfold L.zjig
 refine .bind' (.eq (name_ok hk) ?_)
 refine .bind (range_ok hs (by decide) (by decide) (by decide)) fun r1 h1 => .bind (pick_ok h1.1 (by decide) (by decide)) fun r2 h2 => .bind (pick_ok h2.1 (by decide) (by decide)) fun r3 h3 => .bind (pick_ok h3.1 (by decide) (by decide)) fun r4 h4 => .pure ⟨⟨rfl, h1.2, ?_, ?_, ?_⟩, h4.1⟩
 ·have := h2.2; simp at this; dsimp only; omega
 ·have := h3.2; simp at this; dsimp only; omega
 ·have := h4.2; simp at this; dsimp only; omega
theorem products_ok {s : Src} (hs : SrcOk s) : Ok (L.zexx s) fun r => ProdsOk r.1 ∧ SrcOk r.2 := by
 unfold L.zexx
 refine .bind (range_ok hs (by decide) (by decide) (by decide)) ?_
 rintro ⟨c, s1⟩ ⟨hs1, hc⟩
 dsimp only at hc hs1 ⊢
 refine .bind (Q := fun d : List Int × Int × List Product => SrcOk ⟨d.1, d.2.1⟩ ∧ ProdsOk d.2.2) ?_ fun d hd => by unfold L.zexx.J1; exact .pure ⟨hd.2, hd.1⟩
 refine .loop (fun st : List Int × Int × List Product × Int => SrcOk ⟨st.1, st.2.1⟩ ∧ 0 ≤ st.2.2.2 ∧ (st.2.2.1.length : Int) + st.2.2.2 = c ∧ ∀ (k : Nat) (p : Product), st.2.2.1[k]? = some p → ProdOk k p) (fun st => st.2.2.2.toNat)
  ⟨hs1.eta, by dsimp only; omega, by simp, by simp⟩ (by dsimp only; omega) ?_
 rintro ⟨L_, At, out, i⟩ ⟨h1, h2, h3, h4⟩
 dsimp only at h1 h2 h3 h4
 unfold L.zexx.B2
 dsimp only
 refine Ok.iteD (fun h => ?_) fun h => .pure ⟨h1, by dsimp only; omega, h4⟩
 refine .bind (product_ok h1 (by omega)) fun r hr => .bind' (.app (by simp; omega) (.pure ⟨⟨hr.2.eta, ?_, ?_, ?_⟩, ?_⟩))
 ·dsimp only; rw [wr_id (by omega)]; omega
 ·dsimp only; rw [wr_id (by omega)]; simp; omega
 ·intro k p hp
  dsimp only at hp
  rw [List.getElem?_append] at hp
  split at hp
  ·exact h4 k p hp
  ·rename_i hk
   have := (gs hp).1
   simp at this
   have : k = out.length := by omega
   subst this
   simp at hp; subst hp; exact hr.1
 ·dsimp only; rw [wr_id (by omega)]; omega
structure BatsOk (n : Nat) (l : List Batch) : Prop where
 len : l.length = 3
 all : ∀ p, p ∈ l → 0 ≤ p.Product ∧ p.Product < (n : Int)
theorem batches_ok {s : Src} (hs : SrcOk s) {n : Nat} (hn : 1 ≤ n ∧ n ≤ 4) : Ok (L.ziyq s 3 (n : Int)) fun r => BatsOk n r.1 ∧ SrcOk r.2 := by
 unfold L.ziyq
 refine .bind (Q := fun d : List Int × Int × List Batch => SrcOk ⟨d.1, d.2.1⟩ ∧ BatsOk n d.2.2) ?_ fun d hd => by unfold L.ziyq.J1; exact .pure ⟨hd.2, hd.1⟩
 refine .loop (fun st : List Int × Int × List Batch × Int => SrcOk ⟨st.1, st.2.1⟩ ∧ st.2.2.2 = (st.2.2.1.length : Int) ∧ st.2.2.1.length ≤ 3 ∧ ∀ p, p ∈ st.2.2.1 → 0 ≤ p.Product ∧ p.Product < (n : Int)) (fun st => 3 - st.2.2.1.length)
  ⟨hs.eta, by simp, by simp, by simp⟩ (by dsimp only; omega) ?_
 rintro ⟨L_, At, out, i⟩ ⟨h1, h2, h3, h4⟩
 dsimp only at h1 h2 h3 h4
 subst h2
 unfold L.ziyq.B2
 dsimp only
 refine Ok.iteD (fun h => ?_) fun h => .pure ⟨h1, by dsimp only; omega, h4⟩
 refine .bind (n_ok h1 (by omega) (by omega)) fun r1 hr1 => .bind (n_ok hr1.1 (by decide) (by decide)) ?_
 rintro ⟨y, s2⟩ ⟨hs2, hy⟩
 dsimp only at hy hs2 ⊢
 obtain ⟨k, rfl⟩ := nat_of hy.1
 refine .bind' (.eq (name_ok (c := 102) (by omega)) (.bind' (.app (by simp; omega) (.pure ⟨⟨hs2.eta, ?_, ?_, ?_⟩, ?_⟩))))
 ·dsimp only; rw [wr_id (by omega)]; simp
 ·dsimp only; simp; omega
 ·intro p hp
  dsimp only at hp
  rcases List.mem_append.1 hp with hp | hp
  ·exact h4 p hp
  ·simp at hp; subst hp; exact hr1.2
 ·dsimp only; simp; omega
structure SegG (s : Segment) : Prop where
 name : ∃ k, k < 26 ∧ s.Name = nm 103 k
 cap : 1 ≤ s.Capacity ∧ s.Capacity ≤ 1000
 resist : 0 ≤ s.Resist ∧ s.Resist ≤ 1000
 wave : 0 ≤ s.Wave ∧ s.Wave ≤ 100000
 points : PointsOk s.Capacity s.Points
theorem nameOk112 {k : Nat} (hk : k < 26) : L.zcvq (nm 112 k) = some true := by
 rcases lt26 hk with rfl | rfl | rfl | rfl | rfl | rfl | rfl | rfl | rfl | rfl | rfl | rfl | rfl | rfl | rfl | rfl | rfl | rfl | rfl | rfl | rfl | rfl | rfl | rfl | rfl | rfl <;> rfl
def segNet (s : Segment) : Network := ⟨([(⟨#[97]⟩ : ByteArray), (⟨#[98]⟩ : ByteArray)] : List ByteArray), ([(⟨s.Name, 0, 1, s.Capacity, s.Resist, s.Wave, s.Points⟩ : Segment)] : List Segment), [], [], 0, 0⟩
theorem segNetV {s : Segment} (h : SegG s) : NetV (segNet s) := by
 unfold segNet
 refine ⟨by simp, by simp, fun k x hk => ?_, by simp, by simp, by simp, by simp, by simp, by simp, by simp, fun l hl => ?_⟩
 ·match k, hk with
  | 0, hk => simp at hk; subst hk; obtain ⟨j, hj, hn⟩ := h.name; exact ⟨j, hn, by simp, h.cap, h.resist, h.wave, h.points⟩
  | k + 1, hk => simp at hk
 ·simp only [List.map_cons, List.map_nil, List.mem_cons, List.not_mem_nil, or_false] at hl
  rcases hl with rfl | rfl | rfl | rfl
  ·refine ⟨by simp, fun k x hk => ?_, fun i j x y hi hj he => ?_⟩
   ·match k, hk with
    | 0, hk => simp at hk; subst hk; rfl
    | 1, hk => simp at hk; subst hk; rfl
    | k + 2, hk => simp at hk
   ·match i, j, hi, hj with
    | 0, 0, _, _ => rfl
    | 1, 1, _, _ => rfl
    | 0, 1, hi, hj => simp at hi hj; subst hi; subst hj; exact absurd he (by decide +kernel)
    | 1, 0, hi, hj => simp at hi hj; subst hi; subst hj; exact absurd he (by decide +kernel)
    | i + 2, _, hi, _ => simp at hi
    | 0, j + 2, _, hj => simp at hj
    | 1, j + 2, _, hj => simp at hj
  ·obtain ⟨k0, hk0, hn⟩ := h.name
   refine ⟨by simp, fun k x hk => ?_, fun i j x y hi hj he => ?_⟩
   ·match k, hk with
    | 0, hk => simp at hk; subst hk; rw [hn]; exact nameOk (by simp) hk0
    | k + 1, hk => simp at hk
   ·have hi' := (gs hi).1
    have hj' := (gs hj).1
    simp at hi' hj'; omega
  ·exact ⟨by simp, by simp, by simp⟩
  ·exact ⟨by simp, by simp, by simp⟩
theorem segCheck {s : Segment} (h : SegG s) : L.zvhn s = some 0 := by
 have := netCheckV (segNetV h)
 unfold segNet at this
 unfold L.zvhn
 rw [this]
 rfl
theorem total_ok {f : List Piece} (h1 : f.length ≤ 12) (h2 : ∀ p, p ∈ f → 1 ≤ p.Volume) (h3 : sumV f ≤ 1000000) : L.zmsl f = some (sumV f) := by
 have : Ok (L.zmsl f) fun r => r = sumV f := by
  unfold L.zmsl
  refine .bind (.forS (fun k st => st = sumV (f.take k)) (by simp [sumV]) ?_ fun st h => h) ?_
  ·rintro k x _ hx rfl
   unfold L.zmsl.B2
   have := sumV_le_take h2 (k + 1)
   rw [sumV_take hx] at this ⊢
   exact .pure (by rw [wr_id (by omega)])
  ·rintro _ rfl
   unfold L.zmsl.J1
   exact .pure (by rw [List.take_of_length_le (Nat.le_refl _)])
 obtain ⟨r, h, rfl⟩ := this
 exact h
theorem pieces_le {cap : Int} {f : List Piece} (h : FillOk cap f) {p : Piece} (hp : p ∈ f) : p.Volume ≤ cap := by
 obtain ⟨k, hk⟩ := List.getElem?_of_mem hp
 have h1 := sumV_take hk
 have h2 := sumV_le_take h.vol k
 have h3 := sumV_le_take h.vol (k + 1)
 have := h.sum
 omega
theorem pieceValid {cap : Int} {f : List Piece} (h : FillOk cap f) (hc : 1 ≤ cap ∧ cap ≤ 1000) : L.zqwg f = some true := by
 have hl := h.len; have hs := h.sum
 have : Ok (L.zqwg f) fun r => r = true := by
  unfold L.zqwg
  refine Ok.iteD (fun h => by omega) fun _ => .bind' (.forL (fun _ _ => True) (fun _ => False) trivial ?_ ?_ fun _ h => h.elim)
  ·intro k x _ hx _
   have hm := mg hx
   have h1 := h.vol x hm; have h2 := h.bat x hm; have h3 := pieces_le h hm
   have no : Ok (L.zqwg.J3 false) (Sum.elim (fun _ : Unit => True) fun _ : Bool => False) := by
    unfold L.zqwg.J3; exact .pure trivial
   unfold L.zqwg.B2
   refine Ok.iteN (fun hh => ?_) fun _ => Ok.iteE (fun hh => by omega) fun _ => Ok.iteD (fun h0 => ?_) fun _ => no
   ·simp [L.zojo] at hh; omega
   ·have hkl := (gs hx).1
    have hj : f[k - 1]? = some (f[k - 1]'(by omega)) := gq _
    have hne := h.next (k - 1) _ x hj (by rw [show k - 1 + 1 = k by omega]; exact hx)
    rw [show wr ((k : Int) - 1) = ((k - 1 : Nat) : Int) by rw [wr_id (by omega)]; omega]
    refine .bind' (.eq (ix_nat hj) ?_)
    dsimp only
    rw [show (f[k - 1].Batch == x.Batch) = false by simpa using hne]
    exact no
  ·intro _ _
   simp only [Sum.elim_inl]
   unfold L.zqwg.J1
   refine .bind' (.eq (total_ok hl h.vol (by omega)) (.pure ?_))
   simp; omega
 obtain ⟨r, h, rfl⟩ := this
 exact h
theorem filledOk {s : Segment} {f : List Piece} (hs : SegG s) (hf : FillOk s.Capacity f) : L.zleg s f = some 0 := by
 have hc := hs.cap
 unfold L.zleg L.zleg.J1 L.zryf
 rw [segCheck hs, pieceValid hf hc, total_ok hf.len hf.vol (by have := hf.sum; omega)]
 simp [hf.sum]
theorem indexFunc_api_Product_api_Product {s : List Product} {g : Product → Option Bool} {P : Product → Bool} (hg : ∀ (k : Nat) (x : Product), s[k]? = some x → g x = some (P x)) :
  Ok (L.zmqg s g) fun r => (r = -1 ∧ ∀ (j : Nat) (y : Product), s[j]? = some y → P y = false) ∨ ∃ (k : Nat) (x : Product), r = (k : Int) ∧ s[k]? = some x ∧ P x = true ∧ ∀ (j : Nat) (y : Product), j < k → s[j]? = some y → P y = false := by
 unfold L.zmqg
 refine .bind' (.forL (fun k _ => ∀ (j : Nat) (y : Product), j < k → s[j]? = some y → P y = false) (fun r => ∃ (k : Nat) (x : Product), r = (k : Int) ∧ s[k]? = some x ∧ P x = true ∧ ∀ (j : Nat) (y : Product), j < k → s[j]? = some y → P y = false) (fun j y h => absurd h (Nat.not_lt_zero _)) ?_ ?_ ?_)
 ·intro k x _ hx hi
  unfold L.zmqg.B2
  refine .bind' (.eq (hg k x hx) (Ok.iteB (fun hp => .pure ⟨k, x, rfl, hx, hp, hi⟩) fun hp => .pure fun j y hj hy => ?_))
  by_cases h : j < k
  ·exact hi j y h hy
  ·have : j = k := by omega
   subst this
   rw [hx] at hy; simp at hy; subst hy; exact hp
 ·intro _ hi
  simp only [Sum.elim_inl]
  unfold L.zmqg.J1
  exact .pure (.inl ⟨rfl, fun j y hy => hi j y (gs hy).1 hy⟩)
 ·intro b hb
  exact .pure (.inr hb)
theorem productsCheck {l : List Product} (h : ProdsOk l) : L.zwas l = some 0 := by
 have hl := h.len
 have : Ok (L.zwas l) fun r => r = 0 := by
  unfold L.zwas
  refine Ok.iteD (fun h => by omega) fun _ => .bind' (.forL (fun _ _ => True) (fun _ => False) trivial ?_ ?_ fun _ h => h.elim)
  ·intro k x _ hx _
   have hk := (gs hx).1
   have hp := h.all k x hx
   have d1 := hp.density; have d2 := hp.expansion; have d3 := hp.compress; have d4 := hp.friction
   unfold L.zwas.B4
   refine .bind (Q := fun r => r = true) ?_ ?_
   ·unfold L.zvqj
    refine .bind' (.forI (fun _ _ => True) (fun _ => False) trivial ?_ ?_ fun _ h => h.elim)
    ·intro i _ hi _
     have no : Ok (L.zvqj.J3 false) (Sum.elim (fun _ : Unit => True) fun _ : Bool => False) := by
      unfold L.zvqj.J3; exact .pure trivial
     have go : ∀ (a : Int) (b : product_span), ([⟨400, 1200⟩, ⟨0, 2000⟩, ⟨0, 5000⟩, ⟨1, 2000⟩] : List product_span)[i]? = some b → (L.zeyl x).l[i]? = some a → b.least ≤ a ∧ a ≤ b.most → Ok (L.zvqj.B2 x i ()) (Sum.elim (fun _ : Unit => True) fun _ : Bool => False) := by
      intro a b h1 h2 h3
      unfold L.zvqj.B2
      refine .bind' (.eq (ix_nat h1) (.bind' (.eq (ix_nat h2) (Ok.iteD (fun h => by dsimp only at h; omega) fun _ => ?_))))
      dsimp only
      rw [show decide (a > b.most) = false by simp; omega]
      exact no
     match i, hi with
     | 0, _ => exact go x.Density ⟨400, 1200⟩ rfl rfl (by dsimp only; omega)
     | 1, _ => exact go x.Expansion ⟨0, 2000⟩ rfl rfl (by dsimp only; omega)
     | 2, _ => exact go x.Compress ⟨0, 5000⟩ rfl rfl (by dsimp only; omega)
     | 3, _ => exact go x.Friction ⟨1, 2000⟩ rfl rfl (by dsimp only; omega)
     | i + 4, hi => omega
    ·intro _ _
     simp only [Sum.elim_inl]
     unfold L.zvqj.J1
     rw [hp.name, nameOk112 (by omega)]
     exact .bind' (.pure (.pure rfl))
   ·rintro _ rfl
    exact Ok.iteN (fun h => by cases h) fun _ => .pure trivial
  ·intro _ _
   simp only [Sum.elim_inl]
   unfold L.zwas.J1
   refine .bind' (.forL (fun _ _ => True) (fun _ => False) trivial ?_ ?_ fun _ h => h.elim)
   ·intro k x _ hx _
    have hk := (gs hx).1
    have hp := h.all k x hx
    unfold L.zwas.B3
    refine .bind (Q := fun r => r = (k : Int)) ?_ ?_
    ·unfold L.zwbj
     refine .bind (Q := fun r => r = (k : Int)) ((indexFunc_api_Product_api_Product (P := fun y => L.zlbl y x.Name) fun _ _ _ => rfl).mono ?_) fun r hr => .pure hr
     rintro r (⟨rfl, hh⟩ | ⟨j, y, rfl, hj, he, hlt⟩)
     ·have := hh k x hx
      simp only [L.zlbl] at this
      rw [sEq_refl] at this; cases this
     ·have hjl := (gs hj).1
      simp only [L.zlbl] at he
      rw [(h.all j y hj).name, hp.name] at he
      have := nm_inj (by omega) (by omega) he
      omega
    ·rintro _ rfl
     exact Ok.iteD (fun h => by omega) fun _ => .pure trivial
   ·intro _ _
    simp only [Sum.elim_inl]
    unfold L.zwas.J2
    exact .pure rfl
 obtain ⟨r, h, rfl⟩ := this
 exact h
def ends : List Piece → Int → List Int
 | [], _ => []
 | p :: l, a => (a + p.Volume) :: ends l (a + p.Volume)
theorem ends_len : ∀ (l : List Piece) (a : Int), (ends l a).length = l.length
 | [], _ => rfl
 | p :: l, a => by simp [ends, ends_len l]
theorem ends_get : ∀ (l : List Piece) (a : Int) (k : Nat), k < l.length → (ends l a)[k]? = some (a + sumV (l.take (k + 1)))
 | [], _, k, h => by simp at h
 | p :: l, a, 0, h => by simp [ends, sumV]
 | p :: l, a, k + 1, h => by
  simp only [ends, List.getElem?_cons_succ, List.take_succ_cons, sumV]
  rw [ends_get l _ k (by simpa using h)]
  congr 1; omega
theorem ends_mem {l : List Piece} {x : Int} : x ∈ ends l 0 ↔ ∃ k, k < l.length ∧ x = sumV (l.take (k + 1)) := by
 constructor
 ·intro h
  obtain ⟨k, hk⟩ := List.getElem?_of_mem h
  have hl := (gs hk).1
  rw [ends_len] at hl
  rw [ends_get l 0 k hl] at hk
  exact ⟨k, hl, by simp at hk; omega⟩
 ·rintro ⟨k, hk, rfl⟩
  have := ends_get l 0 k hk
  rw [Int.zero_add] at this
  exact mg this
def brk (s : Segment) (f : List Piece) : List Int := Go.Lib.compact (isort (s.Points.map (·.At) ++ ends f 0))
theorem brk_asc (s : Segment) (f : List Piece) : brk s f = asc (s.Points.map (·.At) ++ ends f 0) := by unfold brk asc; rw [← sorted_eq]; rfl
theorem brk_mem {s : Segment} {f : List Piece} {x : Int} : x ∈ brk s f ↔ (∃ p, p ∈ s.Points ∧ p.At = x) ∨ ∃ k, k < f.length ∧ x = sumV (f.take (k + 1)) := by
 rw [brk_asc, asc_mem, List.mem_append, ends_mem, List.mem_map]
theorem brk_up (s : Segment) (f : List Piece) : (brk s f).Pairwise (· < ·) := by rw [brk_asc]; exact asc_up _
theorem isort_len (l : List Int) : (isort l).length = l.length := (isort_perm l).length_eq
theorem brk_len (s : Segment) (f : List Piece) : (brk s f).length ≤ s.Points.length + f.length := by
 unfold brk
 refine Nat.le_trans (compact_len _) ?_
 rw [isort_len]; simp [ends_len]
theorem breaks_ok {s : Segment} {f : List Piece} (h1 : 1 ≤ s.Points.length ∧ s.Points.length ≤ 100) (h2 : f.length ≤ 12) (h3 : ∀ p, p ∈ f → 1 ≤ p.Volume) (h4 : sumV f ≤ 1000000) : L.zksz s f = some (brk s f) := by
 have : Ok (L.zksz s f) fun r => r = brk s f := by
  unfold L.zksz
  refine .bind (Q := fun st => st = s.Points.map (·.At)) (.forS (fun k st => st = (s.Points.take k).map (·.At)) (by simp) ?_ fun st h => by rw [h, List.take_of_length_le (Nat.le_refl _)]) ?_
  ·rintro k x _ hx rfl
   unfold L.zksz.B4
   have hk := (gs hx).1
   refine .bind' (.app (by simp; omega) (.pure ?_))
   rw [List.take_add_one, hx]; simp
  rintro _ rfl
  unfold L.zksz.J1
  refine .bind (Q := fun st : List Int × Int => st.1 = s.Points.map (·.At) ++ ends f 0) (.forS (fun k (st : List Int × Int) => st.1 = s.Points.map (·.At) ++ (ends f 0).take k ∧ st.2 = sumV (f.take k)) (by simp [sumV]) ?_ fun st h => by rw [h.1, List.take_of_length_le (by rw [ends_len]; exact Nat.le_refl _)]) ?_
  ·rintro k x ⟨_, _⟩ hx ⟨rfl, rfl⟩
   have hk := (gs hx).1
   have hs := sumV_le_take h3 (k + 1)
   have e := sumV_take hx
   have hw : wr (sumV (f.take k) + x.Volume) = sumV (f.take (k + 1)) := by rw [← e, wr_id (by omega)]
   have hg := ends_get f 0 k hk
   rw [Int.zero_add] at hg
   unfold L.zksz.B3
   dsimp only
   rw [hw]
   refine .bind' (.app (by simp [ends_len]; omega) (.pure ⟨?_, rfl⟩))
   dsimp only
   rw [List.take_add_one (l := ends f 0), hg]; simp
  rintro ⟨_, c⟩ rfl
  unfold L.zksz.J2 L.zfby L.zapf
  dsimp only
  have hne : s.Points.map (·.At) ++ ends f 0 ≠ [] := by
   intro h
   have := congrArg List.length h
   rw [List.length_append, List.length_map, List.length_nil] at this; omega
  have hne2 : isort (s.Points.map (·.At) ++ ends f 0) ≠ [] := by
   intro h
   have := congrArg List.length h
   rw [isort_len, List.length_append, List.length_map, List.length_nil] at this; omega
  rw [if_neg hne]
  refine .bind' (.pure ?_)
  rw [if_neg hne2]
  exact .bind' (.pure (.pure rfl))
 obtain ⟨r, h, rfl⟩ := this
 exact h
def Asc (pts : List Point) : Prop := ∀ (i j : Nat) (p q : Point), i < j → pts[i]? = some p → pts[j]? = some q → p.At < q.At
theorem PointsOk.asc {cap : Int} {l : List Point} (h : PointsOk cap l) : Asc l := by
 intro i j p q hij hp hq
 induction j generalizing q with
 | zero => omega
 | succ j ih =>
  have hj := (gs hq).1
  have hr : l[j]? = some (l[j]'(by omega)) := gq _
  have h1 := h.up j _ q hr hq
  by_cases he : i = j
  ·subst he; rw [hp] at hr; cases hr; exact h1
  ·have := ih (l[j]'(by omega)) (by omega) hr; omega
theorem search_ok {n : Nat} {g : Int → Option Bool} {P : Nat → Bool} (hn : n ≤ 1000000) (hg : ∀ k : Nat, k < n → g (k : Int) = some (P k)) (hm : ∀ i j : Nat, i ≤ j → j < n → P i = true → P j = true) :
  Ok (L.zbwo (n : Int) g) fun r => ∃ k : Nat, r = (k : Int) ∧ k ≤ n ∧ (∀ i : Nat, i < k → P i = false) ∧ (k < n → P k = true) := by
 unfold L.zbwo
 refine .bind (Q := fun r : Int => ∃ k : Nat, r = (k : Int) ∧ k ≤ n ∧ (∀ i : Nat, i < k → P i = false) ∧ (k < n → P k = true)) ?_ fun r hr => by unfold L.zbwo.J1; exact .pure hr
 refine .loop (fun st : Int × Int => ∃ i j : Nat, st.1 = (i : Int) ∧ st.2 = (j : Int) ∧ i ≤ j ∧ j ≤ n ∧ (∀ x : Nat, x < i → P x = false) ∧ (j < n → P j = true)) (fun st => (st.2 - st.1).toNat)
  ⟨0, n, rfl, rfl, by omega, by omega, fun x h => absurd h (Nat.not_lt_zero _), fun h => absurd h (Nat.lt_irrefl _)⟩ (by dsimp only; omega) ?_
 rintro ⟨_, _⟩ ⟨i, j, rfl, rfl, hij, hjn, h1, h2⟩
 unfold L.zbwo.B2
 dsimp only
 refine Ok.iteD (fun h => ?_) fun h => .pure ⟨i, rfl, by omega, h1, fun hin => by
  have : i = j := by omega
  subst this; exact h2 hin⟩
 have hmid : wr ((IntKind.u64.wrap (wr ((i : Int) + (j : Int)))).fdiv 2) = (((i + j) / 2 : Nat) : Int) := by
  rw [wr_id (x := (i : Int) + (j : Int)) (by omega)]
  have hu : IntKind.u64.wrap ((i : Int) + (j : Int)) = (i : Int) + (j : Int) := by
   unfold IntKind.wrap
   have : (i : Int) + (j : Int) < 18446744073709551616 := by omega
   simp [IntKind.bits, IntKind.signed]
   omega
  rw [hu, Int.fdiv_eq_ediv_of_nonneg _ (by decide), wr_id (by omega)]
  omega
 rw [hmid]
 have hk : (i + j) / 2 < j := by omega
 refine .bind' (.eq (hg _ (by omega)) (Ok.iteN (fun hp => ?_) fun hp => ?_))
 ·refine .pure ⟨⟨(i + j) / 2 + 1, j, ?_, rfl, by omega, hjn, fun x hx => ?_, h2⟩, ?_⟩
  ·dsimp only; rw [wr_id (by omega)]; omega
  ·cases hpx : P x with
   | false => rfl
   | true => rw [hm x ((i + j) / 2) (by omega) (by omega) hpx] at hp; cases hp
  ·dsimp only; rw [wr_id (by omega)]; omega
 ·refine .pure ⟨⟨i, (i + j) / 2, rfl, rfl, by omega, by omega, h1, fun _ => hp⟩, ?_⟩
  dsimp only; omega
theorem section_ok {s : Segment} (hl : 2 ≤ s.Points.length ∧ s.Points.length ≤ 100) (hup : Asc s.Points) (h0 : ∀ p, s.Points[0]? = some p → p.At = 0) {e : Int} (he : 0 < e) (hlast : ∀ p, s.Points[s.Points.length - 1]? = some p → e ≤ p.At) :
  Ok (L.zwce s e) fun r => ∃ (k : Nat) (a b : Point), r = ((k + 1 : Nat) : Int) ∧ s.Points[k]? = some a ∧ s.Points[k + 1]? = some b ∧ a.At < e ∧ e ≤ b.At := by
 unfold L.zwce
 have hP : ∃ P : Nat → Bool, P = fun k => match s.Points[k]? with | some p => decide (p.At ≥ e) | none => true := ⟨_, rfl⟩
 obtain ⟨P, hP⟩ := hP
 rw [show wr ((s.Points.length : Int) - 1) = ((s.Points.length - 1 : Nat) : Int) by rw [wr_id (by omega)]; omega]
 refine .bind (search_ok (P := P) (by omega) (fun k hk => ?_) (fun i j hij hj hi => ?_)) ?_
 ·have hg : s.Points[k]? = some (s.Points[k]'(by omega)) := gq _
  unfold L.zplf
  rw [ix_nat hg, hP]
  simp only [hg]
  rfl
 ·have hgi : s.Points[i]? = some (s.Points[i]'(by omega)) := gq _
  have hgj : s.Points[j]? = some (s.Points[j]'(by omega)) := gq _
  rw [hP] at hi ⊢
  simp only [hgi, hgj, decide_eq_true_eq] at hi ⊢
  by_cases h : i = j
  ·subst h; exact hi
  ·have := hup i j _ _ (by omega) hgi hgj; omega
 rintro r ⟨k, rfl, hk, h1, h2⟩
 have hk1 : 1 ≤ k := by
  rcases Nat.eq_zero_or_pos k with h | h
  ·subst h
   have := h2 (by omega)
   have hg : s.Points[0]? = some (s.Points[0]'(by omega)) := gq _
   rw [hP] at this
   simp only [hg, decide_eq_true_eq] at this
   have := h0 _ hg
   omega
  ·exact h
 have ha : s.Points[k - 1]? = some (s.Points[k - 1]'(by omega)) := gq _
 have hb : s.Points[k]? = some (s.Points[k]'(by omega)) := gq _
 refine .pure ⟨k - 1, _, _, by omega, ha, by rw [show k - 1 + 1 = k by omega]; exact hb, ?_, ?_⟩
 ·have := h1 (k - 1) (by omega)
  rw [hP] at this
  simp only [ha, decide_eq_false_iff_not] at this
  omega
 ·by_cases hkl : k < s.Points.length - 1
  ·have := h2 hkl
   rw [hP] at this
   simp only [hb, decide_eq_true_eq] at this
   omega
  ·have : k = s.Points.length - 1 := by omega
   subst this
   exact hlast _ hb
theorem up_get {l : List Int} (h : l.Pairwise (· < ·)) {i j : Nat} {a b : Int} (hij : i < j) (ha : l[i]? = some a) (hb : l[j]? = some b) : a < b := by
 obtain ⟨h1, rfl⟩ := gs ha
 obtain ⟨h2, rfl⟩ := gs hb
 exact List.pairwise_iff_getElem.1 h i j h1 h2 hij
theorem up_first {l : List Int} (h : l.Pairwise (· < ·)) {m : Int} (hm : m ∈ l) (ha : ∀ x, x ∈ l → m ≤ x) : l[0]? = some m := by
 obtain ⟨k, hk⟩ := List.getElem?_of_mem hm
 have hl := (gs hk).1
 by_cases h0 : k = 0
 ·subst h0; exact hk
 ·have hg : l[0]? = some (l[0]'(by omega)) := gq _
  have := up_get h (i := 0) (by omega) hg hk
  have := ha _ (mg hg)
  omega
theorem up_last {l : List Int} (h : l.Pairwise (· < ·)) {m : Int} (hm : m ∈ l) (ha : ∀ x, x ∈ l → x ≤ m) : l[l.length - 1]? = some m := by
 obtain ⟨k, hk⟩ := List.getElem?_of_mem hm
 have hl := (gs hk).1
 by_cases h0 : k = l.length - 1
 ·subst h0; exact hk
 ·have hg : l[l.length - 1]? = some (l[l.length - 1]'(by omega)) := gq _
  have := up_get h (i := k) (j := l.length - 1) (by omega) hk hg
  have := ha _ (mg hg)
  omega
theorem PointsOk.at_range {cap : Int} {l : List Point} (h : PointsOk cap l) {i : Nat} {p : Point} (hp : l[i]? = some p) : 0 ≤ p.At ∧ p.At ≤ cap := by
 have hi := (gs hp).1
 have h2 := h.len
 have g0 : l[0]? = some (l[0]'(by omega)) := gq _
 have g1 : l[l.length - 1]? = some (l[l.length - 1]'(by omega)) := gq _
 have e0 := h.first _ g0
 have e1 := h.last _ g1
 constructor
 ·by_cases hz : i = 0
  ·subst hz; rw [g0] at hp; cases hp; omega
  ·have := h.asc 0 i _ _ (by omega) g0 hp; omega
 ·by_cases hz : i = l.length - 1
  ·subst hz; rw [g1] at hp; cases hp; omega
  ·have := h.asc i (l.length - 1) _ _ (by omega) hp g1; omega
theorem brk_range {s : Segment} {f : List Piece} (hp : PointsOk s.Capacity s.Points) (hf : FillOk s.Capacity f) {x : Int} (h : x ∈ brk s f) : 0 ≤ x ∧ x ≤ s.Capacity := by
 rcases brk_mem.1 h with ⟨p, hm, rfl⟩ | ⟨k, hk, rfl⟩
 ·obtain ⟨i, hi⟩ := List.getElem?_of_mem hm
  exact hp.at_range hi
 ·have := sumV_le_take hf.vol (k + 1)
  have := hf.sum; omega
theorem brk_first {s : Segment} {f : List Piece} (hp : PointsOk s.Capacity s.Points) (hf : FillOk s.Capacity f) : (brk s f)[0]? = some 0 := by
 have h2 := hp.len
 have g0 : s.Points[0]? = some (s.Points[0]'(by omega)) := gq _
 exact up_first (brk_up s f) (brk_mem.2 (.inl ⟨_, mg g0, hp.first _ g0⟩)) fun x hx => (brk_range hp hf hx).1
theorem brk_last {s : Segment} {f : List Piece} (hp : PointsOk s.Capacity s.Points) (hf : FillOk s.Capacity f) : (brk s f)[(brk s f).length - 1]? = some s.Capacity := by
 have h2 := hp.len
 have g0 : s.Points[s.Points.length - 1]? = some (s.Points[s.Points.length - 1]'(by omega)) := gq _
 exact up_last (brk_up s f) (brk_mem.2 (.inl ⟨_, mg g0, hp.last _ g0⟩)) fun x hx => (brk_range hp hf hx).2
theorem brk_two {s : Segment} {f : List Piece} (hp : PointsOk s.Capacity s.Points) (hc : 1 ≤ s.Capacity) (hf : FillOk s.Capacity f) : 2 ≤ (brk s f).length := by
 have h1 := brk_first hp hf
 have h2 := brk_last hp hf
 have := (gs h1).1
 by_cases h : (brk s f).length = 1
 ·rw [h] at h2; rw [h1] at h2; simp at h2; omega
 ·omega
theorem mul_bd {a b A B : Int} (ha : -A ≤ a ∧ a ≤ A) (hb : -B ≤ b ∧ b ≤ B) : -(A * B) ≤ a * b ∧ a * b ≤ A * B := by
 have h1 : a.natAbs ≤ A.toNat := by omega
 have h2 : b.natAbs ≤ B.toNat := by omega
 have h3 := Nat.mul_le_mul h1 h2
 rw [← Int.natAbs_mul] at h3
 have e : ((A.toNat * B.toNat : Nat) : Int) = A * B := by
  rw [Int.natCast_mul, Int.toNat_of_nonneg (by omega), Int.toNat_of_nonneg (by omega)]
 omega
def frA (s : Segment) (q : Int) (x : gradient_part) : Int := s.Resist * x.liquid.Friction * q * q * x.length
def frB (s : Segment) : Int := 1000 * s.Capacity
def liA (x : gradient_part) : Int := x.liquid.Density * 9807 * x.height * x.length
def liB (x : gradient_part) : Int := 1000 * x.width
def lo (s : Segment) (q : Int) (x : gradient_part) : Int := dn (frA s q x) (frB s) + dn (liA x) (liB x)
def hi (s : Segment) (q : Int) (x : gradient_part) : Int := up (frA s q x) (frB s) + up (liA x) (liB x)
structure PartOk (s : Segment) (x : gradient_part) : Prop where
 length : 1 ≤ x.length ∧ x.length ≤ 1000
 width : 1 ≤ x.width ∧ x.width ≤ 1000
 height : -5500 ≤ x.height ∧ x.height ≤ 5500
 density : 400 ≤ x.liquid.Density ∧ x.liquid.Density ≤ 1200
 friction : 1 ≤ x.liquid.Friction ∧ x.liquid.Friction ≤ 2000
section
variable {s : Segment} {q : Int} {x : gradient_part}
theorem frA_bd (hr : 0 ≤ s.Resist ∧ s.Resist ≤ 1000) (hq : 1 ≤ q ∧ q ≤ 1000) (hx : PartOk s x) :
  (0 ≤ s.Resist * x.liquid.Friction ∧ s.Resist * x.liquid.Friction ≤ 2000000) ∧ (0 ≤ s.Resist * x.liquid.Friction * q ∧ s.Resist * x.liquid.Friction * q ≤ 2000000000) ∧
  (0 ≤ s.Resist * x.liquid.Friction * q * q ∧ s.Resist * x.liquid.Friction * q * q ≤ 2000000000000) ∧ 0 ≤ frA s q x ∧ frA s q x ≤ 2000000000000000 := by
 have h1 := hx.friction; have h2 := hx.length
 have a1 := mul_bd (a := s.Resist) (b := x.liquid.Friction) (A := 1000) (B := 2000) (by omega) (by omega)
 have p1 := Int.mul_nonneg hr.1 (show 0 ≤ x.liquid.Friction by omega)
 have a2 := mul_bd (a := s.Resist * x.liquid.Friction) (b := q) (A := 2000000) (B := 1000) (by omega) (by omega)
 have p2 := Int.mul_nonneg p1 (show 0 ≤ q by omega)
 have a3 := mul_bd (a := s.Resist * x.liquid.Friction * q) (b := q) (A := 2000000000) (B := 1000) (by omega) (by omega)
 have p3 := Int.mul_nonneg p2 (show 0 ≤ q by omega)
 have a4 := mul_bd (a := s.Resist * x.liquid.Friction * q * q) (b := x.length) (A := 2000000000000) (B := 1000) (by omega) (by omega)
 have p4 := Int.mul_nonneg p3 (show 0 ≤ x.length by omega)
 unfold frA
 refine ⟨⟨p1, by omega⟩, ⟨p2, by omega⟩, ⟨p3, by omega⟩, p4, by omega⟩
theorem liA_bd (hx : PartOk s x) :
  (0 ≤ x.liquid.Density * 9807 ∧ x.liquid.Density * 9807 ≤ 11768400) ∧ (-64726200000 ≤ x.liquid.Density * 9807 * x.height ∧ x.liquid.Density * 9807 * x.height ≤ 64726200000) ∧
  -64726200000000 ≤ liA x ∧ liA x ≤ 64726200000000 := by
 have h1 := hx.density; have h2 := hx.length; have h3 := hx.height
 have a2 := mul_bd (a := x.liquid.Density * 9807) (b := x.height) (A := 11768400) (B := 5500) (by omega) (by omega)
 have a3 := mul_bd (a := x.liquid.Density * 9807 * x.height) (b := x.length) (A := 64726200000) (B := 1000) (by omega) (by omega)
 unfold liA
 refine ⟨⟨by omega, by omega⟩, ⟨by omega, by omega⟩, by omega, by omega⟩
theorem lohi (hc : 1 ≤ s.Capacity) (hx : PartOk s x) : lo s q x ≤ hi s q x ∧ hi s q x ≤ lo s q x + 2 := by
 have h1 := dn_up (a := frA s q x) (b := frB s) (by unfold frB; omega)
 have h2 := dn_up (a := liA x) (b := liB x) (by have := hx.width; unfold liB; omega)
 unfold lo hi; omega
theorem lo_bd (hc : 1 ≤ s.Capacity) (hr : 0 ≤ s.Resist ∧ s.Resist ≤ 1000) (hq : 1 ≤ q ∧ q ≤ 1000) (hx : PartOk s x) :
  (-3000000000000000 ≤ lo s q x ∧ lo s q x ≤ 3000000000000000) ∧ (-3000000000000000 ≤ hi s q x ∧ hi s q x ≤ 3000000000000000) := by
 have h1 := frA_bd hr hq hx
 have h2 := liA_bd hx
 have d1 := dn_small (a := frA s q x) (b := frB s) (by unfold frB; omega)
 have d2 := dn_small (a := liA x) (b := liB x) (by have := hx.width; unfold liB; omega)
 have u1 := up_small (a := frA s q x) (b := frB s) (by unfold frB; omega)
 have u2 := up_small (a := liA x) (b := liB x) (by have := hx.width; unfold liB; omega)
 unfold lo hi; omega
end
def neg (x : gradient_part) : gradient_part := ⟨x.length, x.width, -x.height, x.liquid⟩
def flat (x : gradient_part) : gradient_part := ⟨x.length, x.width, 0, x.liquid⟩
theorem negp_ok {s : Segment} {x : gradient_part} (h : PartOk s x) : PartOk s (neg x) := ⟨h.length, h.width, by have := h.height; simp only [neg]; omega, h.density, h.friction⟩
def sumBy {α : Type} (g : α → Int) : List α → Int
 | [] => 0
 | x :: l => g x + sumBy g l
theorem sumBy_append {α : Type} (g : α → Int) : ∀ l m : List α, sumBy g (l ++ m) = sumBy g l + sumBy g m
 | [], m => by simp [sumBy]
 | x :: l, m => by simp only [List.cons_append, sumBy, sumBy_append g l m]; omega
theorem sumBy_take {α : Type} (g : α → Int) {l : List α} {k : Nat} {x : α} (h : l[k]? = some x) : sumBy g (l.take (k + 1)) = sumBy g (l.take k) + g x := by
 rw [List.take_add_one, h, sumBy_append]; simp [sumBy]
theorem sumBy_le {α : Type} {g h : α → Int} : ∀ {l : List α}, (∀ x, x ∈ l → g x ≤ h x) → sumBy g l ≤ sumBy h l
 | [], _ => by simp [sumBy]
 | x :: l, hh => by
  have := hh x (by simp)
  have := sumBy_le (l := l) fun y hy => hh y (by simp [hy])
  simp only [sumBy]; omega
theorem sumBy_bd {α : Type} {g : α → Int} {B : Int} : ∀ {l : List α}, (∀ x, x ∈ l → -B ≤ g x ∧ g x ≤ B) → -(B * l.length) ≤ sumBy g l ∧ sumBy g l ≤ B * l.length
 | [], _ => by simp [sumBy]
 | x :: l, hh => by
  have h1 := hh x (by simp)
  have h2 := sumBy_bd (l := l) fun y hy => hh y (by simp [hy])
  have e : B * ((x :: l).length : Int) = B * l.length + B := by rw [List.length_cons, Int.natCast_add, Int.mul_add]; simp
  rw [e]
  simp only [sumBy]; omega
def lvl (s : Segment) (q : Int) (b : Bounds) (places : List Int) (way : List gradient_part) (i : Nat) : Level :=
 ⟨places.getD i 0, ⟨b.Low - sumBy (hi s q) (way.take i), b.High - sumBy (lo s q) (way.take i)⟩⟩
def lvls (s : Segment) (q : Int) (b : Bounds) (places : List Int) (way : List gradient_part) : List Level := (List.range places.length).map (lvl s q b places way)
theorem lvls_len (s : Segment) (q : Int) (b : Bounds) (places : List Int) (way : List gradient_part) : (lvls s q b places way).length = places.length := by simp [lvls]
theorem lvls_get (s : Segment) (q : Int) (b : Bounds) {places : List Int} (way : List gradient_part) {i : Nat} (h : i < places.length) : (lvls s q b places way)[i]? = some (lvl s q b places way i) := by
 unfold lvls; rw [List.getElem?_map, List.getElem?_range h]; rfl
end Go.Proofs.YtehbcbedipkifaaGreatDoor
