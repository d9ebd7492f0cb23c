/- Plain proofs. No condition. -/
import Derived.Test.YtaoclefkknloiaaGreatZvB2
import Derived.Test.YtaoclefkknloiaaGreatZvD
set_option maxRecDepth 100000
namespace Go.Aw
set_option linter.unusedVariables false
set_option linter.defProp false
set_option linter.unusedSimpArgs false
def Ok {α : Type} (o : Option α) (P : α → Prop) : Prop := ∃ r, o = some r ∧ P r
section
variable {α β S B : Type}
theorem Ok.pure {x : α} {P : α → Prop} (h : P x) : Ok (some x) P := ⟨x, rfl, h⟩
theorem Z5 {o : Option α} {v : α} (h : Ok o fun r => r = v) : o = some v := by obtain ⟨r, h, rfl⟩ := h; exact h
theorem Ok.mono {o : Option α} {P Q : α → Prop} (h : Ok o P) (k : ∀ x, P x → Q x) : Ok o Q := let ⟨r, h1, h2⟩ := h; ⟨r, h1, k r h2⟩
theorem Ok.bind {o : Option α} {f : α → Option β} {P : β → Prop} {Q : α → Prop} (h : Ok o Q) (k : ∀ x, Q x → Ok (f x) P) : Ok (o.bind f) P := by
 obtain ⟨r, rfl, G⟩ := h; exact k r G
theorem Ok.bind' {o : Option α} {f : α → Option β} {P : β → Prop} (h : Ok o fun x => Ok (f x) P) : Ok (o.bind f) P := h.bind fun _ k => k
theorem Ok.eq {o : Option α} {P : α → Prop} {x : α} (h : o = some x) (k : P x) : Ok o P := ⟨x, h, k⟩
theorem sQ {c : Prop} [Decidable c] {a b : Option α} {P : α → Prop} (h1 : c → Ok a P) (h2 : ¬ c → Ok b P) : Ok (if c then a else b) P := by
 split <;> simp_all
theorem Ok.map {o : Option α} {f : α → β} {P : β → Prop} (h : Ok o fun x => P (f x)) : Ok (o.map f) P := by
 obtain ⟨r, rfl, G⟩ := h; exact ⟨_, rfl, G⟩
theorem Ok.chk {p : Prop} [Decidable p] {P : Unit → Prop} (h : p) (k : P ()) : Ok (chk p) P := ⟨(), sN h, k⟩
theorem Ok.ix {l : List α} {i : Int} {P : Nat × α → Prop} (k : Nat) (hi : i = (k : Int)) (G : k < l.length) (h : P (k, l[k])) : Ok (ix l i) P := by
 subst hi; exact ⟨_, A1 (gq G), h⟩
theorem Ok.ix' {l : List α} {i : Int} {P : Nat × α → Prop} (M : 0 ≤ i) (O : i < (l.length : Int)) (h : ∀ (k : Nat) (x : α), i = (k : Int) → l[k]? = some x → P (k, x)) : Ok (Aw.ix l i) P := by
 obtain ⟨k, rfl⟩ : ∃ k : Nat, i = (k : Int) := ⟨i.toNat, by omega⟩
 have G : k < l.length := by omega
 exact ⟨_, A1 (gq G), h k _ rfl (gq G)⟩
theorem Ok.app {l m : List α} {P : List α → Prop} (hl : l.length + m.length ≤ 68719476736) (h : P (l ++ m)) : Ok (Cp l m) P := ⟨_, F9 hl, h⟩
theorem Ok.mk {n : Int} {z : α} {P : List α → Prop} (m : Nat) (G : n = (m : Int)) (hl : m ≤ 68719476736) (h : P (List.replicate m z)) : Ok (X1 n z) P := by
 subst G; exact ⟨_, sE z hl, h⟩
theorem Ok.cat {a b : ByteArray} {P : ByteArray → Prop} (hl : a.size + b.size ≤ 68719476736) (h : P (a ++ b)) : Ok (jY a b) P := ⟨_, if_pos hl, h⟩
theorem Ok.quo {a b : Int} {P : Int → Prop} (hb : b ≠ 0) (h : P (wr (a.tdiv b))) : Ok (jT a b) P := ⟨_, if_pos hb, h⟩
theorem Ok.rem {a b : Int} {P : Int → Prop} (hb : b ≠ 0) (h : P (a.tmod b)) : Ok (jS a b) P := ⟨_, if_pos hb, h⟩
theorem Ok.sub {l : List α} {a b : Int} {P : List α → Prop} (x y : Nat) (G : a = (x : Int)) (hb : b = (y : Int)) (M : x ≤ y) (hl : y ≤ l.length) (h : P ((l.drop x).take (y - x))) : Ok (Tu l a b) P := by
 subst G; subst hb
 exact ⟨_, if_pos ⟨by omega, by omega, by omega⟩, by simpa using h⟩
theorem M9 {f : Nat → α → S → Option S} (I : Nat → S → Prop) (l : List α) : ∀ (m : List α) (k : Nat), l.drop k = m → ∀ st, I k st →
  (∀ k x st, l[k]? = some x → I k st → Ok (f k x st) (I (k + 1))) → k ≤ l.length → Ok (forS f k m st) (I l.length)
 | [], k, hm, st, hi, _, hk => by
  have : l.length - k = 0 := by simpa using congrArg List.length hm
  have : k = l.length := by omega
  subst this; exact .pure hi
 | x :: m, k, hm, st, hi, hf, hk => by
  have M : l[k]? = some x := by have := congrArg (fun z => z[0]?) hm; simpa using this
  have G : l.drop (k + 1) = m := by have := congrArg (List.drop 1) hm; simpa [Nat.add_comm] using this
  obtain ⟨Y, O, W⟩ := hf k x st M hi
  simp only [forS, O]
  exact M9 I l m (k + 1) G Y W hf (by have := (gs M).1; omega)
theorem Ok.forS {f : Nat → α → S → Option S} {l : List α} {st : S} {P : S → Prop} (I : Nat → S → Prop) (G : I 0 st)
  (hf : ∀ k x st, l[k]? = some x → I k st → Ok (f k x st) (I (k + 1))) (M : ∀ st, I l.length st → P st) : Ok (forS f 0 l st) P :=
 (M9 I l l 0 rfl st G hf (Nat.zero_le _)).mono M
theorem Na {f : Nat → α → S → Option (S ⊕ B)} (I : Nat → S → Prop) (R : B → Prop) (l : List α) : ∀ (m : List α) (k : Nat), l.drop k = m → ∀ st, I k st →
  (∀ k x st, l[k]? = some x → I k st → Ok (f k x st) (Sum.elim (fun s => I (k + 1) s) R)) → k ≤ l.length → Ok (forL f k m st) (Sum.elim (fun s => I l.length s) R)
 | [], k, hm, st, hi, _, hk => by
  have : l.length - k = 0 := by simpa using congrArg List.length hm
  have : k = l.length := by omega
  subst this; exact .pure hi
 | x :: m, k, hm, st, hi, hf, hk => by
  have Y : l[k]? = some x := by have := congrArg (fun z => z[0]?) hm; simpa using this
  have G : l.drop (k + 1) = m := by have := congrArg (List.drop 1) hm; simpa [Nat.add_comm] using this
  obtain ⟨M, O, W⟩ := hf k x st Y hi
  cases M with
  | inl M =>
   simp only [forL, O]
   exact Na I R l m (k + 1) G M W hf (by have := (gs Y).1; omega)
  | inr b => simp only [forL, O]; exact .pure W
theorem Ok.forL {f : Nat → α → S → Option (S ⊕ B)} {l : List α} {st : S} {P : S ⊕ B → Prop} (I : Nat → S → Prop) (R : B → Prop) (G : I 0 st)
  (hf : ∀ k x st, l[k]? = some x → I k st → Ok (f k x st) (Sum.elim (fun s => I (k + 1) s) R)) (M : ∀ st, I l.length st → P (.inl st)) (O : ∀ b, R b → P (.inr b)) : Ok (forL f 0 l st) P :=
 (Na I R l l 0 rfl st G hf (Nat.zero_le _)).mono fun x h => by cases x with | inl s => exact M s h | inr b => exact O b h
theorem Nb {f : Nat → S → Option S} (I : Nat → S → Prop) (n : Nat) : ∀ (m k : Nat), k + m = n → ∀ st, I k st →
  (∀ k st, k < n → I k st → Ok (f k st) (I (k + 1))) → Ok (forJ f k m st) (I n)
 | 0, k, hm, st, hi, _ => by have : k = n := (by omega); subst this; exact .pure hi
 | m + 1, k, hm, st, hi, hf => by
  obtain ⟨O, G, M⟩ := hf k st (by omega) hi
  simp only [forJ, G]
  exact Nb I n m (k + 1) (by omega) O M hf
theorem Ok.forJ {f : Nat → S → Option S} {n : Nat} {st : S} {P : S → Prop} (I : Nat → S → Prop) (G : I 0 st)
  (hf : ∀ k st, k < n → I k st → Ok (f k st) (I (k + 1))) (M : ∀ st, I n st → P st) : Ok (forJ f 0 n st) P :=
 (Nb I n n 0 (by omega) st G hf).mono M
theorem Nc {f : Nat → S → Option (S ⊕ B)} (I : Nat → S → Prop) (R : B → Prop) (n : Nat) : ∀ (m k : Nat), k + m = n → ∀ st, I k st →
  (∀ k st, k < n → I k st → Ok (f k st) (Sum.elim (fun s => I (k + 1) s) R)) → Ok (forI f k m st) (Sum.elim (fun s => I n s) R)
 | 0, k, hm, st, hi, _ => by have : k = n := (by omega); subst this; exact .pure hi
 | m + 1, k, hm, st, hi, hf => by
  obtain ⟨G, M, O⟩ := hf k st (by omega) hi
  cases G with
  | inl G =>
   simp only [forI, M]
   exact Nc I R n m (k + 1) (by omega) G O hf
  | inr b => simp only [forI, M]; exact .pure O
theorem Ok.forI {f : Nat → S → Option (S ⊕ B)} {n : Nat} {st : S} {P : S ⊕ B → Prop} (I : Nat → S → Prop) (R : B → Prop) (G : I 0 st)
  (hf : ∀ k st, k < n → I k st → Ok (f k st) (Sum.elim (fun s => I (k + 1) s) R)) (M : ∀ st, I n st → P (.inl st)) (O : ∀ b, R b → P (.inr b)) : Ok (forI f 0 n st) P :=
 (Nc I R n n 0 (by omega) st G hf).mono fun x h => by cases x with | inl s => exact M s h | inr b => exact O b h
theorem M8 {f : S → Option (S ⊕ B)} {P : B → Prop} (I : S → Prop) (μ : S → Nat) (hf : ∀ st, I st → Ok (f st) (Sum.elim (fun s => I s ∧ μ s < μ st) P)) :
  ∀ (n : Nat) (st : S), I st → μ st < n → Ok (C4 f n st) P
 | 0, st, _, h => absurd h (Nat.not_lt_zero _)
 | n + 1, st, hi, h => by
  obtain ⟨r, M, G⟩ := hf st hi
  cases r with
  | inl s =>
   simp only [C4, M]
   exact M8 I μ hf n s G.1 (by have := G.2; omega)
  | inr b => simp only [C4, M]; exact .pure G
theorem Ok.loop {f : S → Option (S ⊕ B)} {P : B → Prop} {st : S} (I : S → Prop) (μ : S → Nat) (G : I st) (M : μ st < 18446744073709551616)
  (hf : ∀ st, I st → Ok (f st) (Sum.elim (fun s => I s ∧ μ s < μ st) P)) : Ok (C4 f Ek st) P :=
 M8 I μ hf _ st G M
end
def Gr : Li → Li → Int
 | w :: ws, x :: xs => w * x + Gr ws xs
 | _, _ => 0
theorem Kk (w : Li) : Gr w [] = 0 := by cases w <;> rfl
theorem Y8 (w : Li) (n : Nat) : Gr w (List.replicate n 0) = 0 := by
 induction n generalizing w with
 | zero => exact Kk w
 | succ n ih => cases w with
  | nil => rfl
  | cons a w => simp [List.replicate_succ, Gr, ih]
theorem Xm {w l : Li} {k : Nat} {a x y : Int} (G : w[k]? = some a) (hl : l[k]? = some x) : Gr w (l.set k y) = Gr w l + a * (y - x) := by
 induction w generalizing l k with
 | nil => simp at G
 | cons b w ih =>
  cases l with
  | nil => simp at hl
  | cons z l =>
   cases k with
   | zero =>
    simp at G hl
    subst G; subst hl
    simp only [List.set_cons_zero, Gr, Int.mul_sub]; omega
   | succ k =>
    simp at G hl
    simp only [List.set_cons_succ, Gr, ih G hl]; omega
theorem dH (w l : Li) : Gr w (l.map fun x => -x) = -Gr w l := by
 induction w generalizing l with
 | nil => rfl
 | cons b w ih =>
  cases l with
  | nil => rfl
  | cons z l => simp only [List.map_cons, Gr, ih, Int.mul_neg]; omega
theorem Gc {w l : Li} {k : Nat} {a x : Int} (G : w[k]? = some a) (hl : l[k]? = some x) : Gr w (l.take (k + 1)) = Gr w (l.take k) + a * x := by
 induction w generalizing l k with
 | nil => simp at G
 | cons b w ih =>
  cases l with
  | nil => simp at hl
  | cons z l =>
   cases k with
   | zero => simp at G hl; subst G; subst hl; simp [Gr, Kk]
   | succ k =>
    simp at G hl
    simp only [List.take_succ_cons, Gr, ih G hl]; omega
theorem Fp {α : Type} {l : List α} {k i : Nat} {x : α} : (l.set k x)[i]? = if k = i ∧ i < l.length then some x else l[i]? := by
 rw [List.getElem?_set]
 by_cases h : k = i
 ·subst h
  by_cases G : k < l.length
  ·simp [G]
  ·simp [G]
 ·simp [h]
inductive Rep (u : List Int) : Nat → Nat → Nat → Prop
 | root {k : Nat} : u[k]? = some (k : Int) → Rep u 0 k k
 | step {k j m r : Nat} : u[k]? = some (j : Int) → k ≠ j → Rep u m j r → Rep u (m + 1) k r
structure Uni (n : Nat) (u : List Int) (d : Nat) (ρ : Nat → Nat) : Prop where
 len : u.length = n
 lt : ∀ k, k < n → ρ k < n
 rep : ∀ k, k < n → ∃ m, m ≤ d ∧ Rep u m k (ρ k)
inductive Conn (R : Nat → Nat → Prop) : Nat → Nat → Prop
 | refl (x : Nat) : Conn R x x
 | edge {x y : Nat} : R x y → Conn R x y
 | symm {x y : Nat} : Conn R x y → Conn R y x
 | trans {x y z : Nat} : Conn R x y → Conn R y z → Conn R x z
end Go.Aw
namespace Go.Proofs.YtaoclefkknloiaaGreat
set_option linter.unusedVariables false
set_option linter.defProp false
set_option linter.unusedSimpArgs false
open Go.Aw
abbrev V4 := KS
structure SrcOk (s : V4) : Prop where
 at0 : 0 ≤ s.At
 at1 : s.At ≤ (s.L_.length : Int)
 len : s.L_.length ≤ 2000
theorem A8 {α : Type} {c : Prop} [Decidable c] {a b : Option α} {P : α → Prop} (h1 : c → Ok a P) (h2 : ¬ c → Ok b P) : Ok (if decide c = true then a else b) P := by
 by_cases G : c
 ·rw [if_pos (by simp [G])]; exact h1 G
 ·rw [if_neg (by simp [G])]; exact h2 G
theorem Bo {α : Type} {c : Bool} {a b : Option α} {P : α → Prop} (h1 : c = true → Ok a P) (h2 : c = false → Ok b P) : Ok (if c = true then a else b) P := by
 cases c
 ·rw [if_neg (by simp)]; exact h2 rfl
 ·rw [if_pos rfl]; exact h1 rfl
theorem P8 {α : Type} {c : Bool} {a b : Option α} {P : α → Prop} (h1 : c = false → Ok a P) (h2 : c = true → Ok b P) : Ok (if (!c) = true then a else b) P := by
 cases c
 ·exact h1 rfl
 ·exact h2 rfl
theorem Dc {α : Type} {x y : Int} {a b : Option α} {P : α → Prop} (h1 : x = y → Ok a P) (h2 : x ≠ y → Ok b P) : Ok (if (x == y) = true then a else b) P := by
 by_cases h : x = y
 ·rw [if_pos (by simp [h])]; exact h1 h
 ·rw [if_neg (by simp [h])]; exact h2 h
theorem Ec {α : Type} {x y : Int} {a b : Option α} {P : α → Prop} (h1 : x ≠ y → Ok a P) (h2 : x = y → Ok b P) : Ok (if (x != y) = true then a else b) P := by
 by_cases h : x = y
 ·rw [if_neg (by simp [h])]; exact h2 h
 ·rw [if_pos (by simp [h])]; exact h1 h
theorem kW (x : Int) {n : Int} (h1 : 1 ≤ n) (h2 : n ≤ 9223372036854775807) : Ok (R1 x n) fun r => 0 ≤ r ∧ r < n := by
 unfold R1 R1.J1
 have G := Int.tmod_lt_of_pos x (show 0 < n by omega)
 have M : -n < x.tmod n := by
  have := Int.tmod_lt_of_pos (-x) (show 0 < n by omega)
  rw [Int.neg_tmod] at this; omega
 refine A8 (fun h => by omega) fun _ => .bind' (.rem (by omega) ?_)
 refine A8 (fun h => .pure ?_) (fun h => .pure ?_)
 ·rw [Be (by omega)]; omega
 ·omega
theorem sA (l : Li) : Ok (Ww l) SrcOk := by
 unfold Ww
 refine .bind' (.sub 0 (min l.length 2000) rfl (by omega) (by omega) (by omega) (.pure ?_))
 exact ⟨Int.le_refl _, by simp, by simp; omega⟩
theorem rT {s : V4} (h : SrcOk s) : Ok (Wi s) fun r => SrcOk r.2 := by
 obtain ⟨M, O, G⟩ := h
 unfold Wi
 refine A8 (fun _ => .pure ⟨M, O, G⟩) fun h => ?_
 simp (disch := omega) only [Be]
 refine .bind' (.ix' (by omega) (by omega) fun k x _ _ => .pure ⟨by dsimp only; omega, by dsimp only; omega, G⟩)
theorem E4 {s : V4} (h : SrcOk s) {n : Int} (h1 : 1 ≤ n) (h2 : n ≤ 9223372036854775807) : Ok (C0 s n) fun r => SrcOk r.2 ∧ 0 ≤ r.1 ∧ r.1 < n := by
 unfold C0
 exact .bind (rT h) fun x G => .bind (kW _ h1 h2) fun y M => .pure ⟨G, M⟩
theorem Gf {s : V4} (h : SrcOk s) {lo hi : Int} (h1 : lo ≤ hi) (h2 : -1000000000 ≤ lo) (M : hi ≤ 1000000000) : Ok (G2 s lo hi) fun r => SrcOk r.2 ∧ lo ≤ r.1 ∧ r.1 ≤ hi := by
 unfold G2
 simp (disch := omega) only [Be]
 refine .bind (E4 h (by omega) (by omega)) fun x G => .pure ⟨G.1, ?_⟩
 dsimp only
 rw [Be (by omega)]; omega
theorem C8 {s : V4} (h : SrcOk s) {l : Li} (h1 : 1 ≤ l.length) (h2 : l.length ≤ 1000) : Ok (Dm s l) fun r => SrcOk r.2 ∧ r.1 ∈ l := by
 unfold Dm
 refine .bind (E4 h (by omega) (by omega)) fun x G => .bind' (.ix' G.2.1 G.2.2 fun k y _ M => .pure ⟨G.1, mg M⟩)
def nm (c : UInt8) (k : Nat) : Bt := ⟨#[c, 97 + UInt8.ofNat k]⟩
theorem P2 {c : UInt8} {k : Nat} (M : k < 26) : G4 ⟨#[c]⟩ (k : Int) = some (nm c k) := by
 unfold G4
 have G : ((k : Int).tmod 26) = (k : Int) := by rw [Int.tmod_eq_emod_of_nonneg (by omega)]; omega
 rw [G, Be (by omega)]
 have : k = 0 ∨ k = 1 ∨ k = 2 ∨ k = 3 ∨ k = 4 ∨ k = 5 ∨ k = 6 ∨ k = 7 ∨ k = 8 ∨ k = 9 ∨ k = 10 ∨ k = 11 ∨ k = 12 ∨ k = 13 ∨ k = 14 ∨ k = 15 ∨ k = 16 ∨ k = 17 ∨ k = 18 ∨ k = 19 ∨ k = 20 ∨ k = 21 ∨ k = 22 ∨ k = 23 ∨ k = 24 ∨ k = 25 := by omega
 rcases this with rfl | rfl | rfl | rfl | rfl | rfl | rfl | rfl | rfl | rfl | rfl | rfl | rfl | rfl | rfl | rfl | rfl | rfl | rfl | rfl | rfl | rfl | rfl | rfl | rfl | rfl <;> rfl
structure PointsOk (cap : Int) (l : List Point) : Prop where
 len : 2 ≤ l.length ∧ l.length ≤ 8
 first : ∀ p, l[0]? = some p → p.At = 0
 last : ∀ p, l[l.length - 1]? = some p → p.At = cap
 up : ∀ i p q, l[i]? = some p → l[i + 1]? = some q → p.At < q.At
 height : ∀ p, p ∈ l → -500 ≤ p.Height ∧ p.Height ≤ 5000
 limit : ∀ p, p ∈ l → 0 ≤ p.Limit ∧ p.Limit ≤ 100000000
structure SegOk (nodes k : Nat) (s : Segment) : Prop where
 name : s.Name = nm 103 k
 ends : 0 ≤ s.From ∧ s.From < (nodes : Int) ∧ 0 ≤ s.To ∧ s.To < (nodes : Int) ∧ s.From ≠ s.To
 cap : 1 ≤ s.Capacity ∧ s.Capacity ≤ 1000
 resist : 0 ≤ s.Resist ∧ s.Resist ≤ 1000
 wave : 0 ≤ s.Wave ∧ s.Wave ≤ 100000
 points : PointsOk s.Capacity s.Points
structure PortOk (nodes k : Nat) (p : Port) : Prop where
 name : p.Name = nm 113 k
 node : 0 ≤ p.Node ∧ p.Node < (nodes : Int)
 pressure : 0 ≤ p.Pressure ∧ p.Pressure ≤ 100000000
structure StOk (nodes k : Nat) (p : Station) : Prop where
 name : p.Name = nm 115 k
 node : 0 ≤ p.Node ∧ p.Node < (nodes : Int)
 head : 0 ≤ p.Head ∧ p.Head ≤ 2000000
 fall : 0 ≤ p.Fall ∧ p.Fall ≤ 100000
 suction : 0 ≤ p.Suction ∧ p.Suction ≤ 400000
structure NetOk (n : Network) : Prop where
 nodes : 2 ≤ n.Nodes.length ∧ n.Nodes.length ≤ 6
 names : ∀ k x, n.Nodes[k]? = some x → x = nm 110 k
 segs1 : n.Nodes.length - 1 ≤ n.Segments.length ∧ n.Segments.length ≤ 8
 segs : ∀ k s, n.Segments[k]? = some s → SegOk n.Nodes.length k s
 ports1 : 2 ≤ n.Ports.length ∧ n.Ports.length ≤ 6
 ports : ∀ k s, n.Ports[k]? = some s → PortOk n.Nodes.length k s
 portsUp : ∀ (i j : Nat) (p q : Port), i < j → n.Ports[i]? = some p → n.Ports[j]? = some q → p.Node < q.Node
 sts1 : n.Stations.length ≤ 6
 sts : ∀ k s, n.Stations[k]? = some s → StOk n.Nodes.length k s
 stsUp : ∀ (i j : Nat) (p q : Sn), i < j → n.Stations[i]? = some p → n.Stations[j]? = some q → p.Node < q.Node
 vapour : -100000 ≤ n.Vapour ∧ n.Vapour ≤ 50000
 settle : 0 ≤ n.Settle ∧ n.Settle ≤ 100
def lit (f : List Piece) : Li := f.flatMap fun p => List.replicate p.Volume.toNat p.Batch
def V3 (l : List Piece) (p : Piece) : List Piece :=
 match l.getLast? with
 | some q => if q.Batch = p.Batch then l.dropLast ++ [⟨q.Batch, q.Volume + p.Volume⟩] else l ++ [p]
 | none => [p]
def Cm (L : Li) : List Piece := L.foldl (fun a b => V3 a ⟨b, 1⟩) []
theorem Em : lit [] = [] := rfl
theorem H4 (p : Piece) (f : List Piece) : lit (p :: f) = List.replicate p.Volume.toNat p.Batch ++ lit f := rfl
theorem Db (f g : List Piece) : lit (f ++ g) = lit f ++ lit g := by simp [lit]
theorem Dz (p : Piece) : lit [p] = List.replicate p.Volume.toNat p.Batch := by simp [lit]
theorem P0 (p : Piece) : V3 [] p = [p] := rfl
theorem En (l : List Piece) (q p : Piece) : V3 (l ++ [q]) p = if q.Batch = p.Batch then l ++ [⟨q.Batch, q.Volume + p.Volume⟩] else l ++ [q] ++ [p] := by
 simp [V3]
theorem oZ {α : Type} {l : List α} (h : l ≠ []) : ∃ a x, l = a ++ [x] := ⟨l.dropLast, l.getLast h, (List.dropLast_concat_getLast h).symm⟩
theorem Dq {α : Type} (l : List α) : l = [] ∨ ∃ a x, l = a ++ [x] := by
 by_cases h : l = []
 ·exact .inl h
 ·exact .inr (oZ h)
theorem pC (l : List Piece) (b v w : Int) : V3 (V3 l ⟨b, v⟩) ⟨b, w⟩ = V3 l ⟨b, v + w⟩ := by
 rcases Dq l with rfl | ⟨a, q, rfl⟩
 ·have := En [] ⟨b, v⟩ ⟨b, w⟩
  simpa [P0] using this
 ·rw [En, En]
  by_cases h : q.Batch = b
  ·simp only [h, if_pos]; rw [En]; simp [Int.add_assoc]
  ·simp only [h, if_false]; rw [En]; simp
theorem Iu : Cm [] = [] := rfl
theorem Mp (L : Li) (b : Int) : Cm (L ++ [b]) = V3 (Cm L) ⟨b, 1⟩ := by simp [Cm, List.foldl_append]
theorem Xh (L : Li) (b : Int) : ∀ v : Nat, 1 ≤ v → Cm (L ++ List.replicate v b) = V3 (Cm L) ⟨b, (v : Int)⟩
 | 0, h => absurd h (by omega)
 | 1, _ => by rw [show List.replicate 1 b = [b] from rfl]; exact Mp L b
 | v + 2, _ => by
  rw [List.replicate_succ', ← List.append_assoc, Mp, Xh L b (v + 1) (by omega), pC]
  congr 2
theorem pD {l : List Piece} {p : Piece} (hl : ∀ q, q ∈ l → 0 ≤ q.Volume) (G : 0 ≤ p.Volume) : lit (V3 l p) = lit l ++ List.replicate p.Volume.toNat p.Batch := by
 rcases Dq l with rfl | ⟨a, q, rfl⟩
 ·simp [P0, lit]
 ·have M := hl q (by simp)
  rw [En]
  split
  ·rename_i h
   rw [Db, Db, Dz, Dz, List.append_assoc]
   congr 1
   dsimp only
   rw [← h, Int.toNat_add M G, List.replicate_append_replicate]
  ·rw [Db, Dz]
structure Can (f : List Piece) : Prop where
 pos : ∀ p, p ∈ f → 1 ≤ p.Volume
 ne : ∀ (i : Nat) (p q : Piece), f[i]? = some p → f[i + 1]? = some q → p.Batch ≠ q.Batch
theorem Can.nil : Can [] := ⟨by simp, by simp⟩
theorem Can.snoc {a : List Piece} {x : Piece} (h : Can a) (Y : 1 ≤ x.Volume) (W : ∀ q, a.getLast? = some q → q.Batch ≠ x.Batch) : Can (a ++ [x]) := by
 refine ⟨fun p G => ?_, fun i p q G M => ?_⟩
 ·rcases List.mem_append.1 G with G | G
  ·exact h.pos p G
  ·simp at G; subst G; exact Y
 ·rw [List.getElem?_append] at G M
  split at M
  ·rw [if_pos (by omega)] at G; exact h.ne i p q G M
  ·rename_i Z
   have O := (gs M).1
   simp at O
   have e : i + 1 = a.length := by omega
   rw [if_pos (by omega)] at G
   simp [e] at M
   subst M
   refine W p ?_
   rw [List.getLast?_eq_getElem?, show a.length - 1 = i by omega]; exact G
theorem Can.init {a : List Piece} {x : Piece} (h : Can (a ++ [x])) : Can a :=
 ⟨fun p G => h.pos p (by simp [G]), fun i p q G M => by
  have O := (gs G).1
  have W := (gs M).1
  exact h.ne i p q (by rw [List.getElem?_append_left O]; exact G) (by rw [List.getElem?_append_left W]; exact M)⟩
theorem Can.last {a : List Piece} {q x : Piece} (h : Can (a ++ [q] ++ [x])) : q.Batch ≠ x.Batch :=
 h.ne a.length q x (by simp) (by simp)
theorem pE {l : List Piece} {p : Piece} (h : Can l) (M : 1 ≤ p.Volume) : Can (V3 l p) := by
 rcases Dq l with rfl | ⟨a, q, rfl⟩
 ·rw [P0]; exact Can.snoc (a := []) .nil M (by simp)
 ·rw [En]
  have W := h.pos q (by simp)
  split
  ·refine h.init.snoc (by dsimp only; omega) fun z G => ?_
   rcases Dq a with rfl | ⟨c, y, rfl⟩
   ·simp at G
   ·simp at G; subst G; exact h.last
  ·rename_i O
   refine h.snoc M fun z G => ?_
   simp at G; subst G; exact O
theorem El (L : Li) : Can (Cm L) := by
 have : ∀ n (L : Li), L.length = n → Can (Cm L) := by
  intro n
  induction n with
  | zero => intro L h; rw [List.length_eq_zero_iff.1 h]; exact .nil
  | succ n ih =>
   intro L h
   rcases Dq L with rfl | ⟨a, x, rfl⟩
   ·simp at h
   ·rw [Mp]; exact pE (ih a (by simpa using h)) (by simp)
 exact this _ L rfl
theorem Mo {α : Type} {P : List α → Prop} (h0 : P []) (h1 : ∀ a x, P a → P (a ++ [x])) : ∀ l, P l := by
 have : ∀ n (l : List α), l.length = n → P l := by
  intro n
  induction n with
  | zero => intro l h; rw [List.length_eq_zero_iff.1 h]; exact h0
  | succ n ih =>
   intro l h
   rcases Dq l with rfl | ⟨a, x, rfl⟩
   ·exact h0
   ·exact h1 a x (ih a (by simpa using h))
 exact fun l => this _ l rfl
theorem D2 (L : Li) : lit (Cm L) = L := by
 induction L using Mo with
 | h0 => rfl
 | h1 a x ih => rw [Mp, pD (fun q G => by have := (El a).pos q G; omega) (by simp), ih]; rfl
theorem mH (f : List Piece) : ∀ (L : Li), (∀ p, p ∈ f → 1 ≤ p.Volume) → f.foldl V3 (Cm L) = Cm (L ++ lit f) := by
 induction f with
 | nil => intro L _; simp [Em]
 | cons p f ih =>
  intro L h
  have G := h p (by simp)
  rw [List.foldl_cons, H4, ← List.append_assoc, ← ih _ fun q M => h q (by simp [M])]
  congr 1
  rw [Xh _ _ _ (by omega)]
  congr 1
  obtain ⟨b, v⟩ := p
  dsimp only at G ⊢
  simp; omega
theorem mI (f : List Piece) : ∀ (a : List Piece), Can (a ++ f) → f.foldl V3 a = a ++ f := by
 induction f with
 | nil => intro a _; simp
 | cons p f ih =>
  intro a h
  have e : V3 a p = a ++ [p] := by
   rcases Dq a with rfl | ⟨c, q, rfl⟩
   ·rfl
   ·rw [En, if_neg]
    exact h.ne c.length q p (by simp) (by simp)
  rw [List.foldl_cons, e, ih _ (by simpa using h)]; simp
theorem Pz {f : List Piece} (h : Can f) : Cm (lit f) = f := by
 have G := mH f [] h.pos
 rw [Iu, List.nil_append] at G
 rw [← G]; exact mI f [] (by simpa using h)
theorem Can.eq {f : List Piece} {L : Li} (h : Can f) (hl : lit f = L) : f = Cm L := by rw [← hl, Pz h]
theorem Xj (f : List Piece) : lit f.reverse = (lit f).reverse := by
 induction f with
 | nil => rfl
 | cons p f ih => rw [List.reverse_cons, Db, ih, Dz, H4, List.reverse_append, List.reverse_replicate]
theorem Can.rev {f : List Piece} (h : Can f) : Can f.reverse := by
 refine ⟨fun p G => h.pos p (by simpa using G), fun i p q G M => ?_⟩
 have O := (gs M).1
 rw [List.length_reverse] at O
 rw [List.getElem?_reverse (by omega)] at G M
 exact (h.ne (f.length - 1 - (i + 1)) q p M (by rw [show f.length - 1 - (i + 1) + 1 = f.length - 1 - i by omega]; exact G)).symm
theorem Is (L : Li) : (Cm L).reverse = Cm L.reverse := (El L).rev.eq (by rw [Xj, D2])
def vol (f : List Piece) : Int := (f.map (·.Volume)).sum
theorem cN : vol [] = 0 := rfl
theorem Ev (f g : List Piece) : vol (f ++ g) = vol f + vol g := by simp [vol]
theorem Hw (p : Piece) (f : List Piece) : vol (p :: f) = p.Volume + vol f := by simp [vol]
theorem D3 {f : List Piece} (h : ∀ p, p ∈ f → 0 ≤ p.Volume) : ((lit f).length : Int) = vol f := by
 induction f with
 | nil => rfl
 | cons p f ih =>
  have := h p (by simp)
  rw [H4, Hw, List.length_append, List.length_replicate, ← ih fun q G => h q (by simp [G])]; omega
theorem Eu {f : List Piece} (h : ∀ p, p ∈ f → 0 ≤ p.Volume) : 0 ≤ vol f := by rw [← D3 h]; omega
theorem C5 (L : Li) : vol (Cm L) = (L.length : Int) := by
 rw [← D3 fun p G => by have := (El L).pos p G; omega, D2]
theorem Iq {f : List Piece} (h : ∀ p, p ∈ f → 0 ≤ p.Volume) {p : Piece} (M : p ∈ f) : p.Volume ≤ vol f := by
 obtain ⟨a, b, rfl⟩ := List.append_of_mem M
 have O := Eu (f := a) fun q G => h q (by simp [G])
 have W := Eu (f := b) fun q G => h q (by simp [G])
 rw [Ev, Hw]; omega
theorem dA {f : List Piece} (h : ∀ p, p ∈ f → 1 ≤ p.Volume) {p : Piece} (G : p ∈ f) : p.Batch ∈ lit f := by
 have := h p G
 exact List.mem_flatMap.2 ⟨p, G, by simp; omega⟩
theorem Ue {L : Li} {p : Piece} (G : p ∈ Cm L) : p.Batch ∈ L := by
 have := dA (El L).pos G
 rwa [D2] at this
theorem P3 {f : List Piece} (h : ∀ p, p ∈ f → 1 ≤ p.Volume) : (f.length : Int) ≤ vol f := by
 induction f with
 | nil => simp [cN]
 | cons p f ih =>
  have := h p (by simp)
  have := ih fun q G => h q (by simp [G])
  rw [Hw, List.length_cons]; omega
theorem Gt (L : Li) : (Cm L).length ≤ L.length := by
 have := P3 (El L).pos
 rw [C5] at this; omega
theorem Te {L : Li} : Cm L = [] ↔ L = [] := ⟨fun h => by rw [← D2 L, h]; rfl, fun h => by rw [h]; rfl⟩
theorem D8 {f : List Piece} {k : Nat} {p : Piece} (h : f[k]? = some p) : vol (f.take (k + 1)) = vol (f.take k) + p.Volume := by
 rw [List.take_add_one, h, Ev]; simp [vol]
def bZ (L : Li) : Prop := ∀ b, b ∈ L → 0 ≤ b ∧ b < 1000
structure Vd (f : List Piece) : Prop where
 len : f.length ≤ 200
 can : Can f
 bat : bZ (lit f)
 vol : vol f ≤ 1000000
theorem Vd.nn {f : List Piece} (h : Vd f) : ∀ p, p ∈ f → 0 ≤ p.Volume := fun p G => by have := h.can.pos p G; omega
theorem cJ {L : Li} (h1 : (Cm L).length ≤ 200) (h2 : bZ L) (G : L.length ≤ 1000000) : Vd (Cm L) :=
 ⟨h1, El L, by rw [D2]; exact h2, by rw [C5]; omega⟩
theorem Vd.rev {f : List Piece} (h : Vd f) : Vd f.reverse :=
 ⟨by simpa using h.len, h.can.rev, by rw [Xj]; exact fun b G => h.bat b (by simpa using G), by have := h.vol; simpa [Go.Proofs.YtaoclefkknloiaaGreat.vol] using this⟩
structure PInv (l : List Point) (at_ : Int) : Prop where
 len : 1 ≤ l.length
 first : ∀ p, l[0]? = some p → p.At = 0
 last : ∀ p, l[l.length - 1]? = some p → p.At = at_
 up : ∀ i p q, l[i]? = some p → l[i + 1]? = some q → p.At < q.At
 height : ∀ p, p ∈ l → -500 ≤ p.Height ∧ p.Height ≤ 5000
 limit : ∀ p, p ∈ l → 0 ≤ p.Limit ∧ p.Limit ≤ 100000000
theorem PInv.append {l : List Point} {at_ : Int} (h : PInv l at_) {p : Point} (h1 : at_ < p.At) (h2 : -500 ≤ p.Height ∧ p.Height ≤ 5000) (Y : 0 ≤ p.Limit ∧ p.Limit ≤ 100000000) : PInv (l ++ [p]) p.At := by
 have hl := h.len
 refine ⟨by simp, fun q G => h.first q ?_, fun q G => ?_, fun i a b O M => ?_, fun q G => ?_, fun q G => ?_⟩
 ·rw [List.getElem?_append_left (by omega)] at G; exact G
 ·rw [List.getElem?_append_right (by simp)] at G; simp at G; rw [G]
 ·rw [List.getElem?_append] at O M
  split at M
  ·rw [if_pos (by omega)] at O; exact h.up i a b O M
  ·rename_i hi
   have W := (gs M).1
   simp at W
   have : i + 1 = l.length := by omega
   rw [if_pos (by omega)] at O
   have Z := h.last a (by rw [show l.length - 1 = i by omega]; exact O)
   simp [this] at M
   rw [← M]; omega
 ·rcases List.mem_append.1 G with G | G
  ·exact h.height q G
  ·simp at G; subst G; exact h2
 ·rcases List.mem_append.1 G with G | G
  ·exact h.limit q G
  ·simp at G; subst G; exact Y
theorem PInv.done {l : List Point} {at_ : Int} (h : PInv l at_) (h1 : 2 ≤ l.length ∧ l.length ≤ 8) : PointsOk at_ l := ⟨h1, h.first, h.last, h.up, h.height, h.limit⟩
theorem Et {n : Int} (h : 0 ≤ n) : ∃ k : Nat, n = (k : Int) := ⟨n.toNat, by omega⟩
theorem kO {s : V4} (hs : SrcOk s) {nodes k : Nat} (hk : k < 26) {a b : Int} (ha : 0 ≤ a ∧ a < (nodes : Int)) (hb : 0 ≤ b ∧ b < (nodes : Int)) (am : a ≠ b) :
  Ok (Nt s (k : Int) a b) fun r => SegOk nodes k r.1 ∧ SrcOk r.2 := by
 have aa : ∀ (j : Li × Int × Int × Int), SrcOk ⟨j.1, j.2.1⟩ → 0 ≤ j.2.2.1 ∧ j.2.2.1 < (nodes : Int) → 0 ≤ j.2.2.2 ∧ j.2.2.2 < (nodes : Int) → j.2.2.1 ≠ j.2.2.2 →
   Ok (Nt.J1 (k : Int) j) fun r => SegOk nodes k r.1 ∧ SrcOk r.2 := by
  intro j hs h1 h2 h3
  unfold Nt.J1
  refine .bind' (.eq (P2 hk) ?_)
  refine .bind (C8 hs (by decide) (by decide)) fun O af => ?_
  refine .bind (C8 af.1 (by decide) (by decide)) fun r14 ag => ?_
  refine .bind (C8 ag.1 (by decide) (by decide)) fun r17 ah => ?_
  refine .bind (C8 ah.1 (by decide) (by decide)) fun ar al => ?_
  refine .bind (Gf al.1 (by decide) (by decide) (by decide)) fun r25 h25 => ?_
  have c11 := af.2; have c14 := ag.2; have c17 := ah.2; have c22 := al.2
  simp only [List.mem_cons, List.not_mem_nil, or_false] at c11 c14 c17 c22
  refine .bind' (.app (by simp) ?_)
  refine .bind (Q := fun d : Li × Int × List Point => SrcOk ⟨d.1, d.2.1⟩ ∧ ∃ G, PInv d.2.2 G ∧ G < O.1 ∧ d.2.2.length ≤ 7) ?_ ?_
  ·refine .loop (fun M => SrcOk ⟨M.1, M.2.1⟩ ∧ PInv M.2.2.1 M.2.2.2 ∧ 0 ≤ M.2.2.2 ∧ M.2.2.2 < O.1 ∧ M.2.2.1.length ≤ 7) (fun M => 7 - M.2.2.1.length)
    ⟨h25.1, ⟨by simp, by simp, by simp, by simp, by simp; omega, by simp; omega⟩, by simp, by simp; omega, by simp⟩ (by dsimp only; omega) ?_
   rintro ⟨L_, At, ad, G⟩ ⟨i1, i2, i3, i4, i5⟩
   dsimp only at i1 i2 i3 i4 i5 ⊢
   have j4 : ∀ (x : Li × Int × Bool), SrcOk ⟨x.1, x.2.1⟩ → (x.2.2 = true → ad.length < 7) → Ok (Nt.J4 O ar (L_, At, ad, G) x) (Sum.elim (fun M => (SrcOk ⟨M.1, M.2.1⟩ ∧ PInv M.2.2.1 M.2.2.2 ∧ 0 ≤ M.2.2.2 ∧ M.2.2.2 < O.1 ∧ M.2.2.1.length ≤ 7) ∧ 7 - M.2.2.1.length < 7 - ad.length) fun d => SrcOk ⟨d.1, d.2.1⟩ ∧ ∃ G, PInv d.2.2 G ∧ G < O.1 ∧ d.2.2.length ≤ 7) := by
    intro x hx hl
    unfold Nt.J4
    refine Bo (fun hb => ?_) fun _ => .pure ⟨hx, G, i2, i4, i5⟩
    have hl := hl hb
    refine .bind (Gf hx (by decide) (by decide) (by decide)) fun r197 Y => ?_
    dsimp only
    rw [Be (by omega)]
    refine A8 (fun _ => .pure ⟨Y.1, G, i2, i4, i5⟩) fun ao => ?_
    refine .bind (Gf Y.1 (by decide) (by decide) (by decide)) fun ab ai => ?_
    refine .bind (C8 ai.1 (by decide) (by decide)) fun ac Z => ?_
    have W := Z.2
    simp only [List.mem_cons, List.not_mem_nil, or_false] at W
    refine .bind (E4 Z.1 (by decide) (by decide)) fun r206 aj => ?_
    refine .bind' (.app (by simp; omega) (.pure ⟨⟨aj.1, ?_, by dsimp only; omega, by dsimp only; omega, by simp; omega⟩, by simp; omega⟩))
    have hh : -50 ≤ ab.1 * ac.1 ∧ ab.1 * ac.1 ≤ 600 := by
     rcases W with h | h | h <;> rw [h] <;> omega
    refine i2.append ?_ ?_ ?_ <;> simp (disch := omega) only [Be] <;> omega
   unfold Nt.B3
   refine A8 (fun h => ?_) fun h => ?_
   ·refine .bind (E4 i1 (by decide) (by decide)) fun r213 ak => j4 (_, _, _) ak.1 fun _ => by dsimp only at h; omega
   ·exact j4 (_, _, _) i1 (by simp)
  ·rintro ⟨dl, da, dp⟩ ⟨hd, G, hp, ao, an⟩
   dsimp only at hd hp an
   unfold Nt.J2
   refine .bind (Gf hd (by decide) (by decide) (by decide)) fun aq ae => ?_
   have h1l := hp.len
   refine .bind' (.app (by simp; omega) (.pure ⟨⟨rfl, ⟨h1.1, h1.2, h2.1, h2.2, h3⟩, by dsimp only; omega, by dsimp only; omega, by dsimp only; omega, ?_⟩, ae.1⟩))
   exact (hp.append (p := ⟨O.1, aq.1, ar.1⟩) ao (by dsimp only; omega) (by dsimp only; omega)).done (by simp; omega)
 unfold Nt
 refine .bind (E4 hs (by decide) (by decide)) fun r hr => ?_
 exact Dc (fun _ => aa _ hr.1 hb ha (Ne.symm am)) fun _ => aa _ hr.1 ha hb am
theorem Nh {s : Li} {g : Int → Option Bool} {P : Int → Bool} (hg : ∀ (k : Nat) (x : Int), s[k]? = some x → g x = some (P x)) :
  Ok (R7 s g) fun r => (r = -1 ∧ ∀ (j : Nat) (y : Int), s[j]? = some y → P y = false) ∨ ∃ (k : Nat) (x : Int), r = (k : Int) ∧ s[k]? = some x ∧ P x = true ∧ ∀ (j : Nat) (y : Int), j < k → s[j]? = some y → P y = false := by
 unfold R7
 refine .bind' (.forL (fun k _ => ∀ (j : Nat) (y : Int), j < k → s[j]? = some y → P y = false) (fun r => ∃ (k : Nat) (x : Int), r = (k : Int) ∧ s[k]? = some x ∧ P x = true ∧ ∀ (j : Nat) (y : Int), j < k → s[j]? = some y → P y = false) (fun j y h => absurd h (Nat.not_lt_zero _)) ?_ ?_ ?_)
 ·intro k x _ W M
  unfold R7.B2
  refine .bind' (.eq (hg k x W) (Bo (fun O => .pure ⟨k, x, rfl, W, O, M⟩) fun O => .pure fun j y Z G => ?_))
  by_cases h : j < k
  ·exact M j y h G
  ·have : j = k := by omega
   subst this
   rw [W] at G; simp at G; subst G; exact O
 ·intro _ M
  simp only [Sum.elim_inl]
  unfold R7.J1
  exact .pure (.inl ⟨rfl, fun j y G => M j y (gs G).1 G⟩)
 ·intro b Y
  exact .pure (.inr Y)
theorem Ef {s : Li} {g : Int → Option Bool} {P : Int → Bool} (hg : ∀ (k : Nat) (x : Int), s[k]? = some x → g x = some (P x)) :
  Jk s g = some (s.any P) := by
 have : Ok (Jk s g) fun r => r = s.any P := by
  unfold Jk
  refine .bind (Nh hg) fun r W => .pure ?_
  rcases W with ⟨rfl, h⟩ | ⟨k, x, rfl, G, O, _⟩
  ·have : s.any P = false := by
    rw [List.any_eq_false]
    intro x G
    obtain ⟨j, M⟩ := List.getElem?_of_mem G
    rw [h j x M]; simp
   rw [this]; rfl
  ·have : s.any P = true := List.any_eq_true.2 ⟨x, mg G, O⟩
   rw [this]; simp
 obtain ⟨r, h, rfl⟩ := this
 exact h
theorem Ii {s : List Bt} {g : Bt → Option Bool} {P : Bt → Bool} (hg : ∀ (k : Nat) (x : Bt), s[k]? = some x → g x = some (P x)) :
  Ok (Qx s g) fun r => (r = -1 ∧ ∀ (j : Nat) (y : Bt), s[j]? = some y → P y = false) ∨ ∃ (k : Nat) (x : Bt), r = (k : Int) ∧ s[k]? = some x ∧ P x = true ∧ ∀ (j : Nat) (y : Bt), j < k → s[j]? = some y → P y = false := by
 unfold Qx
 refine .bind' (.forL (fun k _ => ∀ (j : Nat) (y : Bt), j < k → s[j]? = some y → P y = false) (fun r => ∃ (k : Nat) (x : Bt), r = (k : Int) ∧ s[k]? = some x ∧ P x = true ∧ ∀ (j : Nat) (y : Bt), j < k → s[j]? = some y → P y = false) (fun j y h => absurd h (Nat.not_lt_zero _)) ?_ ?_ ?_)
 ·intro k x _ W M
  unfold Qx.B2
  refine .bind' (.eq (hg k x W) (Bo (fun O => .pure ⟨k, x, rfl, W, O, M⟩) fun O => .pure fun j y Z G => ?_))
  by_cases h : j < k
  ·exact M j y h G
  ·have : j = k := by omega
   subst this
   rw [W] at G; simp at G; subst G; exact O
 ·intro _ M
  simp only [Sum.elim_inl]
  unfold Qx.J1
  exact .pure (.inl ⟨rfl, fun j y G => M j y (gs G).1 G⟩)
 ·intro b Y
  exact .pure (.inr Y)
theorem Hb {s : List Bt} {g : Bt → Option Bool} {P : Bt → Bool} (hg : ∀ (k : Nat) (x : Bt), s[k]? = some x → g x = some (P x)) :
  Rf s g = some (s.any P) := by
 have : Ok (Rf s g) fun r => r = s.any P := by
  unfold Rf
  refine .bind (Ii hg) fun r W => .pure ?_
  rcases W with ⟨rfl, h⟩ | ⟨k, x, rfl, G, O, _⟩
  ·have : s.any P = false := by
    rw [List.any_eq_false]
    intro x G
    obtain ⟨j, M⟩ := List.getElem?_of_mem G
    rw [h j x M]; simp
   rw [this]; rfl
  ·have : s.any P = true := List.any_eq_true.2 ⟨x, mg G, O⟩
   rw [this]; simp
 obtain ⟨r, h, rfl⟩ := this
 exact h
theorem Fk {s : List Sg} {g : Sg → Option Bool} {P : Sg → Bool} (hg : ∀ (k : Nat) (x : Sg), s[k]? = some x → g x = some (P x)) :
  Ok (Rz s g) fun r => (r = -1 ∧ ∀ (j : Nat) (y : Sg), s[j]? = some y → P y = false) ∨ ∃ (k : Nat) (x : Sg), r = (k : Int) ∧ s[k]? = some x ∧ P x = true ∧ ∀ (j : Nat) (y : Sg), j < k → s[j]? = some y → P y = false := by
 unfold Rz
 refine .bind' (.forL (fun k _ => ∀ (j : Nat) (y : Sg), j < k → s[j]? = some y → P y = false) (fun r => ∃ (k : Nat) (x : Sg), r = (k : Int) ∧ s[k]? = some x ∧ P x = true ∧ ∀ (j : Nat) (y : Sg), j < k → s[j]? = some y → P y = false) (fun j y h => absurd h (Nat.not_lt_zero _)) ?_ ?_ ?_)
 ·intro k x _ W M
  unfold Rz.B2
  refine .bind' (.eq (hg k x W) (Bo (fun O => .pure ⟨k, x, rfl, W, O, M⟩) fun O => .pure fun j y Z G => ?_))
  by_cases h : j < k
  ·exact M j y h G
  ·have : j = k := by omega
   subst this
   rw [W] at G; simp at G; subst G; exact O
 ·intro _ M
  simp only [Sum.elim_inl]
  unfold Rz.J1
  exact .pure (.inl ⟨rfl, fun j y G => M j y (gs G).1 G⟩)
 ·intro b Y
  exact .pure (.inr Y)
theorem D5 {s : List Sg} {g : Sg → Option Bool} {P : Sg → Bool} (hg : ∀ (k : Nat) (x : Sg), s[k]? = some x → g x = some (P x)) :
  Nn s g = some (s.any P) := by
 have : Ok (Nn s g) fun r => r = s.any P := by
  unfold Nn
  refine .bind (Fk hg) fun r W => .pure ?_
  rcases W with ⟨rfl, h⟩ | ⟨k, x, rfl, G, O, _⟩
  ·have : s.any P = false := by
    rw [List.any_eq_false]
    intro x G
    obtain ⟨j, M⟩ := List.getElem?_of_mem G
    rw [h j x M]; simp
   rw [this]; rfl
  ·have : s.any P = true := List.any_eq_true.2 ⟨x, mg G, O⟩
   rw [this]; simp
 obtain ⟨r, h, rfl⟩ := this
 exact h
theorem Gw {s : List Port} {g : Port → Option Bool} {P : Port → Bool} (hg : ∀ (k : Nat) (x : Port), s[k]? = some x → g x = some (P x)) :
  Ok (Q9 s g) fun r => (r = -1 ∧ ∀ (j : Nat) (y : Port), s[j]? = some y → P y = false) ∨ ∃ (k : Nat) (x : Port), r = (k : Int) ∧ s[k]? = some x ∧ P x = true ∧ ∀ (j : Nat) (y : Port), j < k → s[j]? = some y → P y = false := by
 unfold Q9
 refine .bind' (.forL (fun k _ => ∀ (j : Nat) (y : Port), j < k → s[j]? = some y → P y = false) (fun r => ∃ (k : Nat) (x : Port), r = (k : Int) ∧ s[k]? = some x ∧ P x = true ∧ ∀ (j : Nat) (y : Port), j < k → s[j]? = some y → P y = false) (fun j y h => absurd h (Nat.not_lt_zero _)) ?_ ?_ ?_)
 ·intro k x _ W M
  unfold Q9.B2
  refine .bind' (.eq (hg k x W) (Bo (fun O => .pure ⟨k, x, rfl, W, O, M⟩) fun O => .pure fun j y Z G => ?_))
  by_cases h : j < k
  ·exact M j y h G
  ·have : j = k := by omega
   subst this
   rw [W] at G; simp at G; subst G; exact O
 ·intro _ M
  simp only [Sum.elim_inl]
  unfold Q9.J1
  exact .pure (.inl ⟨rfl, fun j y G => M j y (gs G).1 G⟩)
 ·intro b Y
  exact .pure (.inr Y)
theorem F7 {s : List Port} {g : Port → Option Bool} {P : Port → Bool} (hg : ∀ (k : Nat) (x : Port), s[k]? = some x → g x = some (P x)) :
  Ru s g = some (s.any P) := by
 have : Ok (Ru s g) fun r => r = s.any P := by
  unfold Ru
  refine .bind (Gw hg) fun r W => .pure ?_
  rcases W with ⟨rfl, h⟩ | ⟨k, x, rfl, G, O, _⟩
  ·have : s.any P = false := by
    rw [List.any_eq_false]
    intro x G
    obtain ⟨j, M⟩ := List.getElem?_of_mem G
    rw [h j x M]; simp
   rw [this]; rfl
  ·have : s.any P = true := List.any_eq_true.2 ⟨x, mg G, O⟩
   rw [this]; simp
 obtain ⟨r, h, rfl⟩ := this
 exact h
theorem Eb {s : List Sn} {g : Sn → Option Bool} {P : Sn → Bool} (hg : ∀ (k : Nat) (x : Sn), s[k]? = some x → g x = some (P x)) :
  Ok (Nl s g) fun r => (r = -1 ∧ ∀ (j : Nat) (y : Sn), s[j]? = some y → P y = false) ∨ ∃ (k : Nat) (x : Sn), r = (k : Int) ∧ s[k]? = some x ∧ P x = true ∧ ∀ (j : Nat) (y : Sn), j < k → s[j]? = some y → P y = false := by
 unfold Nl
 refine .bind' (.forL (fun k _ => ∀ (j : Nat) (y : Sn), j < k → s[j]? = some y → P y = false) (fun r => ∃ (k : Nat) (x : Sn), r = (k : Int) ∧ s[k]? = some x ∧ P x = true ∧ ∀ (j : Nat) (y : Sn), j < k → s[j]? = some y → P y = false) (fun j y h => absurd h (Nat.not_lt_zero _)) ?_ ?_ ?_)
 ·intro k x _ W M
  unfold Nl.B2
  refine .bind' (.eq (hg k x W) (Bo (fun O => .pure ⟨k, x, rfl, W, O, M⟩) fun O => .pure fun j y Z G => ?_))
  by_cases h : j < k
  ·exact M j y h G
  ·have : j = k := by omega
   subst this
   rw [W] at G; simp at G; subst G; exact O
 ·intro _ M
  simp only [Sum.elim_inl]
  unfold Nl.J1
  exact .pure (.inl ⟨rfl, fun j y G => M j y (gs G).1 G⟩)
 ·intro b Y
  exact .pure (.inr Y)
theorem Fa {s : List Sn} {g : Sn → Option Bool} {P : Sn → Bool} (hg : ∀ (k : Nat) (x : Sn), s[k]? = some x → g x = some (P x)) :
  Qv s g = some (s.any P) := by
 have : Ok (Qv s g) fun r => r = s.any P := by
  unfold Qv
  refine .bind (Eb hg) fun r W => .pure ?_
  rcases W with ⟨rfl, h⟩ | ⟨k, x, rfl, G, O, _⟩
  ·have : s.any P = false := by
    rw [List.any_eq_false]
    intro x G
    obtain ⟨j, M⟩ := List.getElem?_of_mem G
    rw [h j x M]; simp
   rw [this]; rfl
  ·have : s.any P = true := List.any_eq_true.2 ⟨x, mg G, O⟩
   rw [this]; simp
 obtain ⟨r, h, rfl⟩ := this
 exact h
theorem K1 {s : List Bt} {v : Bt} :
  Ok (Qw s v) fun r => (r = -1 ∧ ∀ (j : Nat) (y : Bt), s[j]? = some y → (Xz v y) = false) ∨ ∃ (k : Nat) (y : Bt), r = (k : Int) ∧ s[k]? = some y ∧ (Xz v y) = true ∧ ∀ (j : Nat) (y : Bt), j < k → s[j]? = some y → (Xz v y) = false := by
 unfold Qw
 refine .bind' (.forL (fun k _ => ∀ (j : Nat) (y : Bt), j < k → s[j]? = some y → (Xz v y) = false) (fun r => ∃ (k : Nat) (y : Bt), r = (k : Int) ∧ s[k]? = some y ∧ (Xz v y) = true ∧ ∀ (j : Nat) (y : Bt), j < k → s[j]? = some y → (Xz v y) = false) (fun j y h => absurd h (Nat.not_lt_zero _)) ?_ ?_ ?_)
 ·intro k x _ W M
  unfold Qw.B2
  refine Bo (fun O => .pure ⟨k, x, rfl, W, O, M⟩) fun O => .pure fun j y Z G => ?_
  by_cases h : j < k
  ·exact M j y h G
  ·have : j = k := by omega
   subst this
   rw [W] at G; simp at G; subst G; exact O
 ·intro _ M
  simp only [Sum.elim_inl]
  unfold Qw.J1
  exact .pure (.inl ⟨rfl, fun j y G => M j y (gs G).1 G⟩)
 ·intro b Y
  exact .pure (.inr Y)
end Go.Proofs.YtaoclefkknloiaaGreat
namespace Go.Aw
set_option linter.unusedVariables false
set_option linter.defProp false
set_option linter.unusedSimpArgs false
theorem Ok.any {α B : Type} {f : Nat → α → Unit → Option (Unit ⊕ B)} {l : List α} {d : B} (P : Nat → α → Prop)
  (hf : ∀ (k : Nat) x, l[k]? = some x → Ok (f k x ()) fun o => (P k x ∧ o = .inr d) ∨ (¬ P k x ∧ o = .inl ())) :
  Ok (Aw.forL f 0 l ()) fun o => ((∃ (k : Nat) (x : α), l[k]? = some x ∧ P k x) ∧ o = .inr d) ∨ ((∀ (k : Nat) (x : α), l[k]? = some x → ¬ P k x) ∧ o = .inl ()) := by
 refine .forL (fun m _ => ∀ (k : Nat) (x : α), k < m → l[k]? = some x → ¬ P k x) (fun b => b = d ∧ ∃ (k : Nat) (x : α), l[k]? = some x ∧ P k x) (fun k x h => absurd h (Nat.not_lt_zero _)) ?_ ?_ ?_
 ·intro k x _ G W
  refine (hf k x G).mono ?_
  rintro o (⟨h, rfl⟩ | ⟨h, rfl⟩)
  ·exact ⟨rfl, k, x, G, h⟩
  ·intro j y Y O
   by_cases M : j = k
   ·subst M; rw [G] at O; cases O; exact h
   ·exact W j y (by omega) O
 ·exact fun _ h => .inr ⟨fun k x G => h k x (gs G).1 G, rfl⟩
 ·rintro b ⟨rfl, h⟩; exact .inl ⟨h, rfl⟩
def uX := @Ok.any
theorem Mn {B : Type} {f : Nat → Unit → Option (Unit ⊕ B)} {n : Nat} {d : B} (P : Nat → Prop)
  (hf : ∀ (k : Nat), k < n → Ok (f k ()) fun o => (P k ∧ o = .inr d) ∨ (¬ P k ∧ o = .inl ())) :
  Ok (Aw.forI f 0 n ()) fun o => ((∃ k, k < n ∧ P k) ∧ o = .inr d) ∨ ((∀ k, k < n → ¬ P k) ∧ o = .inl ()) := by
 refine .forI (fun m _ => ∀ k, k < m → ¬ P k) (fun b => b = d ∧ ∃ k, k < n ∧ P k) (fun k h => absurd h (Nat.not_lt_zero _)) ?_ ?_ ?_
 ·intro k _ M O
  refine (hf k M).mono ?_
  rintro o (⟨h, rfl⟩ | ⟨h, rfl⟩)
  ·exact ⟨rfl, k, M, h⟩
  ·intro j W
   by_cases G : j = k
   ·subst G; exact h
   ·exact O j (by omega)
 ·exact fun _ h => .inr ⟨h, rfl⟩
 ·rintro b ⟨rfl, h⟩; exact .inl ⟨h, rfl⟩
theorem Ok.test {B : Type} {c : Bool} {d : B} {P : Prop} (h : c = true ↔ P) : Ok (if c = true then some (.inr d) else some (.inl ()) : Option (Unit ⊕ B)) fun o => (P ∧ o = .inr d) ∨ (¬ P ∧ o = .inl ()) := by
 by_cases G : c = true
 ·rw [if_pos G]; exact .pure (.inl ⟨h.1 G, rfl⟩)
 ·rw [if_neg G]; exact .pure (.inr ⟨fun M => G (h.2 M), rfl⟩)
theorem dP {α B : Type} {l : List α} {k : Nat} {d : B} {f : Int → Option (Int ⊕ (B ⊕ Unit))} (P : α → Prop) (hk : k ≤ l.length) (hl : l.length ≤ 1000000)
  (hf : ∀ (i : Nat) (y : α), i < k → l[i]? = some y → Ok (f (i : Int)) fun o => (P y ∧ o = .inr (.inl d)) ∨ (¬ P y ∧ o = .inl (wr ((i : Int) + 1)))) (he : f (k : Int) = some (.inr (.inr ()))) :
  Ok (C4 f Ek 0) fun o => ((∃ (j : Nat) (y : α), j < k ∧ l[j]? = some y ∧ P y) ∧ o = .inl d) ∨ ((¬ ∃ (j : Nat) (y : α), j < k ∧ l[j]? = some y ∧ P y) ∧ o = .inr ()) := by
 refine .loop (fun i : Int => 0 ≤ i ∧ i ≤ (k : Int) ∧ ∀ (j : Nat) (y : α), (j : Int) < i → l[j]? = some y → ¬ P y) (fun i => k - i.toNat) ⟨by omega, by omega, fun j y h => by omega⟩ (by omega) ?_
 rintro i ⟨i0, i1, Y⟩
 obtain ⟨i, rfl⟩ : ∃ m : Nat, i = (m : Int) := ⟨i.toNat, by omega⟩
 by_cases O : i = k
 ·subst O
  rw [he]
  exact .pure (.inr ⟨fun ⟨j, y, Z, M, hp⟩ => Y j y (by omega) M hp, rfl⟩)
 have M : l[i]? = some (l[i]'(by omega)) := gq _
 refine (hf i _ (by omega) M).mono ?_
 rintro o (⟨h, rfl⟩ | ⟨h, rfl⟩)
 ·exact .inl ⟨⟨i, _, by omega, M, h⟩, rfl⟩
 ·simp only [Sum.elim_inl]
  rw [Be (by omega)]
  refine ⟨⟨by omega, by omega, fun j y Z G => ?_⟩, by omega⟩
  by_cases W : j = i
  ·subst W; rw [M] at G; cases G; exact h
  ·exact Y j y (by omega) G
theorem Xl {α β : Type} {l : List α} {st : List β} {g : α → List β} {f : Nat → α → List β → Option (List β)} (hf : ∀ k x st, f k x st = (Cp st (g x)).bind fun y => some y) (hg : ∀ x, (g x).length ≤ 2) (hl : l.length ≤ 1000) (O : st.length ≤ 1000000) :
  Ok (Aw.forS f 0 l st) fun r => r = st ++ l.flatMap g ∧ r.length ≤ st.length + 2000 := by
 refine .forS (fun k r => r = st ++ (l.take k).flatMap g ∧ r.length ≤ st.length + 2 * k) (by simp) ?_ fun r h => ⟨by rw [h.1]; simp, by omega⟩
 rintro k x r G ⟨rfl, h⟩
 rw [hf]
 have M := (gs G).1
 have := hg x
 refine .bind' (.app (by omega) (.pure ⟨?_, by rw [List.length_append]; omega⟩))
 rw [List.take_add_one, G]; simp
theorem Cw {α : Type} {c : Bool} {Q : Prop} {x y : Option α} {P : α → Prop} (h : c = true ↔ Q) (h1 : Q → Ok x P) (h2 : ¬ Q → Ok y P) : Ok (if c = true then x else y) P :=
 sQ (fun G => h1 (h.1 G)) fun G => h2 fun M => G (h.2 M)
end Go.Aw
namespace Go.Proofs.YtaoclefkknloiaaGreat
set_option linter.unusedVariables false
set_option linter.defProp false
set_option linter.unusedSimpArgs false
open Go.Aw
theorem Kj {α β : Type} {l : List α} {g : α → β} {f : Nat → α → List β → Option (List β)} (hf : ∀ k x st, f k x st = (Cp st [g x]).bind fun y => some y) (hl : l.length ≤ 1000) :
  Ok (forS f 0 l []) fun r => r = l.map g := by
 refine .forS (fun k st => st = (l.take k).map g) (by simp) ?_ fun st h => by rw [h]; simp
 rintro k x st G rfl
 rw [hf]
 have M := (gs G).1
 refine .bind' (.app (by simp; omega) (.pure ?_))
 rw [List.take_add_one, G]
 simp
theorem Yw {n : Nw} (h1 : n.Segments.length ≤ 1000) (h2 : n.Ports.length ≤ 1000) (G : n.Stations.length ≤ 1000) :
  Ok (Oc n) fun r => r.l = [n.Nodes, n.Segments.map (·.Name), n.Ports.map (·.Name), n.Stations.map (·.Name)] := by
 unfold Oc
 refine .bind (Kj (g := (·.Name)) (fun _ _ _ => rfl) h1) ?_
 rintro _ rfl
 unfold Oc.J1
 refine .bind (Kj (g := (·.Name)) (fun _ _ _ => rfl) h2) ?_
 rintro _ rfl
 unfold Oc.J2
 refine .bind (Kj (g := (·.Name)) (fun _ _ _ => rfl) G) ?_
 rintro _ rfl
 unfold Oc.J3
 exact .pure rfl
theorem lU (a : Bt) : Xz a a = true := by simp [Xz]
def jP (n : Nw) : List (List Bt) := [n.Nodes, n.Segments.map (·.Name), n.Ports.map (·.Name), n.Stations.map (·.Name)]
def Qf (s : Sg) : Prop := 2 ≤ s.Points.length ∧ s.Points.length ≤ 8
def Lim (n : Nw) : Prop := (1 ≤ n.Nodes.length ∧ n.Nodes.length ≤ 24 ∧ n.Segments.length ≤ 32 ∧ n.Ports.length ≤ 24 ∧ n.Stations.length ≤ 12) ∧ ∀ (k : Nat) (s : Sg), n.Segments[k]? = some s → Qf s
def Ma (c : Int) : Prop := 97 ≤ c ∧ c ≤ 122
def ch (x : Bt) (k : Nat) : Int := ((x.data.getD k 0).toNat : Int)
def L0 (x : Bt) : Prop := (1 ≤ x.size ∧ x.size ≤ 12 ∧ Ma (ch x 0)) ∧ ∀ k, k < x.size → Ma (ch x k) ∨ (48 ≤ ch x k ∧ ch x k ≤ 57) ∨ ch x k = 45
def aN (l : List Bt) : Prop := ∃ (k : Nat) (x : Bt), l[k]? = some x ∧ ¬ L0 x
def Kb (n : Nw) : Prop := ∃ k, k < 4 ∧ ∃ l, (jP n)[k]? = some l ∧ aN l
def kJ (l : List Bt) (k : Nat) (x : Bt) : Prop := ∃ (j : Nat) (y : Bt), j < k ∧ l[j]? = some y ∧ x.toList = y.toList
def sT (l : List Bt) : Prop := ∃ (k : Nat) (x : Bt), l[k]? = some x ∧ kJ l k x
def aM (l : List Sn) (k : Nat) (x : Sn) : Prop := ∃ (j : Nat) (y : Sn), j < k ∧ l[j]? = some y ∧ x.Node = y.Node
def Qp (n : Nw) : Prop := ∃ k, k < 4 ∧ ∃ l, (jP n)[k]? = some l ∧ sT l
def Qo (n : Nw) : Prop := ∃ (k : Nat) (x : Sn), n.Stations[k]? = some x ∧ aM n.Stations k x
def At (n : Nw) (k : Int) : Prop := 0 ≤ k ∧ k < (n.Nodes.length : Int)
def Qg (n : Nw) : Prop := (∀ (k : Nat) (s : Sg), n.Segments[k]? = some s → At n s.From ∧ At n s.To) ∧ (∀ (k : Nat) (s : Port), n.Ports[k]? = some s → At n s.Node) ∧ ∀ (k : Nat) (s : Sn), n.Stations[k]? = some s → At n s.Node
def kI (p : Point) : Prop := (-500 ≤ p.Height ∧ p.Height ≤ 5000) ∧ 0 ≤ p.Limit ∧ p.Limit ≤ 100000000
def Ld (s : Sg) (k : Nat) (p : Point) : Prop := ¬ kI p ∨ ∃ q, 0 < k ∧ s.Points[k - 1]? = some q ∧ p.At ≤ q.At
structure PipeOk (s : Segment) : Prop where
 ends : s.From ≠ s.To
 cap : 1 ≤ s.Capacity ∧ s.Capacity ≤ 1000000
 resist : 0 ≤ s.Resist ∧ s.Resist ≤ 1000
 wave : 0 ≤ s.Wave ∧ s.Wave ≤ 100000
 first : ∀ p, s.Points[0]? = some p → p.At = 0
 last : ∀ p, s.Points[s.Points.length - 1]? = some p → p.At = s.Capacity
 pts : ∀ (k : Nat) (p : Point), s.Points[k]? = some p → ¬ Ld s k p
structure StnOk (s : Station) : Prop where
 head : 0 ≤ s.Head ∧ s.Head ≤ 100000000
 fall : 0 ≤ s.Fall ∧ s.Fall ≤ 100000
 suction : 0 ≤ s.Suction ∧ s.Suction ≤ 100000000
structure Proper (n : Network) : Prop where
 segs : ∀ (k : Nat) (s : Sg), n.Segments[k]? = some s → PipeOk s
 ports : ∀ (k : Nat) (s : Port), n.Ports[k]? = some s → 0 ≤ s.Pressure ∧ s.Pressure ≤ 100000000
 sts : ∀ (k : Nat) (s : Sn), n.Stations[k]? = some s → StnOk s
 vapour : -100000 ≤ n.Vapour ∧ n.Vapour ≤ 100000000
 settle : 0 ≤ n.Settle ∧ n.Settle ≤ 100
def NetRes (n : Nw) (r : Int) : Prop := (¬ Lim n ∧ r = 4) ∨ (Lim n ∧ ((Kb n ∧ r = 3) ∨ (¬ Kb n ∧ (((Qp n ∨ Qo n) ∧ r = 7) ∨ (¬ (Qp n ∨ Qo n) ∧ ((¬ Qg n ∧ r = 8) ∨ (Qg n ∧ ((¬ Proper n ∧ r = 9) ∨ (Proper n ∧ r = 0)))))))))
theorem NetRes.uniq {n : Nw} {r r' : Int} (h : NetRes n r) (h' : NetRes n r') : r = r' := by
 unfold NetRes at h h'
 rcases h with ⟨a, rfl⟩ | ⟨a, ⟨b, rfl⟩ | ⟨b, ⟨c, rfl⟩ | ⟨c, ⟨d, rfl⟩ | ⟨d, ⟨e, rfl⟩ | ⟨e, rfl⟩⟩⟩⟩⟩ <;>
  rcases h' with ⟨G, rfl⟩ | ⟨G, ⟨M, rfl⟩ | ⟨M, ⟨O, rfl⟩ | ⟨O, ⟨W, rfl⟩ | ⟨W, ⟨Y, rfl⟩ | ⟨Y, rfl⟩⟩⟩⟩⟩ <;> first | rfl | contradiction
structure Sane (n : Network) : Prop where
 nodes : n.Nodes.length ≤ 1000
 segs : n.Segments.length ≤ 1000
 ports : n.Ports.length ≤ 1000
 sts : n.Stations.length ≤ 1000
 pts : ∀ (k : Nat) (s : Sg), n.Segments[k]? = some s → s.Points.length ≤ 1000
theorem Mh {a b : Bt} : Xz a b = true ↔ a.toList = b.toList := by simp [Xz]
theorem P4 {x : Bt} {k : Nat} (h : k < x.size) : qM x (k : Int) = some (k, ch x k) := by
 unfold qM ch; rw [if_pos ⟨by omega, by omega⟩]; simp
theorem qH {c : Bool} {P : Prop} (h : c = true ↔ P) : (c = true ∧ P) ∨ (c = false ∧ ¬ P) := by
 cases c
 ·exact .inr ⟨rfl, fun G => by cases h.2 G⟩
 ·exact .inl ⟨rfl, h.1 rfl⟩
theorem Mu {x : Bt} : Ok (Ip x) fun r => r = true ↔ L0 x := by
 have W : ¬ (1 ≤ x.size ∧ x.size ≤ 12 ∧ Ma (ch x 0)) → Ok (Ip.J1 x true) fun r => r = true ↔ L0 x := fun h => by
  unfold Ip.J1
  exact .pure ⟨fun h => (by cases h), fun O => absurd O.1 h⟩
 unfold Ip
 refine A8 (fun h => W (by omega)) fun Y => A8 (fun h => W (by omega)) fun Z => ?_
 refine .bind' (.eq (P4 (k := 0) (by omega)) ?_)
 have e : (Jq (ch x 0) != 1) = true ↔ ¬ Ma (ch x 0) := by
  unfold Jq Jq.J1 Ma
  by_cases a : (decide (ch x 0 ≥ 97) && decide (ch x 0 ≤ 122)) = true
  ·rw [if_pos a]; simp at a ⊢; omega
  ·rw [if_neg a]
   simp at a
   refine ⟨fun _ => by omega, fun _ => ?_⟩
   split <;> (try split) <;> rfl
 rcases qH e with ⟨e, G⟩ | ⟨e, G⟩
 ·dsimp only; rw [e]; exact W (fun h => G h.2.2)
 dsimp only
 rw [e]
 unfold Ip.J1
 refine Bo (fun h => by cases h) fun _ => .bind' (.chk (by omega) ?_)
 refine .bind (Mn (d := false) (P := fun k => ¬ (Ma (ch x k) ∨ (48 ≤ ch x k ∧ ch x k ≤ 57) ∨ ch x k = 45)) fun k M => ?_) ?_
 ·unfold Ip.B3
  refine .bind' (.eq (P4 (by simpa using M)) (.test ?_))
  dsimp only
  unfold Jq Jq.J1 Ma
  split
  ·rename_i h; simp at h ⊢; omega
  ·split
   ·rename_i h; simp at h ⊢; omega
   ·split
    ·rename_i h; simp at h ⊢; omega
    ·rename_i Y Z G; simp at Y Z G ⊢; omega
 ·rintro _ (⟨⟨k, M, h⟩, rfl⟩ | ⟨h, rfl⟩)
  ·exact .pure ⟨fun h => (by cases h), fun O => absurd (O.2 k (by simpa using M)) h⟩
  ·refine .pure ⟨fun _ => ⟨⟨by omega, by omega, Classical.not_not.1 G⟩, fun k M => Classical.not_not.1 (h k (by simpa using M))⟩, fun _ => rfl⟩
theorem aW {k0 : Nat} {l : List Bt} : Ok (forL (Qs.B6 (k0, l)) 0 l ()) fun o => (sT l ∧ o = .inr true) ∨ (¬ sT l ∧ o = .inl ()) := by
 refine (Ok.any (d := true) (P := kJ l) fun k x O => ?_).mono fun o h => h.imp (fun h => h) fun h => ⟨fun ⟨k, x, O, Y⟩ => h.1 k x O Y, h.2⟩
 unfold Qs.B6
 refine .bind K1 fun r hr => .test ?_
 rcases hr with ⟨rfl, h⟩ | ⟨j, y, rfl, hj, Z, M⟩
 ·have := h k x O
  rw [lU] at this; cases this
 ·simp only [decide_eq_true_eq]
  refine ⟨fun h => ⟨j, y, by omega, hj, Mh.1 Z⟩, fun ⟨i, z, hi, hz, W⟩ => ?_⟩
  by_cases G : i < j
  ·have := M i z G hz
   rw [Mh.2 W] at this; cases this
  ·omega
theorem cD {n : Nw} {l : List (List Bt)} (h : l = jP n) {k : Nat} (G : k < 4) : ∃ x, l[k]? = some x ∧ (jP n)[k]? = some x := by
 subst h
 exact ⟨(jP n)[k]'G, gq _, gq _⟩
theorem lM {n : Nw} (Z : Sane n) : Ok (Qs n) fun r => r = true ↔ (Qp n ∨ Qo n) := by
 unfold Qs
 refine .bind (Yw Z.segs Z.ports Z.sts) fun r hr => .bind (Mn (d := true) (P := fun k => ∃ l, (jP n)[k]? = some l ∧ sT l) fun k W => ?_) ?_
 ·obtain ⟨l, h1, G⟩ := cD hr W
  unfold Qs.B4
  refine .bind' (.eq (A1 h1) (.bind aW ?_))
  rintro _ (⟨h, rfl⟩ | ⟨h, rfl⟩)
  ·exact .pure (.inl ⟨⟨l, G, h⟩, rfl⟩)
  ·refine .pure (.inr ⟨fun ⟨m, h3, h4⟩ => ?_, rfl⟩)
   rw [G] at h3; cases h3; exact h h4
 rintro _ (⟨h, rfl⟩ | ⟨h, rfl⟩)
 ·exact .pure ⟨fun _ => .inl h, fun _ => rfl⟩
 unfold Qs.J1
 refine .bind (Ok.any (d := true) (P := aM n.Stations) fun k x hx => ?_) ?_
 ·unfold Qs.B3
  refine .bind (Eb (P := fun y => Jn y x) fun _ _ _ => rfl) fun r hr => .test ?_
  rcases hr with ⟨rfl, h⟩ | ⟨j, y, rfl, hj, he, Y⟩
  ·have := h k x hx
   simp [Jn] at this
  ·simp only [decide_eq_true_eq]
   refine ⟨fun h => ⟨j, y, by omega, hj, by simp [Jn] at he; exact he.symm⟩, fun ⟨i, z, hi, hz, hxz⟩ => ?_⟩
   by_cases O : i < j
   ·have := Y i z O hz
    simp [Jn, hxz] at this
   ·omega
 ·rintro _ (⟨M, rfl⟩ | ⟨M, rfl⟩)
  ·exact .pure ⟨fun _ => .inr M, fun _ => rfl⟩
  ·refine .pure ⟨fun h => (by cases h), fun G => ?_⟩
   rcases G with ⟨k, W, G⟩ | ⟨k, x, hx, hd⟩
   ·exact absurd G (h k W)
   ·exact absurd hd (M k x hx)
theorem mF {n : Nw} (W : Sane n) : Ok (Rw n) fun r => r = true ↔ Qg n := by
 unfold Rw
 refine .bind (Xl (g := fun s : Sg => [s.From, s.To]) (fun _ _ _ => rfl) (fun _ => by simp) W.segs (by simp)) ?_
 rintro l1 ⟨Y, M⟩
 unfold Rw.J1
 refine .bind (Xl (g := fun s : Port => [s.Node]) (fun _ _ _ => rfl) (fun _ => by simp) W.ports (by simp at M; omega)) ?_
 rintro l2 ⟨Z, hl2⟩
 unfold Rw.J2
 refine .bind (Xl (g := fun s : Sn => [s.Node]) (fun _ _ _ => rfl) (fun _ => by simp) W.sts (by simp at M; omega)) ?_
 rintro l3 ⟨e3, -⟩
 subst e3 Z Y
 unfold Rw.J3
 refine .bind' (.eq (Ef (P := fun x => Lo x n) fun _ _ _ => rfl) (.pure ?_))
 have e : ∀ x, Lo x n = false ↔ At n x := fun x => by unfold At; simp [Lo]
 rw [Bool.not_eq_true', List.any_eq_false]
 simp only [List.nil_append, List.mem_append, List.mem_flatMap, List.mem_cons, List.not_mem_nil, or_false, Bool.not_eq_true, e]
 refine ⟨fun h => ⟨fun k s G => ⟨h _ (.inl (.inl ⟨s, mg G, .inl rfl⟩)), h _ (.inl (.inl ⟨s, mg G, .inr rfl⟩))⟩, fun k s G => h _ (.inl (.inr ⟨s, mg G, rfl⟩)), fun k s G => h _ (.inr ⟨s, mg G, rfl⟩)⟩, fun h x hx => ?_⟩
 rcases hx with (⟨s, G, rfl | rfl⟩ | ⟨s, G, rfl⟩) | ⟨s, G, rfl⟩ <;> obtain ⟨k, O⟩ := List.getElem?_of_mem G
 ·exact (h.1 k s O).1
 ·exact (h.1 k s O).2
 ·exact h.2.1 k s O
 ·exact h.2.2 k s O
theorem aD {a b c : Int} : Dl a b c = true ↔ b ≤ a ∧ a ≤ c := by simp [Dl]
theorem Mk {a b c : Int} : (!(Dl a b c)) = true ↔ ¬ (b ≤ a ∧ a ≤ c) := by rw [← aD]; simp
theorem cW {s : Sg} (Y : s.Points.length ≤ 1000) {k : Nat} {p : Point} (M : s.Points[k]? = some p) (O : 0 < k) : ∃ q, s.Points[k - 1]? = some q ∧ ix s.Points (wr ((k : Int) - 1)) = some (k - 1, q) := by
 have W := (gs M).1
 have G : s.Points[k - 1]? = some (s.Points[k - 1]'(by omega)) := gq _
 refine ⟨_, G, ?_⟩
 rw [Be (by omega), show ((k : Int) - 1) = ((k - 1 : Nat) : Int) by omega]
 exact A1 G
theorem dJ {s : Sg} {k : Nat} {p q : Point} (h : kI p) (W : 0 < k) (O : s.Points[k - 1]? = some q) : Ld s k p ↔ p.At ≤ q.At := by
 refine ⟨fun G => ?_, fun G => .inr ⟨q, W, O, G⟩⟩
 rcases G with G | ⟨Y, _, M, G⟩
 ·exact absurd h G
 ·rw [O] at M; cases M; exact G
theorem dG {s : Sg} (h2 : 2 ≤ s.Points.length ∧ s.Points.length ≤ 1000) : ∃ p q, s.Points[0]? = some p ∧ s.Points[s.Points.length - 1]? = some q ∧ ix s.Points 0 = some (0, p) ∧ ix s.Points (wr ((s.Points.length : Int) - 1)) = some (s.Points.length - 1, q) := by
 have G : s.Points[0]? = some (s.Points[0]'(by omega)) := gq _
 have M : s.Points[s.Points.length - 1]? = some (s.Points[s.Points.length - 1]'(by omega)) := gq _
 refine ⟨_, _, G, M, A1 G, ?_⟩
 rw [Be (by omega), show ((s.Points.length : Int) - 1) = ((s.Points.length - 1 : Nat) : Int) by omega]
 exact A1 M
theorem cX {s : Sg} (h2 : 2 ≤ s.Points.length ∧ s.Points.length ≤ 1000) : Ok (Ly s) fun r => r = true ↔ PipeOk s := by
 obtain ⟨p0, pl, Z, el, i0, il⟩ := dG h2
 unfold Ly
 refine Cw (Q := ¬ (s.From ≠ s.To ∧ (1 ≤ s.Capacity ∧ s.Capacity ≤ 1000000) ∧ (0 ≤ s.Resist ∧ s.Resist ≤ 1000) ∧ 0 ≤ s.Wave ∧ s.Wave ≤ 100000)) ?_ (fun h => .pure ⟨fun h => (by cases h), fun G => absurd ⟨G.ends, G.cap, G.resist, G.wave⟩ h⟩) fun h => ?_
 ·simp only [Bool.or_eq_true, Mk, beq_iff_eq]; omega
 obtain ⟨a1, a2, a3, a4⟩ := Classical.not_not.1 h
 refine .bind (Ok.any (d := false) (P := Ld s) fun k p G => ?_) ?_
 ·have Y : ∀ b : Bool, (b = true ↔ Ld s k p) → Ok (Ly.J4 b) fun o => (Ld s k p ∧ o = .inr false) ∨ (¬ Ld s k p ∧ o = .inl ()) := fun b h => by unfold Ly.J4; exact .test h
  unfold Ly.B3
  refine Cw Mk (fun h => Y _ ⟨fun _ => .inl fun M => h M.1, fun _ => rfl⟩) fun h1 => Cw Mk (fun h => Y _ ⟨fun _ => .inl fun M => h M.2, fun _ => rfl⟩) fun h3 => ?_
  have M : kI p := ⟨Classical.not_not.1 h1, Classical.not_not.1 h3⟩
  refine A8 (fun O => ?_) fun O => Y _ ⟨fun h => (by cases h), fun W => ?_⟩
  ·obtain ⟨q, hq, hi⟩ := cW h2.2 G (by omega)
   exact .bind' (.eq hi (Y _ (by rw [dJ M (by omega) hq]; simp)))
  ·rcases W with W | ⟨q, hk, _⟩
   ·exact absurd M W
   ·omega
 ·rintro _ (⟨⟨k, p, G, W⟩, rfl⟩ | ⟨h, rfl⟩)
  ·exact .pure ⟨fun h => (by cases h), fun h => absurd W (h.pts k p G)⟩
  ·simp only [Sum.elim_inl]
   unfold Ly.J1 Ly.J2
   rw [i0, il]
   refine .bind' (.pure (Cw (Q := p0.At = 0) (by simp) (fun O => .bind' (.pure (.pure ?_))) fun O => .pure ⟨fun h => (by cases h), fun h => absurd (h.first _ Z) O⟩))
   dsimp only
   rw [beq_iff_eq]
   refine ⟨fun hl => ⟨a1, a2, a3, a4, fun p G => ?_, fun p G => ?_, h⟩, fun G => G.last _ el⟩
   ·rw [Z] at G; cases G; exact O
   ·rw [el] at G; cases G; exact hl
theorem Iw {α : Type} {l : List α} {P : α → Bool} {Q : α → Prop} (h : ∀ (k : Nat) (x : α), l[k]? = some x → (P x = true ↔ Q x)) : l.any P = true ↔ ∃ (k : Nat) (x : α), l[k]? = some x ∧ Q x := by
 rw [List.any_eq_true]
 refine ⟨fun ⟨x, G, O⟩ => ?_, fun ⟨k, x, G, W⟩ => ⟨x, mg G, (h k x G).2 W⟩⟩
 obtain ⟨k, M⟩ := List.getElem?_of_mem G
 exact ⟨k, x, M, (h k x M).1 O⟩
theorem Lim.pts {n : Nw} (hl : Lim n) {k : Nat} {s : Sg} (G : n.Segments[k]? = some s) : 2 ≤ s.Points.length ∧ s.Points.length ≤ 1000 := by
 have := hl.2 k s G; unfold Qf at this; omega
theorem sG {n : Nw} : Ok (Rb n) fun r => r = true ↔ Lim n := by
 unfold Rb
 refine Cw (Q := ¬ (1 ≤ n.Nodes.length ∧ n.Nodes.length ≤ 24 ∧ n.Segments.length ≤ 32 ∧ n.Ports.length ≤ 24 ∧ n.Stations.length ≤ 12)) (by simp; omega) (fun h => .pure ⟨fun h => (by cases h), fun G => absurd G.1 h⟩) fun h => ?_
 refine .bind' (.eq (D5 (P := fun x => Ll x) fun _ _ _ => rfl) (.pure ?_))
 have e := Iw (l := n.Segments) (P := fun x => Ll x) (Q := fun s => ¬ Qf s) fun k s _ => by simp [Ll, Qf]; omega
 rw [Bool.not_eq_true', ← Bool.not_eq_true, e]
 exact ⟨fun W => ⟨Classical.not_not.1 h, fun k s O => Classical.not_not.1 fun M => W ⟨k, s, O, M⟩⟩, fun G ⟨k, s, O, M⟩ => M (G.2 k s O)⟩
theorem eH {n : Nw} (hl : Lim n) : Ok (W9 n) fun r => r = true ↔ Proper n := by
 unfold W9
 refine .bind' (.eq (D5 (P := fun s => !((Ly s).getD false)) fun k s G => ?_) ?_)
 ·obtain ⟨b, O, _⟩ := cX (hl.pts G)
  unfold Wh
  rw [O]; rfl
 have W := Iw (l := n.Segments) (P := fun s => !((Ly s).getD false)) (Q := fun s => ¬ PipeOk s) fun k s G => by
  obtain ⟨b, O, he⟩ := cX (hl.pts G)
  rw [O, ← he]; simp
 refine Cw W (fun ⟨k, s, G, M⟩ => .pure ⟨fun h => (by cases h), fun h => absurd (h.segs k s G) M⟩) fun h1 => ?_
 refine .bind' (.eq (F7 (P := fun x => Lp x) fun _ _ _ => rfl) ?_)
 have Y := Iw (l := n.Ports) (P := fun x => Lp x) (Q := fun s => ¬ (0 ≤ s.Pressure ∧ s.Pressure ≤ 100000000)) fun k s G => by unfold Lp; exact Mk
 refine Cw Y (fun ⟨k, s, G, M⟩ => .pure ⟨fun h => (by cases h), fun h => absurd (h.ports k s G) M⟩) fun h2 => ?_
 refine .bind' (.eq (Fa (P := fun x => Lx x) fun _ _ _ => rfl) ?_)
 have Z := Iw (l := n.Stations) (P := fun x => Lx x) (Q := fun s => ¬ StnOk s) fun k s G => by
  unfold Lx
  simp only [Bool.or_eq_true, Mk]
  exact ⟨fun h G => h.elim (fun h => h G.head) fun h => h.elim (fun h => h G.fall) fun h => h G.suction, fun h => Classical.byContradiction fun hn => h ⟨by omega, by omega, by omega⟩⟩
 refine Cw Z (fun ⟨k, s, G, M⟩ => .pure ⟨fun h => (by cases h), fun h => absurd (h.sts k s G) M⟩) fun h3 => .pure ?_
 rw [Bool.and_eq_true, aD, aD]
 exact ⟨fun h => ⟨fun k s G => Classical.not_not.1 fun M => h1 ⟨k, s, G, M⟩, fun k s G => Classical.not_not.1 fun M => h2 ⟨k, s, G, M⟩, fun k s G => Classical.not_not.1 fun M => h3 ⟨k, s, G, M⟩, h.1, h.2⟩, fun h => ⟨h.vapour, h.settle⟩⟩
theorem Lim.sane {n : Nw} (h : Lim n) : Sane n := by
 have := h.1
 exact ⟨by omega, by omega, by omega, by omega, fun k s G => by have := h.2 k s G; unfold Qf at this; omega⟩
theorem cZ {n : Nw} : Ok (Fe n) (NetRes n) := by
 unfold Fe
 refine .bind sG fun r1 h1 => Cw (Q := ¬ Lim n) (by rw [← h1]; simp) (fun h => .pure (.inl ⟨h, rfl⟩)) fun Z => ?_
 have M := Classical.not_not.1 Z
 have O := M.sane
 refine .bind (Yw O.segs O.ports O.sts) fun r hr => .bind (Mn (d := 3) (P := fun k => ∃ l, (jP n)[k]? = some l ∧ aN l) fun k G => ?_) ?_
 ·obtain ⟨l, g1, g2⟩ := cD hr G
  unfold Fe.B2
  refine .bind' (.eq (A1 g1) (.bind' (.eq (Hb (P := fun x => !((Ip x).getD false)) fun j x hx => ?_) (.test ?_))))
  ·obtain ⟨b, Y, _⟩ := Mu (x := x)
   unfold Wl
   rw [Y]; rfl
  ·rw [Iw (Q := fun x => ¬ L0 x) fun j x hx => by obtain ⟨b, Y, he⟩ := Mu (x := x); rw [Y, ← he]; simp]
   exact ⟨fun h => ⟨l, g2, h⟩, fun ⟨m, g3, h⟩ => by rw [g2] at g3; cases g3; exact h⟩
 rintro _ (⟨h, rfl⟩ | ⟨h, rfl⟩)
 ·exact .pure (.inr ⟨M, .inl ⟨h, rfl⟩⟩)
 have W : ¬ Kb n := fun ⟨k, G, h'⟩ => h k G h'
 simp only [Sum.elim_inl]
 unfold Fe.J1
 refine .bind (lM O) fun r2 h2 => Cw h2 (fun h => .pure (.inr ⟨M, .inr ⟨W, .inl ⟨h, rfl⟩⟩⟩)) fun ht => ?_
 refine .bind (mF O) fun r3 h3 => Cw (Q := ¬ Qg n) (by rw [← h3]; simp) (fun h => .pure (.inr ⟨M, .inr ⟨W, .inr ⟨ht, .inl ⟨h, rfl⟩⟩⟩⟩)) fun G => ?_
 have G := Classical.not_not.1 G
 refine .bind (eH M) fun r4 h4 => Cw (Q := ¬ Proper n) (by rw [← h4]; simp) (fun h => .pure (.inr ⟨M, .inr ⟨W, .inr ⟨ht, .inr ⟨G, .inl ⟨h, rfl⟩⟩⟩⟩⟩)) fun hp => ?_
 exact .pure (.inr ⟨M, .inr ⟨W, .inr ⟨ht, .inr ⟨G, .inr ⟨Classical.not_not.1 hp, rfl⟩⟩⟩⟩⟩)
theorem sC {n : Nw} (_ : Sane n) : Ok (Fe n) (NetRes n) := cZ
theorem NetRes.good {n : Nw} (h : NetRes n 0) : Lim n ∧ ¬ Kb n ∧ ¬ (Qp n ∨ Qo n) ∧ Qg n ∧ Proper n := by
 rcases h with ⟨_, h⟩ | ⟨a, ⟨_, h⟩ | ⟨b, ⟨_, h⟩ | ⟨c, ⟨_, h⟩ | ⟨d, ⟨_, h⟩ | ⟨e, _⟩⟩⟩⟩⟩
 ·cases h
 ·cases h
 ·cases h
 ·cases h
 ·cases h
 ·exact ⟨a, b, c, d, e⟩
def Named (c : UInt8) (l : List Bt) : Prop := l.length ≤ 26 ∧ ∀ (k : Nat) (x : Bt), l[k]? = some x → x = nm c k
theorem NetOk.named {n : Nw} (h : NetOk n) : ∀ l, l ∈ [n.Nodes, n.Segments.map (·.Name), n.Ports.map (·.Name), n.Stations.map (·.Name)] → ∃ c, (c = 110 ∨ c = 103 ∨ c = 113 ∨ c = 115) ∧ Named c l := by
 have W := h.nodes; have Y := h.segs1; have Z := h.ports1; have h4 := h.sts1
 intro l O
 simp only [List.mem_cons, List.not_mem_nil, or_false] at O
 rcases O with rfl | rfl | rfl | rfl
 ·exact ⟨110, by simp, by omega, h.names⟩
 ·refine ⟨103, by simp, by simp; omega, fun k x G => ?_⟩
  rw [List.getElem?_map] at G
  obtain ⟨s, M, rfl⟩ := Option.map_eq_some_iff.1 G
  exact (h.segs k s M).name
 ·refine ⟨113, by simp, by simp; omega, fun k x G => ?_⟩
  rw [List.getElem?_map] at G
  obtain ⟨s, M, rfl⟩ := Option.map_eq_some_iff.1 G
  exact (h.ports k s M).name
 ·refine ⟨115, by simp, by simp; omega, fun k x G => ?_⟩
  rw [List.getElem?_map] at G
  obtain ⟨s, M, rfl⟩ := Option.map_eq_some_iff.1 G
  exact (h.sts k s M).name
theorem pK {c : UInt8} (hc : 97 ≤ c.toNat ∧ c.toNat ≤ 122) {k : Nat} (Z : k < 26) : Ip (nm c k) = some true := by
 obtain ⟨b, W, Y⟩ := Mu (x := nm c k)
 have M : ch (nm c k) 0 = (c.toNat : Int) := rfl
 have O : ch (nm c k) 1 = 97 + k := by
  show (((97 + UInt8.ofNat k).toNat : Nat) : Int) = _
  rw [UInt8.toNat_add, UInt8.toNat_ofNat', show (97 : UInt8).toNat = 97 from rfl]
  omega
 rw [W, Y.2 ⟨⟨by show 1 ≤ 2; omega, by show 2 ≤ 12; omega, by rw [M]; unfold Ma; omega⟩, fun j G => ?_⟩]
 have G : j < 2 := G
 refine .inl ?_
 unfold Ma
 match j, G with
 | 0, _ => rw [M]; omega
 | 1, _ => rw [O]; omega
theorem sD {c : UInt8} (hc : c = 110 ∨ c = 103 ∨ c = 113 ∨ c = 115) {k : Nat} (G : k < 26) : Ip (nm c k) = some true := by
 refine pK ?_ G
 rcases hc with rfl | rfl | rfl | rfl <;> decide
theorem rX {c : UInt8} {i j : Nat} (hi : i < 26) (W : j < 26) (h : Xz (nm c i) (nm c j) = true) : i = j := by
 have O : (nm c i).toList = (nm c j).toList := by simpa [Xz] using h
 have G : [c, 97 + UInt8.ofNat i] = [c, 97 + UInt8.ofNat j] := by simpa [nm, ByteArray.toList, ByteArray.toList.loop, ByteArray.size, ByteArray.get!] using O
 simp only [List.cons.injEq, and_true, true_and] at G
 have M := congrArg UInt8.toNat G
 simp only [UInt8.toNat_add, UInt8.toNat_ofNat'] at M
 have : (97 : UInt8).toNat = 97 := rfl
 rw [this] at M
 omega
def tP (l : List Bt) : Prop := l.length ≤ 26 ∧ (∀ (k : Nat) (x : Bt), l[k]? = some x → Ip x = some true) ∧ ∀ (i j : Nat) (x y : Bt), l[i]? = some x → l[j]? = some y → Xz x y = true → i = j
theorem Named.nmd {c : UInt8} (hc : c = 110 ∨ c = 103 ∨ c = 113 ∨ c = 115) {l : List Bt} (h : Named c l) : tP l := by
 obtain ⟨Y, G⟩ := h
 refine ⟨Y, fun k x W => ?_, fun i j x y M O Z => ?_⟩
 ·have := (gs W).1
  rw [G k x W]; exact sD hc (by omega)
 ·have aa := (gs M).1
  have ab := (gs O).1
  have hx := G i x M; have hy := G j y O
  subst hx; subst hy
  exact rX (by omega) (by omega) Z
structure SegB (nodes : Nat) (s : Segment) : Prop where
 ends : 0 ≤ s.From ∧ s.From < (nodes : Int) ∧ 0 ≤ s.To ∧ s.To < (nodes : Int) ∧ s.From ≠ s.To
 cap : 1 ≤ s.Capacity ∧ s.Capacity ≤ 1000
 resist : 0 ≤ s.Resist ∧ s.Resist ≤ 1000
 wave : 0 ≤ s.Wave ∧ s.Wave ≤ 100000
 points : PointsOk s.Capacity s.Points
theorem SegOk.b {nodes k : Nat} {s : Sg} (h : SegOk nodes k s) : SegB nodes s := ⟨h.ends, h.cap, h.resist, h.wave, h.points⟩
theorem eW {α : Type} {l : List α} {P : α → Bool} (h : ∀ (k : Nat) (x : α), l[k]? = some x → P x = false) : l.any P = false := by
 rw [List.any_eq_false]
 intro x M
 obtain ⟨j, G⟩ := List.getElem?_of_mem M
 rw [h j x G]; simp
structure NetV (n : Network) : Prop where
 nodes : 1 ≤ n.Nodes.length ∧ n.Nodes.length ≤ 6
 segs1 : n.Segments.length ≤ 8
 segs : ∀ (k : Nat) (s : Sg), n.Segments[k]? = some s → ∃ j, SegOk n.Nodes.length j s
 ports1 : n.Ports.length ≤ 6
 ports : ∀ k s, n.Ports[k]? = some s → PortOk n.Nodes.length k s
 sts1 : n.Stations.length ≤ 6
 sts : ∀ k s, n.Stations[k]? = some s → StOk n.Nodes.length k s
 stsUp : ∀ (i j : Nat) (p q : Sn), i < j → n.Stations[i]? = some p → n.Stations[j]? = some q → p.Node < q.Node
 vapour : -100000 ≤ n.Vapour ∧ n.Vapour ≤ 50000
 settle : 0 ≤ n.Settle ∧ n.Settle ≤ 100
 named : ∀ l, l ∈ [n.Nodes, n.Segments.map (·.Name), n.Ports.map (·.Name), n.Stations.map (·.Name)] → tP l
theorem NetOk.v {n : Nw} (h : NetOk n) : NetV n :=
 ⟨by have := h.nodes; omega, h.segs1.2, fun k s M => ⟨k, h.segs k s M⟩, h.ports1.2, h.ports, h.sts1, h.sts, h.stsUp, h.vapour, h.settle, fun l G => let ⟨_, hc, hn⟩ := h.named l G; hn.nmd hc⟩
structure NetW (n : Network) : Prop where
 nodes : 1 ≤ n.Nodes.length ∧ n.Nodes.length ≤ 6
 segs1 : n.Segments.length ≤ 8
 segs : ∀ (k : Nat) (s : Sg), n.Segments[k]? = some s → SegB n.Nodes.length s
 ports1 : n.Ports.length ≤ 6
 ports : ∀ (k : Nat) s, n.Ports[k]? = some s → (0 ≤ s.Node ∧ s.Node < (n.Nodes.length : Int)) ∧ 0 ≤ s.Pressure ∧ s.Pressure ≤ 100000000
 sts1 : n.Stations.length ≤ 6
 sts : ∀ k s, n.Stations[k]? = some s → StOk n.Nodes.length k s
 stsUp : ∀ (i j : Nat) (p q : Sn), i < j → n.Stations[i]? = some p → n.Stations[j]? = some q → p.Node < q.Node
 vapour : -100000 ≤ n.Vapour ∧ n.Vapour ≤ 50000
 settle : 0 ≤ n.Settle ∧ n.Settle ≤ 100
 named : ∀ l, l ∈ [n.Nodes, n.Segments.map (·.Name), n.Ports.map (·.Name), n.Stations.map (·.Name)] → tP l
theorem NetV.w {n : Nw} (h : NetV n) : NetW n :=
 ⟨h.nodes, h.segs1, fun k s G => (h.segs k s G).choose_spec.b, h.ports1, fun k s G => ⟨(h.ports k s G).node, (h.ports k s G).pressure⟩, h.sts1, h.sts, h.stsUp, h.vapour, h.settle, h.named⟩
theorem NetW.res {n : Nw} (h : NetW n) : NetRes n 0 := by
 have h1 := h.nodes; have h2 := h.segs1; have h3 := h.ports1; have h4 := h.sts1; have h5 := h.vapour; have h6 := h.settle
 refine .inr ⟨⟨by omega, fun k s G => (h.segs k s G).points.len⟩, .inr ⟨?_, .inr ⟨?_, .inr ⟨⟨fun k s G => ?_, fun k s G => (h.ports k s G).1, fun k s G => (h.sts k s G).node⟩, .inr ⟨⟨fun k s G => ?_, fun k s G => (h.ports k s G).2, fun k s G => ⟨?_, ?_, ?_⟩, by omega, h6⟩, rfl⟩⟩⟩⟩⟩
 ·rintro ⟨k, Z, l, hl, j, x, W, hn⟩
  obtain ⟨b, M, Y⟩ := Mu (x := x)
  rw [(h.named l (mg hl)).2.1 j x W] at M
  cases M
  exact hn (Y.1 rfl)
 ·rintro (⟨k, Z, l, hl, i, x, W, j, y, hj, hy, Y⟩ | ⟨i, x, W, j, y, hj, hy, Y⟩)
  ·have := (h.named l (mg hl)).2.2 i j x y W hy (Mh.2 Y)
   omega
  ·have := h.stsUp j i y x hj hy W
   omega
 ·have := (h.segs k s G).ends
  exact ⟨⟨by omega, by omega⟩, by omega, by omega⟩
 ·have G := h.segs k s G
  have O := G.points
  refine ⟨G.ends.2.2.2.2, by have := G.cap; omega, G.resist, G.wave, O.first, O.last, fun k p Z M => ?_⟩
  have hm := mg Z
  rcases M with M | ⟨q, h0, hq, hle⟩
  ·exact M ⟨O.height p hm, O.limit p hm⟩
  ·have := O.up (k - 1) q p hq (by rw [show k - 1 + 1 = k by omega]; exact Z)
   omega
 ·have := (h.sts k s G).head; omega
 ·have := (h.sts k s G).fall; omega
 ·have := (h.sts k s G).suction; omega
theorem NetW.sane {n : Nw} (h : NetW n) : Sane n := by
 have M := h.nodes; have O := h.segs1; have W := h.ports1; have Y := h.sts1
 exact ⟨by omega, by omega, by omega, by omega, fun k s G => by have := (h.segs k s G).points.len; omega⟩
theorem eK {n : Nw} (h : NetW n) : Fe n = some 0 := by
 obtain ⟨r, G, M⟩ := sC h.sane
 rw [G, M.uniq h.res]
theorem eL {n : Nw} (h : NetV n) : Fe n = some 0 := eK h.w
theorem lZ {n : Nw} (h : NetOk n) : Fe n = some 0 := eL h.v
structure NetC (n : Network) : Prop where
 nodes : 1 ≤ n.Nodes.length ∧ n.Nodes.length ≤ 24
 segs1 : n.Segments.length ≤ 32
 segs : ∀ (k : Nat) (s : Sg), n.Segments[k]? = some s → (0 ≤ s.From ∧ s.From < (n.Nodes.length : Int) ∧ 0 ≤ s.To ∧ s.To < (n.Nodes.length : Int) ∧ s.From ≠ s.To) ∧ 1 ≤ s.Capacity ∧ s.Capacity ≤ 1000000
 ports1 : n.Ports.length ≤ 24
 ports : ∀ (k : Nat) s, n.Ports[k]? = some s → 0 ≤ s.Node ∧ s.Node < (n.Nodes.length : Int)
 sts1 : n.Stations.length ≤ 12
 check : Fe n = some 0
structure NetG (n : Network) : Prop where
 nodes : 1 ≤ n.Nodes.length ∧ n.Nodes.length ≤ 6
 segs1 : n.Nodes.length - 1 ≤ n.Segments.length ∧ n.Segments.length ≤ 8
 segs : ∀ (k : Nat) (s : Sg), n.Segments[k]? = some s → SegB n.Nodes.length s
 ports1 : 2 ≤ n.Ports.length ∧ n.Ports.length ≤ 6
 ports : ∀ (k : Nat) s, n.Ports[k]? = some s → 0 ≤ s.Node ∧ s.Node < (n.Nodes.length : Int)
 sts1 : n.Stations.length ≤ 6
 check : Fe n = some 0
theorem NetG.c {n : Nw} (h : NetG n) : NetC n := by
 have M := h.nodes; have O := h.segs1; have W := h.ports1; have Y := h.sts1
 exact ⟨by omega, by omega, fun k s G => ⟨(h.segs k s G).ends, by have := (h.segs k s G).cap; omega⟩, by omega, h.ports, by omega, h.check⟩
theorem NetRes.c {n : Nw} (h : NetRes n 0) (Z : Fe n = some 0) : NetC n := by
 obtain ⟨a, b, c, d, e⟩ := h.good
 have := a.1
 refine ⟨by omega, by omega, fun k s G => ⟨?_, (e.segs k s G).cap⟩, by omega, d.2.1, by omega, Z⟩
 obtain ⟨⟨M, O⟩, W, Y⟩ := d.1 k s G
 exact ⟨M, O, W, Y, (e.segs k s G).ends⟩
theorem NetOk.g {n : Nw} (h : NetOk n) : NetG n :=
 ⟨by have := h.nodes; omega, h.segs1, fun k s G => (h.segs k s G).b, h.ports1, fun k s G => (h.ports k s G).node, h.sts1, lZ h⟩
theorem Sq {st : List Piece} {x : Piece} {J : Bool → Option (List Piece)} (M : ∀ b, J b = if b = true then Option.bind (ix st (wr ((st.length : Int) - 1))) fun p => some (st.set p.1 (⟨p.2.Batch, wr (p.2.Volume + x.Volume)⟩ : Piece)) else Option.bind (Cp st ([x] : List Piece)) fun l => some l)
  (hl : st.length ≤ 1000000000) (hv : ∀ q, q ∈ st → 0 ≤ q.Volume ∧ q.Volume ≤ 1000000000) (Y : 0 ≤ x.Volume ∧ x.Volume ≤ 1000000000) :
  (if decide ((st.length : Int) > 0) = true then Option.bind (ix st (wr ((st.length : Int) - 1))) fun p => J (p.2.Batch == x.Batch) else J false) = some (V3 st x) := by
 rcases Dq st with rfl | ⟨a, q, rfl⟩
 ·rw [if_neg (by simp), M, if_neg (by simp), F9 (by simp)]; rfl
 ·have W := hv q (by simp)
  have e : wr (((a ++ [q]).length : Int) - 1) = (a.length : Int) := by
   simp at hl
   rw [List.length_append, List.length_singleton]; rw [Be (by omega)]; omega
  have O : ix (a ++ [q]) (wr (((a ++ [q]).length : Int) - 1)) = some (a.length, q) := by
   rw [e]; exact A1 (by simp)
  rw [if_pos (by simp), O, Option.bind_some, M, En]
  by_cases G : q.Batch = x.Batch
  ·rw [if_pos (by simp [G]), O, Option.bind_some, if_pos G]
   dsimp only
   rw [Be (by omega)]; simp
  ·rw [if_neg (by simp [G]), F9 (by simp at hl ⊢; omega), if_neg G]; rfl
theorem Oi {M : Li} (h : M.length ≤ 1000000000) : (Cm M).length ≤ 1000000000 ∧ ∀ q, q ∈ Cm M → 0 ≤ q.Volume ∧ q.Volume ≤ 1000000000 := by
 have := Gt M
 refine ⟨by omega, fun q G => ?_⟩
 have Y := (El M).pos q G
 have O := Iq (fun p W => by have := (El M).pos p W; omega) G
 rw [C5] at O; omega
theorem It {M : Li} {x : Piece} (G : 1 ≤ x.Volume) : V3 (Cm M) x = Cm (M ++ List.replicate x.Volume.toNat x.Batch) := by
 rw [Xh _ _ _ (by omega)]
 obtain ⟨b, v⟩ := x
 dsimp only at G ⊢
 rw [show ((v.toNat : Nat) : Int) = v by omega]
theorem So {B : Nat → Piece → List Piece → Option (List Piece)} (c : Int) (hc : 0 ≤ c)
  (hB : ∀ k x M, M.length ≤ 1000000000 → c ≤ x.Volume → x.Volume ≤ 1000000000 → B k x (Cm M) = some (Cm (M ++ List.replicate x.Volume.toNat x.Batch))) {L : Li} {f : List Piece}
  (hf : ∀ p, p ∈ f → c ≤ p.Volume) (hl : (L.length : Int) + vol f ≤ 1000000000) : forS B 0 f (Cm L) = some (Cm (L ++ lit f)) := by
 have O : ∀ p, p ∈ f → 0 ≤ p.Volume := fun p G => by have := hf p G; omega
 have : Ok (forS B 0 f (Cm L)) fun r => r = Cm (L ++ lit f) := by
  refine .forS (fun k st => st = Cm (L ++ lit (f.take k))) (by simp [Em]) ?_ fun st h => by rw [h, List.take_length]
  rintro k x _ hx rfl
  have Z := mg hx
  have W := Iq O Z
  have Y := Eu (f := f.take k) fun p G => O p (List.mem_of_mem_take G)
  have h3 : vol f = vol (f.take k) + vol (f.drop k) := by rw [← Ev, List.take_append_drop]
  have h4 := Eu (f := f.drop k) fun p G => O p (List.mem_of_mem_drop G)
  have h5 := D3 (f := f.take k) fun p G => O p (List.mem_of_mem_take G)
  refine ⟨_, hB k x _ (by rw [List.length_append]; omega) (hf x Z) (by omega), ?_⟩
  rw [List.take_add_one, hx]
  simp [Db, Dz, List.append_assoc]
 obtain ⟨r, W, Y⟩ := this
 rw [W, Y]
theorem Y3 {N : Li} {f : List Piece} (hf : ∀ p, p ∈ f → 1 ≤ p.Volume) (hl : (N.length : Int) + vol f ≤ 1000000000) : Ny (Cm N) f = some (Cm (N ++ lit f)) := by
 unfold Ny
 rw [So (B := Ny.B2) 1 (by omega) (fun k x M W O Y => ?_) hf hl]; · rfl
 have G := Oi W
 unfold Ny.B2
 rw [Sq (J := Ny.J4 x (Cm M)) (fun b => rfl) G.1 G.2 (by omega), It O]
theorem Sp {x : Piece} (h : x.Volume = 0) (M : Li) : M ++ List.replicate x.Volume.toNat x.Batch = M := by simp [h]
theorem Iy {f : List Piece} (hf : ∀ p, p ∈ f → 0 ≤ p.Volume) (hl : vol f ≤ 1000000000) : Lk f = some (Cm (lit f)) := by
 unfold Lk
 rw [show ([] : List Piece) = Cm [] from rfl, So (B := Lk.B2) 0 (by omega) (fun k x M W Y Z => ?_) hf (by simpa using hl)]; · rfl
 have O := Oi W
 unfold Lk.B2
 by_cases G : x.Volume = 0
 ·rw [if_pos (by simp [G]), Sp G]; rfl
 ·rw [if_neg (by simp [G]), Sq (J := Lk.J4 x (Cm M)) (fun b => rfl) O.1 O.2 (by omega), It (by omega)]
theorem Iz {f : List Piece} (hf : ∀ p, p ∈ f → 0 ≤ p.Volume) (hl : vol f ≤ 1000000000) : Jm f = some (Cm (lit f)) := by
 unfold Jm
 rw [show ([] : List Piece) = Cm [] from rfl, So (B := Jm.B2) 0 (by omega) (fun k x M W Y Z => ?_) hf (by simpa using hl)]; · rfl
 have O := Oi W
 unfold Jm.B2
 by_cases G : x.Volume = 0
 ·rw [if_pos (by simp [G]), Sp G]; rfl
 ·rw [if_neg (by simp [G]), Sq (J := Jm.J4 x (Cm M)) (fun b => rfl) O.1 O.2 (by omega), It (by omega)]
theorem cV (l : List Piece) (x : Piece) : (V3 l x).length ≤ l.length + 1 := by
 rcases Dq l with rfl | ⟨a, q, rfl⟩
 ·simp [P0]
 ·rw [En]; split <;> simp
theorem Zo {f : List Piece} (hf : ∀ p, p ∈ f → 0 ≤ p.Volume) : (Cm (lit f)).length ≤ f.length := by
 induction f using Mo with
 | h0 => simp [Em, Iu]
 | h1 a x ih =>
  have h1 := ih fun p G => hf p (by simp [G])
  have M := hf x (by simp)
  rw [Db, Dz, List.length_append, List.length_singleton]
  by_cases h0 : x.Volume = 0
  ·rw [Sp h0]; omega
  ·rw [← It (by omega)]
   have := cV (Cm (lit a)) x
   omega
theorem Sf {B : Nat → Piece → Int → Option Int} (hB : ∀ k x s, B k x s = some (wr (s + x.Volume))) {f : List Piece} (hf : ∀ p, p ∈ f → 0 ≤ p.Volume) (hl : vol f ≤ 1000000000) : forS B 0 f 0 = some (vol f) := by
 have : Ok (forS B 0 f 0) fun r => r = vol f := by
  refine .forS (fun k M => M = vol (f.take k)) rfl ?_ fun M h => by rw [h, List.take_length]
  rintro k x _ hx rfl
  rw [hB]
  have Y : vol f = vol (f.take (k + 1)) + vol (f.drop (k + 1)) := by rw [← Ev, List.take_append_drop]
  have h4 := Eu (f := f.drop (k + 1)) fun p G => hf p (List.mem_of_mem_drop G)
  have Z := Eu (f := f.take (k + 1)) fun p G => hf p (List.mem_of_mem_take G)
  refine .pure ?_
  rw [D8 hx] at Y Z ⊢
  exact Be (by omega)
 obtain ⟨r, O, W⟩ := this
 rw [O, W]
theorem Jv {f : List Piece} (hf : ∀ p, p ∈ f → 0 ≤ p.Volume) (hl : vol f ≤ 1000000000) : Jo f = some (vol f) := by
 unfold Jo; rw [Sf (B := Jo.B2) (fun _ _ _ => rfl) hf hl]; rfl
theorem Si {f : List Piece} (hf : ∀ p, p ∈ f → 0 ≤ p.Volume) (hl : vol f ≤ 1000000000) : Lq f = some (vol f) := by
 unfold Lq; rw [Sf (B := Lq.B2) (fun _ _ _ => rfl) hf hl]; rfl
theorem Vd.piece {f : List Piece} (h : Vd f) {p : Piece} (G : p ∈ f) : 0 ≤ p.Batch ∧ p.Batch < 1000 ∧ 1 ≤ p.Volume ∧ p.Volume ≤ 1000000 := by
 have M := h.can.pos p G
 have O := h.bat _ (dA h.can.pos G)
 have W := Iq h.nn G
 have := h.vol
 omega
theorem Vd.litre {f : List Piece} (h : Vd f) {p : Piece} (G : p ∈ f) : Ho p = true := by
 have := h.piece G
 unfold Ho; simp; omega
theorem Hx {f : List Piece} (h : Vd f) : G1 f = some true := by
 have M := h.len; have Z := h.vol
 have : Ok (G1 f) fun r => r = true := by
  unfold G1
  refine A8 (fun h => by omega) fun _ => .bind' (.forL (fun _ _ => True) (fun _ => False) trivial ?_ ?_ (fun _ h => h.elim))
  ·intro k x _ G _
   have hp := h.piece (mg G)
   have e : ∀ b, b = false → Ok (G1.J3 b) (Sum.elim (fun _ : Unit => True) fun _ : Bool => False) := by rintro _ rfl; exact .pure trivial
   unfold G1.B2
   rw [h.litre (mg G)]
   rw [if_neg (by simp), if_neg (by simp; omega)]
   refine A8 (fun hk => ?_) fun _ => e _ rfl
   have O := (gs G).1
   rw [Be (by omega)]
   refine .bind' (.ix' (by omega) (by omega) fun j y hj Y => e _ ?_)
   have W := h.can.ne j y x Y (by rw [show j + 1 = k by omega]; exact G)
   simpa using W
  ·intro _ _
   unfold G1.J1
   exact .bind' (.eq (Jv h.nn (by omega)) (.pure (by simp; omega)))
 obtain ⟨r, M, rfl⟩ := this
 exact M
theorem Ua {f : List Piece} (h : Vd f) : Wk f = some (vol f) := by
 have G := h.vol
 unfold Wk
 rw [Hx h, Option.bind_some, if_neg (by simp), Jv h.nn (by omega)]; rfl
theorem H7 {f : List Piece} (h : f.length ≤ 100000) : Hp f = some f := by
 unfold Hp
 rw [F9 (by simp; omega)]; rfl
theorem mA {f : List Piece} (h : Vd f) : Jp f = some f := by
 have O := h.len; have W := h.vol
 have : Ok (Nm f (fun x => some (Ij x))) fun r => r = false := by
  unfold Nm Rg
  refine .bind (Q := fun r => r = -1) (.bind' (.forL (fun _ _ => True) (fun _ => False) trivial ?_ (fun _ _ => .pure rfl) (fun _ h => h.elim))) (by rintro _ rfl; exact .pure (by simp))
  intro k x _ M _
  unfold Rg.B2
  rw [Option.bind_some]
  unfold Ij
  rw [h.litre (mg M)]
  exact .pure trivial
 obtain ⟨r, G, rfl⟩ := this
 unfold Jp
 rw [if_neg (by simp; omega), G, Option.bind_some]
 unfold Jp.J1
 rw [if_neg (by simp), Iy h.nn (by omega), Option.bind_some, Pz h.can]
theorem lC {f : List Piece} (hf : ∀ p, p ∈ f → 0 ≤ p.Volume) (hl : vol f ≤ 100000000) (hlen : f.length ≤ 100000) {m : Nat} (hm : m ≤ 100000000) : Oa f (m : Int) = some (Cm ((lit f).take m), Cm ((lit f).drop m)) := by
 have : Ok (Oa f (m : Int)) fun r => r = (Cm ((lit f).take m), Cm ((lit f).drop m)) := by
  unfold Oa
  refine .bind' (.eq (H7 hlen) (.bind' (.eq (H7 hlen) ?_)))
  refine .bind (Q := fun st : Int × List Piece × List Piece => (lit st.2.1 = (lit f).take m ∧ (∀ p, p ∈ st.2.1 → 0 ≤ p.Volume)) ∧ (lit st.2.2 = (lit f).drop m ∧ ∀ p, p ∈ st.2.2 → 0 ≤ p.Volume))
   (.forS (fun k st => ∃ a b : List Piece, a.length = k ∧ b.length = k ∧ st = (((m - (lit (f.take k)).length : Nat) : Int), a ++ f.drop k, b ++ f.drop k) ∧ (lit a = (lit (f.take k)).take m ∧ (∀ p, p ∈ a → 0 ≤ p.Volume)) ∧ (lit b = (lit (f.take k)).drop m ∧ ∀ p, p ∈ b → 0 ≤ p.Volume))
    ⟨[], [], rfl, rfl, by simp [Em], by simp [Em], by simp [Em]⟩ ?_ ?_) ?_
  ·rintro k x _ hx ⟨a, b, ha, hb, rfl, ⟨W, G⟩, Y, M⟩
   have hx0 := hf x (mg hx)
   have hxv := Iq hf (mg hx)
   have hkl := (gs hx).1
   have hd : f.drop k = x :: f.drop (k + 1) := by
    rw [List.drop_eq_getElem_cons hkl]; congr 1
    exact (gs hx).2
   have ga : (a ++ f.drop k)[k]? = some x := by rw [hd, ← ha]; simp
   have gb : (b ++ f.drop k)[k]? = some x := by rw [hd, ← hb]; simp
   have sa : ∀ y, (a ++ f.drop k).set k y = a ++ [y] ++ f.drop (k + 1) := fun y => by rw [hd, ← ha]; simp
   have sb : ∀ y, (b ++ f.drop k).set k y = b ++ [y] ++ f.drop (k + 1) := fun y => by rw [hd, ← hb]; simp
   unfold Oa.B2
   dsimp only
   refine .bind' (.eq (A1 ga) ?_)
   dsimp only
   rw [sa]
   have ga' : (a ++ [(⟨x.Batch, min x.Volume ((m - (lit (f.take k)).length : Nat) : Int)⟩ : Piece)] ++ f.drop (k + 1))[k]? = some (⟨x.Batch, min x.Volume ((m - (lit (f.take k)).length : Nat) : Int)⟩ : Piece) := by rw [← ha]; simp
   refine .bind' (.eq (A1 ga') (.bind' (.eq (A1 gb) (.pure ?_))))
   dsimp only
   rw [sb]
   have Z : lit (f.take (k + 1)) = lit (f.take k) ++ List.replicate x.Volume.toNat x.Batch := by
    rw [List.take_add_one, hx]; simp [Db, Dz]
   rw [Be (by omega), Be (by omega)]
   refine ⟨a ++ [(⟨x.Batch, min x.Volume ((m - (lit (f.take k)).length : Nat) : Int)⟩ : Piece)], b ++ [(⟨x.Batch, x.Volume - min x.Volume ((m - (lit (f.take k)).length : Nat) : Int)⟩ : Piece)], by simp [ha], by simp [hb], ?_, ⟨?_, ?_⟩, ?_, ?_⟩
   ·congr 1
    rw [Z, List.length_append, List.length_replicate]; omega
   ·rw [Db, Dz, W, Z, List.take_append]
    congr 1
    rw [List.take_replicate]; dsimp only; congr 1; omega
   ·intro p O
    rcases List.mem_append.1 O with O | O
    ·exact G p O
    ·simp at O; subst O; dsimp only; omega
   ·rw [Db, Dz, Y, Z, List.drop_append]
    congr 1
    rw [List.drop_replicate]; dsimp only; congr 1; omega
   ·intro p O
    rcases List.mem_append.1 O with O | O
    ·exact M p O
    ·simp at O; subst O; dsimp only; omega
  ·rintro _ ⟨a, b, _, _, rfl, ⟨W, G⟩, Y, M⟩
   dsimp only
   rw [List.take_length] at W Y
   rw [List.drop_length, List.append_nil, List.append_nil]
   exact ⟨⟨W, G⟩, Y, M⟩
  ·rintro ⟨_, a, b⟩ ⟨⟨W, G⟩, Y, M⟩
   dsimp only at W G Y M
   have hl' := D3 hf
   have va := D3 G
   have vb := D3 M
   rw [W, List.length_take] at va
   rw [Y, List.length_drop] at vb
   unfold Oa.J1
   refine .bind' (.eq (Iy (f := a) G (by omega)) (.bind' (.eq (Iy (f := b) M (by omega)) (.pure ?_))))
   rw [W, Y]
 obtain ⟨r, W, rfl⟩ := this
 exact W
theorem aY {f : List Piece} (hl : f.length ≤ 100000) : Rd f = some f.reverse := by
 have : Ok (Rd f) fun r => r = f.reverse := by
  unfold Rd
  rw [Be (by omega)]
  refine .bind (Q := fun r => r = f.reverse) (.loop (fun G => ∃ i : Nat, G.2.1 = (i : Int) ∧ G.2.2 = (f.length : Int) - 1 - i ∧ 2 * (i : Int) ≤ f.length + 1 ∧ G.1.length = f.length ∧ ∀ j : Nat, j < f.length → G.1[j]? = if j < i ∨ f.length - 1 - j < i then f[f.length - 1 - j]? else f[j]?) (fun G => f.length + 1 - G.2.1.toNat)
   ⟨0, rfl, by simp, by omega, rfl, fun j hj => by rw [if_neg (by omega)]⟩ (by simp; omega) ?_) (by rintro _ rfl; exact .pure rfl)
  rintro ⟨l, a, b⟩ ⟨i, Y, h2, h3, h4, M⟩
  dsimp only at Y h2 h3 h4 M
  subst Y; subst h2
  unfold Rd.B1
  refine A8 (fun h => ?_) fun h => .pure ?_
  ·dsimp only at h ⊢
   obtain ⟨j, hj⟩ : ∃ j : Nat, (f.length : Int) - 1 - i = (j : Int) := ⟨f.length - 1 - i, by omega⟩
   rw [hj]
   have e1 : l[j]? = f[j]? := by rw [M j (by omega), if_neg (by omega)]
   have e2 : l[i]? = f[i]? := by rw [M i (by omega), if_neg (by omega)]
   have g1 : f[j]? = some f[j] := gq (by omega)
   have g2 : f[i]? = some f[i] := gq (by omega)
   rw [g1] at e1; rw [g2] at e2
   refine .bind' (.eq (A1 e1) (.bind' (.eq (A1 e2) ?_)))
   dsimp only
   refine .bind' (.eq (A1 (x := f[j]) ?_) ?_)
   ·rw [List.getElem?_set_ne (by omega)]; exact e1
   dsimp only
   unfold Rd.J2
   refine .pure ⟨⟨i + 1, ?_, ?_, by omega, by simp [h4], fun k Z => ?_⟩, ?_⟩
   ·dsimp only; rw [Be (by omega)]; omega
   ·dsimp only; rw [Be (by omega)]; omega
   ·dsimp only
    rw [List.getElem?_set, List.length_set]
    by_cases W : j = k
    ·subst W
     rw [if_pos rfl, if_pos (by omega), if_pos (by omega), show f.length - 1 - j = i by omega, g2]
    ·rw [if_neg W, List.getElem?_set]
     by_cases O : i = k
     ·subst O
      rw [if_pos rfl, if_pos (by omega), if_pos (by omega), show f.length - 1 - i = j by omega, g1]
     ·rw [if_neg O, M k Z]
      congr 1
      exact propext (by constructor <;> intro h <;> omega)
   ·dsimp only; rw [Be (by omega)]; omega
  ·dsimp only at h ⊢
   refine List.ext_getElem? fun k => ?_
   by_cases Z : k < f.length
   ·rw [M k Z, List.getElem?_reverse Z]
    split
    ·rfl
    ·rw [show f.length - 1 - k = k by omega]
   ·rw [List.getElem?_eq_none (by omega), List.getElem?_eq_none (by simp; omega)]
 obtain ⟨r, Y, rfl⟩ := this
 exact Y
theorem Uc {f : List Piece} (hl : f.length ≤ 100000) : Qy f = some f.reverse := by
 unfold Qy
 rw [H7 hl, Option.bind_some, aY hl]; rfl
theorem eG {F I : Li} (O : Vd (Cm F)) (G : Vd (Cm I)) : Ok (Lz (Cm F) (Cm I) true) fun r => r.2.2 = 4 ∧ (200 < (Cm ((F ++ I).drop I.length)).length ∨ 200 < (Cm ((F ++ I).take I.length)).length) ∨ r = (Cm ((F ++ I).drop I.length), Cm ((F ++ I).take I.length), 0) ∧ (Cm ((F ++ I).drop I.length)).length ≤ 200 ∧ (Cm ((F ++ I).take I.length)).length ≤ 200 := by
 have W := O.vol; have Y := G.vol
 have Z := O.len; have l2 := G.len
 rw [C5] at W Y
 unfold Lz
 refine .bind' (.eq (Hx O) ?_)
 rw [if_neg (by simp)]
 refine .bind' (.eq (Hx G) ?_)
 unfold Lz.J1
 rw [if_neg (by simp), if_pos rfl]
 refine .bind' (.eq (H7 (by omega)) (.bind' (.app (by omega) (.bind' (.eq (Jv G.nn (by rw [C5]; omega)) ?_)))))
 rw [C5]
 refine .bind' (.eq (lC (m := I.length) ?_ ?_ (by rw [List.length_append]; omega) (by omega)) ?_)
 ·intro p M
  rcases List.mem_append.1 M with M | M
  ·exact O.nn p M
  ·exact G.nn p M
 ·rw [Ev, C5, C5]; omega
 rw [Db, D2, D2]
 unfold Lz.J2
 dsimp only
 refine Bo (fun h => .pure (.inl ⟨rfl, by simp at h; omega⟩)) fun h => .pure (.inr ⟨rfl, ?_⟩)
 simp at h; omega
theorem eF {F I : Li} (G : Vd (Cm F)) (O : Vd (Cm I)) : Ok (Lz (Cm F) (Cm I) false) fun r => r.2.2 = 4 ∧ (200 < (Cm ((I ++ F).take F.length)).length ∨ 200 < (Cm ((I ++ F).drop F.length)).length) ∨ r = (Cm ((I ++ F).take F.length), Cm ((I ++ F).drop F.length), 0) ∧ (Cm ((I ++ F).take F.length)).length ≤ 200 ∧ (Cm ((I ++ F).drop F.length)).length ≤ 200 := by
 have W := G.vol; have Y := O.vol
 have Z := G.len; have l2 := O.len
 rw [C5] at W Y
 unfold Lz
 refine .bind' (.eq (Hx G) ?_)
 rw [if_neg (by simp)]
 refine .bind' (.eq (Hx O) ?_)
 unfold Lz.J1
 rw [if_neg (by simp), if_neg (by simp)]
 refine .bind' (.eq (H7 (by omega)) (.bind' (.app (by omega) (.bind' (.eq (Jv G.nn (by rw [C5]; omega)) ?_)))))
 rw [C5]
 refine .bind' (.eq (lC (m := F.length) ?_ ?_ (by rw [List.length_append]; omega) (by omega)) ?_)
 ·intro p M
  rcases List.mem_append.1 M with M | M
  ·exact O.nn p M
  ·exact G.nn p M
 ·rw [Ev, C5, C5]; omega
 rw [Db, D2, D2]
 unfold Lz.J2
 dsimp only
 refine Bo (fun h => .pure (.inl ⟨rfl, by simp at h; omega⟩)) fun h => .pure (.inr ⟨rfl, ?_⟩)
 simp at h; omega
theorem Mm {α : Type} {P : Nat → α → Prop} {l : List α} {x : α} (h : ∀ k s, l[k]? = some s → P k s) (O : P l.length x) : ∀ k s, (l ++ [x])[k]? = some s → P k s := by
 intro k s G
 rw [List.getElem?_append] at G
 split at G
 ·exact h k s G
 ·have M := (gs G).1
  simp at M
  have : k = l.length := by omega
  subst this
  simp at G; subst G; exact O
theorem lH {α : Type} {f : α → Int} {l : List α} {x : α} (h : ∀ (i j : Nat) (p q : α), i < j → l[i]? = some p → l[j]? = some q → f p < f q) (Y : ∀ (k : Nat) (p : α), l[k]? = some p → f p < f x) :
  ∀ (i j : Nat) (p q : α), i < j → (l ++ [x])[i]? = some p → (l ++ [x])[j]? = some q → f p < f q := by
 intro i j p q M O G
 have W := (gs G).1
 simp at W
 rw [List.getElem?_append_left (by omega)] at O
 rw [List.getElem?_append] at G
 split at G
 ·exact h i j p q M O G
 ·have : j = l.length := by omega
  subst this
  simp at G; subst G; exact Y i p O
structure PortsInv (nodes : Nat) (i : Int) (ports : List Port) (sts : List Station) : Prop where
 i0 : 0 ≤ i ∧ i ≤ (nodes : Int)
 pl : (ports.length : Int) ≤ i
 p1 : 0 < i → 1 ≤ ports.length
 p2 : i = (nodes : Int) → 2 ≤ ports.length
 po : ∀ k s, ports[k]? = some s → PortOk nodes k s ∧ s.Node < i
 pu : ∀ (i j : Nat) (p q : Port), i < j → ports[i]? = some p → ports[j]? = some q → p.Node < q.Node
 sl : (sts.length : Int) ≤ i
 so : ∀ k s, sts[k]? = some s → StOk nodes k s ∧ s.Node < i
 su : ∀ (i j : Nat) (p q : Sn), i < j → sts[i]? = some p → sts[j]? = some q → p.Node < q.Node
theorem sB {s : V4} (hs : SrcOk s) : Ok (W8 s) fun r => NetOk r.1 ∧ SrcOk r.2 := by
 unfold W8
 refine .bind (C8 hs (by decide) (by decide)) fun r5 h5 => ?_
 refine .bind (C8 h5.1 (by decide) (by decide)) fun r8 h8 => ?_
 refine .bind (Gf h8.1 (by decide) (by decide) (by decide)) fun r650 h650 => ?_
 have c5 := h5.2; have c8 := h8.2
 simp only [List.mem_cons, List.not_mem_nil, or_false] at c5 c8
 refine .bind (Q := fun d : Li × Int × List Bt => SrcOk ⟨d.1, d.2.1⟩ ∧ (2 ≤ d.2.2.length ∧ d.2.2.length ≤ 6) ∧ ∀ k x, d.2.2[k]? = some x → x = nm 110 k) ?_ ?_
 ·refine .loop (fun G : List Bt × Int => 0 ≤ G.2 ∧ (G.1.length : Int) + G.2 = r650.1 ∧ ∀ k x, G.1[k]? = some x → x = nm 110 k) (fun G => G.2.toNat) ⟨by dsimp only; omega, by simp, by simp⟩ (by dsimp only; omega) ?_
  rintro ⟨nodes, c⟩ ⟨Z, i2, i3⟩
  dsimp only at Z i2 i3
  unfold W8.B12
  refine A8 (fun h => ?_) fun h => .pure ⟨h650.1, by dsimp only at h ⊢; omega, i3⟩
  dsimp only at h ⊢
  refine .bind' (.eq (P2 (by omega)) (.bind' (.app (by simp; omega) (.pure ?_))))
  rw [Be (by omega)]
  exact ⟨⟨by dsimp only; omega, by simp; omega, Mm i3 rfl⟩, by dsimp only; omega⟩
 rintro ⟨L_, At, nodes⟩ ⟨hs, hn, hnm⟩
 dsimp only at hs hn hnm
 unfold W8.J1
 refine .bind (Q := fun d : Li × Int × List Sg => SrcOk ⟨d.1, d.2.1⟩ ∧ d.2.2.length = nodes.length - 1 ∧ ∀ k x, d.2.2[k]? = some x → SegOk nodes.length k x) ?_ ?_
 ·refine .loop (fun G : Li × Int × List Sg × Int => SrcOk ⟨G.1, G.2.1⟩ ∧ (G.2.2.1.length : Int) = G.2.2.2 ∧ G.2.2.1.length ≤ nodes.length - 1 ∧ ∀ k x, G.2.2.1[k]? = some x → SegOk nodes.length k x) (fun G => nodes.length - G.2.2.1.length) ⟨hs, by simp, by simp, by simp⟩ (by dsimp only; omega) ?_
  rintro ⟨L_, At, segs, i⟩ ⟨Z, i2, i3, i4⟩
  dsimp only at Z i2 i3 i4
  unfold W8.B11
  dsimp only
  simp (disch := omega) only [Be]
  refine A8 (fun h => ?_) fun h => .pure ⟨Z, by dsimp only; omega, i4⟩
  refine .bind (kO Z (nodes := nodes.length) (by omega) (by omega) (by omega) (by omega)) fun r641 h641 => ?_
  refine .bind' (.app (by simp; omega) (.pure ⟨⟨h641.2, by simp; omega, by simp; omega, Mm i4 h641.1⟩, by simp; omega⟩))
 rintro ⟨L_, At, segs⟩ ⟨hs, hsl, hss⟩
 dsimp only at hs hsl hss
 unfold W8.J2
 refine .bind (E4 hs (by decide) (by decide)) fun r531 h531 => ?_
 refine .bind (Q := fun d : Li × Int × List Sg => SrcOk ⟨d.1, d.2.1⟩ ∧ (nodes.length - 1 ≤ d.2.2.length ∧ d.2.2.length ≤ 8) ∧ ∀ k x, d.2.2[k]? = some x → SegOk nodes.length k x) ?_ ?_
 ·refine .loop (fun G : Li × Int × List Sg × Int => SrcOk ⟨G.1, G.2.1⟩ ∧ 0 ≤ G.2.2.2 ∧ (G.2.2.1.length : Int) + G.2.2.2 ≤ 8 ∧ nodes.length - 1 ≤ G.2.2.1.length ∧ ∀ k x, G.2.2.1[k]? = some x → SegOk nodes.length k x) (fun G => G.2.2.2.toNat)
   ⟨h531.1, h531.2.1, by dsimp only; omega, by dsimp only; omega, hss⟩ (by dsimp only; omega) ?_
  rintro ⟨L_, At, segs, i⟩ ⟨Z, i2, i3, i4, i5⟩
  dsimp only at Z i2 i3 i4 i5
  unfold W8.B10
  dsimp only
  simp (disch := omega) only [Be]
  refine A8 (fun h => ?_) fun h => .pure ⟨Z, by dsimp only; omega, i5⟩
  refine .bind (E4 Z (by omega) (by omega)) fun r589 h589 => ?_
  simp (disch := omega) only [Be]
  refine .bind (Gf h589.1 (by omega) (by omega) (by omega)) fun r591 h591 => ?_
  refine .bind (kO h591.1 (nodes := nodes.length) (by omega) (by omega) (by omega) (by omega)) fun r593 h593 => ?_
  refine .bind' (.app (by simp; omega) (.pure ⟨⟨h593.2, by dsimp only; omega, by simp; omega, by simp; omega, Mm i5 h593.1⟩, by dsimp only; omega⟩))
 rintro ⟨L_, At, segs⟩ ⟨hs, hsl, hss⟩
 dsimp only at hs hsl hss
 unfold W8.J3
 refine .bind (Q := fun d : Li × Int × List Port × List Sn => SrcOk ⟨d.1, d.2.1⟩ ∧ PortsInv nodes.length (nodes.length : Int) d.2.2.1 d.2.2.2) ?_ ?_
 ·refine .loop (fun G : Li × Int × List Port × List Sn × Int => SrcOk ⟨G.1, G.2.1⟩ ∧ PortsInv nodes.length G.2.2.2.2 G.2.2.1 G.2.2.2.1) (fun G => nodes.length - G.2.2.2.2.toNat)
   ⟨hs, by dsimp only; omega, by simp, by simp, by dsimp only; omega, by simp, by simp, by simp, by simp, by simp⟩ (by dsimp only; omega) ?_
  rintro ⟨L_, At, Y, sts, i⟩ ⟨Z, M⟩
  dsimp only at Z M
  have hi := M.i0
  have j6 : ∀ (j : Li × Int × List Port × List Sn), SrcOk ⟨j.1, j.2.1⟩ → PortsInv nodes.length (i + 1) j.2.2.1 j.2.2.2 → i < (nodes.length : Int) →
    Ok (W8.J6 (L_, At, Y, sts, i) j) (Sum.elim (fun G => (SrcOk ⟨G.1, G.2.1⟩ ∧ PortsInv nodes.length G.2.2.2.2 G.2.2.1 G.2.2.2.1) ∧ nodes.length - G.2.2.2.2.toNat < nodes.length - i.toNat) fun d => SrcOk ⟨d.1, d.2.1⟩ ∧ PortsInv nodes.length (nodes.length : Int) d.2.2.1 d.2.2.2) := by
   intro j h1 h2 h3
   unfold W8.J6
   dsimp only
   rw [Be (by omega)]
   exact .pure ⟨⟨h1, h2⟩, by dsimp only; omega⟩
  have j7 : ∀ (j : Li × Int × List Port), SrcOk ⟨j.1, j.2.1⟩ → ((∀ O, (O.length : Int) ≤ i + 1 → (∀ k s, O[k]? = some s → StOk nodes.length k s ∧ s.Node < i + 1) →
     (∀ (i j : Nat) (p q : Sn), i < j → O[i]? = some p → O[j]? = some q → p.Node < q.Node) → PortsInv nodes.length (i + 1) j.2.2 O)) → i < (nodes.length : Int) →
    Ok (W8.J7 (L_, At, nodes) (L_, At, Y, sts, i) j) (Sum.elim (fun G => (SrcOk ⟨G.1, G.2.1⟩ ∧ PortsInv nodes.length G.2.2.2.2 G.2.2.1 G.2.2.2.1) ∧ nodes.length - G.2.2.2.2.toNat < nodes.length - i.toNat) fun d => SrcOk ⟨d.1, d.2.1⟩ ∧ PortsInv nodes.length (nodes.length : Int) d.2.2.1 d.2.2.2) := by
   intro j h1 h2 h3
   have old := h2 sts (by have := M.sl; omega) (fun k s W => ⟨(M.so k s W).1, by have := (M.so k s W).2; omega⟩) M.su
   unfold W8.J7
   refine A8 (fun h => ?_) fun h => ?_
   ·refine .bind (E4 h1 (by decide) (by decide)) fun r507 h507 => ?_
    unfold W8.J8
    refine Bo (fun _ => ?_) fun _ => j6 (_, _, _, _) h507.1 old h3
    have hsl' := M.sl
    refine .bind' (.eq (P2 (by dsimp only; omega)) ?_)
    refine .bind (C8 h507.1 (by decide) (by decide)) fun r493 h493 => ?_
    refine .bind (C8 h493.1 (by decide) (by decide)) fun r496 h496 => ?_
    refine .bind (C8 h496.1 (by decide) (by decide)) fun r499 h499 => ?_
    have c1 := h493.2; have c2 := h496.2; have c3 := h499.2
    simp only [List.mem_cons, List.not_mem_nil, or_false] at c1 c2 c3
    refine .bind' (.app (by simp; omega) (j6 (_, _, _, _) h499.1 (h2 _ (by simp; omega) ?_ ?_) h3))
    ·exact Mm (P := fun k s => StOk nodes.length k s ∧ s.Node < i + 1) (fun k s W => ⟨(M.so k s W).1, by have := (M.so k s W).2; omega⟩) ⟨⟨rfl, ⟨by dsimp only; omega, by dsimp only; omega⟩, by dsimp only; omega, by dsimp only; omega, by dsimp only; omega⟩, by dsimp only; omega⟩
    ·exact lH (f := Station.Node) M.su fun k p W => (M.so k p W).2
   ·unfold W8.J8
    refine Bo (fun h => by cases h) fun _ => j6 (_, _, _, _) h1 old h3
  have j9 : ∀ (j : Li × Int × Bool), SrcOk ⟨j.1, j.2.1⟩ → (i = 0 ∨ i = (nodes.length : Int) - 1 → j.2.2 = true) → i < (nodes.length : Int) →
    Ok (W8.J9 (L_, At, nodes) (L_, At, Y, sts, i) j) (Sum.elim (fun G => (SrcOk ⟨G.1, G.2.1⟩ ∧ PortsInv nodes.length G.2.2.2.2 G.2.2.1 G.2.2.2.1) ∧ nodes.length - G.2.2.2.2.toNat < nodes.length - i.toNat) fun d => SrcOk ⟨d.1, d.2.1⟩ ∧ PortsInv nodes.length (nodes.length : Int) d.2.2.1 d.2.2.2) := by
   intro j h1 h2 h3
   have hpl := M.pl
   have hp1 := M.p1
   unfold W8.J9
   refine Bo (fun _ => ?_) fun hb => j7 (_, _, _) h1 (fun O q1 q2 q3 => ?_) h3
   ·refine .bind' (.eq (P2 (by dsimp only; omega)) ?_)
    refine .bind (C8 h1 (by decide) (by decide)) fun r518 h518 => ?_
    have c1 := h518.2
    simp only [List.mem_cons, List.not_mem_nil, or_false] at c1
    refine .bind' (.app (by simp; omega) (j7 (_, _, _) h518.1 (fun O q1 q2 q3 => ⟨by omega, by simp; omega, by simp, fun _ => by simp; omega, ?_, ?_, q1, q2, q3⟩) h3))
    ·exact Mm (P := fun k s => PortOk nodes.length k s ∧ s.Node < i + 1) (fun k s W => ⟨(M.po k s W).1, by have := (M.po k s W).2; omega⟩) ⟨⟨rfl, ⟨by dsimp only; omega, by dsimp only; omega⟩, by dsimp only; omega⟩, by dsimp only; omega⟩
    ·exact lH (f := Port.Node) M.pu fun k p W => (M.po k p W).2
   ·have hi0 : ¬ (i = 0 ∨ i = (nodes.length : Int) - 1) := fun h => by rw [h2 h] at hb; cases hb
    exact ⟨by omega, by dsimp only; omega, fun _ => by dsimp only; omega, fun _ => by omega, fun k s W => ⟨(M.po k s W).1, by have := (M.po k s W).2; omega⟩, M.pu, q1, q2, q3⟩
  unfold W8.B5
  dsimp only
  rw [Be (by omega)]
  refine A8 (fun h => ?_) fun h => .pure ⟨Z, ?_⟩
  ·refine Dc (fun h0 => j9 (_, _, _) Z (fun _ => rfl) (by omega)) fun h0 => Dc (fun h1 => j9 (_, _, _) Z (fun _ => rfl) (by omega)) fun h1 => ?_
   refine .bind (E4 Z (by decide) (by decide)) fun r527 h527 => j9 (_, _, _) h527.1 (fun h => by omega) (by omega)
  ·have : i = (nodes.length : Int) := by omega
   rw [← this]; exact M
 rintro ⟨L_, At, Y, sts⟩ ⟨hs, M⟩
 dsimp only at hs M
 unfold W8.J4
 have := M.pl; have := M.sl
 exact .pure ⟨⟨hn, hnm, hsl, hss, ⟨M.p2 rfl, by dsimp only; omega⟩, fun k s W => (M.po k s W).1, M.pu, by dsimp only; omega, fun k s W => (M.so k s W).1, M.su, by dsimp only; omega, by dsimp only; omega⟩, hs⟩
def ind (a v : Int) : Int := if a = v then 1 else 0
def wt (n : Nw) (v : Int) : Li := n.Segments.map fun s => ind s.To v - ind s.From v
def wp (n : Nw) (v : Int) : Li := n.Ports.map fun p => ind p.Node v
structure RateOk (s : Segment) (r : Int) : Prop where
 rng : -1000 ≤ r ∧ r ≤ 1000 ∧ -s.Capacity ≤ r ∧ r ≤ s.Capacity
 up : s.From < s.To → 0 ≤ r
 down : s.To < s.From → r ≤ 0
structure PlInv (n : Network) (rates ports : List Int) : Prop where
 rl : rates.length = n.Segments.length
 pl : ports.length = n.Ports.length
 rng : ∀ (k : Nat) (r : Int) (s : Sg), rates[k]? = some r → n.Segments[k]? = some s → RateOk s r
 prt : ∀ (k : Nat) (x : Int), ports[k]? = some x → -1000 ≤ x ∧ x ≤ 1000
 bal : ∀ v, Gr (wt n v) rates + Gr (wp n v) ports = 0
structure Hop1 (n : Network) (rates : List Int) (rate a : Int) (i : Nat) (x : Segment) (r b : Int) : Prop where
 seg : n.Segments[i]? = some x
 old : rates[i]? = some r
 lt : a < b
 ends : x.From = a ∧ x.To = b ∨ x.To = a ∧ x.From = b
 rng : r + rate ≤ 1000 ∧ rate - r ≤ 1000 ∧ r + rate ≤ x.Capacity ∧ rate - r ≤ x.Capacity
def Qh (n : Nw) (rates : Li) (rate a k b : Int) : Prop := ∃ (i : Nat) (x : Sg) (r : Int), k = (i : Int) ∧ Hop1 n rates rate a i x r b
theorem mQ {n : Nw} {rates ports way : Li} {rate : Int} {s : V4} {l : Li} {q e : Int} {nd : Nat → Int} (h : PlInv n rates ports) (hr : 1 ≤ rate ∧ rate ≤ 300)
  (hw : ∀ (j : Nat) (k : Int), way[j]? = some k → Qh n rates rate (nd j) k (nd (j + 1))) :
  Ok (forJ (Rk.B9 n (rate, s) (l, q, way, e)) 0 way.length rates) fun st => st.length = rates.length ∧ (∀ (k : Nat) (r : Int) (s : Sg), st[k]? = some r → n.Segments[k]? = some s → RateOk s r) ∧
   ∀ v, Gr (wt n v) st = Gr (wt n v) rates + (rate * ind (nd way.length) v - rate * ind (nd 0) v) := by
 refine .forJ (fun j st => st.length = rates.length ∧ (∀ (k : Nat) (r : Int) (s : Sg), st[k]? = some r → n.Segments[k]? = some s → RateOk s r) ∧
   (∀ (k : Nat) (s : Sg), n.Segments[k]? = some s → nd j ≤ s.From → nd j ≤ s.To → st[k]? = rates[k]?) ∧
   ∀ v, Gr (wt n v) st = Gr (wt n v) rates + (rate * ind (nd j) v - rate * ind (nd 0) v)) ⟨rfl, h.rng, fun _ _ _ _ _ => rfl, fun v => by omega⟩ ?_ fun st ⟨h1, h2, _, h4⟩ => ⟨h1, h2, h4⟩
 rintro j st hj ⟨h1, h2, h3, h4⟩
 obtain ⟨i, x, r, hk, hs, Y, hlt, G, hrng⟩ := hw j way[j] (gq hj)
 have hil := (gs hs).1
 have hst : st[i]? = some r := by
  rw [h3 i x hs (by rcases G with h | h <;> omega) (by rcases G with h | h <;> omega)]; exact Y
 have Z := h.rng i r x Y hs
 have o1 := Z.rng; have o2 := Z.up; have o3 := Z.down
 have hw : ∀ v, (wt n v)[i]? = some (ind x.To v - ind x.From v) := fun v => by unfold wt; rw [List.getElem?_map, hs]; rfl
 have fin : ∀ y : Int, RateOk x y → (∀ v, (ind x.To v - ind x.From v) * (y - r) = rate * ind (nd (j + 1)) v - rate * ind (nd j) v) → Ok (Rk.J10 (st.set i y)) fun st => st.length = rates.length ∧ (∀ (k : Nat) (r : Int) (s : Sg), st[k]? = some r → n.Segments[k]? = some s → RateOk s r) ∧
   (∀ (k : Nat) (s : Sg), n.Segments[k]? = some s → nd (j + 1) ≤ s.From → nd (j + 1) ≤ s.To → st[k]? = rates[k]?) ∧
   ∀ v, Gr (wt n v) st = Gr (wt n v) rates + (rate * ind (nd (j + 1)) v - rate * ind (nd 0) v) := by
  intro y hy hyv
  unfold Rk.J10
  refine .pure ⟨by simp [h1], fun k r' s' W M => ?_, fun k s' M a1 a2 => ?_, fun v => ?_⟩
  ·rw [Fp] at W
   split at W
   ·rename_i hik
    obtain ⟨rfl, _⟩ := hik
    simp at W; subst W
    rw [hs] at M; simp at M; subst M; exact hy
   ·exact h2 k r' s' W M
  ·have hne : i ≠ k := by
    rintro rfl
    rw [hs] at M; simp at M; subst M
    rcases G with h | h <;> omega
   rw [List.getElem?_set_ne hne]
   exact h3 k s' M (by omega) (by omega)
  ·rw [Xm (hw v) hst, h4 v, hyv v]; omega
 unfold Rk.B9
 refine .bind' (.ix j rfl hj ?_)
 dsimp only
 rw [hk]
 refine .bind' (.ix i rfl hil ?_)
 have hx : n.Segments[i] = x := by
  have := gq hil
  rw [hs] at this; exact (Option.some.inj this).symm
 have O := (gs hst).1
 have hsr : st[i] = r := by
  have := gq O
  rw [hst] at this; exact (Option.some.inj this).symm
 dsimp only
 rw [hx]
 refine A8 (fun hft => ?_) fun hft => ?_
 ·refine .bind' (.ix i rfl O ?_)
  dsimp only
  rw [hsr, Be (by omega)]
  have he : x.From = nd j ∧ x.To = nd (j + 1) := by rcases G with h | h <;> omega
  have := o2 hft
  refine fin _ ⟨by omega, fun _ => by omega, fun _ => by omega⟩ fun v => ?_
  rw [he.1, he.2, show r + rate - r = rate by omega, Int.sub_mul, Int.mul_comm, Int.mul_comm (ind (nd j) v)]
 ·refine .bind' (.ix i rfl O ?_)
  dsimp only
  rw [hsr, Be (by omega)]
  have he : x.To = nd j ∧ x.From = nd (j + 1) := by rcases G with h | h <;> omega
  have := o3 (by omega)
  refine fin _ ⟨by omega, fun _ => by omega, fun _ => by omega⟩ fun v => ?_
  rw [he.1, he.2, show r - rate - r = -rate by omega, Int.sub_mul, Int.mul_neg, Int.mul_neg, Int.mul_comm, Int.mul_comm (ind (nd (j + 1)) v)]; omega
end Go.Proofs.YtaoclefkknloiaaGreat
