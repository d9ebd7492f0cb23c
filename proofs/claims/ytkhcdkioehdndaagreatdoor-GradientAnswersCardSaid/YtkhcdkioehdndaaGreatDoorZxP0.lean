/- Plain proofs. No condition. -/
import Derived.Test.YtkhcdkioehdndaaGreatDoorZxB2
import Derived.Test.YtkhcdkioehdndaaGreatDoorZxD
import Derived.Lib.SlicesCompact
set_option maxRecDepth 100000
namespace Go.Aw
set_option linter.unusedVariables false
set_option linter.defProp false
set_option linter.unusedSimpArgs false
def Ok {α : Type} (o : Option α) (P : α → Prop) : Prop := ∃ r, o = some r ∧ P r
section
variable {α β S B : Type}
theorem Ok.pure {x : α} {P : α → Prop} (h : P x) : Ok (some x) P := ⟨x, rfl, h⟩
theorem Ok.get {o : Option α} {P : α → Prop} (h : Ok o P) : ∃ r, o = some r ∧ P r := h
theorem Ok.mono {o : Option α} {P Q : α → Prop} (h : Ok o P) (k : ∀ x, P x → Q x) : Ok o Q := let ⟨r, h1, h2⟩ := h; ⟨r, h1, k r h2⟩
theorem Ok.bind {o : Option α} {f : α → Option β} {P : β → Prop} {Q : α → Prop} (h : Ok o Q) (k : ∀ x, Q x → Ok (f x) P) : Ok (o.bind f) P := by
 obtain ⟨r, rfl, D⟩ := h; exact k r D
theorem Ok.bind' {o : Option α} {f : α → Option β} {P : β → Prop} (h : Ok o fun x => Ok (f x) P) : Ok (o.bind f) P := h.bind fun _ k => k
theorem Ok.eq {o : Option α} {P : α → Prop} {x : α} (h : o = some x) (k : P x) : Ok o P := ⟨x, h, k⟩
theorem fE {c : Prop} [Decidable c] {a b : Option α} {P : α → Prop} (h1 : c → Ok a P) (h2 : ¬ c → Ok b P) : Ok (if c then a else b) P := by
 split <;> simp_all
theorem Ok.map {o : Option α} {f : α → β} {P : β → Prop} (h : Ok o fun x => P (f x)) : Ok (o.map f) P := by
 obtain ⟨r, rfl, D⟩ := h; exact ⟨_, rfl, D⟩
theorem Ok.chk {p : Prop} [Decidable p] {P : Unit → Prop} (h : p) (k : P ()) : Ok (chk p) P := ⟨(), fB h, k⟩
theorem Ok.ix {l : List α} {i : Int} {P : Nat × α → Prop} (k : Nat) (hi : i = (k : Int)) (D : k < l.length) (h : P (k, l[k])) : Ok (ix l i) P := by
 subst hi; exact ⟨_, A6 (gq D), h⟩
theorem Ok.ix' {l : List α} {i : Int} {P : Nat × α → Prop} (G : 0 ≤ i) (M : i < (l.length : Int)) (h : ∀ (k : Nat) (x : α), i = (k : Int) → l[k]? = some x → P (k, x)) : Ok (Aw.ix l i) P := by
 obtain ⟨k, rfl⟩ : ∃ k : Nat, i = (k : Int) := ⟨i.toNat, by omega⟩
 have D : k < l.length := by omega
 exact ⟨_, A6 (gq D), h k _ rfl (gq D)⟩
theorem Ok.app {l m : List α} {P : List α → Prop} (hl : l.length + m.length ≤ 68719476736) (h : P (l ++ m)) : Ok (Dy l m) P := ⟨_, Q8 hl, h⟩
theorem Ok.mk {n : Int} {z : α} {P : List α → Prop} (m : Nat) (D : n = (m : Int)) (hl : m ≤ 68719476736) (h : P (List.replicate m z)) : Ok (dR n z) P := by
 subst D; exact ⟨_, eQ z hl, h⟩
theorem Ok.quo {a b : Int} {P : Int → Prop} (hb : b ≠ 0) (h : P (wr (a.tdiv b))) : Ok (Vb a b) P := ⟨_, if_pos hb, h⟩
theorem Ok.rem {a b : Int} {P : Int → Prop} (hb : b ≠ 0) (h : P (a.tmod b)) : Ok (Rn a b) P := ⟨_, if_pos hb, h⟩
theorem Ok.sub {l : List α} {a b : Int} {P : List α → Prop} (x y : Nat) (D : a = (x : Int)) (hb : b = (y : Int)) (G : x ≤ y) (hl : y ≤ l.length) (h : P ((l.drop x).take (y - x))) : Ok (Va l a b) P := by
 subst D; subst hb
 exact ⟨_, if_pos ⟨by omega, by omega, by omega⟩, by simpa using h⟩
theorem Ka {f : Nat → α → S → Option S} (I : Nat → S → Prop) (l : List α) : ∀ (m : List α) (k : Nat), l.drop k = m → ∀ D, I k D →
  (∀ k x D, l[k]? = some x → I k D → Ok (f k x D) (I (k + 1))) → k ≤ l.length → Ok (forS f k m D) (I l.length)
 | [], k, hm, D, hi, _, hk => by
  have : l.length - k = 0 := by simpa using congrArg List.length hm
  have : k = l.length := by omega
  subst this; exact .pure hi
 | x :: m, k, hm, D, hi, hf, hk => by
  have M : l[k]? = some x := by have := congrArg (fun z => z[0]?) hm; simpa using this
  have G : l.drop (k + 1) = m := by have := congrArg (List.drop 1) hm; simpa [Nat.add_comm] using this
  obtain ⟨Z, O, Y⟩ := hf k x D M hi
  simp only [forS, O]
  exact Ka I l m (k + 1) G Z Y hf (by have := (gs M).1; omega)
theorem Ok.forS {f : Nat → α → S → Option S} {l : List α} {D : S} {P : S → Prop} (I : Nat → S → Prop) (G : I 0 D)
  (hf : ∀ k x D, l[k]? = some x → I k D → Ok (f k x D) (I (k + 1))) (M : ∀ D, I l.length D → P D) : Ok (forS f 0 l D) P :=
 (Ka I l l 0 rfl D G hf (Nat.zero_le _)).mono M
theorem Kb {f : Nat → α → S → Option (S ⊕ B)} (I : Nat → S → Prop) (R : B → Prop) (l : List α) : ∀ (m : List α) (k : Nat), l.drop k = m → ∀ D, I k D →
  (∀ k x D, l[k]? = some x → I k D → Ok (f k x D) (Sum.elim (fun s => I (k + 1) s) R)) → k ≤ l.length → Ok (forL f k m D) (Sum.elim (fun s => I l.length s) R)
 | [], k, hm, D, hi, _, hk => by
  have : l.length - k = 0 := by simpa using congrArg List.length hm
  have : k = l.length := by omega
  subst this; exact .pure hi
 | x :: m, k, hm, D, hi, hf, hk => by
  have Z : l[k]? = some x := by have := congrArg (fun z => z[0]?) hm; simpa using this
  have G : l.drop (k + 1) = m := by have := congrArg (List.drop 1) hm; simpa [Nat.add_comm] using this
  obtain ⟨M, O, Y⟩ := hf k x D Z hi
  cases M with
  | inl M =>
   simp only [forL, O]
   exact Kb I R l m (k + 1) G M Y hf (by have := (gs Z).1; omega)
  | inr b => simp only [forL, O]; exact .pure Y
theorem Ok.forL {f : Nat → α → S → Option (S ⊕ B)} {l : List α} {D : S} {P : S ⊕ B → Prop} (I : Nat → S → Prop) (R : B → Prop) (G : I 0 D)
  (hf : ∀ k x D, l[k]? = some x → I k D → Ok (f k x D) (Sum.elim (fun s => I (k + 1) s) R)) (M : ∀ D, I l.length D → P (.inl D)) (O : ∀ b, R b → P (.inr b)) : Ok (forL f 0 l D) P :=
 (Kb I R l l 0 rfl D G hf (Nat.zero_le _)).mono fun x h => by cases x with | inl s => exact M s h | inr b => exact O b h
theorem Kc {f : Nat → S → Option S} (I : Nat → S → Prop) (n : Nat) : ∀ (m k : Nat), k + m = n → ∀ D, I k D →
  (∀ k D, k < n → I k D → Ok (f k D) (I (k + 1))) → Ok (forJ f k m D) (I n)
 | 0, k, hm, D, hi, _ => by have : k = n := (by omega); subst this; exact .pure hi
 | m + 1, k, hm, D, hi, hf => by
  obtain ⟨O, G, M⟩ := hf k D (by omega) hi
  simp only [forJ, G]
  exact Kc I n m (k + 1) (by omega) O M hf
theorem Ok.forJ {f : Nat → S → Option S} {n : Nat} {D : S} {P : S → Prop} (I : Nat → S → Prop) (G : I 0 D)
  (hf : ∀ k D, k < n → I k D → Ok (f k D) (I (k + 1))) (M : ∀ D, I n D → P D) : Ok (forJ f 0 n D) P :=
 (Kc I n n 0 (by omega) D G hf).mono M
theorem Kd {f : Nat → S → Option (S ⊕ B)} (I : Nat → S → Prop) (R : B → Prop) (n : Nat) : ∀ (m k : Nat), k + m = n → ∀ D, I k D →
  (∀ k D, k < n → I k D → Ok (f k D) (Sum.elim (fun s => I (k + 1) s) R)) → Ok (forI f k m D) (Sum.elim (fun s => I n s) R)
 | 0, k, hm, D, hi, _ => by have : k = n := (by omega); subst this; exact .pure hi
 | m + 1, k, hm, D, hi, hf => by
  obtain ⟨G, M, O⟩ := hf k D (by omega) hi
  cases G with
  | inl G =>
   simp only [forI, M]
   exact Kd I R n m (k + 1) (by omega) G O hf
  | inr b => simp only [forI, M]; exact .pure O
theorem Ok.forI {f : Nat → S → Option (S ⊕ B)} {n : Nat} {D : S} {P : S ⊕ B → Prop} (I : Nat → S → Prop) (R : B → Prop) (G : I 0 D)
  (hf : ∀ k D, k < n → I k D → Ok (f k D) (Sum.elim (fun s => I (k + 1) s) R)) (M : ∀ D, I n D → P (.inl D)) (O : ∀ b, R b → P (.inr b)) : Ok (forI f 0 n D) P :=
 (Kd I R n n 0 (by omega) D G hf).mono fun x h => by cases x with | inl s => exact M s h | inr b => exact O b h
theorem J0 {f : S → Option (S ⊕ B)} {P : B → Prop} (I : S → Prop) (μ : S → Nat) (hf : ∀ D, I D → Ok (f D) (Sum.elim (fun s => I s ∧ μ s < μ D) P)) :
  ∀ (n : Nat) (D : S), I D → μ D < n → Ok (C2 f n D) P
 | 0, D, _, h => absurd h (Nat.not_lt_zero _)
 | n + 1, D, hi, h => by
  obtain ⟨r, M, G⟩ := hf D hi
  cases r with
  | inl s =>
   simp only [C2, M]
   exact J0 I μ hf n s G.1 (by have := G.2; omega)
  | inr b => simp only [C2, M]; exact .pure G
theorem Ok.loop {f : S → Option (S ⊕ B)} {P : B → Prop} {D : S} (I : S → Prop) (μ : S → Nat) (G : I D) (M : μ D < 18446744073709551616)
  (hf : ∀ D, I D → Ok (f D) (Sum.elim (fun s => I s ∧ μ s < μ D) P)) : Ok (C2 f E4 D) P :=
 J0 I μ hf _ D G M
end
inductive Conn (R : Nat → Nat → Prop) : Nat → Nat → Prop
 | refl (x : Nat) : Conn R x x
 | edge {x y : Nat} : R x y → Conn R x y
 | symm {x y : Nat} : Conn R x y → Conn R y x
 | trans {x y z : Nat} : Conn R x y → Conn R y z → Conn R x z
theorem Conn.mono {R R' : Nat → Nat → Prop} (h : ∀ x y, R x y → Conn R' x y) {x y : Nat} (c : Conn R x y) : Conn R' x y := by
 induction c with
 | refl x => exact .refl x
 | edge e => exact h _ _ e
 | symm _ ih => exact ih.symm
 | trans _ _ i1 i2 => exact i1.trans i2
end Go.Aw
namespace Go.Proofs.YtkhcdkioehdndaaGreatDoor
set_option linter.unusedVariables false
set_option linter.defProp false
set_option linter.unusedSimpArgs false
open Go.Aw
abbrev S2 := KS
structure SrcOk (s : S2) : Prop where
 at0 : 0 ≤ s.At
 at1 : s.At ≤ (s.L_.length : Int)
 len : s.L_.length ≤ 2000
theorem SrcOk.eta {s : S2} (h : SrcOk s) : SrcOk ⟨s.L_, s.At⟩ := h
theorem As {α : Type} {c : Prop} [Decidable c] {a b : Option α} {P : α → Prop} (h1 : c → Ok a P) (h2 : ¬ c → Ok b P) : Ok (if decide c = true then a else b) P := by
 by_cases D : c
 ·rw [if_pos (by simp [D])]; exact h1 D
 ·rw [if_neg (by simp [D])]; exact h2 D
theorem Bd {α : Type} {c : Bool} {a b : Option α} {P : α → Prop} (h1 : c = true → Ok a P) (h2 : c = false → Ok b P) : Ok (if c = true then a else b) P := by
 cases c
 ·rw [if_neg (by simp)]; exact h2 rfl
 ·rw [if_pos rfl]; exact h1 rfl
theorem Eh {α : Type} {c : Bool} {a b : Option α} {P : α → Prop} (h1 : c = false → Ok a P) (h2 : c = true → Ok b P) : Ok (if (!c) = true then a else b) P := by
 cases c
 ·exact h1 rfl
 ·exact h2 rfl
theorem Hz {α : Type} {x y : Int} {a b : Option α} {P : α → Prop} (h1 : x = y → Ok a P) (h2 : x ≠ y → Ok b P) : Ok (if (x == y) = true then a else b) P := by
 by_cases h : x = y
 ·rw [if_pos (by simp [h])]; exact h1 h
 ·rw [if_neg (by simp [h])]; exact h2 h
theorem Eo {α : Type} {x y : Int} {a b : Option α} {P : α → Prop} (h1 : x ≠ y → Ok a P) (h2 : x = y → Ok b P) : Ok (if (x != y) = true then a else b) P := by
 by_cases h : x = y
 ·rw [if_neg (by simp [h])]; exact h2 h
 ·rw [if_pos (by simp [h])]; exact h1 h
theorem eP (x : Int) {n : Int} (h1 : 1 ≤ n) (h2 : n ≤ 9223372036854775807) : Ok (Qy x n) fun r => 0 ≤ r ∧ r < n := by
 unfold Qy Qy.J1
 have D := Int.tmod_lt_of_pos x (show 0 < n by omega)
 have G : -n < x.tmod n := by
  have := Int.tmod_lt_of_pos (-x) (show 0 < n by omega)
  rw [Int.neg_tmod] at this; omega
 refine As (fun h => by omega) fun _ => .bind' (.rem (by omega) ?_)
 refine As (fun h => .pure ?_) (fun h => .pure ?_)
 ·rw [Ap (by omega)]; omega
 ·omega
theorem eO (l : Li) : Ok (Qr l) SrcOk := by
 unfold Qr
 refine .bind' (.sub 0 (min l.length 2000) rfl (by omega) (by omega) (by omega) (.pure ?_))
 exact ⟨Int.le_refl _, by simp, by simp; omega⟩
theorem eK {s : S2} (h : SrcOk s) : Ok (Qh s) fun r => SrcOk r.2 := by
 obtain ⟨G, M, D⟩ := h
 unfold Qh
 refine As (fun _ => .pure ⟨G, M, D⟩) fun h => ?_
 simp (disch := omega) only [Ap]
 refine .bind' (.ix' (by omega) (by omega) fun k x _ _ => .pure ⟨by dsimp only; omega, by dsimp only; omega, D⟩)
theorem Jf {s : S2} (h : SrcOk s) {n : Int} (h1 : 1 ≤ n) (h2 : n ≤ 9223372036854775807) : Ok (Eb s n) fun r => SrcOk r.2 ∧ 0 ≤ r.1 ∧ r.1 < n := by
 unfold Eb
 exact .bind (eK h) fun x D => .bind (eP _ h1 h2) fun y G => .pure ⟨D, G⟩
theorem Ep {s : S2} (h : SrcOk s) {lo hi : Int} (h1 : lo ≤ hi) (h2 : -1000000000 ≤ lo) (G : hi ≤ 1000000000) : Ok (Fx s lo hi) fun r => SrcOk r.2 ∧ lo ≤ r.1 ∧ r.1 ≤ hi := by
 unfold Fx
 simp (disch := omega) only [Ap]
 refine .bind (Jf h (by omega) (by omega)) fun x D => .pure ⟨D.1, ?_⟩
 dsimp only
 rw [Ap (by omega)]; omega
theorem Dq {s : S2} (h : SrcOk s) {l : Li} (h1 : 1 ≤ l.length) (h2 : l.length ≤ 1000) : Ok (Dx s l) fun r => SrcOk r.2 ∧ r.1 ∈ l := by
 unfold Dx
 refine .bind (Jf h (by omega) (by omega)) fun x D => .bind' (.ix' D.2.1 D.2.2 fun k y _ G => .pure ⟨D.1, mg G⟩)
def nm (c : UInt8) (k : Nat) : Bt := ⟨#[c, 97 + UInt8.ofNat k]⟩
theorem Qz {c : UInt8} {k : Nat} (G : k < 26) : Kz ⟨#[c]⟩ (k : Int) = some (nm c k) := by
 unfold Kz
 have D : ((k : Int).tmod 26) = (k : Int) := by rw [Int.tmod_eq_emod_of_nonneg (by omega)]; omega
 rw [D, Ap (by omega)]
 have : k = 0 ∨ k = 1 ∨ k = 2 ∨ k = 3 ∨ k = 4 ∨ k = 5 ∨ k = 6 ∨ k = 7 ∨ k = 8 ∨ k = 9 ∨ k = 10 ∨ k = 11 ∨ k = 12 ∨ k = 13 ∨ k = 14 ∨ k = 15 ∨ k = 16 ∨ k = 17 ∨ k = 18 ∨ k = 19 ∨ k = 20 ∨ k = 21 ∨ k = 22 ∨ k = 23 ∨ k = 24 ∨ k = 25 := by omega
 rcases this with rfl | rfl | rfl | rfl | rfl | rfl | rfl | rfl | rfl | rfl | rfl | rfl | rfl | rfl | rfl | rfl | rfl | rfl | rfl | rfl | rfl | rfl | rfl | rfl | rfl | rfl <;> rfl
structure PointsOk (cap : Int) (l : List Point) : Prop where
 len : 2 ≤ l.length ∧ l.length ≤ 8
 first : ∀ p, l[0]? = some p → p.At = 0
 last : ∀ p, l[l.length - 1]? = some p → p.At = cap
 up : ∀ i p q, l[i]? = some p → l[i + 1]? = some q → p.At < q.At
 height : ∀ p, p ∈ l → -500 ≤ p.Height ∧ p.Height ≤ 5000
 limit : ∀ p, p ∈ l → 0 ≤ p.Limit ∧ p.Limit ≤ 100000000
structure SegOk (nodes k : Nat) (s : Segment) : Prop where
 name : s.Name = nm 103 k
 ends : 0 ≤ s.From ∧ s.From < (nodes : Int) ∧ 0 ≤ s.To ∧ s.To < (nodes : Int) ∧ s.From ≠ s.To
 cap : 1 ≤ s.Capacity ∧ s.Capacity ≤ 1000
 resist : 0 ≤ s.Resist ∧ s.Resist ≤ 1000
 wave : 0 ≤ s.Wave ∧ s.Wave ≤ 100000
 points : PointsOk s.Capacity s.Points
structure PortOk (nodes k : Nat) (p : Port) : Prop where
 name : p.Name = nm 113 k
 node : 0 ≤ p.Node ∧ p.Node < (nodes : Int)
 pressure : 0 ≤ p.Pressure ∧ p.Pressure ≤ 100000000
structure StOk (nodes k : Nat) (p : Station) : Prop where
 name : p.Name = nm 115 k
 node : 0 ≤ p.Node ∧ p.Node < (nodes : Int)
 head : 0 ≤ p.Head ∧ p.Head ≤ 2000000
 fall : 0 ≤ p.Fall ∧ p.Fall ≤ 100000
 suction : 0 ≤ p.Suction ∧ p.Suction ≤ 400000
structure NetOk (n : Network) : Prop where
 nodes : 2 ≤ n.Nodes.length ∧ n.Nodes.length ≤ 6
 names : ∀ k x, n.Nodes[k]? = some x → x = nm 110 k
 segs1 : n.Nodes.length - 1 ≤ n.Segments.length ∧ n.Segments.length ≤ 8
 segs : ∀ k s, n.Segments[k]? = some s → SegOk n.Nodes.length k s
 ports1 : 2 ≤ n.Ports.length ∧ n.Ports.length ≤ 6
 ports : ∀ k s, n.Ports[k]? = some s → PortOk n.Nodes.length k s
 portsUp : ∀ (i j : Nat) (p q : Port), i < j → n.Ports[i]? = some p → n.Ports[j]? = some q → p.Node < q.Node
 sts1 : n.Stations.length ≤ 6
 sts : ∀ k s, n.Stations[k]? = some s → StOk n.Nodes.length k s
 stsUp : ∀ (i j : Nat) (p q : Sn), i < j → n.Stations[i]? = some p → n.Stations[j]? = some q → p.Node < q.Node
 vapour : -100000 ≤ n.Vapour ∧ n.Vapour ≤ 50000
 settle : 0 ≤ n.Settle ∧ n.Settle ≤ 100
structure PInv (l : List Point) (at_ : Int) : Prop where
 len : 1 ≤ l.length
 first : ∀ p, l[0]? = some p → p.At = 0
 last : ∀ p, l[l.length - 1]? = some p → p.At = at_
 up : ∀ i p q, l[i]? = some p → l[i + 1]? = some q → p.At < q.At
 height : ∀ p, p ∈ l → -500 ≤ p.Height ∧ p.Height ≤ 5000
 limit : ∀ p, p ∈ l → 0 ≤ p.Limit ∧ p.Limit ≤ 100000000
theorem PInv.append {l : List Point} {at_ : Int} (h : PInv l at_) {p : Point} (h1 : at_ < p.At) (h2 : -500 ≤ p.Height ∧ p.Height ≤ 5000) (Y : 0 ≤ p.Limit ∧ p.Limit ≤ 100000000) : PInv (l ++ [p]) p.At := by
 have hl := h.len
 refine ⟨by simp, fun q D => h.first q ?_, fun q D => ?_, fun i a b M G => ?_, fun q D => ?_, fun q D => ?_⟩
 ·rw [List.getElem?_append_left (by omega)] at D; exact D
 ·rw [List.getElem?_append_right (by simp)] at D; simp at D; rw [D]
 ·rw [List.getElem?_append] at M G
  split at G
  ·rw [if_pos (by omega)] at M; exact h.up i a b M G
  ·rename_i hi
   have O := (gs G).1
   simp at O
   have : i + 1 = l.length := by omega
   rw [if_pos (by omega)] at M
   have Z := h.last a (by rw [show l.length - 1 = i by omega]; exact M)
   simp [this] at G
   rw [← G]; omega
 ·rcases List.mem_append.1 D with D | D
  ·exact h.height q D
  ·simp at D; subst D; exact h2
 ·rcases List.mem_append.1 D with D | D
  ·exact h.limit q D
  ·simp at D; subst D; exact Y
theorem PInv.done {l : List Point} {at_ : Int} (h : PInv l at_) (h1 : 2 ≤ l.length ∧ l.length ≤ 8) : PointsOk at_ l := ⟨h1, h.first, h.last, h.up, h.height, h.limit⟩
theorem S8 {n : Int} (h : 0 ≤ n) : ∃ k : Nat, n = (k : Int) := ⟨n.toNat, by omega⟩
theorem eI {s : S2} (hs : SrcOk s) {nodes k : Nat} (hk : k < 26) {a b : Int} (ha : 0 ≤ a ∧ a < (nodes : Int)) (hb : 0 ≤ b ∧ b < (nodes : Int)) (am : a ≠ b) :
  Ok (Mo s (k : Int) a b) fun r => SegOk nodes k r.1 ∧ SrcOk r.2 := by
 have aa : ∀ (j : Li × Int × Int × Int), SrcOk ⟨j.1, j.2.1⟩ → 0 ≤ j.2.2.1 ∧ j.2.2.1 < (nodes : Int) → 0 ≤ j.2.2.2 ∧ j.2.2.2 < (nodes : Int) → j.2.2.1 ≠ j.2.2.2 →
   Ok (Mo.J1 (k : Int) j) fun r => SegOk nodes k r.1 ∧ SrcOk r.2 := by
  intro j hs h1 h2 h3
  unfold Mo.J1
  refine .bind' (.eq (Qz hk) ?_)
  refine .bind (Dq hs (by decide) (by decide)) fun M af => ?_
  refine .bind (Dq af.1 (by decide) (by decide)) fun r14 ag => ?_
  refine .bind (Dq ag.1 (by decide) (by decide)) fun r17 ah => ?_
  refine .bind (Dq ah.1 (by decide) (by decide)) fun aq al => ?_
  refine .bind (Ep al.1 (by decide) (by decide) (by decide)) fun r25 h25 => ?_
  have c11 := af.2; have c14 := ag.2; have c17 := ah.2; have c22 := al.2
  simp only [List.mem_cons, List.not_mem_nil, or_false] at c11 c14 c17 c22
  refine .bind' (.app (by simp) ?_)
  refine .bind (Q := fun d : Li × Int × List Point => SrcOk ⟨d.1, d.2.1⟩ ∧ ∃ D, PInv d.2.2 D ∧ D < M.1 ∧ d.2.2.length ≤ 7) ?_ ?_
  ·refine .loop (fun G => SrcOk ⟨G.1, G.2.1⟩ ∧ PInv G.2.2.1 G.2.2.2 ∧ 0 ≤ G.2.2.2 ∧ G.2.2.2 < M.1 ∧ G.2.2.1.length ≤ 7) (fun G => 7 - G.2.2.1.length)
    ⟨h25.1, ⟨by simp, by simp, by simp, by simp, by simp; omega, by simp; omega⟩, by simp, by simp; omega, by simp⟩ (by dsimp only; omega) ?_
   rintro ⟨L_, At, ad, D⟩ ⟨i1, i2, i3, i4, i5⟩
   dsimp only at i1 i2 i3 i4 i5 ⊢
   have j4 : ∀ (x : Li × Int × Bool), SrcOk ⟨x.1, x.2.1⟩ → (x.2.2 = true → ad.length < 7) → Ok (Mo.J4 M aq (L_, At, ad, D) x) (Sum.elim (fun G => (SrcOk ⟨G.1, G.2.1⟩ ∧ PInv G.2.2.1 G.2.2.2 ∧ 0 ≤ G.2.2.2 ∧ G.2.2.2 < M.1 ∧ G.2.2.1.length ≤ 7) ∧ 7 - G.2.2.1.length < 7 - ad.length) fun d => SrcOk ⟨d.1, d.2.1⟩ ∧ ∃ D, PInv d.2.2 D ∧ D < M.1 ∧ d.2.2.length ≤ 7) := by
    intro x hx hl
    unfold Mo.J4
    refine Bd (fun hb => ?_) fun _ => .pure ⟨hx, D, i2, i4, i5⟩
    have hl := hl hb
    refine .bind (Ep hx (by decide) (by decide) (by decide)) fun r197 Y => ?_
    dsimp only
    rw [Ap (by omega)]
    refine As (fun _ => .pure ⟨Y.1, D, i2, i4, i5⟩) fun ao => ?_
    refine .bind (Ep Y.1 (by decide) (by decide) (by decide)) fun ab ai => ?_
    refine .bind (Dq ai.1 (by decide) (by decide)) fun ac Z => ?_
    have O := Z.2
    simp only [List.mem_cons, List.not_mem_nil, or_false] at O
    refine .bind (Jf Z.1 (by decide) (by decide)) fun r206 aj => ?_
    refine .bind' (.app (by simp; omega) (.pure ⟨⟨aj.1, ?_, by dsimp only; omega, by dsimp only; omega, by simp; omega⟩, by simp; omega⟩))
    have hh : -50 ≤ ab.1 * ac.1 ∧ ab.1 * ac.1 ≤ 600 := by
     rcases O with h | h | h <;> rw [h] <;> omega
    refine i2.append ?_ ?_ ?_ <;> simp (disch := omega) only [Ap] <;> omega
   unfold Mo.B3
   refine As (fun h => ?_) fun h => ?_
   ·refine .bind (Jf i1 (by decide) (by decide)) fun r213 ak => j4 (_, _, _) ak.1 fun _ => by dsimp only at h; omega
   ·exact j4 (_, _, _) i1 (by simp)
  ·rintro ⟨dl, da, dp⟩ ⟨hd, D, hp, ao, an⟩
   dsimp only at hd hp an
   unfold Mo.J2
   refine .bind (Ep hd (by decide) (by decide) (by decide)) fun ap ae => ?_
   have h1l := hp.len
   refine .bind' (.app (by simp; omega) (.pure ⟨⟨rfl, ⟨h1.1, h1.2, h2.1, h2.2, h3⟩, by dsimp only; omega, by dsimp only; omega, by dsimp only; omega, ?_⟩, ae.1⟩))
   exact (hp.append (p := ⟨M.1, ap.1, aq.1⟩) ao (by dsimp only; omega) (by dsimp only; omega)).done (by simp; omega)
 unfold Mo
 refine .bind (Jf hs (by decide) (by decide)) fun r hr => ?_
 exact Hz (fun _ => aa _ hr.1 hb ha (Ne.symm am)) fun _ => aa _ hr.1 ha hb am
theorem Ke {s : Li} {g : Int → Option Bool} {P : Int → Bool} (hg : ∀ (k : Nat) (x : Int), s[k]? = some x → g x = some (P x)) :
  Ok (M6 s g) fun r => (r = -1 ∧ ∀ (j : Nat) (y : Int), s[j]? = some y → P y = false) ∨ ∃ (k : Nat) (x : Int), r = (k : Int) ∧ s[k]? = some x ∧ P x = true ∧ ∀ (j : Nat) (y : Int), j < k → s[j]? = some y → P y = false := by
 unfold M6
 refine .bind' (.forL (fun k _ => ∀ (j : Nat) (y : Int), j < k → s[j]? = some y → P y = false) (fun r => ∃ (k : Nat) (x : Int), r = (k : Int) ∧ s[k]? = some x ∧ P x = true ∧ ∀ (j : Nat) (y : Int), j < k → s[j]? = some y → P y = false) (fun j y h => absurd h (Nat.not_lt_zero _)) ?_ ?_ ?_)
 ·intro k x _ M hi
  unfold M6.B2
  refine .bind' (.eq (hg k x M) (Bd (fun G => .pure ⟨k, x, rfl, M, G, hi⟩) fun G => .pure fun j y Y D => ?_))
  by_cases h : j < k
  ·exact hi j y h D
  ·have : j = k := by omega
   subst this
   rw [M] at D; simp at D; subst D; exact G
 ·intro _ hi
  simp only [Sum.elim_inl]
  unfold M6.J1
  exact .pure (.inl ⟨rfl, fun j y D => hi j y (gs D).1 D⟩)
 ·intro b O
  exact .pure (.inr O)
theorem Hv {s : Li} {g : Int → Option Bool} {P : Int → Bool} (hg : ∀ (k : Nat) (x : Int), s[k]? = some x → g x = some (P x)) :
  Mk s g = some (s.any P) := by
 have : Ok (Mk s g) fun r => r = s.any P := by
  unfold Mk
  refine .bind (Ke hg) fun r O => .pure ?_
  rcases O with ⟨rfl, h⟩ | ⟨k, x, rfl, D, M, _⟩
  ·have : s.any P = false := by
    rw [List.any_eq_false]
    intro x D
    obtain ⟨j, G⟩ := List.getElem?_of_mem D
    rw [h j x G]; simp
   rw [this]; rfl
  ·have : s.any P = true := List.any_eq_true.2 ⟨x, mg D, M⟩
   rw [this]; simp
 obtain ⟨r, h, rfl⟩ := this
 exact h
theorem Gw {s : List Bt} {g : Bt → Option Bool} {P : Bt → Bool} (hg : ∀ (k : Nat) (x : Bt), s[k]? = some x → g x = some (P x)) :
  Ok (Mq s g) fun r => (r = -1 ∧ ∀ (j : Nat) (y : Bt), s[j]? = some y → P y = false) ∨ ∃ (k : Nat) (x : Bt), r = (k : Int) ∧ s[k]? = some x ∧ P x = true ∧ ∀ (j : Nat) (y : Bt), j < k → s[j]? = some y → P y = false := by
 unfold Mq
 refine .bind' (.forL (fun k _ => ∀ (j : Nat) (y : Bt), j < k → s[j]? = some y → P y = false) (fun r => ∃ (k : Nat) (x : Bt), r = (k : Int) ∧ s[k]? = some x ∧ P x = true ∧ ∀ (j : Nat) (y : Bt), j < k → s[j]? = some y → P y = false) (fun j y h => absurd h (Nat.not_lt_zero _)) ?_ ?_ ?_)
 ·intro k x _ M hi
  unfold Mq.B2
  refine .bind' (.eq (hg k x M) (Bd (fun G => .pure ⟨k, x, rfl, M, G, hi⟩) fun G => .pure fun j y Y D => ?_))
  by_cases h : j < k
  ·exact hi j y h D
  ·have : j = k := by omega
   subst this
   rw [M] at D; simp at D; subst D; exact G
 ·intro _ hi
  simp only [Sum.elim_inl]
  unfold Mq.J1
  exact .pure (.inl ⟨rfl, fun j y D => hi j y (gs D).1 D⟩)
 ·intro b O
  exact .pure (.inr O)
theorem F9 {s : List Bt} {g : Bt → Option Bool} {P : Bt → Bool} (hg : ∀ (k : Nat) (x : Bt), s[k]? = some x → g x = some (P x)) :
  Mv s g = some (s.any P) := by
 have : Ok (Mv s g) fun r => r = s.any P := by
  unfold Mv
  refine .bind (Gw hg) fun r O => .pure ?_
  rcases O with ⟨rfl, h⟩ | ⟨k, x, rfl, D, M, _⟩
  ·have : s.any P = false := by
    rw [List.any_eq_false]
    intro x D
    obtain ⟨j, G⟩ := List.getElem?_of_mem D
    rw [h j x G]; simp
   rw [this]; rfl
  ·have : s.any P = true := List.any_eq_true.2 ⟨x, mg D, M⟩
   rw [this]; simp
 obtain ⟨r, h, rfl⟩ := this
 exact h
theorem Ek {s : List Sg} {g : Sg → Option Bool} {P : Sg → Bool} (hg : ∀ (k : Nat) (x : Sg), s[k]? = some x → g x = some (P x)) :
  Ok (M5 s g) fun r => (r = -1 ∧ ∀ (j : Nat) (y : Sg), s[j]? = some y → P y = false) ∨ ∃ (k : Nat) (x : Sg), r = (k : Int) ∧ s[k]? = some x ∧ P x = true ∧ ∀ (j : Nat) (y : Sg), j < k → s[j]? = some y → P y = false := by
 unfold M5
 refine .bind' (.forL (fun k _ => ∀ (j : Nat) (y : Sg), j < k → s[j]? = some y → P y = false) (fun r => ∃ (k : Nat) (x : Sg), r = (k : Int) ∧ s[k]? = some x ∧ P x = true ∧ ∀ (j : Nat) (y : Sg), j < k → s[j]? = some y → P y = false) (fun j y h => absurd h (Nat.not_lt_zero _)) ?_ ?_ ?_)
 ·intro k x _ M hi
  unfold M5.B2
  refine .bind' (.eq (hg k x M) (Bd (fun G => .pure ⟨k, x, rfl, M, G, hi⟩) fun G => .pure fun j y Y D => ?_))
  by_cases h : j < k
  ·exact hi j y h D
  ·have : j = k := by omega
   subst this
   rw [M] at D; simp at D; subst D; exact G
 ·intro _ hi
  simp only [Sum.elim_inl]
  unfold M5.J1
  exact .pure (.inl ⟨rfl, fun j y D => hi j y (gs D).1 D⟩)
 ·intro b O
  exact .pure (.inr O)
theorem Db {s : List Sg} {g : Sg → Option Bool} {P : Sg → Bool} (hg : ∀ (k : Nat) (x : Sg), s[k]? = some x → g x = some (P x)) :
  Kl s g = some (s.any P) := by
 have : Ok (Kl s g) fun r => r = s.any P := by
  unfold Kl
  refine .bind (Ek hg) fun r O => .pure ?_
  rcases O with ⟨rfl, h⟩ | ⟨k, x, rfl, D, M, _⟩
  ·have : s.any P = false := by
    rw [List.any_eq_false]
    intro x D
    obtain ⟨j, G⟩ := List.getElem?_of_mem D
    rw [h j x G]; simp
   rw [this]; rfl
  ·have : s.any P = true := List.any_eq_true.2 ⟨x, mg D, M⟩
   rw [this]; simp
 obtain ⟨r, h, rfl⟩ := this
 exact h
theorem Fm {s : List Port} {g : Port → Option Bool} {P : Port → Bool} (hg : ∀ (k : Nat) (x : Port), s[k]? = some x → g x = some (P x)) :
  Ok (Mr s g) fun r => (r = -1 ∧ ∀ (j : Nat) (y : Port), s[j]? = some y → P y = false) ∨ ∃ (k : Nat) (x : Port), r = (k : Int) ∧ s[k]? = some x ∧ P x = true ∧ ∀ (j : Nat) (y : Port), j < k → s[j]? = some y → P y = false := by
 unfold Mr
 refine .bind' (.forL (fun k _ => ∀ (j : Nat) (y : Port), j < k → s[j]? = some y → P y = false) (fun r => ∃ (k : Nat) (x : Port), r = (k : Int) ∧ s[k]? = some x ∧ P x = true ∧ ∀ (j : Nat) (y : Port), j < k → s[j]? = some y → P y = false) (fun j y h => absurd h (Nat.not_lt_zero _)) ?_ ?_ ?_)
 ·intro k x _ M hi
  unfold Mr.B2
  refine .bind' (.eq (hg k x M) (Bd (fun G => .pure ⟨k, x, rfl, M, G, hi⟩) fun G => .pure fun j y Y D => ?_))
  by_cases h : j < k
  ·exact hi j y h D
  ·have : j = k := by omega
   subst this
   rw [M] at D; simp at D; subst D; exact G
 ·intro _ hi
  simp only [Sum.elim_inl]
  unfold Mr.J1
  exact .pure (.inl ⟨rfl, fun j y D => hi j y (gs D).1 D⟩)
 ·intro b O
  exact .pure (.inr O)
theorem E2 {s : List Port} {g : Port → Option Bool} {P : Port → Bool} (hg : ∀ (k : Nat) (x : Port), s[k]? = some x → g x = some (P x)) :
  M2 s g = some (s.any P) := by
 have : Ok (M2 s g) fun r => r = s.any P := by
  unfold M2
  refine .bind (Fm hg) fun r O => .pure ?_
  rcases O with ⟨rfl, h⟩ | ⟨k, x, rfl, D, M, _⟩
  ·have : s.any P = false := by
    rw [List.any_eq_false]
    intro x D
    obtain ⟨j, G⟩ := List.getElem?_of_mem D
    rw [h j x G]; simp
   rw [this]; rfl
  ·have : s.any P = true := List.any_eq_true.2 ⟨x, mg D, M⟩
   rw [this]; simp
 obtain ⟨r, h, rfl⟩ := this
 exact h
theorem Dh {s : List Sn} {g : Sn → Option Bool} {P : Sn → Bool} (hg : ∀ (k : Nat) (x : Sn), s[k]? = some x → g x = some (P x)) :
  Ok (Kk s g) fun r => (r = -1 ∧ ∀ (j : Nat) (y : Sn), s[j]? = some y → P y = false) ∨ ∃ (k : Nat) (x : Sn), r = (k : Int) ∧ s[k]? = some x ∧ P x = true ∧ ∀ (j : Nat) (y : Sn), j < k → s[j]? = some y → P y = false := by
 unfold Kk
 refine .bind' (.forL (fun k _ => ∀ (j : Nat) (y : Sn), j < k → s[j]? = some y → P y = false) (fun r => ∃ (k : Nat) (x : Sn), r = (k : Int) ∧ s[k]? = some x ∧ P x = true ∧ ∀ (j : Nat) (y : Sn), j < k → s[j]? = some y → P y = false) (fun j y h => absurd h (Nat.not_lt_zero _)) ?_ ?_ ?_)
 ·intro k x _ M hi
  unfold Kk.B2
  refine .bind' (.eq (hg k x M) (Bd (fun G => .pure ⟨k, x, rfl, M, G, hi⟩) fun G => .pure fun j y Y D => ?_))
  by_cases h : j < k
  ·exact hi j y h D
  ·have : j = k := by omega
   subst this
   rw [M] at D; simp at D; subst D; exact G
 ·intro _ hi
  simp only [Sum.elim_inl]
  unfold Kk.J1
  exact .pure (.inl ⟨rfl, fun j y D => hi j y (gs D).1 D⟩)
 ·intro b O
  exact .pure (.inr O)
theorem Ec {s : List Sn} {g : Sn → Option Bool} {P : Sn → Bool} (hg : ∀ (k : Nat) (x : Sn), s[k]? = some x → g x = some (P x)) :
  Ml s g = some (s.any P) := by
 have : Ok (Ml s g) fun r => r = s.any P := by
  unfold Ml
  refine .bind (Dh hg) fun r O => .pure ?_
  rcases O with ⟨rfl, h⟩ | ⟨k, x, rfl, D, M, _⟩
  ·have : s.any P = false := by
    rw [List.any_eq_false]
    intro x D
    obtain ⟨j, G⟩ := List.getElem?_of_mem D
    rw [h j x G]; simp
   rw [this]; rfl
  ·have : s.any P = true := List.any_eq_true.2 ⟨x, mg D, M⟩
   rw [this]; simp
 obtain ⟨r, h, rfl⟩ := this
 exact h
theorem Ie {s : List Bt} {v : Bt} :
  Ok (Mp s v) fun r => (r = -1 ∧ ∀ (j : Nat) (y : Bt), s[j]? = some y → (Ol v y) = false) ∨ ∃ (k : Nat) (y : Bt), r = (k : Int) ∧ s[k]? = some y ∧ (Ol v y) = true ∧ ∀ (j : Nat) (y : Bt), j < k → s[j]? = some y → (Ol v y) = false := by
 unfold Mp
 refine .bind' (.forL (fun k _ => ∀ (j : Nat) (y : Bt), j < k → s[j]? = some y → (Ol v y) = false) (fun r => ∃ (k : Nat) (y : Bt), r = (k : Int) ∧ s[k]? = some y ∧ (Ol v y) = true ∧ ∀ (j : Nat) (y : Bt), j < k → s[j]? = some y → (Ol v y) = false) (fun j y h => absurd h (Nat.not_lt_zero _)) ?_ ?_ ?_)
 ·intro k x _ M hi
  unfold Mp.B2
  refine Bd (fun G => .pure ⟨k, x, rfl, M, G, hi⟩) fun G => .pure fun j y Y D => ?_
  by_cases h : j < k
  ·exact hi j y h D
  ·have : j = k := by omega
   subst this
   rw [M] at D; simp at D; subst D; exact G
 ·intro _ hi
  simp only [Sum.elim_inl]
  unfold Mp.J1
  exact .pure (.inl ⟨rfl, fun j y D => hi j y (gs D).1 D⟩)
 ·intro b O
  exact .pure (.inr O)
end Go.Proofs.YtkhcdkioehdndaaGreatDoor
namespace Go.Aw
set_option linter.unusedVariables false
set_option linter.defProp false
set_option linter.unusedSimpArgs false
theorem Ok.any {α B : Type} {f : Nat → α → Unit → Option (Unit ⊕ B)} {l : List α} {d : B} (P : Nat → α → Prop)
  (hf : ∀ (k : Nat) x, l[k]? = some x → Ok (f k x ()) fun o => (P k x ∧ o = .inr d) ∨ (¬ P k x ∧ o = .inl ())) :
  Ok (Aw.forL f 0 l ()) fun o => ((∃ (k : Nat) (x : α), l[k]? = some x ∧ P k x) ∧ o = .inr d) ∨ ((∀ (k : Nat) (x : α), l[k]? = some x → ¬ P k x) ∧ o = .inl ()) := by
 refine .forL (fun m _ => ∀ (k : Nat) (x : α), k < m → l[k]? = some x → ¬ P k x) (fun b => b = d ∧ ∃ (k : Nat) (x : α), l[k]? = some x ∧ P k x) (fun k x h => absurd h (Nat.not_lt_zero _)) ?_ ?_ ?_
 ·intro k x _ D hi
  refine (hf k x D).mono ?_
  rintro o (⟨h, rfl⟩ | ⟨h, rfl⟩)
  ·exact ⟨rfl, k, x, D, h⟩
  ·intro j y O M
   by_cases G : j = k
   ·subst G; rw [D] at M; cases M; exact h
   ·exact hi j y (by omega) M
 ·exact fun _ h => .inr ⟨fun k x D => h k x (gs D).1 D, rfl⟩
 ·rintro b ⟨rfl, h⟩; exact .inl ⟨h, rfl⟩
def hG := @Ok.any
theorem H4 {B : Type} {f : Nat → Unit → Option (Unit ⊕ B)} {n : Nat} {d : B} (P : Nat → Prop)
  (hf : ∀ (k : Nat), k < n → Ok (f k ()) fun o => (P k ∧ o = .inr d) ∨ (¬ P k ∧ o = .inl ())) :
  Ok (Aw.forI f 0 n ()) fun o => ((∃ k, k < n ∧ P k) ∧ o = .inr d) ∨ ((∀ k, k < n → ¬ P k) ∧ o = .inl ()) := by
 refine .forI (fun m _ => ∀ k, k < m → ¬ P k) (fun b => b = d ∧ ∃ k, k < n ∧ P k) (fun k h => absurd h (Nat.not_lt_zero _)) ?_ ?_ ?_
 ·intro k _ G hi
  refine (hf k G).mono ?_
  rintro o (⟨h, rfl⟩ | ⟨h, rfl⟩)
  ·exact ⟨rfl, k, G, h⟩
  ·intro j M
   by_cases D : j = k
   ·subst D; exact h
   ·exact hi j (by omega)
 ·exact fun _ h => .inr ⟨h, rfl⟩
 ·rintro b ⟨rfl, h⟩; exact .inl ⟨h, rfl⟩
theorem Ok.test {B : Type} {c : Bool} {d : B} {P : Prop} (h : c = true ↔ P) : Ok (if c = true then some (.inr d) else some (.inl ()) : Option (Unit ⊕ B)) fun o => (P ∧ o = .inr d) ∨ (¬ P ∧ o = .inl ()) := by
 by_cases D : c = true
 ·rw [if_pos D]; exact .pure (.inl ⟨h.1 D, rfl⟩)
 ·rw [if_neg D]; exact .pure (.inr ⟨fun G => D (h.2 G), rfl⟩)
theorem Uz {α B : Type} {l : List α} {k : Nat} {d : B} {f : Int → Option (Int ⊕ (B ⊕ Unit))} (P : α → Prop) (hk : k ≤ l.length) (hl : l.length ≤ 1000000)
  (hf : ∀ (i : Nat) (y : α), i < k → l[i]? = some y → Ok (f (i : Int)) fun o => (P y ∧ o = .inr (.inl d)) ∨ (¬ P y ∧ o = .inl (wr ((i : Int) + 1)))) (he : f (k : Int) = some (.inr (.inr ()))) :
  Ok (C2 f E4 0) fun o => ((∃ (j : Nat) (y : α), j < k ∧ l[j]? = some y ∧ P y) ∧ o = .inl d) ∨ ((¬ ∃ (j : Nat) (y : α), j < k ∧ l[j]? = some y ∧ P y) ∧ o = .inr ()) := by
 refine .loop (fun i : Int => 0 ≤ i ∧ i ≤ (k : Int) ∧ ∀ (j : Nat) (y : α), (j : Int) < i → l[j]? = some y → ¬ P y) (fun i => k - i.toNat) ⟨by omega, by omega, fun j y h => by omega⟩ (by omega) ?_
 rintro i ⟨i0, i1, Y⟩
 obtain ⟨i, rfl⟩ : ∃ m : Nat, i = (m : Int) := ⟨i.toNat, by omega⟩
 by_cases M : i = k
 ·subst M
  rw [he]
  exact .pure (.inr ⟨fun ⟨j, y, Z, G, hp⟩ => Y j y (by omega) G hp, rfl⟩)
 have G : l[i]? = some (l[i]'(by omega)) := gq _
 refine (hf i _ (by omega) G).mono ?_
 rintro o (⟨h, rfl⟩ | ⟨h, rfl⟩)
 ·exact .inl ⟨⟨i, _, by omega, G, h⟩, rfl⟩
 ·simp only [Sum.elim_inl]
  rw [Ap (by omega)]
  refine ⟨⟨by omega, by omega, fun j y Z D => ?_⟩, by omega⟩
  by_cases O : j = i
  ·subst O; rw [G] at D; cases D; exact h
  ·exact Y j y (by omega) D
theorem L6 {α β : Type} {l : List α} {D : List β} {g : α → List β} {f : Nat → α → List β → Option (List β)} (hf : ∀ k x D, f k x D = (Dy D (g x)).bind fun y => some y) (hg : ∀ x, (g x).length ≤ 2) (hl : l.length ≤ 1000) (O : D.length ≤ 1000000) :
  Ok (Aw.forS f 0 l D) fun r => r = D ++ l.flatMap g ∧ r.length ≤ D.length + 2000 := by
 refine .forS (fun k r => r = D ++ (l.take k).flatMap g ∧ r.length ≤ D.length + 2 * k) (by simp) ?_ fun r h => ⟨by rw [h.1]; simp, by omega⟩
 rintro k x r G ⟨rfl, h⟩
 rw [hf]
 have M := (gs G).1
 have := hg x
 refine .bind' (.app (by omega) (.pure ⟨?_, by rw [List.length_append]; omega⟩))
 rw [List.take_add_one, G]; simp
theorem Cd {α : Type} {c : Bool} {Q : Prop} {x y : Option α} {P : α → Prop} (h : c = true ↔ Q) (h1 : Q → Ok x P) (h2 : ¬ Q → Ok y P) : Ok (if c = true then x else y) P :=
 fE (fun D => h1 (h.1 D)) fun D => h2 fun G => D (h.2 G)
end Go.Aw
namespace Go.Proofs.YtkhcdkioehdndaaGreatDoor
set_option linter.unusedVariables false
set_option linter.defProp false
set_option linter.unusedSimpArgs false
open Go.Aw
theorem Hw {α β : Type} {l : List α} {g : α → β} {f : Nat → α → List β → Option (List β)} (hf : ∀ k x D, f k x D = (Dy D [g x]).bind fun y => some y) (hl : l.length ≤ 1000) :
  Ok (forS f 0 l []) fun r => r = l.map g := by
 refine .forS (fun k D => D = (l.take k).map g) (by simp) ?_ fun D h => by rw [h]; simp
 rintro k x D G rfl
 rw [hf]
 have M := (gs G).1
 refine .bind' (.app (by simp; omega) (.pure ?_))
 rw [List.take_add_one, G]
 simp
theorem R6 {n : Nw} (h1 : n.Segments.length ≤ 1000) (h2 : n.Ports.length ≤ 1000) (D : n.Stations.length ≤ 1000) :
  Ok (K2 n) fun r => r.l = [n.Nodes, n.Segments.map (·.Name), n.Ports.map (·.Name), n.Stations.map (·.Name)] := by
 unfold K2
 refine .bind (Hw (g := (·.Name)) (fun _ _ _ => rfl) h1) ?_
 rintro _ rfl
 unfold K2.J1
 refine .bind (Hw (g := (·.Name)) (fun _ _ _ => rfl) h2) ?_
 rintro _ rfl
 unfold K2.J2
 refine .bind (Hw (g := (·.Name)) (fun _ _ _ => rfl) D) ?_
 rintro _ rfl
 unfold K2.J3
 exact .pure rfl
theorem Nh (a : Bt) : Ol a a = true := by simp [Ol]
def Y2 (n : Nw) : List (List Bt) := [n.Nodes, n.Segments.map (·.Name), n.Ports.map (·.Name), n.Stations.map (·.Name)]
def Oy (s : Sg) : Prop := 2 ≤ s.Points.length ∧ s.Points.length ≤ 8
def Lim (n : Nw) : Prop := (1 ≤ n.Nodes.length ∧ n.Nodes.length ≤ 24 ∧ n.Segments.length ≤ 32 ∧ n.Ports.length ≤ 24 ∧ n.Stations.length ≤ 12) ∧ ∀ (k : Nat) (s : Sg), n.Segments[k]? = some s → Oy s
def If (c : Int) : Prop := 97 ≤ c ∧ c ≤ 122
def ch (x : Bt) (k : Nat) : Int := ((x.data.getD k 0).toNat : Int)
def Hk (x : Bt) : Prop := (1 ≤ x.size ∧ x.size ≤ 12 ∧ If (ch x 0)) ∧ ∀ k, k < x.size → If (ch x k) ∨ (48 ≤ ch x k ∧ ch x k ≤ 57) ∨ ch x k = 45
def Td (l : List Bt) : Prop := ∃ (k : Nat) (x : Bt), l[k]? = some x ∧ ¬ Hk x
def Hp (n : Nw) : Prop := ∃ k, k < 4 ∧ ∃ l, (Y2 n)[k]? = some l ∧ Td l
def Y9 (l : List Bt) (k : Nat) (x : Bt) : Prop := ∃ (j : Nat) (y : Bt), j < k ∧ l[j]? = some y ∧ x.toList = y.toList
def fI (l : List Bt) : Prop := ∃ (k : Nat) (x : Bt), l[k]? = some x ∧ Y9 l k x
def Tc (l : List Sn) (k : Nat) (x : Sn) : Prop := ∃ (j : Nat) (y : Sn), j < k ∧ l[j]? = some y ∧ x.Node = y.Node
def Me (n : Nw) : Prop := ∃ k, k < 4 ∧ ∃ l, (Y2 n)[k]? = some l ∧ fI l
def Md (n : Nw) : Prop := ∃ (k : Nat) (x : Sn), n.Stations[k]? = some x ∧ Tc n.Stations k x
def At (n : Nw) (k : Int) : Prop := 0 ≤ k ∧ k < (n.Nodes.length : Int)
def Ma (n : Nw) : Prop := (∀ (k : Nat) (s : Sg), n.Segments[k]? = some s → At n s.From ∧ At n s.To) ∧ (∀ (k : Nat) (s : Port), n.Ports[k]? = some s → At n s.Node) ∧ ∀ (k : Nat) (s : Sn), n.Stations[k]? = some s → At n s.Node
def Rt (p : Point) : Prop := (-500 ≤ p.Height ∧ p.Height ≤ 5000) ∧ 0 ≤ p.Limit ∧ p.Limit ≤ 100000000
def Ii (s : Sg) (k : Nat) (p : Point) : Prop := ¬ Rt p ∨ ∃ q, 0 < k ∧ s.Points[k - 1]? = some q ∧ p.At ≤ q.At
structure PipeOk (s : Segment) : Prop where
 ends : s.From ≠ s.To
 cap : 1 ≤ s.Capacity ∧ s.Capacity ≤ 1000000
 resist : 0 ≤ s.Resist ∧ s.Resist ≤ 1000
 wave : 0 ≤ s.Wave ∧ s.Wave ≤ 100000
 first : ∀ p, s.Points[0]? = some p → p.At = 0
 last : ∀ p, s.Points[s.Points.length - 1]? = some p → p.At = s.Capacity
 pts : ∀ (k : Nat) (p : Point), s.Points[k]? = some p → ¬ Ii s k p
structure StnOk (s : Station) : Prop where
 head : 0 ≤ s.Head ∧ s.Head ≤ 100000000
 fall : 0 ≤ s.Fall ∧ s.Fall ≤ 100000
 suction : 0 ≤ s.Suction ∧ s.Suction ≤ 100000000
structure Proper (n : Network) : Prop where
 segs : ∀ (k : Nat) (s : Sg), n.Segments[k]? = some s → PipeOk s
 ports : ∀ (k : Nat) (s : Port), n.Ports[k]? = some s → 0 ≤ s.Pressure ∧ s.Pressure ≤ 100000000
 sts : ∀ (k : Nat) (s : Sn), n.Stations[k]? = some s → StnOk s
 vapour : -100000 ≤ n.Vapour ∧ n.Vapour ≤ 100000000
 settle : 0 ≤ n.Settle ∧ n.Settle ≤ 100
def NetRes (n : Nw) (r : Int) : Prop := (¬ Lim n ∧ r = 4) ∨ (Lim n ∧ ((Hp n ∧ r = 3) ∨ (¬ Hp n ∧ (((Me n ∨ Md n) ∧ r = 7) ∨ (¬ (Me n ∨ Md n) ∧ ((¬ Ma n ∧ r = 8) ∨ (Ma n ∧ ((¬ Proper n ∧ r = 9) ∨ (Proper n ∧ r = 0)))))))))
theorem NetRes.uniq {n : Nw} {r r' : Int} (h : NetRes n r) (D : NetRes n r') : r = r' := by
 unfold NetRes at h D
 rcases h with ⟨a, rfl⟩ | ⟨a, ⟨b, rfl⟩ | ⟨b, ⟨c, rfl⟩ | ⟨c, ⟨d, rfl⟩ | ⟨d, ⟨e, rfl⟩ | ⟨e, rfl⟩⟩⟩⟩⟩ <;>
  rcases D with ⟨G, rfl⟩ | ⟨G, ⟨M, rfl⟩ | ⟨M, ⟨O, rfl⟩ | ⟨O, ⟨Y, rfl⟩ | ⟨Y, ⟨Z, rfl⟩ | ⟨Z, rfl⟩⟩⟩⟩⟩ <;> first | rfl | contradiction
structure Sane (n : Network) : Prop where
 nodes : n.Nodes.length ≤ 1000
 segs : n.Segments.length ≤ 1000
 ports : n.Ports.length ≤ 1000
 sts : n.Stations.length ≤ 1000
 pts : ∀ (k : Nat) (s : Sg), n.Segments[k]? = some s → s.Points.length ≤ 1000
theorem Gc {a b : Bt} : Ol a b = true ↔ a.toList = b.toList := by simp [Ol]
theorem L4 {x : Bt} {k : Nat} (h : k < x.size) : dT x (k : Int) = some (k, ch x k) := by
 unfold dT ch; rw [if_pos ⟨by omega, by omega⟩]; simp
theorem U8 {c : Bool} {P : Prop} (h : c = true ↔ P) : (c = true ∧ P) ∨ (c = false ∧ ¬ P) := by
 cases c
 ·exact .inr ⟨rfl, fun D => by cases h.2 D⟩
 ·exact .inl ⟨rfl, h.1 rfl⟩
theorem Hm {x : Bt} : Ok (Fy x) fun r => r = true ↔ Hk x := by
 have O : ¬ (1 ≤ x.size ∧ x.size ≤ 12 ∧ If (ch x 0)) → Ok (Fy.J1 x true) fun r => r = true ↔ Hk x := fun h => by
  unfold Fy.J1
  exact .pure ⟨fun h => (by cases h), fun M => absurd M.1 h⟩
 unfold Fy
 refine As (fun h => O (by omega)) fun Y => As (fun h => O (by omega)) fun Z => ?_
 refine .bind' (.eq (L4 (k := 0) (by omega)) ?_)
 have e : (Hi (ch x 0) != 1) = true ↔ ¬ If (ch x 0) := by
  unfold Hi Hi.J1 If
  by_cases a : (decide (ch x 0 ≥ 97) && decide (ch x 0 ≤ 122)) = true
  ·rw [if_pos a]; simp at a ⊢; omega
  ·rw [if_neg a]
   simp at a
   refine ⟨fun _ => by omega, fun _ => ?_⟩
   split <;> (try split) <;> rfl
 rcases U8 e with ⟨e, D⟩ | ⟨e, D⟩
 ·dsimp only; rw [e]; exact O (fun h => D h.2.2)
 dsimp only
 rw [e]
 unfold Fy.J1
 refine Bd (fun h => by cases h) fun _ => .bind' (.chk (by omega) ?_)
 refine .bind (H4 (d := false) (P := fun k => ¬ (If (ch x k) ∨ (48 ≤ ch x k ∧ ch x k ≤ 57) ∨ ch x k = 45)) fun k G => ?_) ?_
 ·unfold Fy.B3
  refine .bind' (.eq (L4 (by simpa using G)) (.test ?_))
  dsimp only
  unfold Hi Hi.J1 If
  split
  ·rename_i h; simp at h ⊢; omega
  ·split
   ·rename_i h; simp at h ⊢; omega
   ·split
    ·rename_i h; simp at h ⊢; omega
    ·rename_i Y Z D; simp at Y Z D ⊢; omega
 ·rintro _ (⟨⟨k, G, h⟩, rfl⟩ | ⟨h, rfl⟩)
  ·exact .pure ⟨fun h => (by cases h), fun M => absurd (M.2 k (by simpa using G)) h⟩
  ·refine .pure ⟨fun _ => ⟨⟨by omega, by omega, Classical.not_not.1 D⟩, fun k G => Classical.not_not.1 (h k (by simpa using G))⟩, fun _ => rfl⟩
theorem Ti {k0 : Nat} {l : List Bt} : Ok (forL (Mh.B6 (k0, l)) 0 l ()) fun o => (fI l ∧ o = .inr true) ∨ (¬ fI l ∧ o = .inl ()) := by
 refine (Ok.any (d := true) (P := Y9 l) fun k x M => ?_).mono fun o h => h.imp (fun h => h) fun h => ⟨fun ⟨k, x, M, Y⟩ => h.1 k x M Y, h.2⟩
 unfold Mh.B6
 refine .bind Ie fun r hr => .test ?_
 rcases hr with ⟨rfl, h⟩ | ⟨j, y, rfl, hj, Z, G⟩
 ·have := h k x M
  rw [Nh] at this; cases this
 ·simp only [decide_eq_true_eq]
  refine ⟨fun h => ⟨j, y, by omega, hj, Gc.1 Z⟩, fun ⟨i, z, hi, hz, O⟩ => ?_⟩
  by_cases D : i < j
  ·have := G i z D hz
   rw [Gc.2 O] at this; cases this
  ·omega
theorem T7 {n : Nw} {l : List (List Bt)} (h : l = Y2 n) {k : Nat} (D : k < 4) : ∃ x, l[k]? = some x ∧ (Y2 n)[k]? = some x := by
 subst h
 exact ⟨(Y2 n)[k]'D, gq _, gq _⟩
theorem Zw {n : Nw} (Z : Sane n) : Ok (Mh n) fun r => r = true ↔ (Me n ∨ Md n) := by
 unfold Mh
 refine .bind (R6 Z.segs Z.ports Z.sts) fun r hr => .bind (H4 (d := true) (P := fun k => ∃ l, (Y2 n)[k]? = some l ∧ fI l) fun k O => ?_) ?_
 ·obtain ⟨l, h1, D⟩ := T7 hr O
  unfold Mh.B4
  refine .bind' (.eq (A6 h1) (.bind Ti ?_))
  rintro _ (⟨h, rfl⟩ | ⟨h, rfl⟩)
  ·exact .pure (.inl ⟨⟨l, D, h⟩, rfl⟩)
  ·refine .pure (.inr ⟨fun ⟨m, h3, h4⟩ => ?_, rfl⟩)
   rw [D] at h3; cases h3; exact h h4
 rintro _ (⟨h, rfl⟩ | ⟨h, rfl⟩)
 ·exact .pure ⟨fun _ => .inl h, fun _ => rfl⟩
 unfold Mh.J1
 refine .bind (Ok.any (d := true) (P := Tc n.Stations) fun k x hx => ?_) ?_
 ·unfold Mh.B3
  refine .bind (Dh (P := fun y => Hf y x) fun _ _ _ => rfl) fun r hr => .test ?_
  rcases hr with ⟨rfl, h⟩ | ⟨j, y, rfl, hj, he, Y⟩
  ·have := h k x hx
   simp [Hf] at this
  ·simp only [decide_eq_true_eq]
   refine ⟨fun h => ⟨j, y, by omega, hj, by simp [Hf] at he; exact he.symm⟩, fun ⟨i, z, hi, hz, hxz⟩ => ?_⟩
   by_cases M : i < j
   ·have := Y i z M hz
    simp [Hf, hxz] at this
   ·omega
 ·rintro _ (⟨G, rfl⟩ | ⟨G, rfl⟩)
  ·exact .pure ⟨fun _ => .inr G, fun _ => rfl⟩
  ·refine .pure ⟨fun h => (by cases h), fun D => ?_⟩
   rcases D with ⟨k, O, D⟩ | ⟨k, x, hx, hd⟩
   ·exact absurd D (h k O)
   ·exact absurd hd (G k x hx)
theorem Z4 {n : Nw} (O : Sane n) : Ok (M3 n) fun r => r = true ↔ Ma n := by
 unfold M3
 refine .bind (L6 (g := fun s : Sg => [s.From, s.To]) (fun _ _ _ => rfl) (fun _ => by simp) O.segs (by simp)) ?_
 rintro l1 ⟨Y, G⟩
 unfold M3.J1
 refine .bind (L6 (g := fun s : Port => [s.Node]) (fun _ _ _ => rfl) (fun _ => by simp) O.ports (by simp at G; omega)) ?_
 rintro l2 ⟨Z, hl2⟩
 unfold M3.J2
 refine .bind (L6 (g := fun s : Sn => [s.Node]) (fun _ _ _ => rfl) (fun _ => by simp) O.sts (by simp at G; omega)) ?_
 rintro l3 ⟨e3, -⟩
 subst e3 Z Y
 unfold M3.J3
 refine .bind' (.eq (Hv (P := fun x => Iq x n) fun _ _ _ => rfl) (.pure ?_))
 have e : ∀ x, Iq x n = false ↔ At n x := fun x => by unfold At; simp [Iq]
 rw [Bool.not_eq_true', List.any_eq_false]
 simp only [List.nil_append, List.mem_append, List.mem_flatMap, List.mem_cons, List.not_mem_nil, or_false, Bool.not_eq_true, e]
 refine ⟨fun h => ⟨fun k s D => ⟨h _ (.inl (.inl ⟨s, mg D, .inl rfl⟩)), h _ (.inl (.inl ⟨s, mg D, .inr rfl⟩))⟩, fun k s D => h _ (.inl (.inr ⟨s, mg D, rfl⟩)), fun k s D => h _ (.inr ⟨s, mg D, rfl⟩)⟩, fun h x hx => ?_⟩
 rcases hx with (⟨s, D, rfl | rfl⟩ | ⟨s, D, rfl⟩) | ⟨s, D, rfl⟩ <;> obtain ⟨k, M⟩ := List.getElem?_of_mem D
 ·exact (h.1 k s M).1
 ·exact (h.1 k s M).2
 ·exact h.2.1 k s M
 ·exact h.2.2 k s M
theorem S9 {a b c : Int} : Cn a b c = true ↔ b ≤ a ∧ a ≤ c := by simp [Cn]
theorem Jj {a b c : Int} : (!(Cn a b c)) = true ↔ ¬ (b ≤ a ∧ a ≤ c) := by rw [← S9]; simp
theorem Uh {s : Sg} (Y : s.Points.length ≤ 1000) {k : Nat} {p : Point} (G : s.Points[k]? = some p) (M : 0 < k) : ∃ q, s.Points[k - 1]? = some q ∧ ix s.Points (wr ((k : Int) - 1)) = some (k - 1, q) := by
 have O := (gs G).1
 have D : s.Points[k - 1]? = some (s.Points[k - 1]'(by omega)) := gq _
 refine ⟨_, D, ?_⟩
 rw [Ap (by omega), show ((k : Int) - 1) = ((k - 1 : Nat) : Int) by omega]
 exact A6 D
theorem Uv {s : Sg} {k : Nat} {p q : Point} (h : Rt p) (O : 0 < k) (M : s.Points[k - 1]? = some q) : Ii s k p ↔ p.At ≤ q.At := by
 refine ⟨fun D => ?_, fun D => .inr ⟨q, O, M, D⟩⟩
 rcases D with D | ⟨Y, _, G, D⟩
 ·exact absurd h D
 ·rw [M] at G; cases G; exact D
theorem Ur {s : Sg} (h2 : 2 ≤ s.Points.length ∧ s.Points.length ≤ 1000) : ∃ p q, s.Points[0]? = some p ∧ s.Points[s.Points.length - 1]? = some q ∧ ix s.Points 0 = some (0, p) ∧ ix s.Points (wr ((s.Points.length : Int) - 1)) = some (s.Points.length - 1, q) := by
 have D : s.Points[0]? = some (s.Points[0]'(by omega)) := gq _
 have G : s.Points[s.Points.length - 1]? = some (s.Points[s.Points.length - 1]'(by omega)) := gq _
 refine ⟨_, _, D, G, A6 D, ?_⟩
 rw [Ap (by omega), show ((s.Points.length : Int) - 1) = ((s.Points.length - 1 : Nat) : Int) by omega]
 exact A6 G
theorem Ui {s : Sg} (h2 : 2 ≤ s.Points.length ∧ s.Points.length ≤ 1000) : Ok (I1 s) fun r => r = true ↔ PipeOk s := by
 obtain ⟨p0, pl, Z, el, i0, il⟩ := Ur h2
 unfold I1
 refine Cd (Q := ¬ (s.From ≠ s.To ∧ (1 ≤ s.Capacity ∧ s.Capacity ≤ 1000000) ∧ (0 ≤ s.Resist ∧ s.Resist ≤ 1000) ∧ 0 ≤ s.Wave ∧ s.Wave ≤ 100000)) ?_ (fun h => .pure ⟨fun h => (by cases h), fun D => absurd ⟨D.ends, D.cap, D.resist, D.wave⟩ h⟩) fun h => ?_
 ·simp only [Bool.or_eq_true, Jj, beq_iff_eq]; omega
 obtain ⟨a1, a2, a3, a4⟩ := Classical.not_not.1 h
 refine .bind (Ok.any (d := false) (P := Ii s) fun k p D => ?_) ?_
 ·have Y : ∀ b : Bool, (b = true ↔ Ii s k p) → Ok (I1.J4 b) fun o => (Ii s k p ∧ o = .inr false) ∨ (¬ Ii s k p ∧ o = .inl ()) := fun b h => by unfold I1.J4; exact .test h
  unfold I1.B3
  refine Cd Jj (fun h => Y _ ⟨fun _ => .inl fun G => h G.1, fun _ => rfl⟩) fun h1 => Cd Jj (fun h => Y _ ⟨fun _ => .inl fun G => h G.2, fun _ => rfl⟩) fun h3 => ?_
  have G : Rt p := ⟨Classical.not_not.1 h1, Classical.not_not.1 h3⟩
  refine As (fun M => ?_) fun M => Y _ ⟨fun h => (by cases h), fun O => ?_⟩
  ·obtain ⟨q, hq, hi⟩ := Uh h2.2 D (by omega)
   exact .bind' (.eq hi (Y _ (by rw [Uv G (by omega) hq]; simp)))
  ·rcases O with O | ⟨q, hk, _⟩
   ·exact absurd G O
   ·omega
 ·rintro _ (⟨⟨k, p, D, O⟩, rfl⟩ | ⟨h, rfl⟩)
  ·exact .pure ⟨fun h => (by cases h), fun h => absurd O (h.pts k p D)⟩
  ·simp only [Sum.elim_inl]
   unfold I1.J1 I1.J2
   rw [i0, il]
   refine .bind' (.pure (Cd (Q := p0.At = 0) (by simp) (fun M => .bind' (.pure (.pure ?_))) fun M => .pure ⟨fun h => (by cases h), fun h => absurd (h.first _ Z) M⟩))
   dsimp only
   rw [beq_iff_eq]
   refine ⟨fun hl => ⟨a1, a2, a3, a4, fun p D => ?_, fun p D => ?_, h⟩, fun D => D.last _ el⟩
   ·rw [Z] at D; cases D; exact M
   ·rw [el] at D; cases D; exact hl
theorem Hy {α : Type} {l : List α} {P : α → Bool} {Q : α → Prop} (h : ∀ (k : Nat) (x : α), l[k]? = some x → (P x = true ↔ Q x)) : l.any P = true ↔ ∃ (k : Nat) (x : α), l[k]? = some x ∧ Q x := by
 rw [List.any_eq_true]
 refine ⟨fun ⟨x, D, M⟩ => ?_, fun ⟨k, x, D, O⟩ => ⟨x, mg D, (h k x D).2 O⟩⟩
 obtain ⟨k, G⟩ := List.getElem?_of_mem D
 exact ⟨k, x, G, (h k x G).1 M⟩
theorem Lim.pts {n : Nw} (hl : Lim n) {k : Nat} {s : Sg} (D : n.Segments[k]? = some s) : 2 ≤ s.Points.length ∧ s.Points.length ≤ 1000 := by
 have := hl.2 k s D; unfold Oy at this; omega
theorem eU {n : Nw} : Ok (Mt n) fun r => r = true ↔ Lim n := by
 unfold Mt
 refine Cd (Q := ¬ (1 ≤ n.Nodes.length ∧ n.Nodes.length ≤ 24 ∧ n.Segments.length ≤ 32 ∧ n.Ports.length ≤ 24 ∧ n.Stations.length ≤ 12)) (by simp; omega) (fun h => .pure ⟨fun h => (by cases h), fun D => absurd D.1 h⟩) fun h => ?_
 refine .bind' (.eq (Db (P := fun x => Ip x) fun _ _ _ => rfl) (.pure ?_))
 have e := Hy (l := n.Segments) (P := fun x => Ip x) (Q := fun s => ¬ Oy s) fun k s _ => by simp [Ip, Oy]; omega
 rw [Bool.not_eq_true', ← Bool.not_eq_true, e]
 exact ⟨fun O => ⟨Classical.not_not.1 h, fun k s M => Classical.not_not.1 fun G => O ⟨k, s, M, G⟩⟩, fun D ⟨k, s, M, G⟩ => G (D.2 k s M)⟩
theorem Vm {n : Nw} (hl : Lim n) : Ok (Qv n) fun r => r = true ↔ Proper n := by
 unfold Qv
 refine .bind' (.eq (Db (P := fun s => !((I1 s).getD false)) fun k s D => ?_) ?_)
 ·obtain ⟨b, M, _⟩ := Ui (hl.pts D)
  unfold Qg
  rw [M]; rfl
 have O := Hy (l := n.Segments) (P := fun s => !((I1 s).getD false)) (Q := fun s => ¬ PipeOk s) fun k s D => by
  obtain ⟨b, M, he⟩ := Ui (hl.pts D)
  rw [M, ← he]; simp
 refine Cd O (fun ⟨k, s, D, G⟩ => .pure ⟨fun h => (by cases h), fun h => absurd (h.segs k s D) G⟩) fun h1 => ?_
 refine .bind' (.eq (E2 (P := fun x => Ir x) fun _ _ _ => rfl) ?_)
 have Y := Hy (l := n.Ports) (P := fun x => Ir x) (Q := fun s => ¬ (0 ≤ s.Pressure ∧ s.Pressure ≤ 100000000)) fun k s D => by unfold Ir; exact Jj
 refine Cd Y (fun ⟨k, s, D, G⟩ => .pure ⟨fun h => (by cases h), fun h => absurd (h.ports k s D) G⟩) fun h2 => ?_
 refine .bind' (.eq (Ec (P := fun x => I0 x) fun _ _ _ => rfl) ?_)
 have Z := Hy (l := n.Stations) (P := fun x => I0 x) (Q := fun s => ¬ StnOk s) fun k s D => by
  unfold I0
  simp only [Bool.or_eq_true, Jj]
  exact ⟨fun h D => h.elim (fun h => h D.head) fun h => h.elim (fun h => h D.fall) fun h => h D.suction, fun h => Classical.byContradiction fun hn => h ⟨by omega, by omega, by omega⟩⟩
 refine Cd Z (fun ⟨k, s, D, G⟩ => .pure ⟨fun h => (by cases h), fun h => absurd (h.sts k s D) G⟩) fun h3 => .pure ?_
 rw [Bool.and_eq_true, S9, S9]
 exact ⟨fun h => ⟨fun k s D => Classical.not_not.1 fun G => h1 ⟨k, s, D, G⟩, fun k s D => Classical.not_not.1 fun G => h2 ⟨k, s, D, G⟩, fun k s D => Classical.not_not.1 fun G => h3 ⟨k, s, D, G⟩, h.1, h.2⟩, fun h => ⟨h.vapour, h.settle⟩⟩
theorem Ze {n : Nw} (M : Sane n) : Ok (G2 n) (NetRes n) := by
 unfold G2
 refine .bind eU fun r1 h1 => Cd (Q := ¬ Lim n) (by rw [← h1]; simp) (fun h => .pure (.inl ⟨h, rfl⟩)) fun Z => ?_
 have G := Classical.not_not.1 Z
 refine .bind (R6 M.segs M.ports M.sts) fun r hr => .bind (H4 (d := 3) (P := fun k => ∃ l, (Y2 n)[k]? = some l ∧ Td l) fun k D => ?_) ?_
 ·obtain ⟨l, g1, g2⟩ := T7 hr D
  unfold G2.B2
  refine .bind' (.eq (A6 g1) (.bind' (.eq (F9 (P := fun x => !((Fy x).getD false)) fun j x hx => ?_) (.test ?_))))
  ·obtain ⟨b, Y, _⟩ := Hm (x := x)
   unfold Qn
   rw [Y]; rfl
  ·rw [Hy (Q := fun x => ¬ Hk x) fun j x hx => by obtain ⟨b, Y, he⟩ := Hm (x := x); rw [Y, ← he]; simp]
   exact ⟨fun h => ⟨l, g2, h⟩, fun ⟨m, g3, h⟩ => by rw [g2] at g3; cases g3; exact h⟩
 rintro _ (⟨h, rfl⟩ | ⟨h, rfl⟩)
 ·exact .pure (.inr ⟨G, .inl ⟨h, rfl⟩⟩)
 have O : ¬ Hp n := fun ⟨k, D, h'⟩ => h k D h'
 simp only [Sum.elim_inl]
 unfold G2.J1
 refine .bind (Zw M) fun r2 h2 => Cd h2 (fun h => .pure (.inr ⟨G, .inr ⟨O, .inl ⟨h, rfl⟩⟩⟩)) fun ht => ?_
 refine .bind (Z4 M) fun r3 h3 => Cd (Q := ¬ Ma n) (by rw [← h3]; simp) (fun h => .pure (.inr ⟨G, .inr ⟨O, .inr ⟨ht, .inl ⟨h, rfl⟩⟩⟩⟩)) fun D => ?_
 have D := Classical.not_not.1 D
 refine .bind (Vm G) fun r4 h4 => Cd (Q := ¬ Proper n) (by rw [← h4]; simp) (fun h => .pure (.inr ⟨G, .inr ⟨O, .inr ⟨ht, .inr ⟨D, .inl ⟨h, rfl⟩⟩⟩⟩⟩)) fun hp => ?_
 exact .pure (.inr ⟨G, .inr ⟨O, .inr ⟨ht, .inr ⟨D, .inr ⟨Classical.not_not.1 hp, rfl⟩⟩⟩⟩⟩)
theorem NetRes.good {n : Nw} (h : NetRes n 0) : Lim n ∧ ¬ Hp n ∧ ¬ (Me n ∨ Md n) ∧ Ma n ∧ Proper n := by
 rcases h with ⟨_, h⟩ | ⟨a, ⟨_, h⟩ | ⟨b, ⟨_, h⟩ | ⟨c, ⟨_, h⟩ | ⟨d, ⟨_, h⟩ | ⟨e, _⟩⟩⟩⟩⟩
 ·cases h
 ·cases h
 ·cases h
 ·cases h
 ·cases h
 ·exact ⟨a, b, c, d, e⟩
def Named (c : UInt8) (l : List Bt) : Prop := l.length ≤ 26 ∧ ∀ (k : Nat) (x : Bt), l[k]? = some x → x = nm c k
theorem NetOk.named {n : Nw} (h : NetOk n) : ∀ l, l ∈ [n.Nodes, n.Segments.map (·.Name), n.Ports.map (·.Name), n.Stations.map (·.Name)] → ∃ c, (c = 110 ∨ c = 103 ∨ c = 113 ∨ c = 115) ∧ Named c l := by
 have O := h.nodes; have Y := h.segs1; have Z := h.ports1; have h4 := h.sts1
 intro l M
 simp only [List.mem_cons, List.not_mem_nil, or_false] at M
 rcases M with rfl | rfl | rfl | rfl
 ·exact ⟨110, by simp, by omega, h.names⟩
 ·refine ⟨103, by simp, by simp; omega, fun k x D => ?_⟩
  rw [List.getElem?_map] at D
  obtain ⟨s, G, rfl⟩ := Option.map_eq_some_iff.1 D
  exact (h.segs k s G).name
 ·refine ⟨113, by simp, by simp; omega, fun k x D => ?_⟩
  rw [List.getElem?_map] at D
  obtain ⟨s, G, rfl⟩ := Option.map_eq_some_iff.1 D
  exact (h.ports k s G).name
 ·refine ⟨115, by simp, by simp; omega, fun k x D => ?_⟩
  rw [List.getElem?_map] at D
  obtain ⟨s, G, rfl⟩ := Option.map_eq_some_iff.1 D
  exact (h.sts k s G).name
theorem Um {c : UInt8} (hc : 97 ≤ c.toNat ∧ c.toNat ≤ 122) {k : Nat} (Z : k < 26) : Fy (nm c k) = some true := by
 obtain ⟨b, O, Y⟩ := Hm (x := nm c k)
 have G : ch (nm c k) 0 = (c.toNat : Int) := rfl
 have M : ch (nm c k) 1 = 97 + k := by
  show (((97 + UInt8.ofNat k).toNat : Nat) : Int) = _
  rw [UInt8.toNat_add, UInt8.toNat_ofNat', show (97 : UInt8).toNat = 97 from rfl]
  omega
 rw [O, Y.2 ⟨⟨by show 1 ≤ 2; omega, by show 2 ≤ 12; omega, by rw [G]; unfold If; omega⟩, fun j D => ?_⟩]
 have D : j < 2 := D
 refine .inl ?_
 unfold If
 match j, D with
 | 0, _ => rw [G]; omega
 | 1, _ => rw [M]; omega
theorem Zf {c : UInt8} (hc : c = 110 ∨ c = 103 ∨ c = 113 ∨ c = 115) {k : Nat} (D : k < 26) : Fy (nm c k) = some true := by
 refine Um ?_ D
 rcases hc with rfl | rfl | rfl | rfl <;> decide
theorem Zd {c : UInt8} {i j : Nat} (hi : i < 26) (O : j < 26) (h : Ol (nm c i) (nm c j) = true) : i = j := by
 have M : (nm c i).toList = (nm c j).toList := by simpa [Ol] using h
 have D : [c, 97 + UInt8.ofNat i] = [c, 97 + UInt8.ofNat j] := by simpa [nm, ByteArray.toList, ByteArray.toList.loop, ByteArray.size, ByteArray.get!] using M
 simp only [List.cons.injEq, and_true, true_and] at D
 have G := congrArg UInt8.toNat D
 simp only [UInt8.toNat_add, UInt8.toNat_ofNat'] at G
 have : (97 : UInt8).toNat = 97 := rfl
 rw [this] at G
 omega
def fW (l : List Bt) : Prop := l.length ≤ 26 ∧ (∀ (k : Nat) (x : Bt), l[k]? = some x → Fy x = some true) ∧ ∀ (i j : Nat) (x y : Bt), l[i]? = some x → l[j]? = some y → Ol x y = true → i = j
theorem Named.nmd {c : UInt8} (hc : c = 110 ∨ c = 103 ∨ c = 113 ∨ c = 115) {l : List Bt} (h : Named c l) : fW l := by
 obtain ⟨O, D⟩ := h
 refine ⟨O, fun k x M => ?_, fun i j x y hi G Y => ?_⟩
 ·have := (gs M).1
  rw [D k x M]; exact Zf hc (by omega)
 ·have Z := (gs hi).1
  have aa := (gs G).1
  have hx := D i x hi; have hy := D j y G
  subst hx; subst hy
  exact Zd (by omega) (by omega) Y
structure SegB (nodes : Nat) (s : Segment) : Prop where
 ends : 0 ≤ s.From ∧ s.From < (nodes : Int) ∧ 0 ≤ s.To ∧ s.To < (nodes : Int) ∧ s.From ≠ s.To
 cap : 1 ≤ s.Capacity ∧ s.Capacity ≤ 1000
 resist : 0 ≤ s.Resist ∧ s.Resist ≤ 1000
 wave : 0 ≤ s.Wave ∧ s.Wave ≤ 100000
 points : PointsOk s.Capacity s.Points
theorem SegOk.b {nodes k : Nat} {s : Sg} (h : SegOk nodes k s) : SegB nodes s := ⟨h.ends, h.cap, h.resist, h.wave, h.points⟩
structure NetV (n : Network) : Prop where
 nodes : 1 ≤ n.Nodes.length ∧ n.Nodes.length ≤ 6
 segs1 : n.Segments.length ≤ 8
 segs : ∀ (k : Nat) (s : Sg), n.Segments[k]? = some s → ∃ j, SegOk n.Nodes.length j s
 ports1 : n.Ports.length ≤ 6
 ports : ∀ k s, n.Ports[k]? = some s → PortOk n.Nodes.length k s
 sts1 : n.Stations.length ≤ 6
 sts : ∀ k s, n.Stations[k]? = some s → StOk n.Nodes.length k s
 stsUp : ∀ (i j : Nat) (p q : Sn), i < j → n.Stations[i]? = some p → n.Stations[j]? = some q → p.Node < q.Node
 vapour : -100000 ≤ n.Vapour ∧ n.Vapour ≤ 50000
 settle : 0 ≤ n.Settle ∧ n.Settle ≤ 100
 named : ∀ l, l ∈ [n.Nodes, n.Segments.map (·.Name), n.Ports.map (·.Name), n.Stations.map (·.Name)] → fW l
theorem NetOk.v {n : Nw} (h : NetOk n) : NetV n :=
 ⟨by have := h.nodes; omega, h.segs1.2, fun k s G => ⟨k, h.segs k s G⟩, h.ports1.2, h.ports, h.sts1, h.sts, h.stsUp, h.vapour, h.settle, fun l D => let ⟨_, hc, hn⟩ := h.named l D; hn.nmd hc⟩
structure NetW (n : Network) : Prop where
 nodes : 1 ≤ n.Nodes.length ∧ n.Nodes.length ≤ 6
 segs1 : n.Segments.length ≤ 8
 segs : ∀ (k : Nat) (s : Sg), n.Segments[k]? = some s → SegB n.Nodes.length s
 ports1 : n.Ports.length ≤ 6
 ports : ∀ (k : Nat) s, n.Ports[k]? = some s → (0 ≤ s.Node ∧ s.Node < (n.Nodes.length : Int)) ∧ 0 ≤ s.Pressure ∧ s.Pressure ≤ 100000000
 sts1 : n.Stations.length ≤ 6
 sts : ∀ k s, n.Stations[k]? = some s → StOk n.Nodes.length k s
 stsUp : ∀ (i j : Nat) (p q : Sn), i < j → n.Stations[i]? = some p → n.Stations[j]? = some q → p.Node < q.Node
 vapour : -100000 ≤ n.Vapour ∧ n.Vapour ≤ 50000
 settle : 0 ≤ n.Settle ∧ n.Settle ≤ 100
 named : ∀ l, l ∈ [n.Nodes, n.Segments.map (·.Name), n.Ports.map (·.Name), n.Stations.map (·.Name)] → fW l
theorem NetV.w {n : Nw} (h : NetV n) : NetW n :=
 ⟨h.nodes, h.segs1, fun k s D => (h.segs k s D).choose_spec.b, h.ports1, fun k s D => ⟨(h.ports k s D).node, (h.ports k s D).pressure⟩, h.sts1, h.sts, h.stsUp, h.vapour, h.settle, h.named⟩
theorem NetW.res {n : Nw} (h : NetW n) : NetRes n 0 := by
 have h1 := h.nodes; have h2 := h.segs1; have h3 := h.ports1; have h4 := h.sts1; have h5 := h.vapour; have h6 := h.settle
 refine .inr ⟨⟨by omega, fun k s D => (h.segs k s D).points.len⟩, .inr ⟨?_, .inr ⟨?_, .inr ⟨⟨fun k s D => ?_, fun k s D => (h.ports k s D).1, fun k s D => (h.sts k s D).node⟩, .inr ⟨⟨fun k s D => ?_, fun k s D => (h.ports k s D).2, fun k s D => ⟨?_, ?_, ?_⟩, by omega, h6⟩, rfl⟩⟩⟩⟩⟩
 ·rintro ⟨k, Z, l, hl, j, x, O, hn⟩
  obtain ⟨b, G, Y⟩ := Hm (x := x)
  rw [(h.named l (mg hl)).2.1 j x O] at G
  cases G
  exact hn (Y.1 rfl)
 ·rintro (⟨k, Z, l, hl, i, x, O, j, y, hj, hy, Y⟩ | ⟨i, x, O, j, y, hj, hy, Y⟩)
  ·have := (h.named l (mg hl)).2.2 i j x y O hy (Gc.2 Y)
   omega
  ·have := h.stsUp j i y x hj hy O
   omega
 ·have := (h.segs k s D).ends
  exact ⟨⟨by omega, by omega⟩, by omega, by omega⟩
 ·have D := h.segs k s D
  have M := D.points
  refine ⟨D.ends.2.2.2.2, by have := D.cap; omega, D.resist, D.wave, M.first, M.last, fun k p Z G => ?_⟩
  have hm := mg Z
  rcases G with G | ⟨q, h0, hq, hle⟩
  ·exact G ⟨M.height p hm, M.limit p hm⟩
  ·have := M.up (k - 1) q p hq (by rw [show k - 1 + 1 = k by omega]; exact Z)
   omega
 ·have := (h.sts k s D).head; omega
 ·have := (h.sts k s D).fall; omega
 ·have := (h.sts k s D).suction; omega
theorem NetW.sane {n : Nw} (h : NetW n) : Sane n := by
 have G := h.nodes; have M := h.segs1; have O := h.ports1; have Y := h.sts1
 exact ⟨by omega, by omega, by omega, by omega, fun k s D => by have := (h.segs k s D).points.len; omega⟩
theorem Vs {n : Nw} (h : NetW n) : G2 n = some 0 := by
 obtain ⟨r, D, G⟩ := Ze h.sane
 rw [D, G.uniq h.res]
theorem Vt {n : Nw} (h : NetV n) : G2 n = some 0 := Vs h.w
structure NetC (n : Network) : Prop where
 nodes : 1 ≤ n.Nodes.length ∧ n.Nodes.length ≤ 24
 segs1 : n.Segments.length ≤ 32
 segs : ∀ (k : Nat) (s : Sg), n.Segments[k]? = some s → (0 ≤ s.From ∧ s.From < (n.Nodes.length : Int) ∧ 0 ≤ s.To ∧ s.To < (n.Nodes.length : Int) ∧ s.From ≠ s.To) ∧ 1 ≤ s.Capacity ∧ s.Capacity ≤ 1000000
 ports1 : n.Ports.length ≤ 24
 ports : ∀ (k : Nat) s, n.Ports[k]? = some s → 0 ≤ s.Node ∧ s.Node < (n.Nodes.length : Int)
 sts1 : n.Stations.length ≤ 12
 check : G2 n = some 0
theorem fR {n : Nw} (h : NetRes n 0) (Z : G2 n = some 0) : NetC n := by
 obtain ⟨a, b, c, d, e⟩ := h.good
 have := a.1
 refine ⟨by omega, by omega, fun k s D => ⟨?_, (e.segs k s D).cap⟩, by omega, d.2.1, by omega, Z⟩
 obtain ⟨⟨G, M⟩, O, Y⟩ := d.1 k s D
 exact ⟨G, M, O, Y, (e.segs k s D).ends⟩
theorem Jr {a b q r : Int} (hb : 0 < b) (h : b * q + r = a) (D : 0 ≤ r) (h1 : r < b) : a / b = q ∧ a % b = r :=
 (Int.ediv_emod_unique hb).2 ⟨by omega, D, h1⟩
theorem Q7 {a b : Int} (hb : 0 < b) : (a.tmod b < 0 → a / b = a.tdiv b - 1 ∧ a % b = a.tmod b + b) ∧ (¬ a.tmod b < 0 → a / b = a.tdiv b ∧ a % b = a.tmod b) := by
 have h := Int.mul_tdiv_add_tmod a b
 have D : a.tmod b < b := Int.tmod_lt_of_pos a hb
 have M : -b < a.tmod b := by have := Int.lt_tmod_of_pos a hb; exact this
 refine ⟨fun G => Jr hb ?_ (by omega) (by omega), fun G => Jr hb h (by omega) D⟩
 rw [Int.mul_sub, Int.mul_one]; omega
def dn (a b : Int) : Int := a / b
def up (a b : Int) : Int := if 0 < a % b then a / b + 1 else a / b
theorem dU {a b : Int} (hb : 0 < b) : up a b = -((-a) / b) := by
 unfold up
 have D := Int.mul_ediv_add_emod a b; have G := Int.emod_nonneg a (by omega : b ≠ 0); have M := Int.emod_lt_of_pos a hb
 split
 ·have := (Jr (a := -a) (b := b) (q := -(a / b) - 1) (r := b - a % b) hb (by rw [Int.mul_sub, Int.mul_one, Int.mul_neg]; omega) (by omega) (by omega)).1
  omega
 ·have := (Jr (a := -a) (b := b) (q := -(a / b)) (r := 0) hb (by rw [Int.mul_neg]; omega) (by omega) hb).1
  omega
theorem eX {a b : Int} (hb : 0 < b) : dn (-a) b = - up a b := by rw [dU hb]; unfold dn; omega
theorem Er {a b : Int} (hb : 0 < b) : -(a.natAbs : Int) ≤ dn a b ∧ dn a b ≤ (a.natAbs : Int) := by
 refine ⟨?_, ?_⟩
 ·have h : b * (-(a.natAbs : Int)) ≤ a := by
   have G : (1 : Int) * a.natAbs ≤ b * a.natAbs := Int.mul_le_mul_of_nonneg_right (by omega) (by omega)
   rw [Int.mul_neg]; omega
  unfold dn
  exact (Int.le_ediv_iff_mul_le hb).2 (by rw [Int.mul_comm]; exact h)
 ·unfold dn
  by_cases D : 0 ≤ a
  ·have := Int.ediv_le_self b D; omega
  ·have := Int.ediv_neg_of_neg_of_pos (by omega : a < 0) hb; omega
theorem Jl {a b : Int} (hb : 0 < b) : -(a.natAbs : Int) ≤ up a b ∧ up a b ≤ (a.natAbs : Int) := by
 have h := Er (a := -a) hb
 rw [eX hb, Int.natAbs_neg] at h; omega
theorem Rg {l : Li} {x : Int} (h : x ∈ Lib.compact l) : x ∈ l := by
 simp only [Lib.compact, Lib.compactUpTo, List.mem_map, List.mem_filter, List.mem_range] at h
 obtain ⟨i, ⟨hi, _⟩, rfl⟩ := h
 simp [hi]
theorem N5 {l : Li} (h : l.Pairwise (· ≤ ·)) : ∀ (k : Nat) (x : Int), l[k]? = some x → ∃ j, j ≤ k ∧ l[j]? = some x ∧ Lib.keeps l.toArray j = true
 | 0, x, hx => ⟨0, Nat.le_refl _, hx, Lib.keeps_lt_one _ 0 (by omega)⟩
 | k + 1, x, hx => by
  have M := (gs hx).1
  have D : l[k]? = some l[k] := gq (by omega)
  by_cases G : x = l[k]
  ·obtain ⟨j, h1, Z, h3⟩ := N5 h k l[k] D
   exact ⟨j, by omega, by rw [G]; exact Z, h3⟩
  ·refine ⟨k + 1, Nat.le_refl _, hx, Lib.keeps_pos ?_⟩
   have O : l.toArray[k + 1]! = x := by simp [M, getElem!_pos l (k + 1) M]; exact (gs hx).2
   have Y : l.toArray[k + 1 - 1]! = l[k] := by simp [show k < l.length by omega, getElem!_pos l k (by omega)]
   rw [O, Y]; exact G
theorem Su {l : Li} (h : l.Pairwise (· ≤ ·)) {x : Int} : x ∈ Lib.compact l ↔ x ∈ l := by
 refine ⟨Rg, fun Y => ?_⟩
 obtain ⟨k, O⟩ := List.getElem?_of_mem Y
 obtain ⟨j, _, G, M⟩ := N5 h k x O
 have D := (gs G).1
 simp only [Lib.compact, Lib.compactUpTo, List.mem_map, List.mem_filter, List.mem_range]
 refine ⟨j, ⟨D, M⟩, ?_⟩
 simp [D, getElem!_pos l j D]; exact (gs G).2
theorem Tn {l : Li} (h : l.Pairwise (· ≤ ·)) : (Lib.compact l).Pairwise (· < ·) := by
 unfold Lib.compact Lib.compactUpTo
 have hr : ((List.range l.length).filter (Lib.keeps l.toArray)).Pairwise (· < ·) := List.Pairwise.filter _ List.pairwise_lt_range
 rw [List.pairwise_map]
 refine List.Pairwise.imp_of_mem ?_ hr
 intro i j hi O hij
 simp only [List.mem_filter, List.mem_range] at hi O
 have G := hi.1; have D := O.1
 have e1 : l.toArray[i]! = l[i] := by simp [G, getElem!_pos l i G]
 have Z : l.toArray[j]! = l[j] := by simp [D, getElem!_pos l j D]
 rw [e1, Z]
 have hp := List.pairwise_iff_getElem.1 h
 have Y : 0 < j := by omega
 have hne : l[j] ≠ l[j - 1] := by
  intro he
  have : Lib.keeps l.toArray j = false := Lib.keeps_neg Y (by
   rw [Z, he]
   simp [show j - 1 < l.length by omega, getElem!_pos l (j - 1) (by omega)])
  rw [this] at O
  exact absurd O.2 (by simp)
 have h1 := hp (j - 1) j (by omega) D (by omega)
 by_cases M : i = j - 1
 ·subst M; omega
 ·have := hp i (j - 1) (by omega) (by omega) (by omega)
  omega
def asc (l : Li) : Li := Lib.compact (l.mergeSort fun x y => decide (x ≤ y))
theorem Ud (l : Li) : (l.mergeSort fun x y => decide (x ≤ y)).Pairwise (· ≤ ·) := by
 have := List.pairwise_mergeSort (le := fun x y : Int => decide (x ≤ y)) (by intro a b c; simp; omega) (by intro a b; simp; omega) l
 exact this.imp (by intro a b h; simpa using h)
theorem dD {l : Li} {x : Int} : x ∈ asc l ↔ x ∈ l := by unfold asc; rw [Su (Ud l), List.mem_mergeSort]
theorem fC (l : Li) : (asc l).Pairwise (· < ·) := Tn (Ud l)
def Bj : List Piece → Int
 | [] => 0
 | p :: l => p.Volume + Bj l
theorem E8 : ∀ l m : List Piece, Bj (l ++ m) = Bj l + Bj m
 | [], m => by simp [Bj]
 | x :: l, m => by simp only [List.cons_append, Bj, E8 l m]; omega
theorem C4 {l : List Piece} {k : Nat} {p : Piece} (h : l[k]? = some p) : Bj (l.take (k + 1)) = Bj (l.take k) + p.Volume := by
 rw [List.take_add_one, h, E8]; simp [Bj]
theorem Jm : ∀ {l : List Piece}, (∀ p, p ∈ l → 1 ≤ p.Volume) → (l.length : Int) ≤ Bj l
 | [], _ => by simp [Bj]
 | x :: l, h => by
  have := h x (by simp)
  have := Jm (l := l) fun p D => h p (by simp [D])
  simp only [Bj, List.length_cons]; omega
theorem Ci {l : List Piece} (h : ∀ p, p ∈ l → 1 ≤ p.Volume) (k : Nat) : 0 ≤ Bj (l.take k) ∧ Bj (l.take k) ≤ Bj l := by
 have e : Bj l = Bj (l.take k) + Bj (l.drop k) := by rw [← E8, List.take_append_drop]
 have G := Jm (l := l.take k) fun p D => h p (List.mem_of_mem_take D)
 have M := Jm (l := l.drop k) fun p D => h p (List.mem_of_mem_drop D)
 omega
structure Pcs (l : List Piece) : Prop where
 len : l.length ≤ 12
 vol : ∀ p, p ∈ l → 1 ≤ p.Volume
 bat : ∀ p, p ∈ l → 0 ≤ p.Batch ∧ p.Batch < 4
 next : ∀ (i : Nat) (p q : Piece), l[i]? = some p → l[i + 1]? = some q → p.Batch ≠ q.Batch
structure FillOk (cap : Int) (l : List Piece) : Prop extends Pcs l where
 sum : Bj l = cap
theorem Pcs.snoc {l : List Piece} (h : Pcs l) {p : Piece} (h1 : l.length < 12) (h2 : 1 ≤ p.Volume) (M : 0 ≤ p.Batch ∧ p.Batch < 4) (O : ∀ q, l[l.length - 1]? = some q → q.Batch ≠ p.Batch) : Pcs (l ++ [p]) := by
 refine ⟨by simp; omega, fun q D => ?_, fun q D => ?_, fun i q r D G => ?_⟩
 ·rcases List.mem_append.1 D with D | D
  ·exact h.vol q D
  ·simp at D; subst D; exact h2
 ·rcases List.mem_append.1 D with D | D
  ·exact h.bat q D
  ·simp at D; subst D; exact M
 ·have hi := (gs G).1
  simp at hi
  rw [List.getElem?_append_left (by omega)] at D
  by_cases Y : i + 1 < l.length
  ·rw [List.getElem?_append_left Y] at G
   exact h.next i q r D G
  ·have : i + 1 = l.length := by omega
   rw [List.getElem?_append_right (by omega), this] at G
   simp at G; subst G
   exact O q (by rw [show l.length - 1 = i by omega]; exact D)
theorem cX {s : S2} (hs : SrcOk s) {v : Int} (hv : 1 ≤ v ∧ v ≤ 1000) : Ok (Hj s v 4) fun r => FillOk v r.1 ∧ SrcOk r.2 := by
 unfold Hj
 refine .bind (Q := fun d : Li × Int × List Piece => SrcOk ⟨d.1, d.2.1⟩ ∧ FillOk v d.2.2) ?_ fun d hd => by unfold Hj.J1; exact .pure ⟨hd.2, hd.1⟩
 refine .loop (fun G : Li × Int × Int × List Piece => SrcOk ⟨G.1, G.2.1⟩ ∧ 0 ≤ G.2.2.1 ∧ Pcs G.2.2.2 ∧ Bj G.2.2.2 + G.2.2.1 = v ∧ (G.2.2.2.length = 12 → G.2.2.1 = 0)) (fun G => G.2.2.1.toNat)
  ⟨hs, by dsimp only; omega, ⟨by simp, by simp, by simp, by simp⟩, by simp [Bj], by simp⟩ (by dsimp only; omega) ?_
 rintro ⟨L_, At, M, D⟩ ⟨h1, h2, h3, h4, h5⟩
 dsimp only at h1 h2 h3 h4 h5
 have hsum := Jm h3.vol
 have hlen := h3.len
 unfold Hj.B2
 dsimp only
 refine Bd (fun hc => ?_) fun hc => .pure ⟨h1, h3, ?_⟩
 rotate_left
 ·dsimp only
  simp at hc
  by_cases h0 : 0 < M
  ·have := hc h0; have := h5 (by omega); omega
  ·omega
 simp at hc
 refine .bind (Jf h1 (by decide) (by decide)) ?_
 rintro ⟨b, s1⟩ ⟨hs1, hb⟩
 have hw : wr ((wr (M * 2)).tdiv 3) = M * 2 / 3 := by rw [Ap (x := M * 2) (by omega), Int.tdiv_eq_ediv_of_nonneg (by omega), Ap (by omega)]
 dsimp only
 rw [hw]
 refine .bind (Ep hs1 (by omega) (by decide) (by omega)) ?_
 rintro ⟨x, s2⟩ ⟨hs2, hx⟩
 dsimp only at hb hx hs2 ⊢
 have j4 : ∀ (y : Int) (z : Int), 1 ≤ y → (D.length = 11 → y = M) → (0 ≤ z ∧ z < 4) → (∀ q, D[D.length - 1]? = some q → q.Batch ≠ z) →
   Ok (Hj.J4 (L_, At, M, D) (x, s2) y z) (Sum.elim (fun G : Li × Int × Int × List Piece => (SrcOk ⟨G.1, G.2.1⟩ ∧ 0 ≤ G.2.2.1 ∧ Pcs G.2.2.2 ∧ Bj G.2.2.2 + G.2.2.1 = v ∧ (G.2.2.2.length = 12 → G.2.2.1 = 0)) ∧ G.2.2.1.toNat < M.toNat)
    fun d : Li × Int × List Piece => SrcOk ⟨d.1, d.2.1⟩ ∧ FillOk v d.2.2) := by
  intro y z hy Z hz hq
  unfold Hj.J4
  dsimp only
  refine .bind' (.app (by simp; omega) (.pure ⟨⟨hs2.eta, ?_, h3.snoc (by omega) (by dsimp only; omega) hz hq, ?_, ?_⟩, ?_⟩))
  ·dsimp only; rw [Ap (by omega)]; omega
  ·dsimp only; rw [E8, Ap (by omega)]; simp only [Bj]; omega
  ·intro h; dsimp only at h ⊢; rw [Ap (by omega)]; simp at h; have := Z (by omega); omega
  ·dsimp only; rw [Ap (by omega)]; omega
 have j3 : ∀ y : Int, 1 ≤ y → (D.length = 11 → y = M) → Ok (Hj.J3 4 (L_, At, M, D) (b, s1) (x, s2) y) (Sum.elim (fun G : Li × Int × Int × List Piece => (SrcOk ⟨G.1, G.2.1⟩ ∧ 0 ≤ G.2.2.1 ∧ Pcs G.2.2.2 ∧ Bj G.2.2.2 + G.2.2.1 = v ∧ (G.2.2.2.length = 12 → G.2.2.1 = 0)) ∧ G.2.2.1.toNat < M.toNat)
    fun d : Li × Int × List Piece => SrcOk ⟨d.1, d.2.1⟩ ∧ FillOk v d.2.2) := by
  intro y hy Z
  unfold Hj.J3
  dsimp only
  refine As (fun h0 => ?_) fun h0 => ?_
  ·have O : D[D.length - 1]? = some (D[D.length - 1]'(by omega)) := gq _
   obtain ⟨q, hqe⟩ : ∃ q, q = D[D.length - 1]'(by omega) := ⟨_, rfl⟩
   rw [← hqe] at O
   have e0 : wr ((D.length : Int) - 1) = ((D.length - 1 : Nat) : Int) := by rw [Ap (by omega)]; omega
   rw [e0]
   have hbat := h3.bat q (mg O)
   refine .bind' (.eq (A6 O) ?_)
   dsimp only
   unfold Hj.J5
   refine Bd (fun he => ?_) fun he => ?_
   ·have he' : q.Batch = b := by simpa using he
    dsimp only
    have hr : (wr (b + 1)).tmod 4 = (b + 1) % 4 := by rw [Ap (by omega), Int.tmod_eq_emod_of_nonneg (by omega)]
    refine .bind' (.rem (by decide) ?_)
    rw [hr, e0]
    refine .bind' (.eq (A6 O) (Hz (fun h => ?_) fun h => j4 y _ hy Z (by omega) fun q' Y => ?_))
    ·dsimp only at h; omega
    ·rw [O] at Y; cases Y; exact h
   ·refine j4 y b hy Z hb fun q' Y => ?_
    rw [O] at Y; cases Y
    simpa using he
  ·unfold Hj.J5
   refine Bd (fun h => by cases h) fun _ => j4 y b hy Z hb fun q hq => ?_
   have : D.length = 0 := by omega
   have := (gs hq).1
   omega
 refine Hz (fun h => j3 M (by omega) fun _ => rfl) fun h => j3 x (by omega) fun hh => by omega
structure ProdOk (k : Nat) (p : Product) : Prop where
 name : p.Name = nm 112 k
 density : 400 ≤ p.Density ∧ p.Density ≤ 1200
 expansion : 0 ≤ p.Expansion ∧ p.Expansion ≤ 2000
 compress : 0 ≤ p.Compress ∧ p.Compress ≤ 5000
 friction : 1 ≤ p.Friction ∧ p.Friction ≤ 2000
structure ProdsOk (l : List Product) : Prop where
 len : 1 ≤ l.length ∧ l.length ≤ 4
 all : ∀ (k : Nat) (p : Product), l[k]? = some p → ProdOk k p
theorem Tj {s : S2} (Z : SrcOk s) {k : Nat} (Y : k < 26) : Ok (Qq s (k : Int)) fun r => ProdOk k r.1 ∧ SrcOk r.2 := by
 unfold Qq
 refine .bind' (.eq (Qz Y) ?_)
 refine .bind (Ep Z (by decide) (by decide) (by decide)) fun r1 D => .bind (Dq D.1 (by decide) (by decide)) fun r2 G => .bind (Dq G.1 (by decide) (by decide)) fun r3 M => .bind (Dq M.1 (by decide) (by decide)) fun r4 O => .pure ⟨⟨rfl, D.2, ?_, ?_, ?_⟩, O.1⟩
 ·have := G.2; simp at this; dsimp only; omega
 ·have := M.2; simp at this; dsimp only; omega
 ·have := O.2; simp at this; dsimp only; omega
theorem Ss {s : S2} (hs : SrcOk s) : Ok (M1 s) fun r => ProdsOk r.1 ∧ SrcOk r.2 := by
 unfold M1
 refine .bind (Ep hs (by decide) (by decide) (by decide)) ?_
 rintro ⟨c, s1⟩ ⟨M, hc⟩
 dsimp only at hc M ⊢
 refine .bind (Q := fun d : Li × Int × List Product => SrcOk ⟨d.1, d.2.1⟩ ∧ ProdsOk d.2.2) ?_ fun d hd => by unfold M1.J1; exact .pure ⟨hd.2, hd.1⟩
 refine .loop (fun D : Li × Int × List Product × Int => SrcOk ⟨D.1, D.2.1⟩ ∧ 0 ≤ D.2.2.2 ∧ (D.2.2.1.length : Int) + D.2.2.2 = c ∧ ∀ (k : Nat) (p : Product), D.2.2.1[k]? = some p → ProdOk k p) (fun D => D.2.2.2.toNat)
  ⟨M.eta, by dsimp only; omega, by simp, by simp⟩ (by dsimp only; omega) ?_
 rintro ⟨L_, At, Z, i⟩ ⟨O, h2, h3, Y⟩
 dsimp only at O h2 h3 Y
 unfold M1.B2
 dsimp only
 refine As (fun h => ?_) fun h => .pure ⟨O, by dsimp only; omega, Y⟩
 refine .bind (Tj O (by omega)) fun r hr => .bind' (.app (by simp; omega) (.pure ⟨⟨hr.2.eta, ?_, ?_, ?_⟩, ?_⟩))
 ·dsimp only; rw [Ap (by omega)]; omega
 ·dsimp only; rw [Ap (by omega)]; simp; omega
 ·intro k p G
  dsimp only at G
  rw [List.getElem?_append] at G
  split at G
  ·exact Y k p G
  ·rename_i hk
   have := (gs G).1
   simp at this
   have : k = Z.length := by omega
   subst this
   simp at G; subst G; exact hr.1
 ·dsimp only; rw [Ap (by omega)]; omega
structure BatsOk (n : Nat) (l : List Batch) : Prop where
 len : l.length = 4
 all : ∀ p, p ∈ l → 0 ≤ p.Product ∧ p.Product < (n : Int)
theorem Tr {s : S2} (hs : SrcOk s) {n : Nat} (hn : 1 ≤ n ∧ n ≤ 4) : Ok (Mw s 4 (n : Int)) fun r => BatsOk n r.1 ∧ SrcOk r.2 := by
 unfold Mw
 refine .bind (Q := fun d : Li × Int × List Batch => SrcOk ⟨d.1, d.2.1⟩ ∧ BatsOk n d.2.2) ?_ fun d hd => by unfold Mw.J1; exact .pure ⟨hd.2, hd.1⟩
 refine .loop (fun D : Li × Int × List Batch × Int => SrcOk ⟨D.1, D.2.1⟩ ∧ D.2.2.2 = (D.2.2.1.length : Int) ∧ D.2.2.1.length ≤ 4 ∧ ∀ p, p ∈ D.2.2.1 → 0 ≤ p.Product ∧ p.Product < (n : Int)) (fun D => 4 - D.2.2.1.length)
  ⟨hs.eta, by simp, by simp, by simp⟩ (by dsimp only; omega) ?_
 rintro ⟨L_, At, out, i⟩ ⟨Y, h2, h3, Z⟩
 dsimp only at Y h2 h3 Z
 subst h2
 unfold Mw.B2
 dsimp only
 refine As (fun h => ?_) fun h => .pure ⟨Y, by dsimp only; omega, Z⟩
 refine .bind (Jf Y (by omega) (by omega)) fun r1 M => .bind (Jf M.1 (by decide) (by decide)) ?_
 rintro ⟨y, s2⟩ ⟨O, hy⟩
 dsimp only at hy O ⊢
 obtain ⟨k, rfl⟩ := S8 hy.1
 refine .bind' (.eq (Qz (c := 102) (by omega)) (.bind' (.app (by simp; omega) (.pure ⟨⟨O.eta, ?_, ?_, ?_⟩, ?_⟩))))
 ·dsimp only; rw [Ap (by omega)]; simp
 ·dsimp only; simp; omega
 ·intro p G
  dsimp only at G
  rcases List.mem_append.1 G with G | G
  ·exact Z p G
  ·simp at G; subst G; exact M.2
 ·dsimp only; simp; omega
structure SegG (s : Segment) : Prop where
 name : ∃ k, k < 26 ∧ s.Name = nm 103 k
 cap : 1 ≤ s.Capacity ∧ s.Capacity ≤ 1000
 resist : 0 ≤ s.Resist ∧ s.Resist ≤ 1000
 wave : 0 ≤ s.Wave ∧ s.Wave ≤ 100000
 points : PointsOk s.Capacity s.Points
structure World19 (s : Segment) (f : List Piece) (b : List Batch) (p : List Product) : Prop where
 seg : SegG s
 fill : FillOk s.Capacity f
 bats : BatsOk p.length b
 prods : ProdsOk p
theorem Vu {k : Nat} (D : k < 26) : Fy (nm 112 k) = some true := Um (by decide) D
def Fs (s : Sg) : Nw := ⟨([(⟨#[97]⟩ : Bt), (⟨#[98]⟩ : Bt)] : List Bt), ([(⟨s.Name, 0, 1, s.Capacity, s.Resist, s.Wave, s.Points⟩ : Sg)] : List Sg), [], [], 0, 0⟩
theorem cJ {s : Sg} (h : SegG s) : NetV (Fs s) := by
 unfold Fs
 refine ⟨by simp, by simp, fun k x D => ?_, by simp, by simp, by simp, by simp, by simp, by simp, by simp, fun l hl => ?_⟩
 ·match k, D with
  | 0, D => simp at D; subst D; obtain ⟨j, G, hn⟩ := h.name; exact ⟨j, hn, by simp, h.cap, h.resist, h.wave, h.points⟩
  | k + 1, D => simp at D
 ·simp only [List.map_cons, List.map_nil, List.mem_cons, List.not_mem_nil, or_false] at hl
  rcases hl with rfl | rfl | rfl | rfl
  ·refine ⟨by simp, fun k x D => ?_, fun i j x y hi G M => ?_⟩
   ·match k, D with
    | 0, D => simp at D; subst D; rfl
    | 1, D => simp at D; subst D; rfl
    | k + 2, D => simp at D
   ·match i, j, hi, G with
    | 0, 0, _, _ => rfl
    | 1, 1, _, _ => rfl
    | 0, 1, hi, G => simp at hi G; subst hi; subst G; exact absurd M (by decide +kernel)
    | 1, 0, hi, G => simp at hi G; subst hi; subst G; exact absurd M (by decide +kernel)
    | i + 2, _, hi, _ => simp at hi
    | 0, j + 2, _, G => simp at G
    | 1, j + 2, _, G => simp at G
  ·obtain ⟨k0, Z, hn⟩ := h.name
   refine ⟨by simp, fun k x D => ?_, fun i j x y hi G M => ?_⟩
   ·match k, D with
    | 0, D => simp at D; subst D; rw [hn]; exact Zf (by simp) Z
    | k + 1, D => simp at D
   ·have O := (gs hi).1
    have Y := (gs G).1
    simp at O Y; omega
  ·exact ⟨by simp, by simp, by simp⟩
  ·exact ⟨by simp, by simp, by simp⟩
theorem Zx {s : Sg} (h : SegG s) : It s = some 0 := by
 have := Vt (cJ h)
 unfold Fs at this
 unfold It
 rw [this]
 rfl
theorem Rw {f : List Piece} (h1 : f.length ≤ 12) (h2 : ∀ p, p ∈ f → 1 ≤ p.Volume) (M : Bj f ≤ 1000000) : Gj f = some (Bj f) := by
 have : Ok (Gj f) fun r => r = Bj f := by
  unfold Gj
  refine .bind (.forS (fun k D => D = Bj (f.take k)) (by simp [Bj]) ?_ fun D h => h) ?_
  ·rintro k x _ G rfl
   unfold Gj.B2
   have := Ci h2 (k + 1)
   rw [C4 G] at this ⊢
   exact .pure (by rw [Ap (by omega)])
  ·rintro _ rfl
   unfold Gj.J1
   exact .pure (by rw [List.take_of_length_le (Nat.le_refl _)])
 obtain ⟨r, h, rfl⟩ := this
 exact h
theorem Vo {cap : Int} {f : List Piece} (h : FillOk cap f) {p : Piece} (G : p ∈ f) : p.Volume ≤ cap := by
 obtain ⟨k, D⟩ := List.getElem?_of_mem G
 have M := C4 D
 have O := Ci h.vol k
 have Y := Ci h.vol (k + 1)
 have := h.sum
 omega
theorem Tk {cap : Int} {f : List Piece} (h : FillOk cap f) (hc : 1 ≤ cap ∧ cap ≤ 1000) : Gz f = some true := by
 have hl := h.len; have hs := h.sum
 have : Ok (Gz f) fun r => r = true := by
  unfold Gz
  refine As (fun h => by omega) fun _ => .bind' (.forL (fun _ _ => True) (fun _ => False) trivial ?_ ?_ fun _ h => h.elim)
  ·intro k x _ M _
   have D := mg M
   have h1 := h.vol x D; have h2 := h.bat x D; have h3 := Vo h D
   have Z : Ok (Gz.J3 false) (Sum.elim (fun _ : Unit => True) fun _ : Bool => False) := by
    unfold Gz.J3; exact .pure trivial
   unfold Gz.B2
   refine Eh (fun O => ?_) fun _ => Hz (fun O => by omega) fun _ => As (fun h0 => ?_) fun _ => Z
   ·simp [Iv] at O; omega
   ·have aa := (gs M).1
    have Y : f[k - 1]? = some (f[k - 1]'(by omega)) := gq _
    have G := h.next (k - 1) _ x Y (by rw [show k - 1 + 1 = k by omega]; exact M)
    rw [show wr ((k : Int) - 1) = ((k - 1 : Nat) : Int) by rw [Ap (by omega)]; omega]
    refine .bind' (.eq (A6 Y) ?_)
    dsimp only
    rw [show (f[k - 1].Batch == x.Batch) = false by simpa using G]
    exact Z
  ·intro _ _
   simp only [Sum.elim_inl]
   unfold Gz.J1
   refine .bind' (.eq (Rw hl h.vol (by omega)) (.pure ?_))
   simp; omega
 obtain ⟨r, h, rfl⟩ := this
 exact h
theorem Z7 {s : Sg} {f : List Piece} (D : SegG s) (hf : FillOk s.Capacity f) : G0 s f = some 0 := by
 have G := D.cap
 unfold G0 G0.J1 Qm
 rw [Zx D, Tk hf G, Rw hf.len hf.vol (by have := hf.sum; omega)]
 simp [hf.sum]
theorem Di {s : List Product} {g : Product → Option Bool} {P : Product → Bool} (hg : ∀ (k : Nat) (x : Product), s[k]? = some x → g x = some (P x)) :
  Ok (Mu s g) fun r => (r = -1 ∧ ∀ (j : Nat) (y : Product), s[j]? = some y → P y = false) ∨ ∃ (k : Nat) (x : Product), r = (k : Int) ∧ s[k]? = some x ∧ P x = true ∧ ∀ (j : Nat) (y : Product), j < k → s[j]? = some y → P y = false := by
 unfold Mu
 refine .bind' (.forL (fun k _ => ∀ (j : Nat) (y : Product), j < k → s[j]? = some y → P y = false) (fun r => ∃ (k : Nat) (x : Product), r = (k : Int) ∧ s[k]? = some x ∧ P x = true ∧ ∀ (j : Nat) (y : Product), j < k → s[j]? = some y → P y = false) (fun j y h => absurd h (Nat.not_lt_zero _)) ?_ ?_ ?_)
 ·intro k x _ M hi
  unfold Mu.B2
  refine .bind' (.eq (hg k x M) (Bd (fun G => .pure ⟨k, x, rfl, M, G, hi⟩) fun G => .pure fun j y Y D => ?_))
  by_cases h : j < k
  ·exact hi j y h D
  ·have : j = k := by omega
   subst this
   rw [M] at D; simp at D; subst D; exact G
 ·intro _ hi
  simp only [Sum.elim_inl]
  unfold Mu.J1
  exact .pure (.inl ⟨rfl, fun j y D => hi j y (gs D).1 D⟩)
 ·intro b O
  exact .pure (.inr O)
theorem On {l : List Product} (h : ProdsOk l) : Gy l = some 0 := by
 have hl := h.len
 have : Ok (Gy l) fun r => r = 0 := by
  unfold Gy
  refine As (fun h => by omega) fun _ => .bind' (.forL (fun _ _ => True) (fun _ => False) trivial ?_ ?_ fun _ h => h.elim)
  ·intro k x _ G _
   have hk := (gs G).1
   have D := h.all k x G
   have d1 := D.density; have d2 := D.expansion; have d3 := D.compress; have d4 := D.friction
   unfold Gy.B4
   refine .bind (Q := fun r => r = true) ?_ ?_
   ·unfold Kn
    refine .bind' (.forI (fun _ _ => True) (fun _ => False) trivial ?_ ?_ fun _ h => h.elim)
    ·intro i _ hi _
     have no : Ok (Kn.J3 false) (Sum.elim (fun _ : Unit => True) fun _ : Bool => False) := by
      unfold Kn.J3; exact .pure trivial
     have M : ∀ (a : Int) (b : product_span), ([⟨400, 1200⟩, ⟨0, 2000⟩, ⟨0, 5000⟩, ⟨1, 2000⟩] : List product_span)[i]? = some b → (Ey x).l[i]? = some a → b.least ≤ a ∧ a ≤ b.most → Ok (Kn.B2 x i ()) (Sum.elim (fun _ : Unit => True) fun _ : Bool => False) := by
      intro a b Z h2 h3
      unfold Kn.B2
      refine .bind' (.eq (A6 Z) (.bind' (.eq (A6 h2) (As (fun h => by dsimp only at h; omega) fun _ => ?_))))
      dsimp only
      rw [show decide (a > b.most) = false by simp; omega]
      exact no
     match i, hi with
     | 0, _ => exact M x.Density ⟨400, 1200⟩ rfl rfl (by dsimp only; omega)
     | 1, _ => exact M x.Expansion ⟨0, 2000⟩ rfl rfl (by dsimp only; omega)
     | 2, _ => exact M x.Compress ⟨0, 5000⟩ rfl rfl (by dsimp only; omega)
     | 3, _ => exact M x.Friction ⟨1, 2000⟩ rfl rfl (by dsimp only; omega)
     | i + 4, hi => omega
    ·intro _ _
     simp only [Sum.elim_inl]
     unfold Kn.J1
     rw [D.name, Vu (by omega)]
     exact .bind' (.pure (.pure rfl))
   ·rintro _ rfl
    exact Eh (fun h => by cases h) fun _ => .pure trivial
  ·intro _ _
   simp only [Sum.elim_inl]
   unfold Gy.J1
   refine .bind' (.forL (fun _ _ => True) (fun _ => False) trivial ?_ ?_ fun _ h => h.elim)
   ·intro k x _ G _
    have hk := (gs G).1
    have D := h.all k x G
    unfold Gy.B3
    refine .bind (Q := fun r => r = (k : Int)) ?_ ?_
    ·unfold Qk
     refine .bind (Q := fun r => r = (k : Int)) ((Di (P := fun y => Gk y x.Name) fun _ _ _ => rfl).mono ?_) fun r hr => .pure hr
     rintro r (⟨rfl, hh⟩ | ⟨j, y, rfl, Y, O, hlt⟩)
     ·have := hh k x G
      simp only [Gk] at this
      rw [Nh] at this; cases this
     ·have hjl := (gs Y).1
      simp only [Gk] at O
      rw [(h.all j y Y).name, D.name] at O
      have := Zd (by omega) (by omega) O
      omega
    ·rintro _ rfl
     exact As (fun h => by omega) fun _ => .pure trivial
   ·intro _ _
    simp only [Sum.elim_inl]
    unfold Gy.J2
    exact .pure rfl
 obtain ⟨r, h, rfl⟩ := this
 exact h
def ends : List Piece → Int → Li
 | [], _ => []
 | p :: l, a => (a + p.Volume) :: ends l (a + p.Volume)
theorem F2 : ∀ (l : List Piece) (a : Int), (ends l a).length = l.length
 | [], _ => rfl
 | p :: l, a => by simp [ends, F2 l]
theorem Ho : ∀ (l : List Piece) (a : Int) (k : Nat), k < l.length → (ends l a)[k]? = some (a + Bj (l.take (k + 1)))
 | [], _, k, h => by simp at h
 | p :: l, a, 0, h => by simp [ends, Bj]
 | p :: l, a, k + 1, h => by
  simp only [ends, List.getElem?_cons_succ, List.take_succ_cons, Bj]
  rw [Ho l _ k (by simpa using h)]
  congr 1; omega
theorem Z9 {l : List Piece} {x : Int} : x ∈ ends l 0 ↔ ∃ k, k < l.length ∧ x = Bj (l.take (k + 1)) := by
 constructor
 ·intro h
  obtain ⟨k, D⟩ := List.getElem?_of_mem h
  have G := (gs D).1
  rw [F2] at G
  rw [Ho l 0 k G] at D
  exact ⟨k, G, by simp at D; omega⟩
 ·rintro ⟨k, D, rfl⟩
  have := Ho l 0 k D
  rw [Int.zero_add] at this
  exact mg this
def Dc (s : Sg) (f : List Piece) : Li := Go.Lib.compact (Ig (s.Points.map (·.At) ++ ends f 0))
theorem Uu (s : Sg) (f : List Piece) : Dc s f = asc (s.Points.map (·.At) ++ ends f 0) := by unfold Dc asc; rw [← O6]; rfl
theorem Fk {s : Sg} {f : List Piece} {x : Int} : x ∈ Dc s f ↔ (∃ p, p ∈ s.Points ∧ p.At = x) ∨ ∃ k, k < f.length ∧ x = Bj (f.take (k + 1)) := by
 rw [Uu, dD, List.mem_append, Z9, List.mem_map]
theorem Ea (s : Sg) (f : List Piece) : (Dc s f).Pairwise (· < ·) := by rw [Uu]; exact fC _
theorem K6 (l : Li) : (Ig l).length = l.length := (I6 l).length_eq
theorem G3 (s : Sg) (f : List Piece) : (Dc s f).length ≤ s.Points.length + f.length := by
 unfold Dc
 refine Nat.le_trans (Lt _) ?_
 rw [K6]; simp [F2]
theorem V1 {s : Sg} {f : List Piece} (h1 : 1 ≤ s.Points.length ∧ s.Points.length ≤ 100) (h2 : f.length ≤ 12) (h3 : ∀ p, p ∈ f → 1 ≤ p.Volume) (h4 : Bj f ≤ 1000000) : Gl s f = some (Dc s f) := by
 have : Ok (Gl s f) fun r => r = Dc s f := by
  unfold Gl
  refine .bind (Q := fun D => D = s.Points.map (·.At)) (.forS (fun k D => D = (s.Points.take k).map (·.At)) (by simp) ?_ fun D h => by rw [h, List.take_of_length_le (Nat.le_refl _)]) ?_
  ·rintro k x _ M rfl
   unfold Gl.B4
   have Z := (gs M).1
   refine .bind' (.app (by simp; omega) (.pure ?_))
   rw [List.take_add_one, M]; simp
  rintro _ rfl
  unfold Gl.J1
  refine .bind (Q := fun D : Li × Int => D.1 = s.Points.map (·.At) ++ ends f 0) (.forS (fun k (D : Li × Int) => D.1 = s.Points.map (·.At) ++ (ends f 0).take k ∧ D.2 = Bj (f.take k)) (by simp [Bj]) ?_ fun D h => by rw [h.1, List.take_of_length_le (by rw [F2]; exact Nat.le_refl _)]) ?_
  ·rintro k x ⟨_, _⟩ M ⟨rfl, rfl⟩
   have Z := (gs M).1
   have hs := Ci h3 (k + 1)
   have e := C4 M
   have hw : wr (Bj (f.take k) + x.Volume) = Bj (f.take (k + 1)) := by rw [← e, Ap (by omega)]
   have Y := Ho f 0 k Z
   rw [Int.zero_add] at Y
   unfold Gl.B3
   dsimp only
   rw [hw]
   refine .bind' (.app (by simp [F2]; omega) (.pure ⟨?_, rfl⟩))
   dsimp only
   rw [List.take_add_one (l := ends f 0), Y]; simp
  rintro ⟨_, c⟩ rfl
  unfold Gl.J2 M0 M7
  dsimp only
  have O : s.Points.map (·.At) ++ ends f 0 ≠ [] := by
   intro h
   have := congrArg List.length h
   rw [List.length_append, List.length_map, List.length_nil] at this; omega
  have G : Ig (s.Points.map (·.At) ++ ends f 0) ≠ [] := by
   intro h
   have := congrArg List.length h
   rw [K6, List.length_append, List.length_map, List.length_nil] at this; omega
  rw [if_neg O]
  refine .bind' (.pure ?_)
  rw [if_neg G]
  exact .bind' (.pure (.pure rfl))
 obtain ⟨r, h, rfl⟩ := this
 exact h
def gE (pts : List Point) : Prop := ∀ (i j : Nat) (p q : Point), i < j → pts[i]? = some p → pts[j]? = some q → p.At < q.At
theorem PointsOk.asc {cap : Int} {l : List Point} (h : PointsOk cap l) : gE l := by
 intro i j p q Y Z G
 induction j generalizing q with
 | zero => omega
 | succ j ih =>
  have hj := (gs G).1
  have D : l[j]? = some (l[j]'(by omega)) := gq _
  have M := h.up j _ q D G
  by_cases O : i = j
  ·subst O; rw [Z] at D; cases D; exact M
  ·have := ih (l[j]'(by omega)) (by omega) D; omega
theorem Vl {n : Nat} {g : Int → Option Bool} {P : Nat → Bool} (hn : n ≤ 1000000) (hg : ∀ k : Nat, k < n → g (k : Int) = some (P k)) (hm : ∀ i j : Nat, i ≤ j → j < n → P i = true → P j = true) :
  Ok (M4 (n : Int) g) fun r => ∃ k : Nat, r = (k : Int) ∧ k ≤ n ∧ (∀ i : Nat, i < k → P i = false) ∧ (k < n → P k = true) := by
 unfold M4
 refine .bind (Q := fun r : Int => ∃ k : Nat, r = (k : Int) ∧ k ≤ n ∧ (∀ i : Nat, i < k → P i = false) ∧ (k < n → P k = true)) ?_ fun r hr => by unfold M4.J1; exact .pure hr
 refine .loop (fun G : Int × Int => ∃ i j : Nat, G.1 = (i : Int) ∧ G.2 = (j : Int) ∧ i ≤ j ∧ j ≤ n ∧ (∀ x : Nat, x < i → P x = false) ∧ (j < n → P j = true)) (fun G => (G.2 - G.1).toNat)
  ⟨0, n, rfl, rfl, by omega, by omega, fun x h => absurd h (Nat.not_lt_zero _), fun h => absurd h (Nat.lt_irrefl _)⟩ (by dsimp only; omega) ?_
 rintro ⟨_, _⟩ ⟨i, j, rfl, rfl, hij, Y, Z, h2⟩
 unfold M4.B2
 dsimp only
 refine As (fun h => ?_) fun h => .pure ⟨i, rfl, by omega, Z, fun O => by
  have : i = j := by omega
  subst this; exact h2 O⟩
 have D : wr ((IntKind.u64.wrap (wr ((i : Int) + (j : Int)))).fdiv 2) = (((i + j) / 2 : Nat) : Int) := by
  rw [Ap (x := (i : Int) + (j : Int)) (by omega)]
  have hu : IntKind.u64.wrap ((i : Int) + (j : Int)) = (i : Int) + (j : Int) := by
   unfold IntKind.wrap
   have : (i : Int) + (j : Int) < 18446744073709551616 := by omega
   simp [IntKind.bits, IntKind.signed]
   omega
  rw [hu, Int.fdiv_eq_ediv_of_nonneg _ (by decide), Ap (by omega)]
  omega
 rw [D]
 have hk : (i + j) / 2 < j := by omega
 refine .bind' (.eq (hg _ (by omega)) (Eh (fun M => ?_) fun M => ?_))
 ·refine .pure ⟨⟨(i + j) / 2 + 1, j, ?_, rfl, by omega, Y, fun x hx => ?_, h2⟩, ?_⟩
  ·dsimp only; rw [Ap (by omega)]; omega
  ·cases hpx : P x with
   | false => rfl
   | true => rw [hm x ((i + j) / 2) (by omega) (by omega) hpx] at M; cases M
  ·dsimp only; rw [Ap (by omega)]; omega
 ·refine .pure ⟨⟨i, (i + j) / 2, rfl, rfl, by omega, by omega, Z, fun _ => M⟩, ?_⟩
  dsimp only; omega
theorem N1 {s : Sg} (hl : 2 ≤ s.Points.length ∧ s.Points.length ≤ 100) (ab : gE s.Points) (h0 : ∀ p, s.Points[0]? = some p → p.At = 0) {e : Int} (he : 0 < e) (G : ∀ p, s.Points[s.Points.length - 1]? = some p → e ≤ p.At) :
  Ok (Qj s e) fun r => ∃ (k : Nat) (a b : Point), r = ((k + 1 : Nat) : Int) ∧ s.Points[k]? = some a ∧ s.Points[k + 1]? = some b ∧ a.At < e ∧ e ≤ b.At := by
 unfold Qj
 have D : ∃ P : Nat → Bool, P = fun k => match s.Points[k]? with | some p => decide (p.At ≥ e) | none => true := ⟨_, rfl⟩
 obtain ⟨P, D⟩ := D
 rw [show wr ((s.Points.length : Int) - 1) = ((s.Points.length - 1 : Nat) : Int) by rw [Ap (by omega)]; omega]
 refine .bind (Vl (P := P) (by omega) (fun k hk => ?_) (fun i j hij hj hi => ?_)) ?_
 ·have M : s.Points[k]? = some (s.Points[k]'(by omega)) := gq _
  unfold Qo
  rw [A6 M, D]
  simp only [M]
  rfl
 ·have O : s.Points[i]? = some (s.Points[i]'(by omega)) := gq _
  have Y : s.Points[j]? = some (s.Points[j]'(by omega)) := gq _
  rw [D] at hi ⊢
  simp only [O, Y, decide_eq_true_eq] at hi ⊢
  by_cases h : i = j
  ·subst h; exact hi
  ·have := ab i j _ _ (by omega) O Y; omega
 rintro r ⟨k, rfl, hk, h1, h2⟩
 have hk1 : 1 ≤ k := by
  rcases Nat.eq_zero_or_pos k with h | h
  ·subst h
   have := h2 (by omega)
   have M : s.Points[0]? = some (s.Points[0]'(by omega)) := gq _
   rw [D] at this
   simp only [M, decide_eq_true_eq] at this
   have := h0 _ M
   omega
  ·exact h
 have ha : s.Points[k - 1]? = some (s.Points[k - 1]'(by omega)) := gq _
 have Z : s.Points[k]? = some (s.Points[k]'(by omega)) := gq _
 refine .pure ⟨k - 1, _, _, by omega, ha, by rw [show k - 1 + 1 = k by omega]; exact Z, ?_, ?_⟩
 ·have := h1 (k - 1) (by omega)
  rw [D] at this
  simp only [ha, decide_eq_false_iff_not] at this
  omega
 ·by_cases aa : k < s.Points.length - 1
  ·have := h2 aa
   rw [D] at this
   simp only [Z, decide_eq_true_eq] at this
   omega
  ·have : k = s.Points.length - 1 := by omega
   subst this
   exact G _ Z
theorem En {l : Li} (h : l.Pairwise (· < ·)) {i j : Nat} {a b : Int} (D : i < j) (O : l[i]? = some a) (hb : l[j]? = some b) : a < b := by
 obtain ⟨G, rfl⟩ := gs O
 obtain ⟨M, rfl⟩ := gs hb
 exact List.pairwise_iff_getElem.1 h i j G M D
theorem Ru {l : Li} (h : l.Pairwise (· < ·)) {m : Int} (Y : m ∈ l) (O : ∀ x, x ∈ l → m ≤ x) : l[0]? = some m := by
 obtain ⟨k, D⟩ := List.getElem?_of_mem Y
 have Z := (gs D).1
 by_cases M : k = 0
 ·subst M; exact D
 ·have G : l[0]? = some (l[0]'(by omega)) := gq _
  have := En h (i := 0) (by omega) G D
  have := O _ (mg G)
  omega
theorem Uc {l : Li} (h : l.Pairwise (· < ·)) {m : Int} (Y : m ∈ l) (O : ∀ x, x ∈ l → x ≤ m) : l[l.length - 1]? = some m := by
 obtain ⟨k, D⟩ := List.getElem?_of_mem Y
 have Z := (gs D).1
 by_cases M : k = l.length - 1
 ·subst M; exact D
 ·have G : l[l.length - 1]? = some (l[l.length - 1]'(by omega)) := gq _
  have := En h (i := k) (j := l.length - 1) (by omega) D G
  have := O _ (mg G)
  omega
theorem PointsOk.at_range {cap : Int} {l : List Point} (h : PointsOk cap l) {i : Nat} {p : Point} (D : l[i]? = some p) : 0 ≤ p.At ∧ p.At ≤ cap := by
 have hi := (gs D).1
 have Z := h.len
 have g0 : l[0]? = some (l[0]'(by omega)) := gq _
 have G : l[l.length - 1]? = some (l[l.length - 1]'(by omega)) := gq _
 have O := h.first _ g0
 have Y := h.last _ G
 constructor
 ·by_cases M : i = 0
  ·subst M; rw [g0] at D; cases D; omega
  ·have := h.asc 0 i _ _ (by omega) g0 D; omega
 ·by_cases M : i = l.length - 1
  ·subst M; rw [G] at D; cases D; omega
  ·have := h.asc i (l.length - 1) _ _ (by omega) D G; omega
theorem Fo {s : Sg} {f : List Piece} (G : PointsOk s.Capacity s.Points) (hf : FillOk s.Capacity f) {x : Int} (h : x ∈ Dc s f) : 0 ≤ x ∧ x ≤ s.Capacity := by
 rcases Fk.1 h with ⟨p, D, rfl⟩ | ⟨k, M, rfl⟩
 ·obtain ⟨i, hi⟩ := List.getElem?_of_mem D
  exact G.at_range hi
 ·have := Ci hf.vol (k + 1)
  have := hf.sum; omega
theorem Pj {s : Sg} {f : List Piece} (D : PointsOk s.Capacity s.Points) (hf : FillOk s.Capacity f) : (Dc s f)[0]? = some 0 := by
 have M := D.len
 have g0 : s.Points[0]? = some (s.Points[0]'(by omega)) := gq _
 exact Ru (Ea s f) (Fk.2 (.inl ⟨_, mg g0, D.first _ g0⟩)) fun x G => (Fo D hf G).1
theorem aF {s : Sg} {f : List Piece} (D : PointsOk s.Capacity s.Points) (hf : FillOk s.Capacity f) : (Dc s f)[(Dc s f).length - 1]? = some s.Capacity := by
 have M := D.len
 have g0 : s.Points[s.Points.length - 1]? = some (s.Points[s.Points.length - 1]'(by omega)) := gq _
 exact Uc (Ea s f) (Fk.2 (.inl ⟨_, mg g0, D.last _ g0⟩)) fun x G => (Fo D hf G).2
theorem Ut {s : Sg} {f : List Piece} (M : PointsOk s.Capacity s.Points) (hc : 1 ≤ s.Capacity) (hf : FillOk s.Capacity f) : 2 ≤ (Dc s f).length := by
 have G := Pj M hf
 have D := aF M hf
 have := (gs G).1
 by_cases h : (Dc s f).length = 1
 ·rw [h] at D; rw [G] at D; simp at D; omega
 ·omega
theorem Dv {a b A B : Int} (O : -A ≤ a ∧ a ≤ A) (hb : -B ≤ b ∧ b ≤ B) : -(A * B) ≤ a * b ∧ a * b ≤ A * B := by
 have D : a.natAbs ≤ A.toNat := by omega
 have G : b.natAbs ≤ B.toNat := by omega
 have M := Nat.mul_le_mul D G
 rw [← Int.natAbs_mul] at M
 have e : ((A.toNat * B.toNat : Nat) : Int) = A * B := by
  rw [Int.natCast_mul, Int.toNat_of_nonneg (by omega), Int.toNat_of_nonneg (by omega)]
 omega
def Ga (s : Sg) (q : Int) (x : gradient_part) : Int := s.Resist * x.liquid.Friction * q * q * x.length
def Fq (s : Sg) : Int := 1000 * s.Capacity
def Ib (x : gradient_part) : Int := x.liquid.Density * 9807 * x.height * x.length
def Ia (x : gradient_part) : Int := 1000 * x.width
def lo (s : Sg) (q : Int) (x : gradient_part) : Int := dn (Ga s q x) (Fq s) + dn (Ib x) (Ia x)
def hi (s : Sg) (q : Int) (x : gradient_part) : Int := up (Ga s q x) (Fq s) + up (Ib x) (Ia x)
structure PartOk (s : Segment) (x : gradient_part) : Prop where
 length : 1 ≤ x.length ∧ x.length ≤ 1000
 width : 1 ≤ x.width ∧ x.width ≤ 1000
 height : -5500 ≤ x.height ∧ x.height ≤ 5500
 density : 400 ≤ x.liquid.Density ∧ x.liquid.Density ≤ 1200
 friction : 1 ≤ x.liquid.Friction ∧ x.liquid.Friction ≤ 2000
section
variable {s : Sg} {q : Int} {x : gradient_part}
theorem Zl (Y : 0 ≤ s.Resist ∧ s.Resist ≤ 1000) (hq : 1 ≤ q ∧ q ≤ 1000) (D : PartOk s x) :
  (0 ≤ s.Resist * x.liquid.Friction ∧ s.Resist * x.liquid.Friction ≤ 2000000) ∧ (0 ≤ s.Resist * x.liquid.Friction * q ∧ s.Resist * x.liquid.Friction * q ≤ 2000000000) ∧
  (0 ≤ s.Resist * x.liquid.Friction * q * q ∧ s.Resist * x.liquid.Friction * q * q ≤ 2000000000000) ∧ 0 ≤ Ga s q x ∧ Ga s q x ≤ 2000000000000000 := by
 have h1 := D.friction; have h2 := D.length
 have a1 := Dv (a := s.Resist) (b := x.liquid.Friction) (A := 1000) (B := 2000) (by omega) (by omega)
 have G := Int.mul_nonneg Y.1 (show 0 ≤ x.liquid.Friction by omega)
 have a2 := Dv (a := s.Resist * x.liquid.Friction) (b := q) (A := 2000000) (B := 1000) (by omega) (by omega)
 have M := Int.mul_nonneg G (show 0 ≤ q by omega)
 have a3 := Dv (a := s.Resist * x.liquid.Friction * q) (b := q) (A := 2000000000) (B := 1000) (by omega) (by omega)
 have O := Int.mul_nonneg M (show 0 ≤ q by omega)
 have a4 := Dv (a := s.Resist * x.liquid.Friction * q * q) (b := x.length) (A := 2000000000000) (B := 1000) (by omega) (by omega)
 have Z := Int.mul_nonneg O (show 0 ≤ x.length by omega)
 unfold Ga
 refine ⟨⟨G, by omega⟩, ⟨M, by omega⟩, ⟨O, by omega⟩, Z, by omega⟩
theorem Zg (D : PartOk s x) :
  (0 ≤ x.liquid.Density * 9807 ∧ x.liquid.Density * 9807 ≤ 11768400) ∧ (-64726200000 ≤ x.liquid.Density * 9807 * x.height ∧ x.liquid.Density * 9807 * x.height ≤ 64726200000) ∧
  -64726200000000 ≤ Ib x ∧ Ib x ≤ 64726200000000 := by
 have O := D.density; have Y := D.length; have Z := D.height
 have G := Dv (a := x.liquid.Density * 9807) (b := x.height) (A := 11768400) (B := 5500) (by omega) (by omega)
 have M := Dv (a := x.liquid.Density * 9807 * x.height) (b := x.length) (A := 64726200000) (B := 1000) (by omega) (by omega)
 unfold Ib
 refine ⟨⟨by omega, by omega⟩, ⟨by omega, by omega⟩, by omega, by omega⟩
theorem Y4 (hc : 1 ≤ s.Capacity) (M : 0 ≤ s.Resist ∧ s.Resist ≤ 1000) (G : 1 ≤ q ∧ q ≤ 1000) (D : PartOk s x) :
  (-3000000000000000 ≤ lo s q x ∧ lo s q x ≤ 3000000000000000) ∧ (-3000000000000000 ≤ hi s q x ∧ hi s q x ≤ 3000000000000000) := by
 have Z := Zl M G D
 have h2 := Zg D
 have O := Er (a := Ga s q x) (b := Fq s) (by unfold Fq; omega)
 have Y := Er (a := Ib x) (b := Ia x) (by have := D.width; unfold Ia; omega)
 have u1 := Jl (a := Ga s q x) (b := Fq s) (by unfold Fq; omega)
 have u2 := Jl (a := Ib x) (b := Ia x) (by have := D.width; unfold Ia; omega)
 unfold lo hi; omega
end
def neg (x : gradient_part) : gradient_part := ⟨x.length, x.width, -x.height, x.liquid⟩
def flat (x : gradient_part) : gradient_part := ⟨x.length, x.width, 0, x.liquid⟩
theorem cQ {s : Sg} {x : gradient_part} (h : PartOk s x) : PartOk s (neg x) := ⟨h.length, h.width, by have := h.height; simp only [neg]; omega, h.density, h.friction⟩
theorem L6 {s t : Sg} {x : gradient_part} (h : PartOk s x) : PartOk t (flat x) := ⟨h.length, h.width, by simp only [flat]; omega, h.density, h.friction⟩
theorem Un (x : gradient_part) : Ib (neg x) = -Ib x := by unfold Ib neg; dsimp only; rw [Int.mul_neg, Int.neg_mul]
def Bw {α : Type} (g : α → Int) : List α → Int
 | [] => 0
 | x :: l => g x + Bw g l
theorem Jw {α : Type} (g : α → Int) : ∀ l m : List α, Bw g (l ++ m) = Bw g l + Bw g m
 | [], m => by simp [Bw]
 | x :: l, m => by simp only [List.cons_append, Bw, Jw g l m]; omega
theorem Dz {α : Type} (g : α → Int) {l : List α} {k : Nat} {x : α} (h : l[k]? = some x) : Bw g (l.take (k + 1)) = Bw g (l.take k) + g x := by
 rw [List.take_add_one, h, Jw]; simp [Bw]
theorem Dn {α : Type} {g : α → Int} {B : Int} : ∀ {l : List α}, (∀ x, x ∈ l → -B ≤ g x ∧ g x ≤ B) → -(B * l.length) ≤ Bw g l ∧ Bw g l ≤ B * l.length
 | [], _ => by simp [Bw]
 | x :: l, hh => by
  have G := hh x (by simp)
  have M := Dn (l := l) fun y D => hh y (by simp [D])
  have e : B * ((x :: l).length : Int) = B * l.length + B := by rw [List.length_cons, Int.natCast_add, Int.mul_add]; simp
  rw [e]
  simp only [Bw]; omega
def S3 (s : Sg) (q : Int) (b : Bounds) (D : Li) (G : List gradient_part) (i : Nat) : Level :=
 ⟨D.getD i 0, ⟨b.Low - Bw (hi s q) (G.take i), b.High - Bw (lo s q) (G.take i)⟩⟩
def Jg (s : Sg) (q : Int) (b : Bounds) (D : Li) (G : List gradient_part) : List Level := (List.range D.length).map (S3 s q b D G)
theorem Gs (s : Sg) (q : Int) (b : Bounds) (D : Li) (G : List gradient_part) : (Jg s q b D G).length = D.length := by simp [Jg]
theorem Nl (s : Sg) (q : Int) (b : Bounds) {D : Li} (G : List gradient_part) {i : Nat} (h : i < D.length) : (Jg s q b D G)[i]? = some (S3 s q b D G i) := by
 unfold Jg; rw [List.getElem?_map, List.getElem?_range h]; rfl
end Go.Proofs.YtkhcdkioehdndaaGreatDoor
