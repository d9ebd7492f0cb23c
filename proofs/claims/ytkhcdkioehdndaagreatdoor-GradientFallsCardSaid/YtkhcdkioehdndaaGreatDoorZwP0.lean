/- Plain proofs. No condition. -/
import Derived.Test.YtkhcdkioehdndaaGreatDoorZwB2
import Derived.Test.YtkhcdkioehdndaaGreatDoorZwD
import Derived.Lib.SlicesCompact
set_option maxRecDepth 100000
namespace Go.Aw
set_option linter.unusedVariables false
set_option linter.unusedSimpArgs false
def Ok {α : Type} (o : Option α) (P : α → Prop) : Prop := ∃ r, o = some r ∧ P r
section
variable {α β S B : Type}
theorem Ok.pure {x : α} {P : α → Prop} (h : P x) : Ok (some x) P := ⟨x, rfl, h⟩
theorem Ok.get {o : Option α} {P : α → Prop} (h : Ok o P) : ∃ r, o = some r ∧ P r := h
theorem Ok.mono {o : Option α} {P Q : α → Prop} (h : Ok o P) (k : ∀ x, P x → Q x) : Ok o Q := let ⟨r, h1, h2⟩ := h; ⟨r, h1, k r h2⟩
theorem Ok.bind {o : Option α} {f : α → Option β} {P : β → Prop} {Q : α → Prop} (h : Ok o Q) (k : ∀ x, Q x → Ok (f x) P) : Ok (o.bind f) P := by
 obtain ⟨r, rfl, D⟩ := h; exact k r D
theorem Ok.bind' {o : Option α} {f : α → Option β} {P : β → Prop} (h : Ok o fun x => Ok (f x) P) : Ok (o.bind f) P := h.bind fun _ k => k
theorem Ok.eq {o : Option α} {P : α → Prop} {x : α} (h : o = some x) (k : P x) : Ok o P := ⟨x, h, k⟩
theorem Ok.map {o : Option α} {f : α → β} {P : β → Prop} (h : Ok o fun x => P (f x)) : Ok (o.map f) P := by
 obtain ⟨r, rfl, D⟩ := h; exact ⟨_, rfl, D⟩
theorem Ok.ix {l : List α} {i : Int} {P : Nat × α → Prop} (k : Nat) (hi : i = (k : Int)) (D : k < l.length) (h : P (k, l[k])) : Ok (ix l i) P := by
 subst hi; exact ⟨_, B8 (gq D), h⟩
theorem Ok.ix' {l : List α} {i : Int} {P : Nat × α → Prop} (G : 0 ≤ i) (M : i < (l.length : Int)) (h : ∀ (k : Nat) (x : α), i = (k : Int) → l[k]? = some x → P (k, x)) : Ok (Aw.ix l i) P := by
 obtain ⟨k, rfl⟩ : ∃ k : Nat, i = (k : Int) := ⟨i.toNat, by omega⟩
 have D : k < l.length := by omega
 exact ⟨_, B8 (gq D), h k _ rfl (gq D)⟩
theorem Ok.app {l m : List α} {P : List α → Prop} (hl : l.length + m.length ≤ 68719476736) (h : P (l ++ m)) : Ok (Eg l m) P := ⟨_, Qr hl, h⟩
theorem Ok.mk {n : Int} {z : α} {P : List α → Prop} (m : Nat) (D : n = (m : Int)) (hl : m ≤ 68719476736) (h : P (List.replicate m z)) : Ok (Yf n z) P := by
 subst D; exact ⟨_, Yu z hl, h⟩
theorem Ok.quo {a b : Int} {P : Int → Prop} (hb : b ≠ 0) (h : P (wr (a.tdiv b))) : Ok (Wr a b) P := ⟨_, if_pos hb, h⟩
theorem Ok.rem {a b : Int} {P : Int → Prop} (hb : b ≠ 0) (h : P (a.tmod b)) : Ok (Qw a b) P := ⟨_, if_pos hb, h⟩
theorem Ok.sub {l : List α} {a b : Int} {P : List α → Prop} (x y : Nat) (D : a = (x : Int)) (hb : b = (y : Int)) (G : x ≤ y) (hl : y ≤ l.length) (h : P ((l.drop x).take (y - x))) : Ok (Wo l a b) P := by
 subst D; subst hb
 exact ⟨_, if_pos ⟨by omega, by omega, by omega⟩, by simpa using h⟩
theorem Hh {f : Nat → α → S → Option S} (I : Nat → S → Prop) (l : List α) : ∀ (m : List α) (k : Nat), l.drop k = m → ∀ D, I k D →
  (∀ k x D, l[k]? = some x → I k D → Ok (f k x D) (I (k + 1))) → k ≤ l.length → Ok (forS f k m D) (I l.length)
 | [], k, hm, D, hi, _, hk => by
  have : l.length - k = 0 := by simpa using congrArg List.length hm
  have : k = l.length := by omega
  subst this; exact .pure hi
 | x :: m, k, hm, D, hi, hf, hk => by
  have M : l[k]? = some x := by have := congrArg (fun z => z[0]?) hm; simpa using this
  have G : l.drop (k + 1) = m := by have := congrArg (List.drop 1) hm; simpa [Nat.add_comm] using this
  obtain ⟨Z, O, Y⟩ := hf k x D M hi
  simp only [forS, O]
  exact Hh I l m (k + 1) G Z Y hf (by have := (gs M).1; omega)
theorem Ok.forS {f : Nat → α → S → Option S} {l : List α} {D : S} {P : S → Prop} (I : Nat → S → Prop) (G : I 0 D)
  (hf : ∀ k x D, l[k]? = some x → I k D → Ok (f k x D) (I (k + 1))) (M : ∀ D, I l.length D → P D) : Ok (forS f 0 l D) P :=
 (Hh I l l 0 rfl D G hf (Nat.zero_le _)).mono M
theorem Hi {f : Nat → α → S → Option (S ⊕ B)} (I : Nat → S → Prop) (R : B → Prop) (l : List α) : ∀ (m : List α) (k : Nat), l.drop k = m → ∀ D, I k D →
  (∀ k x D, l[k]? = some x → I k D → Ok (f k x D) (Sum.elim (fun s => I (k + 1) s) R)) → k ≤ l.length → Ok (forL f k m D) (Sum.elim (fun s => I l.length s) R)
 | [], k, hm, D, hi, _, hk => by
  have : l.length - k = 0 := by simpa using congrArg List.length hm
  have : k = l.length := by omega
  subst this; exact .pure hi
 | x :: m, k, hm, D, hi, hf, hk => by
  have Z : l[k]? = some x := by have := congrArg (fun z => z[0]?) hm; simpa using this
  have G : l.drop (k + 1) = m := by have := congrArg (List.drop 1) hm; simpa [Nat.add_comm] using this
  obtain ⟨M, O, Y⟩ := hf k x D Z hi
  cases M with
  | inl M =>
   simp only [forL, O]
   exact Hi I R l m (k + 1) G M Y hf (by have := (gs Z).1; omega)
  | inr b => simp only [forL, O]; exact .pure Y
theorem Ok.forL {f : Nat → α → S → Option (S ⊕ B)} {l : List α} {D : S} {P : S ⊕ B → Prop} (I : Nat → S → Prop) (R : B → Prop) (G : I 0 D)
  (hf : ∀ k x D, l[k]? = some x → I k D → Ok (f k x D) (Sum.elim (fun s => I (k + 1) s) R)) (M : ∀ D, I l.length D → P (.inl D)) (O : ∀ b, R b → P (.inr b)) : Ok (forL f 0 l D) P :=
 (Hi I R l l 0 rfl D G hf (Nat.zero_le _)).mono fun x h => by cases x with | inl s => exact M s h | inr b => exact O b h
theorem Hj {f : Nat → S → Option S} (I : Nat → S → Prop) (n : Nat) : ∀ (m k : Nat), k + m = n → ∀ D, I k D →
  (∀ k D, k < n → I k D → Ok (f k D) (I (k + 1))) → Ok (forJ f k m D) (I n)
 | 0, k, hm, D, hi, _ => by have : k = n := (by omega); subst this; exact .pure hi
 | m + 1, k, hm, D, hi, hf => by
  obtain ⟨O, G, M⟩ := hf k D (by omega) hi
  simp only [forJ, G]
  exact Hj I n m (k + 1) (by omega) O M hf
theorem Ok.forJ {f : Nat → S → Option S} {n : Nat} {D : S} {P : S → Prop} (I : Nat → S → Prop) (G : I 0 D)
  (hf : ∀ k D, k < n → I k D → Ok (f k D) (I (k + 1))) (M : ∀ D, I n D → P D) : Ok (forJ f 0 n D) P :=
 (Hj I n n 0 (by omega) D G hf).mono M
theorem Hk {f : Nat → S → Option (S ⊕ B)} (I : Nat → S → Prop) (R : B → Prop) (n : Nat) : ∀ (m k : Nat), k + m = n → ∀ D, I k D →
  (∀ k D, k < n → I k D → Ok (f k D) (Sum.elim (fun s => I (k + 1) s) R)) → Ok (forI f k m D) (Sum.elim (fun s => I n s) R)
 | 0, k, hm, D, hi, _ => by have : k = n := (by omega); subst this; exact .pure hi
 | m + 1, k, hm, D, hi, hf => by
  obtain ⟨G, M, O⟩ := hf k D (by omega) hi
  cases G with
  | inl G =>
   simp only [forI, M]
   exact Hk I R n m (k + 1) (by omega) G O hf
  | inr b => simp only [forI, M]; exact .pure O
theorem Ok.forI {f : Nat → S → Option (S ⊕ B)} {n : Nat} {D : S} {P : S ⊕ B → Prop} (I : Nat → S → Prop) (R : B → Prop) (G : I 0 D)
  (hf : ∀ k D, k < n → I k D → Ok (f k D) (Sum.elim (fun s => I (k + 1) s) R)) (M : ∀ D, I n D → P (.inl D)) (O : ∀ b, R b → P (.inr b)) : Ok (forI f 0 n D) P :=
 (Hk I R n n 0 (by omega) D G hf).mono fun x h => by cases x with | inl s => exact M s h | inr b => exact O b h
theorem Hg {f : S → Option (S ⊕ B)} {P : B → Prop} (I : S → Prop) (μ : S → Nat) (hf : ∀ D, I D → Ok (f D) (Sum.elim (fun s => I s ∧ μ s < μ D) P)) :
  ∀ (n : Nat) (D : S), I D → μ D < n → Ok (C0 f n D) P
 | 0, D, _, h => absurd h (Nat.not_lt_zero _)
 | n + 1, D, hi, h => by
  obtain ⟨r, M, G⟩ := hf D hi
  cases r with
  | inl s =>
   simp only [C0, M]
   exact Hg I μ hf n s G.1 (by have := G.2; omega)
  | inr b => simp only [C0, M]; exact .pure G
theorem Ok.loop {f : S → Option (S ⊕ B)} {P : B → Prop} {D : S} (I : S → Prop) (μ : S → Nat) (G : I D) (M : μ D < 18446744073709551616)
  (hf : ∀ D, I D → Ok (f D) (Sum.elim (fun s => I s ∧ μ s < μ D) P)) : Ok (C0 f Gh D) P :=
 Hg I μ hf _ D G M
end
inductive Conn (R : Nat → Nat → Prop) : Nat → Nat → Prop
 | refl (x : Nat) : Conn R x x
 | edge {x y : Nat} : R x y → Conn R x y
 | symm {x y : Nat} : Conn R x y → Conn R y x
 | trans {x y z : Nat} : Conn R x y → Conn R y z → Conn R x z
theorem Conn.mono {R R' : Nat → Nat → Prop} (h : ∀ x y, R x y → Conn R' x y) {x y : Nat} (c : Conn R x y) : Conn R' x y := by
 induction c with
 | refl x => exact .refl x
 | edge e => exact h _ _ e
 | symm _ ih => exact ih.symm
 | trans _ _ i1 i2 => exact i1.trans i2
end Go.Aw
namespace Go.Proofs.YtkhcdkioehdndaaGreatDoor
set_option linter.unusedVariables false
set_option linter.unusedSimpArgs false
open Go.Aw
abbrev T4 := KS
structure SrcOk (s : T4) : Prop where
 at0 : 0 ≤ s.At
 at1 : s.At ≤ (s.L_.length : Int)
 len : s.L_.length ≤ 2000
theorem SrcOk.eta {s : T4} (h : SrcOk s) : SrcOk ⟨s.L_, s.At⟩ := h
theorem Bd {α : Type} {c : Prop} [Decidable c] {a b : Option α} {P : α → Prop} (h1 : c → Ok a P) (h2 : ¬ c → Ok b P) : Ok (if decide c = true then a else b) P := by
 by_cases D : c
 ·rw [if_pos (by simp [D])]; exact h1 D
 ·rw [if_neg (by simp [D])]; exact h2 D
theorem Bn {α : Type} {c : Bool} {a b : Option α} {P : α → Prop} (h1 : c = true → Ok a P) (h2 : c = false → Ok b P) : Ok (if c = true then a else b) P := by
 cases c
 ·rw [if_neg (by simp)]; exact h2 rfl
 ·rw [if_pos rfl]; exact h1 rfl
theorem F9 {α : Type} {c : Bool} {a b : Option α} {P : α → Prop} (h1 : c = false → Ok a P) (h2 : c = true → Ok b P) : Ok (if (!c) = true then a else b) P := by
 cases c
 ·exact h1 rfl
 ·exact h2 rfl
theorem Jb {α : Type} {x y : Int} {a b : Option α} {P : α → Prop} (h1 : x = y → Ok a P) (h2 : x ≠ y → Ok b P) : Ok (if (x == y) = true then a else b) P := by
 by_cases h : x = y
 ·rw [if_pos (by simp [h])]; exact h1 h
 ·rw [if_neg (by simp [h])]; exact h2 h
theorem Yt (x : Int) {n : Int} (h1 : 1 ≤ n) (h2 : n ≤ 9223372036854775807) : Ok (My x n) fun r => 0 ≤ r ∧ r < n := by
 unfold My My.J1
 have D := Int.tmod_lt_of_pos x (show 0 < n by omega)
 have G : -n < x.tmod n := by
  have := Int.tmod_lt_of_pos (-x) (show 0 < n by omega)
  rw [Int.neg_tmod] at this; omega
 refine Bd (fun h => by omega) fun _ => .bind' (.rem (by omega) ?_)
 refine Bd (fun h => .pure ?_) (fun h => .pure ?_)
 ·rw [A0 (by omega)]; omega
 ·omega
theorem Yr (l : Li) : Ok (Mt l) SrcOk := by
 unfold Mt
 refine .bind' (.sub 0 (min l.length 2000) rfl (by omega) (by omega) (by omega) (.pure ?_))
 exact ⟨Int.le_refl _, by simp, by simp; omega⟩
theorem Yq {s : T4} (h : SrcOk s) : Ok (Mi s) fun r => SrcOk r.2 := by
 obtain ⟨G, M, D⟩ := h
 unfold Mi
 refine Bd (fun _ => .pure ⟨G, M, D⟩) fun h => ?_
 simp (disch := omega) only [A0]
 refine .bind' (.ix' (by omega) (by omega) fun k x _ _ => .pure ⟨by dsimp only; omega, by dsimp only; omega, D⟩)
theorem Nj {s : T4} (h : SrcOk s) {n : Int} (h1 : 1 ≤ n) (h2 : n ≤ 9223372036854775807) : Ok (Et s n) fun r => SrcOk r.2 ∧ 0 ≤ r.1 ∧ r.1 < n := by
 unfold Et
 exact .bind (Yq h) fun x D => .bind (Yt _ h1 h2) fun y G => .pure ⟨D, G⟩
theorem Eu {s : T4} (h : SrcOk s) {lo hi : Int} (h1 : lo ≤ hi) (h2 : -1000000000 ≤ lo) (G : hi ≤ 1000000000) : Ok (E7 s lo hi) fun r => SrcOk r.2 ∧ lo ≤ r.1 ∧ r.1 ≤ hi := by
 unfold E7
 simp (disch := omega) only [A0]
 refine .bind (Nj h (by omega) (by omega)) fun x D => .pure ⟨D.1, ?_⟩
 dsimp only
 rw [A0 (by omega)]; omega
theorem E3 {s : T4} (h : SrcOk s) {l : Li} (h1 : 1 ≤ l.length) (h2 : l.length ≤ 1000) : Ok (Es s l) fun r => SrcOk r.2 ∧ r.1 ∈ l := by
 unfold Es
 refine .bind (Nj h (by omega) (by omega)) fun x D => .bind' (.ix' D.2.1 D.2.2 fun k y _ G => .pure ⟨D.1, mg G⟩)
def nm (c : UInt8) (k : Nat) : Bt := ⟨#[c, 97 + UInt8.ofNat k]⟩
theorem M0 {c : UInt8} {k : Nat} (G : k < 26) : H9 ⟨#[c]⟩ (k : Int) = some (nm c k) := by
 unfold H9
 have D : ((k : Int).tmod 26) = (k : Int) := by rw [Int.tmod_eq_emod_of_nonneg (by omega)]; omega
 rw [D, A0 (by omega)]
 have : k = 0 ∨ k = 1 ∨ k = 2 ∨ k = 3 ∨ k = 4 ∨ k = 5 ∨ k = 6 ∨ k = 7 ∨ k = 8 ∨ k = 9 ∨ k = 10 ∨ k = 11 ∨ k = 12 ∨ k = 13 ∨ k = 14 ∨ k = 15 ∨ k = 16 ∨ k = 17 ∨ k = 18 ∨ k = 19 ∨ k = 20 ∨ k = 21 ∨ k = 22 ∨ k = 23 ∨ k = 24 ∨ k = 25 := by omega
 rcases this with rfl | rfl | rfl | rfl | rfl | rfl | rfl | rfl | rfl | rfl | rfl | rfl | rfl | rfl | rfl | rfl | rfl | rfl | rfl | rfl | rfl | rfl | rfl | rfl | rfl | rfl <;> rfl
structure PointsOk (cap : Int) (l : List Point) : Prop where
 len : 2 ≤ l.length ∧ l.length ≤ 8
 first : ∀ p, l[0]? = some p → p.At = 0
 last : ∀ p, l[l.length - 1]? = some p → p.At = cap
 up : ∀ i p q, l[i]? = some p → l[i + 1]? = some q → p.At < q.At
 height : ∀ p, p ∈ l → -500 ≤ p.Height ∧ p.Height ≤ 5000
 limit : ∀ p, p ∈ l → 0 ≤ p.Limit ∧ p.Limit ≤ 100000000
structure SegOk (nodes k : Nat) (s : Segment) : Prop where
 name : s.Name = nm 103 k
 ends : 0 ≤ s.From ∧ s.From < (nodes : Int) ∧ 0 ≤ s.To ∧ s.To < (nodes : Int) ∧ s.From ≠ s.To
 cap : 1 ≤ s.Capacity ∧ s.Capacity ≤ 1000
 resist : 0 ≤ s.Resist ∧ s.Resist ≤ 1000
 wave : 0 ≤ s.Wave ∧ s.Wave ≤ 100000
 points : PointsOk s.Capacity s.Points
structure PortOk (nodes k : Nat) (p : Port) : Prop where
 name : p.Name = nm 113 k
 node : 0 ≤ p.Node ∧ p.Node < (nodes : Int)
 pressure : 0 ≤ p.Pressure ∧ p.Pressure ≤ 100000000
structure StOk (nodes k : Nat) (p : Station) : Prop where
 name : p.Name = nm 115 k
 node : 0 ≤ p.Node ∧ p.Node < (nodes : Int)
 head : 0 ≤ p.Head ∧ p.Head ≤ 2000000
 fall : 0 ≤ p.Fall ∧ p.Fall ≤ 100000
 suction : 0 ≤ p.Suction ∧ p.Suction ≤ 400000
structure NetOk (n : Network) : Prop where
 nodes : 2 ≤ n.Nodes.length ∧ n.Nodes.length ≤ 6
 names : ∀ k x, n.Nodes[k]? = some x → x = nm 110 k
 segs1 : n.Nodes.length - 1 ≤ n.Segments.length ∧ n.Segments.length ≤ 8
 segs : ∀ k s, n.Segments[k]? = some s → SegOk n.Nodes.length k s
 ports1 : 2 ≤ n.Ports.length ∧ n.Ports.length ≤ 6
 ports : ∀ k s, n.Ports[k]? = some s → PortOk n.Nodes.length k s
 portsUp : ∀ (i j : Nat) (p q : Port), i < j → n.Ports[i]? = some p → n.Ports[j]? = some q → p.Node < q.Node
 sts1 : n.Stations.length ≤ 6
 sts : ∀ k s, n.Stations[k]? = some s → StOk n.Nodes.length k s
 stsUp : ∀ (i j : Nat) (p q : Sn), i < j → n.Stations[i]? = some p → n.Stations[j]? = some q → p.Node < q.Node
 vapour : -100000 ≤ n.Vapour ∧ n.Vapour ≤ 50000
 settle : 0 ≤ n.Settle ∧ n.Settle ≤ 100
structure PInv (l : List Point) (at_ : Int) : Prop where
 len : 1 ≤ l.length
 first : ∀ p, l[0]? = some p → p.At = 0
 last : ∀ p, l[l.length - 1]? = some p → p.At = at_
 up : ∀ i p q, l[i]? = some p → l[i + 1]? = some q → p.At < q.At
 height : ∀ p, p ∈ l → -500 ≤ p.Height ∧ p.Height ≤ 5000
 limit : ∀ p, p ∈ l → 0 ≤ p.Limit ∧ p.Limit ≤ 100000000
theorem PInv.append {l : List Point} {at_ : Int} (h : PInv l at_) {p : Point} (h1 : at_ < p.At) (h2 : -500 ≤ p.Height ∧ p.Height ≤ 5000) (Y : 0 ≤ p.Limit ∧ p.Limit ≤ 100000000) : PInv (l ++ [p]) p.At := by
 have hl := h.len
 refine ⟨by simp, fun q D => h.first q ?_, fun q D => ?_, fun i a b M G => ?_, fun q D => ?_, fun q D => ?_⟩
 ·rw [List.getElem?_append_left (by omega)] at D; exact D
 ·rw [List.getElem?_append_right (by simp)] at D; simp at D; rw [D]
 ·rw [List.getElem?_append] at M G
  split at G
  ·rw [if_pos (by omega)] at M; exact h.up i a b M G
  ·rename_i hi
   have O := (gs G).1
   simp at O
   have : i + 1 = l.length := by omega
   rw [if_pos (by omega)] at M
   have Z := h.last a (by rw [show l.length - 1 = i by omega]; exact M)
   simp [this] at G
   rw [← G]; omega
 ·rcases List.mem_append.1 D with D | D
  ·exact h.height q D
  ·simp at D; subst D; exact h2
 ·rcases List.mem_append.1 D with D | D
  ·exact h.limit q D
  ·simp at D; subst D; exact Y
theorem PInv.done {l : List Point} {at_ : Int} (h : PInv l at_) (h1 : 2 ≤ l.length ∧ l.length ≤ 8) : PointsOk at_ l := ⟨h1, h.first, h.last, h.up, h.height, h.limit⟩
theorem Ys {n : Int} (h : 0 ≤ n) : ∃ k : Nat, n = (k : Int) := ⟨n.toNat, by omega⟩
theorem Yn {s : T4} (hs : SrcOk s) {nodes k : Nat} (hk : k < 26) {a b : Int} (ha : 0 ≤ a ∧ a < (nodes : Int)) (hb : 0 ≤ b ∧ b < (nodes : Int)) (am : a ≠ b) :
  Ok (Jp s (k : Int) a b) fun r => SegOk nodes k r.1 ∧ SrcOk r.2 := by
 have aa : ∀ (j : Li × Int × Int × Int), SrcOk ⟨j.1, j.2.1⟩ → 0 ≤ j.2.2.1 ∧ j.2.2.1 < (nodes : Int) → 0 ≤ j.2.2.2 ∧ j.2.2.2 < (nodes : Int) → j.2.2.1 ≠ j.2.2.2 →
   Ok (Jp.J1 (k : Int) j) fun r => SegOk nodes k r.1 ∧ SrcOk r.2 := by
  intro j hs h1 h2 h3
  unfold Jp.J1
  refine .bind' (.eq (M0 hk) ?_)
  refine .bind (E3 hs (by decide) (by decide)) fun M af => ?_
  refine .bind (E3 af.1 (by decide) (by decide)) fun r14 ag => ?_
  refine .bind (E3 ag.1 (by decide) (by decide)) fun r17 ah => ?_
  refine .bind (E3 ah.1 (by decide) (by decide)) fun aq al => ?_
  refine .bind (Eu al.1 (by decide) (by decide) (by decide)) fun r25 h25 => ?_
  have c11 := af.2; have c14 := ag.2; have c17 := ah.2; have c22 := al.2
  simp only [List.mem_cons, List.not_mem_nil, or_false] at c11 c14 c17 c22
  refine .bind' (.app (by simp) ?_)
  refine .bind (Q := fun d : Li × Int × List Point => SrcOk ⟨d.1, d.2.1⟩ ∧ ∃ D, PInv d.2.2 D ∧ D < M.1 ∧ d.2.2.length ≤ 7) ?_ ?_
  ·refine .loop (fun G => SrcOk ⟨G.1, G.2.1⟩ ∧ PInv G.2.2.1 G.2.2.2 ∧ 0 ≤ G.2.2.2 ∧ G.2.2.2 < M.1 ∧ G.2.2.1.length ≤ 7) (fun G => 7 - G.2.2.1.length)
    ⟨h25.1, ⟨by simp, by simp, by simp, by simp, by simp; omega, by simp; omega⟩, by simp, by simp; omega, by simp⟩ (by dsimp only; omega) ?_
   rintro ⟨L_, At, ad, D⟩ ⟨i1, i2, i3, i4, i5⟩
   dsimp only at i1 i2 i3 i4 i5 ⊢
   have j4 : ∀ (x : Li × Int × Bool), SrcOk ⟨x.1, x.2.1⟩ → (x.2.2 = true → ad.length < 7) → Ok (Jp.J4 M aq (L_, At, ad, D) x) (Sum.elim (fun G => (SrcOk ⟨G.1, G.2.1⟩ ∧ PInv G.2.2.1 G.2.2.2 ∧ 0 ≤ G.2.2.2 ∧ G.2.2.2 < M.1 ∧ G.2.2.1.length ≤ 7) ∧ 7 - G.2.2.1.length < 7 - ad.length) fun d => SrcOk ⟨d.1, d.2.1⟩ ∧ ∃ D, PInv d.2.2 D ∧ D < M.1 ∧ d.2.2.length ≤ 7) := by
    intro x hx hl
    unfold Jp.J4
    refine Bn (fun hb => ?_) fun _ => .pure ⟨hx, D, i2, i4, i5⟩
    have hl := hl hb
    refine .bind (Eu hx (by decide) (by decide) (by decide)) fun r197 Y => ?_
    dsimp only
    rw [A0 (by omega)]
    refine Bd (fun _ => .pure ⟨Y.1, D, i2, i4, i5⟩) fun ao => ?_
    refine .bind (Eu Y.1 (by decide) (by decide) (by decide)) fun ab ai => ?_
    refine .bind (E3 ai.1 (by decide) (by decide)) fun ac Z => ?_
    have O := Z.2
    simp only [List.mem_cons, List.not_mem_nil, or_false] at O
    refine .bind (Nj Z.1 (by decide) (by decide)) fun r206 aj => ?_
    refine .bind' (.app (by simp; omega) (.pure ⟨⟨aj.1, ?_, by dsimp only; omega, by dsimp only; omega, by simp; omega⟩, by simp; omega⟩))
    have hh : -50 ≤ ab.1 * ac.1 ∧ ab.1 * ac.1 ≤ 600 := by
     rcases O with h | h | h <;> rw [h] <;> omega
    refine i2.append ?_ ?_ ?_ <;> simp (disch := omega) only [A0] <;> omega
   unfold Jp.B3
   refine Bd (fun h => ?_) fun h => ?_
   ·refine .bind (Nj i1 (by decide) (by decide)) fun r213 ak => j4 (_, _, _) ak.1 fun _ => by dsimp only at h; omega
   ·exact j4 (_, _, _) i1 (by simp)
  ·rintro ⟨dl, da, dp⟩ ⟨hd, D, hp, ao, an⟩
   dsimp only at hd hp an
   unfold Jp.J2
   refine .bind (Eu hd (by decide) (by decide) (by decide)) fun ap ae => ?_
   have h1l := hp.len
   refine .bind' (.app (by simp; omega) (.pure ⟨⟨rfl, ⟨h1.1, h1.2, h2.1, h2.2, h3⟩, by dsimp only; omega, by dsimp only; omega, by dsimp only; omega, ?_⟩, ae.1⟩))
   exact (hp.append (p := ⟨M.1, ap.1, aq.1⟩) ao (by dsimp only; omega) (by dsimp only; omega)).done (by simp; omega)
 unfold Jp
 refine .bind (Nj hs (by decide) (by decide)) fun r hr => ?_
 exact Jb (fun _ => aa _ hr.1 hb ha (Ne.symm am)) fun _ => aa _ hr.1 ha hb am
theorem Hl {s : Li} {g : Int → Option Bool} {P : Int → Bool} (hg : ∀ (k : Nat) (x : Int), s[k]? = some x → g x = some (P x)) :
  Ok (Kc s g) fun r => (r = -1 ∧ ∀ (j : Nat) (y : Int), s[j]? = some y → P y = false) ∨ ∃ (k : Nat) (x : Int), r = (k : Int) ∧ s[k]? = some x ∧ P x = true ∧ ∀ (j : Nat) (y : Int), j < k → s[j]? = some y → P y = false := by
 unfold Kc
 refine .bind' (.forL (fun k _ => ∀ (j : Nat) (y : Int), j < k → s[j]? = some y → P y = false) (fun r => ∃ (k : Nat) (x : Int), r = (k : Int) ∧ s[k]? = some x ∧ P x = true ∧ ∀ (j : Nat) (y : Int), j < k → s[j]? = some y → P y = false) (fun j y h => absurd h (Nat.not_lt_zero _)) ?_ ?_ ?_)
 ·intro k x _ M hi
  unfold Kc.B2
  refine .bind' (.eq (hg k x M) (Bn (fun G => .pure ⟨k, x, rfl, M, G, hi⟩) fun G => .pure fun j y Y D => ?_))
  by_cases h : j < k
  ·exact hi j y h D
  ·have : j = k := by omega
   subst this
   rw [M] at D; simp at D; subst D; exact G
 ·intro _ hi
  simp only [Sum.elim_inl]
  unfold Kc.J1
  exact .pure (.inl ⟨rfl, fun j y D => hi j y (gs D).1 D⟩)
 ·intro b O
  exact .pure (.inr O)
theorem F7 {s : Li} {g : Int → Option Bool} {P : Int → Bool} (hg : ∀ (k : Nat) (x : Int), s[k]? = some x → g x = some (P x)) :
  Jl s g = some (s.any P) := by
 have : Ok (Jl s g) fun r => r = s.any P := by
  unfold Jl
  refine .bind (Hl hg) fun r O => .pure ?_
  rcases O with ⟨rfl, h⟩ | ⟨k, x, rfl, D, M, _⟩
  ·have : s.any P = false := by
    rw [List.any_eq_false]
    intro x D
    obtain ⟨j, G⟩ := List.getElem?_of_mem D
    rw [h j x G]; simp
   rw [this]; rfl
  ·have : s.any P = true := List.any_eq_true.2 ⟨x, mg D, M⟩
   rw [this]; simp
 obtain ⟨r, h, rfl⟩ := this
 exact h
theorem Fk {s : List Bt} {g : Bt → Option Bool} {P : Bt → Bool} (hg : ∀ (k : Nat) (x : Bt), s[k]? = some x → g x = some (P x)) :
  Ok (Jq s g) fun r => (r = -1 ∧ ∀ (j : Nat) (y : Bt), s[j]? = some y → P y = false) ∨ ∃ (k : Nat) (x : Bt), r = (k : Int) ∧ s[k]? = some x ∧ P x = true ∧ ∀ (j : Nat) (y : Bt), j < k → s[j]? = some y → P y = false := by
 unfold Jq
 refine .bind' (.forL (fun k _ => ∀ (j : Nat) (y : Bt), j < k → s[j]? = some y → P y = false) (fun r => ∃ (k : Nat) (x : Bt), r = (k : Int) ∧ s[k]? = some x ∧ P x = true ∧ ∀ (j : Nat) (y : Bt), j < k → s[j]? = some y → P y = false) (fun j y h => absurd h (Nat.not_lt_zero _)) ?_ ?_ ?_)
 ·intro k x _ M hi
  unfold Jq.B2
  refine .bind' (.eq (hg k x M) (Bn (fun G => .pure ⟨k, x, rfl, M, G, hi⟩) fun G => .pure fun j y Y D => ?_))
  by_cases h : j < k
  ·exact hi j y h D
  ·have : j = k := by omega
   subst this
   rw [M] at D; simp at D; subst D; exact G
 ·intro _ hi
  simp only [Sum.elim_inl]
  unfold Jq.J1
  exact .pure (.inl ⟨rfl, fun j y D => hi j y (gs D).1 D⟩)
 ·intro b O
  exact .pure (.inr O)
theorem E2 {s : List Bt} {g : Bt → Option Bool} {P : Bt → Bool} (hg : ∀ (k : Nat) (x : Bt), s[k]? = some x → g x = some (P x)) :
  Ju s g = some (s.any P) := by
 have : Ok (Ju s g) fun r => r = s.any P := by
  unfold Ju
  refine .bind (Fk hg) fun r O => .pure ?_
  rcases O with ⟨rfl, h⟩ | ⟨k, x, rfl, D, M, _⟩
  ·have : s.any P = false := by
    rw [List.any_eq_false]
    intro x D
    obtain ⟨j, G⟩ := List.getElem?_of_mem D
    rw [h j x G]; simp
   rw [this]; rfl
  ·have : s.any P = true := List.any_eq_true.2 ⟨x, mg D, M⟩
   rw [this]; simp
 obtain ⟨r, h, rfl⟩ := this
 exact h
theorem Dq {s : List Sg} {g : Sg → Option Bool} {P : Sg → Bool} (hg : ∀ (k : Nat) (x : Sg), s[k]? = some x → g x = some (P x)) :
  Ok (Kb s g) fun r => (r = -1 ∧ ∀ (j : Nat) (y : Sg), s[j]? = some y → P y = false) ∨ ∃ (k : Nat) (x : Sg), r = (k : Int) ∧ s[k]? = some x ∧ P x = true ∧ ∀ (j : Nat) (y : Sg), j < k → s[j]? = some y → P y = false := by
 unfold Kb
 refine .bind' (.forL (fun k _ => ∀ (j : Nat) (y : Sg), j < k → s[j]? = some y → P y = false) (fun r => ∃ (k : Nat) (x : Sg), r = (k : Int) ∧ s[k]? = some x ∧ P x = true ∧ ∀ (j : Nat) (y : Sg), j < k → s[j]? = some y → P y = false) (fun j y h => absurd h (Nat.not_lt_zero _)) ?_ ?_ ?_)
 ·intro k x _ M hi
  unfold Kb.B2
  refine .bind' (.eq (hg k x M) (Bn (fun G => .pure ⟨k, x, rfl, M, G, hi⟩) fun G => .pure fun j y Y D => ?_))
  by_cases h : j < k
  ·exact hi j y h D
  ·have : j = k := by omega
   subst this
   rw [M] at D; simp at D; subst D; exact G
 ·intro _ hi
  simp only [Sum.elim_inl]
  unfold Kb.J1
  exact .pure (.inl ⟨rfl, fun j y D => hi j y (gs D).1 D⟩)
 ·intro b O
  exact .pure (.inr O)
theorem Cc {s : List Sg} {g : Sg → Option Bool} {P : Sg → Bool} (hg : ∀ (k : Nat) (x : Sg), s[k]? = some x → g x = some (P x)) :
  H3 s g = some (s.any P) := by
 have : Ok (H3 s g) fun r => r = s.any P := by
  unfold H3
  refine .bind (Dq hg) fun r O => .pure ?_
  rcases O with ⟨rfl, h⟩ | ⟨k, x, rfl, D, M, _⟩
  ·have : s.any P = false := by
    rw [List.any_eq_false]
    intro x D
    obtain ⟨j, G⟩ := List.getElem?_of_mem D
    rw [h j x G]; simp
   rw [this]; rfl
  ·have : s.any P = true := List.any_eq_true.2 ⟨x, mg D, M⟩
   rw [this]; simp
 obtain ⟨r, h, rfl⟩ := this
 exact h
theorem Ek {s : List Port} {g : Port → Option Bool} {P : Port → Bool} (hg : ∀ (k : Nat) (x : Port), s[k]? = some x → g x = some (P x)) :
  Ok (Js s g) fun r => (r = -1 ∧ ∀ (j : Nat) (y : Port), s[j]? = some y → P y = false) ∨ ∃ (k : Nat) (x : Port), r = (k : Int) ∧ s[k]? = some x ∧ P x = true ∧ ∀ (j : Nat) (y : Port), j < k → s[j]? = some y → P y = false := by
 unfold Js
 refine .bind' (.forL (fun k _ => ∀ (j : Nat) (y : Port), j < k → s[j]? = some y → P y = false) (fun r => ∃ (k : Nat) (x : Port), r = (k : Int) ∧ s[k]? = some x ∧ P x = true ∧ ∀ (j : Nat) (y : Port), j < k → s[j]? = some y → P y = false) (fun j y h => absurd h (Nat.not_lt_zero _)) ?_ ?_ ?_)
 ·intro k x _ M hi
  unfold Js.B2
  refine .bind' (.eq (hg k x M) (Bn (fun G => .pure ⟨k, x, rfl, M, G, hi⟩) fun G => .pure fun j y Y D => ?_))
  by_cases h : j < k
  ·exact hi j y h D
  ·have : j = k := by omega
   subst this
   rw [M] at D; simp at D; subst D; exact G
 ·intro _ hi
  simp only [Sum.elim_inl]
  unfold Js.J1
  exact .pure (.inl ⟨rfl, fun j y D => hi j y (gs D).1 D⟩)
 ·intro b O
  exact .pure (.inr O)
theorem D3 {s : List Port} {g : Port → Option Bool} {P : Port → Bool} (hg : ∀ (k : Nat) (x : Port), s[k]? = some x → g x = some (P x)) :
  J0 s g = some (s.any P) := by
 have : Ok (J0 s g) fun r => r = s.any P := by
  unfold J0
  refine .bind (Ek hg) fun r O => .pure ?_
  rcases O with ⟨rfl, h⟩ | ⟨k, x, rfl, D, M, _⟩
  ·have : s.any P = false := by
    rw [List.any_eq_false]
    intro x D
    obtain ⟨j, G⟩ := List.getElem?_of_mem D
    rw [h j x G]; simp
   rw [this]; rfl
  ·have : s.any P = true := List.any_eq_true.2 ⟨x, mg D, M⟩
   rw [this]; simp
 obtain ⟨r, h, rfl⟩ := this
 exact h
theorem Cl {s : List Sn} {g : Sn → Option Bool} {P : Sn → Bool} (hg : ∀ (k : Nat) (x : Sn), s[k]? = some x → g x = some (P x)) :
  Ok (Hx s g) fun r => (r = -1 ∧ ∀ (j : Nat) (y : Sn), s[j]? = some y → P y = false) ∨ ∃ (k : Nat) (x : Sn), r = (k : Int) ∧ s[k]? = some x ∧ P x = true ∧ ∀ (j : Nat) (y : Sn), j < k → s[j]? = some y → P y = false := by
 unfold Hx
 refine .bind' (.forL (fun k _ => ∀ (j : Nat) (y : Sn), j < k → s[j]? = some y → P y = false) (fun r => ∃ (k : Nat) (x : Sn), r = (k : Int) ∧ s[k]? = some x ∧ P x = true ∧ ∀ (j : Nat) (y : Sn), j < k → s[j]? = some y → P y = false) (fun j y h => absurd h (Nat.not_lt_zero _)) ?_ ?_ ?_)
 ·intro k x _ M hi
  unfold Hx.B2
  refine .bind' (.eq (hg k x M) (Bn (fun G => .pure ⟨k, x, rfl, M, G, hi⟩) fun G => .pure fun j y Y D => ?_))
  by_cases h : j < k
  ·exact hi j y h D
  ·have : j = k := by omega
   subst this
   rw [M] at D; simp at D; subst D; exact G
 ·intro _ hi
  simp only [Sum.elim_inl]
  unfold Hx.J1
  exact .pure (.inl ⟨rfl, fun j y D => hi j y (gs D).1 D⟩)
 ·intro b O
  exact .pure (.inr O)
theorem De {s : List Sn} {g : Sn → Option Bool} {P : Sn → Bool} (hg : ∀ (k : Nat) (x : Sn), s[k]? = some x → g x = some (P x)) :
  Jn s g = some (s.any P) := by
 have : Ok (Jn s g) fun r => r = s.any P := by
  unfold Jn
  refine .bind (Cl hg) fun r O => .pure ?_
  rcases O with ⟨rfl, h⟩ | ⟨k, x, rfl, D, M, _⟩
  ·have : s.any P = false := by
    rw [List.any_eq_false]
    intro x D
    obtain ⟨j, G⟩ := List.getElem?_of_mem D
    rw [h j x G]; simp
   rw [this]; rfl
  ·have : s.any P = true := List.any_eq_true.2 ⟨x, mg D, M⟩
   rw [this]; simp
 obtain ⟨r, h, rfl⟩ := this
 exact h
theorem Gc {s : List Bt} {v : Bt} :
  Ok (H5 s v) fun r => (r = -1 ∧ ∀ (j : Nat) (y : Bt), s[j]? = some y → (O6 v y) = false) ∨ ∃ (k : Nat) (y : Bt), r = (k : Int) ∧ s[k]? = some y ∧ (O6 v y) = true ∧ ∀ (j : Nat) (y : Bt), j < k → s[j]? = some y → (O6 v y) = false := by
 unfold H5
 refine .bind' (.forL (fun k _ => ∀ (j : Nat) (y : Bt), j < k → s[j]? = some y → (O6 v y) = false) (fun r => ∃ (k : Nat) (y : Bt), r = (k : Int) ∧ s[k]? = some y ∧ (O6 v y) = true ∧ ∀ (j : Nat) (y : Bt), j < k → s[j]? = some y → (O6 v y) = false) (fun j y h => absurd h (Nat.not_lt_zero _)) ?_ ?_ ?_)
 ·intro k x _ M hi
  unfold H5.B2
  refine Bn (fun G => .pure ⟨k, x, rfl, M, G, hi⟩) fun G => .pure fun j y Y D => ?_
  by_cases h : j < k
  ·exact hi j y h D
  ·have : j = k := by omega
   subst this
   rw [M] at D; simp at D; subst D; exact G
 ·intro _ hi
  simp only [Sum.elim_inl]
  unfold H5.J1
  exact .pure (.inl ⟨rfl, fun j y D => hi j y (gs D).1 D⟩)
 ·intro b O
  exact .pure (.inr O)
theorem M1 {α β : Type} {l : List α} {g : α → β} {f : Nat → α → List β → Option (List β)} (hf : ∀ k x D, f k x D = (Eg D [g x]).bind fun y => some y) (hl : l.length ≤ 1000) :
  Ok (forS f 0 l []) fun r => r = l.map g := by
 refine .forS (fun k D => D = (l.take k).map g) (by simp) ?_ fun D h => by rw [h]; simp
 rintro k x D G rfl
 rw [hf]
 have M := (gs G).1
 refine .bind' (.app (by simp; omega) (.pure ?_))
 rw [List.take_add_one, G]
 simp
theorem N3 {n : Nw} (h1 : n.Segments.length ≤ 1000) (h2 : n.Ports.length ≤ 1000) (D : n.Stations.length ≤ 1000) :
  Ok (Ic n) fun r => r.l = [n.Nodes, n.Segments.map (·.Name), n.Ports.map (·.Name), n.Stations.map (·.Name)] := by
 unfold Ic
 refine .bind (M1 (g := (·.Name)) (fun _ _ _ => rfl) h1) ?_
 rintro _ rfl
 unfold Ic.J1
 refine .bind (M1 (g := (·.Name)) (fun _ _ _ => rfl) h2) ?_
 rintro _ rfl
 unfold Ic.J2
 refine .bind (M1 (g := (·.Name)) (fun _ _ _ => rfl) D) ?_
 rintro _ rfl
 unfold Ic.J3
 exact .pure rfl
def Named (c : UInt8) (l : List Bt) : Prop := l.length ≤ 26 ∧ ∀ (k : Nat) (x : Bt), l[k]? = some x → x = nm c k
theorem NetOk.named {n : Nw} (h : NetOk n) : ∀ l, l ∈ [n.Nodes, n.Segments.map (·.Name), n.Ports.map (·.Name), n.Stations.map (·.Name)] → ∃ c, (c = 110 ∨ c = 103 ∨ c = 113 ∨ c = 115) ∧ Named c l := by
 have O := h.nodes; have Y := h.segs1; have Z := h.ports1; have h4 := h.sts1
 intro l M
 simp only [List.mem_cons, List.not_mem_nil, or_false] at M
 rcases M with rfl | rfl | rfl | rfl
 ·exact ⟨110, by simp, by omega, h.names⟩
 ·refine ⟨103, by simp, by simp; omega, fun k x D => ?_⟩
  rw [List.getElem?_map] at D
  obtain ⟨s, G, rfl⟩ := Option.map_eq_some_iff.1 D
  exact (h.segs k s G).name
 ·refine ⟨113, by simp, by simp; omega, fun k x D => ?_⟩
  rw [List.getElem?_map] at D
  obtain ⟨s, G, rfl⟩ := Option.map_eq_some_iff.1 D
  exact (h.ports k s G).name
 ·refine ⟨115, by simp, by simp; omega, fun k x D => ?_⟩
  rw [List.getElem?_map] at D
  obtain ⟨s, G, rfl⟩ := Option.map_eq_some_iff.1 D
  exact (h.sts k s G).name
theorem Y9 {k : Nat} (h : k < 26) : k = 0 ∨ k = 1 ∨ k = 2 ∨ k = 3 ∨ k = 4 ∨ k = 5 ∨ k = 6 ∨ k = 7 ∨ k = 8 ∨ k = 9 ∨ k = 10 ∨ k = 11 ∨ k = 12 ∨ k = 13 ∨ k = 14 ∨ k = 15 ∨ k = 16 ∨ k = 17 ∨ k = 18 ∨ k = 19 ∨ k = 20 ∨ k = 21 ∨ k = 22 ∨ k = 23 ∨ k = 24 ∨ k = 25 := by omega
theorem Uh {c : UInt8} (hc : c = 110 ∨ c = 103 ∨ c = 113 ∨ c = 115) {k : Nat} (D : k < 26) : Gq (nm c k) = some true := by
 rcases hc with rfl | rfl | rfl | rfl <;>
  rcases Y9 D with rfl | rfl | rfl | rfl | rfl | rfl | rfl | rfl | rfl | rfl | rfl | rfl | rfl | rfl | rfl | rfl | rfl | rfl | rfl | rfl | rfl | rfl | rfl | rfl | rfl | rfl <;> rfl
theorem Ug {c : UInt8} {i j : Nat} (hi : i < 26) (O : j < 26) (h : O6 (nm c i) (nm c j) = true) : i = j := by
 have M : (nm c i).toList = (nm c j).toList := by simpa [O6] using h
 have D : [c, 97 + UInt8.ofNat i] = [c, 97 + UInt8.ofNat j] := by simpa [nm, ByteArray.toList, ByteArray.toList.loop, ByteArray.size, ByteArray.get!] using M
 simp only [List.cons.injEq, and_true, true_and] at D
 have G := congrArg UInt8.toNat D
 simp only [UInt8.toNat_add, UInt8.toNat_ofNat'] at G
 have : (97 : UInt8).toNat = 97 := rfl
 rw [this] at G
 omega
theorem Nx (a : Bt) : O6 a a = true := by simp [O6]
def Zj (l : List Bt) : Prop := l.length ≤ 26 ∧ (∀ (k : Nat) (x : Bt), l[k]? = some x → Gq x = some true) ∧ ∀ (i j : Nat) (x y : Bt), l[i]? = some x → l[j]? = some y → O6 x y = true → i = j
theorem Named.nmd {c : UInt8} (hc : c = 110 ∨ c = 103 ∨ c = 113 ∨ c = 115) {l : List Bt} (h : Named c l) : Zj l := by
 obtain ⟨O, D⟩ := h
 refine ⟨O, fun k x M => ?_, fun i j x y hi G Y => ?_⟩
 ·have := (gs M).1
  rw [D k x M]; exact Uh hc (by omega)
 ·have Z := (gs hi).1
  have aa := (gs G).1
  have hx := D i x hi; have hy := D j y G
  subst hx; subst hy
  exact Ug (by omega) (by omega) Y
theorem On {l : List Bt} (h : Zj l) {k : Nat} {x : Bt} (D : l[k]? = some x) : Ok (H5 l x) fun r => r = (k : Int) := by
 obtain ⟨Z, _, G⟩ := h
 refine Gc.mono ?_
 rintro r (⟨rfl, h⟩ | ⟨j, y, rfl, O, M, Y⟩)
 ·have := h k x D
  rw [Nx] at this; cases this
 ·have := G k j x y D O M
  omega
structure SegB (nodes : Nat) (s : Segment) : Prop where
 ends : 0 ≤ s.From ∧ s.From < (nodes : Int) ∧ 0 ≤ s.To ∧ s.To < (nodes : Int) ∧ s.From ≠ s.To
 cap : 1 ≤ s.Capacity ∧ s.Capacity ≤ 1000
 resist : 0 ≤ s.Resist ∧ s.Resist ≤ 1000
 wave : 0 ≤ s.Wave ∧ s.Wave ≤ 100000
 points : PointsOk s.Capacity s.Points
theorem SegOk.b {nodes k : Nat} {s : Sg} (h : SegOk nodes k s) : SegB nodes s := ⟨h.ends, h.cap, h.resist, h.wave, h.points⟩
theorem Xc {nodes : Nat} {s : Sg} (h : SegB nodes s) : Ib s = some true := by
 have : Ok (Ib s) fun r => r = true := by
  have G := h.points
  have h1 := h.ends; have h2 := h.cap; have h3 := h.resist; have h4 := h.wave; have h5 := G.len
  unfold Ib
  refine Bn (fun D => ?_) fun _ => ?_
  ·simp [Bf] at D
   omega
  refine .bind' (.forL (fun _ _ => True) (fun _ => False) trivial ?_ ?_ fun _ h => h.elim)
  ·intro i p _ hi _
   have O := mg hi
   have g1 := G.height p O; have g2 := G.limit p O
   unfold Ib.B3
   refine Bn (fun D => ?_) fun _ => Bn (fun D => ?_) fun _ => Bd (fun h0 => ?_) fun h0 => ?_
   ·simp [Bf] at D; omega
   ·simp [Bf] at D; omega
   ·rw [A0 (by have := (gs hi).1; omega)]
    obtain ⟨j, rfl⟩ : ∃ j, i = j + 1 := ⟨i - 1, by omega⟩
    have M : j < s.Points.length := by have := (gs hi).1; omega
    have hj : s.Points[j]? = some s.Points[j] := gq M
    have hup := G.up j _ p hj hi
    refine .bind' (.ix j (by omega) M ?_)
    unfold Ib.J4
    refine Bd (fun h => ?_) fun _ => .pure trivial
    dsimp only at h; omega
   ·unfold Ib.J4
    exact .pure trivial
  ·intro _ _
   simp only [Sum.elim_inl]
   unfold Ib.J1 Ib.J2
   have Y : s.Points[0]? = some s.Points[0] := gq (by omega)
   have Z : s.Points[s.Points.length - 1]? = some s.Points[s.Points.length - 1] := gq (by omega)
   refine .bind' (.ix 0 rfl (by omega) (Bn (fun _ => ?_) fun D => ?_))
   ·rw [A0 (by omega)]
    refine .bind' (.ix (s.Points.length - 1) (by omega) (by omega) (.pure ?_))
    have := G.last _ Z
    dsimp only
    rw [this]; simp
   ·have := G.first _ Y
    dsimp only at D
    rw [this] at D
    cases D
 obtain ⟨r, h, rfl⟩ := this
 exact h
theorem Em {α : Type} {l : List α} {P : α → Bool} (h : ∀ (k : Nat) (x : α), l[k]? = some x → P x = false) : l.any P = false := by
 rw [List.any_eq_false]
 intro x G
 obtain ⟨j, D⟩ := List.getElem?_of_mem G
 rw [h j x D]; simp
structure NetV (n : Network) : Prop where
 nodes : 1 ≤ n.Nodes.length ∧ n.Nodes.length ≤ 6
 segs1 : n.Segments.length ≤ 8
 segs : ∀ (k : Nat) (s : Sg), n.Segments[k]? = some s → ∃ j, SegOk n.Nodes.length j s
 ports1 : n.Ports.length ≤ 6
 ports : ∀ k s, n.Ports[k]? = some s → PortOk n.Nodes.length k s
 sts1 : n.Stations.length ≤ 6
 sts : ∀ k s, n.Stations[k]? = some s → StOk n.Nodes.length k s
 stsUp : ∀ (i j : Nat) (p q : Sn), i < j → n.Stations[i]? = some p → n.Stations[j]? = some q → p.Node < q.Node
 vapour : -100000 ≤ n.Vapour ∧ n.Vapour ≤ 50000
 settle : 0 ≤ n.Settle ∧ n.Settle ≤ 100
 named : ∀ l, l ∈ [n.Nodes, n.Segments.map (·.Name), n.Ports.map (·.Name), n.Stations.map (·.Name)] → Zj l
theorem NetOk.v {n : Nw} (h : NetOk n) : NetV n :=
 ⟨by have := h.nodes; omega, h.segs1.2, fun k s G => ⟨k, h.segs k s G⟩, h.ports1.2, h.ports, h.sts1, h.sts, h.stsUp, h.vapour, h.settle, fun l D => let ⟨_, hc, hn⟩ := h.named l D; hn.nmd hc⟩
structure NetW (n : Network) : Prop where
 nodes : 1 ≤ n.Nodes.length ∧ n.Nodes.length ≤ 6
 segs1 : n.Segments.length ≤ 8
 segs : ∀ (k : Nat) (s : Sg), n.Segments[k]? = some s → SegB n.Nodes.length s
 ports1 : n.Ports.length ≤ 6
 ports : ∀ (k : Nat) s, n.Ports[k]? = some s → (0 ≤ s.Node ∧ s.Node < (n.Nodes.length : Int)) ∧ 0 ≤ s.Pressure ∧ s.Pressure ≤ 100000000
 sts1 : n.Stations.length ≤ 6
 sts : ∀ k s, n.Stations[k]? = some s → StOk n.Nodes.length k s
 stsUp : ∀ (i j : Nat) (p q : Sn), i < j → n.Stations[i]? = some p → n.Stations[j]? = some q → p.Node < q.Node
 vapour : -100000 ≤ n.Vapour ∧ n.Vapour ≤ 50000
 settle : 0 ≤ n.Settle ∧ n.Settle ≤ 100
 named : ∀ l, l ∈ [n.Nodes, n.Segments.map (·.Name), n.Ports.map (·.Name), n.Stations.map (·.Name)] → Zj l
theorem NetV.w {n : Nw} (h : NetV n) : NetW n :=
 ⟨h.nodes, h.segs1, fun k s D => (h.segs k s D).choose_spec.b, h.ports1, fun k s D => ⟨(h.ports k s D).node, (h.ports k s D).pressure⟩, h.sts1, h.sts, h.stsUp, h.vapour, h.settle, h.named⟩
theorem Rg {n : Nw} (h : NetW n) : H8 n = some 0 := by
 have : Ok (H8 n) fun r => r = 0 := by
  have h1 := h.nodes; have h2 := h.segs1; have h3 := h.ports1; have h4 := h.sts1; have h5 := h.vapour; have h6 := h.settle
  unfold H8
  refine .bind (Q := fun r => r = true) ?_ ?_
  ·unfold Mq
   refine Bn (fun hb => ?_) fun _ => .bind' (.eq (Cc (P := fun x => Hw x) fun _ _ _ => rfl) (.pure ?_))
   ·simp at hb; omega
   ·rw [Em]; rfl
    intro k x D
    have := (h.segs k x D).points.len
    simp [Hw]; omega
  rintro _ rfl
  refine F9 (fun hb => by cases hb) fun _ => ?_
  refine .bind (N3 (by omega) (by omega) (by omega)) fun Y hr => ?_
  refine .bind' (.forI (fun _ _ => True) (fun _ => False) trivial ?_ ?_ fun _ h => h.elim)
  ·intro k _ hk _
   unfold H8.B2
   refine .bind' (.ix k rfl (by rw [hr]; exact hk) ?_)
   have Z : k < Y.l.length := by rw [hr]; exact hk
   have hl := h.named Y.l[k] (by rw [← hr]; exact List.getElem_mem _)
   refine .bind' (.eq (E2 (P := fun _ => false) fun j x D => ?_) ?_)
   ·unfold Mn
    rw [hl.2.1 j x D]; rfl
   ·rw [Em fun _ _ _ => rfl]
    exact .pure trivial
  ·intro _ _
   simp only [Sum.elim_inl]
   unfold H8.J1
   refine .bind (Q := fun r => r = false) ?_ ?_
   ·unfold Mh
    refine .bind (N3 (by omega) (by omega) (by omega)) fun Y hr => ?_
    refine .bind' (.forI (fun _ _ => True) (fun _ => False) trivial ?_ ?_ fun _ h => h.elim)
    ·intro k _ hk _
     unfold Mh.B4
     refine .bind' (.ix k rfl (by rw [hr]; exact hk) ?_)
     have Z : k < Y.l.length := by rw [hr]; exact hk
     have hl := h.named Y.l[k] (by rw [← hr]; exact List.getElem_mem _)
     refine .bind' (.forL (fun _ _ => True) (fun _ => False) trivial ?_ ?_ fun _ h => h.elim)
     ·intro j x _ hj _
      unfold Mh.B6
      refine .bind (On hl hj) ?_
      rintro _ rfl
      refine Bd (fun h => by omega) fun _ => .pure trivial
     ·intro _ _
      exact .pure trivial
    ·intro _ _
     simp only [Sum.elim_inl]
     unfold Mh.J1
     refine .bind' (.forL (fun _ _ => True) (fun _ => False) trivial ?_ ?_ fun _ h => h.elim)
     ·intro j x _ hj _
      unfold Mh.B3
      refine .bind (Q := fun r => r = (j : Int)) ((Cl (P := fun y => Gj y x) fun _ _ _ => rfl).mono ?_) ?_
      ·rintro r (⟨rfl, hh⟩ | ⟨k, y, rfl, hk, he, hlt⟩)
       ·have := hh j x hj
        simp [Gj] at this
       ·simp [Gj] at he
        by_cases hkj : k = j
        ·omega
        ·rcases Nat.lt_or_gt_of_ne hkj with M | M
         ·have := h.stsUp k j y x M hk hj; omega
         ·have := h.stsUp j k x y M hj hk; omega
      ·rintro _ rfl
       refine Bd (fun h => by omega) fun _ => .pure trivial
     ·intro _ _
      exact .pure rfl
   rintro _ rfl
   refine Bn (fun h => by cases h) fun _ => ?_
   refine .bind (Q := fun r => r = true) ?_ ?_
   ·unfold Mx
    let G : Li → Prop := fun l => ∀ x, x ∈ l → 0 ≤ x ∧ x < (n.Nodes.length : Int)
    have app : ∀ {l m : Li}, G l → G m → G (l ++ m) := fun h1 h2 x D => by
     rcases List.mem_append.1 D with D | D
     ·exact h1 x D
     ·exact h2 x D
    refine .bind (Q := fun l => l.length ≤ 100 ∧ G l) (.forS (fun k l => l.length ≤ 2 * k ∧ G l) ⟨by simp, by intro x D; cases D⟩ ?_ fun l hl => ⟨by omega, hl.2⟩) ?_
    ·rintro k s l hs ⟨l1, O⟩
     have Z := (gs hs).1
     have he := (h.segs k s hs).ends
     unfold Mx.B6
     refine .bind' (.app (by simp; omega) (.pure ⟨by simp; omega, app O ?_⟩))
     intro x D
     simp at D
     rcases D with rfl | rfl <;> omega
    rintro l ⟨l1, O⟩
    unfold Mx.J1
    refine .bind (Q := fun l => l.length ≤ 200 ∧ G l) (.forS (fun k l => l.length ≤ 100 + k ∧ G l) ⟨by omega, O⟩ ?_ fun l hl => ⟨by omega, hl.2⟩) ?_
    ·rintro k s l hs ⟨l1, O⟩
     have Z := (gs hs).1
     have he := (h.ports k s hs).1
     unfold Mx.B5
     refine .bind' (.app (by simp; omega) (.pure ⟨by simp; omega, app O ?_⟩))
     intro x D
     simp at D; subst D; omega
    rintro l ⟨l1, O⟩
    unfold Mx.J2
    refine .bind (Q := fun l => l.length ≤ 300 ∧ G l) (.forS (fun k l => l.length ≤ 200 + k ∧ G l) ⟨by omega, O⟩ ?_ fun l hl => ⟨by omega, hl.2⟩) ?_
    ·rintro k s l hs ⟨l1, O⟩
     have Z := (gs hs).1
     have he := (h.sts k s hs).node
     unfold Mx.B4
     refine .bind' (.app (by simp; omega) (.pure ⟨by simp; omega, app O ?_⟩))
     intro x D
     simp at D; subst D; omega
    rintro l ⟨l1, O⟩
    unfold Mx.J3
    refine .bind' (.eq (F7 (P := fun x => Hy x n) fun _ _ _ => rfl) (.pure ?_))
    rw [Em]; rfl
    intro k x D
    have := O x (mg D)
    simp [Hy]; omega
   rintro _ rfl
   refine F9 (fun h => by cases h) fun _ => ?_
   refine .bind (Q := fun r => r = true) ?_ ?_
   ·unfold Pj
    refine .bind' (.eq (Cc (P := fun _ => false) fun k x D => by unfold Mg; rw [Xc (h.segs k x D)]; rfl) ?_)
    rw [Em fun _ _ _ => rfl]
    refine Bn (fun h => by cases h) fun _ => ?_
    refine .bind' (.eq (D3 (P := fun x => Hz x) fun _ _ _ => rfl) ?_)
    rw [Em]
    ·refine Bn (fun h => by cases h) fun _ => ?_
     refine .bind' (.eq (De (P := fun x => Ia x) fun _ _ _ => rfl) ?_)
     rw [Em]
     ·refine Bn (fun h => by cases h) fun _ => .pure ?_
      simp [Bf]; omega
     ·intro k x D
      have h1 := (h.sts k x D).head; have h2 := (h.sts k x D).fall; have h3 := (h.sts k x D).suction
      simp [Ia, Bf]; omega
    ·intro k x D
     have h1 := (h.ports k x D).2
     simp [Hz, Bf]; omega
   rintro _ rfl
   exact F9 (fun h => by cases h) fun _ => .pure rfl
 obtain ⟨r, h, rfl⟩ := this
 exact h
theorem Rh {n : Nw} (h : NetV n) : H8 n = some 0 := Rg h.w
theorem G6 {a b q r : Int} (hb : 0 < b) (h : b * q + r = a) (D : 0 ≤ r) (h1 : r < b) : a / b = q ∧ a % b = r :=
 (Int.ediv_emod_unique hb).2 ⟨by omega, D, h1⟩
theorem Xk {a b : Int} (hb : 0 < b) : (a.tmod b < 0 → a / b = a.tdiv b - 1 ∧ a % b = a.tmod b + b) ∧ (¬ a.tmod b < 0 → a / b = a.tdiv b ∧ a % b = a.tmod b) := by
 have h := Int.mul_tdiv_add_tmod a b
 have D : a.tmod b < b := Int.tmod_lt_of_pos a hb
 have M : -b < a.tmod b := by have := Int.lt_tmod_of_pos a hb; exact this
 refine ⟨fun G => G6 hb ?_ (by omega) (by omega), fun G => G6 hb h (by omega) D⟩
 rw [Int.mul_sub, Int.mul_one]; omega
def dn (a b : Int) : Int := a / b
def up (a b : Int) : Int := if 0 < a % b then a / b + 1 else a / b
theorem Zf {a b : Int} (hb : 0 < b) : dn a b ≤ up a b ∧ up a b ≤ dn a b + 1 := by
 unfold dn up; split <;> omega
theorem Xo {a c b : Int} (hb : 0 < b) (h : a ≤ c) : dn a b ≤ dn c b := Int.ediv_le_ediv hb h
theorem T8 {a b : Int} (hb : 0 < b) : up a b = -((-a) / b) := by
 unfold up
 have D := Int.mul_ediv_add_emod a b; have G := Int.emod_nonneg a (by omega : b ≠ 0); have M := Int.emod_lt_of_pos a hb
 split
 ·have := (G6 (a := -a) (b := b) (q := -(a / b) - 1) (r := b - a % b) hb (by rw [Int.mul_sub, Int.mul_one, Int.mul_neg]; omega) (by omega) (by omega)).1
  omega
 ·have := (G6 (a := -a) (b := b) (q := -(a / b)) (r := 0) hb (by rw [Int.mul_neg]; omega) (by omega) hb).1
  omega
theorem Wz {a c b : Int} (hb : 0 < b) (h : a ≤ c) : up a b ≤ up c b := by
 rw [T8 hb, T8 hb]
 have := Int.ediv_le_ediv hb (show -c ≤ -a by omega)
 omega
theorem Xn {b : Int} : dn 0 b = 0 := by unfold dn; simp
theorem Wy {b : Int} : up 0 b = 0 := by unfold up; simp
theorem Yz {a b : Int} (hb : 0 < b) : dn (-a) b = - up a b := by rw [T8 hb]; unfold dn; omega
theorem Lv {a b : Int} (hb : 0 < b) (h : 0 ≤ a) : 0 ≤ dn a b := Int.ediv_nonneg h (by omega)
theorem Q8 {a b : Int} (hb : 0 < b) (h : 0 ≤ a) : 0 ≤ up a b := by have := Lv hb h; have := (Zf (a := a) hb).1; omega
theorem F0 {a b : Int} (hb : 0 < b) : -(a.natAbs : Int) ≤ dn a b ∧ dn a b ≤ (a.natAbs : Int) := by
 refine ⟨?_, ?_⟩
 ·have h : b * (-(a.natAbs : Int)) ≤ a := by
   have G : (1 : Int) * a.natAbs ≤ b * a.natAbs := Int.mul_le_mul_of_nonneg_right (by omega) (by omega)
   rw [Int.mul_neg]; omega
  unfold dn
  exact (Int.le_ediv_iff_mul_le hb).2 (by rw [Int.mul_comm]; exact h)
 ·unfold dn
  by_cases D : 0 ≤ a
  ·have := Int.ediv_le_self b D; omega
  ·have := Int.ediv_neg_of_neg_of_pos (by omega : a < 0) hb; omega
theorem Nr {a b : Int} (hb : 0 < b) : -(a.natAbs : Int) ≤ up a b ∧ up a b ≤ (a.natAbs : Int) := by
 have h := F0 (a := -a) hb
 rw [Yz hb, Int.natAbs_neg] at h; omega
theorem Na {l : Li} {x : Int} (h : x ∈ Lib.compact l) : x ∈ l := by
 simp only [Lib.compact, Lib.compactUpTo, List.mem_map, List.mem_filter, List.mem_range] at h
 obtain ⟨i, ⟨hi, _⟩, rfl⟩ := h
 simp [hi]
theorem K0 {l : Li} (h : l.Pairwise (· ≤ ·)) : ∀ (k : Nat) (x : Int), l[k]? = some x → ∃ j, j ≤ k ∧ l[j]? = some x ∧ Lib.keeps l.toArray j = true
 | 0, x, hx => ⟨0, Nat.le_refl _, hx, Lib.keeps_lt_one _ 0 (by omega)⟩
 | k + 1, x, hx => by
  have M := (gs hx).1
  have D : l[k]? = some l[k] := gq (by omega)
  by_cases G : x = l[k]
  ·obtain ⟨j, h1, Z, h3⟩ := K0 h k l[k] D
   exact ⟨j, by omega, by rw [G]; exact Z, h3⟩
  ·refine ⟨k + 1, Nat.le_refl _, hx, Lib.keeps_pos ?_⟩
   have O : l.toArray[k + 1]! = x := by simp [M, getElem!_pos l (k + 1) M]; exact (gs hx).2
   have Y : l.toArray[k + 1 - 1]! = l[k] := by simp [show k < l.length by omega, getElem!_pos l k (by omega)]
   rw [O, Y]; exact G
theorem Ot {l : Li} (h : l.Pairwise (· ≤ ·)) {x : Int} : x ∈ Lib.compact l ↔ x ∈ l := by
 refine ⟨Na, fun Y => ?_⟩
 obtain ⟨k, O⟩ := List.getElem?_of_mem Y
 obtain ⟨j, _, G, M⟩ := K0 h k x O
 have D := (gs G).1
 simp only [Lib.compact, Lib.compactUpTo, List.mem_map, List.mem_filter, List.mem_range]
 refine ⟨j, ⟨D, M⟩, ?_⟩
 simp [D, getElem!_pos l j D]; exact (gs G).2
theorem Pu {l : Li} (h : l.Pairwise (· ≤ ·)) : (Lib.compact l).Pairwise (· < ·) := by
 unfold Lib.compact Lib.compactUpTo
 have hr : ((List.range l.length).filter (Lib.keeps l.toArray)).Pairwise (· < ·) := List.Pairwise.filter _ List.pairwise_lt_range
 rw [List.pairwise_map]
 refine List.Pairwise.imp_of_mem ?_ hr
 intro i j hi O hij
 simp only [List.mem_filter, List.mem_range] at hi O
 have G := hi.1; have D := O.1
 have e1 : l.toArray[i]! = l[i] := by simp [G, getElem!_pos l i G]
 have Z : l.toArray[j]! = l[j] := by simp [D, getElem!_pos l j D]
 rw [e1, Z]
 have hp := List.pairwise_iff_getElem.1 h
 have Y : 0 < j := by omega
 have hne : l[j] ≠ l[j - 1] := by
  intro he
  have : Lib.keeps l.toArray j = false := Lib.keeps_neg Y (by
   rw [Z, he]
   simp [show j - 1 < l.length by omega, getElem!_pos l (j - 1) (by omega)])
  rw [this] at O
  exact absurd O.2 (by simp)
 have h1 := hp (j - 1) j (by omega) D (by omega)
 by_cases M : i = j - 1
 ·subst M; omega
 ·have := hp i (j - 1) (by omega) (by omega) (by omega)
  omega
def asc (l : Li) : Li := Lib.compact (l.mergeSort fun x y => decide (x ≤ y))
theorem Qh (l : Li) : (l.mergeSort fun x y => decide (x ≤ y)).Pairwise (· ≤ ·) := by
 have := List.pairwise_mergeSort (le := fun x y : Int => decide (x ≤ y)) (by intro a b c; simp; omega) (by intro a b; simp; omega) l
 exact this.imp (by intro a b h; simpa using h)
theorem Xu {l : Li} {x : Int} : x ∈ asc l ↔ x ∈ l := by unfold asc; rw [Ot (Qh l), List.mem_mergeSort]
theorem Y2 (l : Li) : (asc l).Pairwise (· < ·) := Pu (Qh l)
def Br : List Piece → Int
 | [] => 0
 | p :: l => p.Volume + Br l
theorem E4 : ∀ l m : List Piece, Br (l ++ m) = Br l + Br m
 | [], m => by simp [Br]
 | x :: l, m => by simp only [List.cons_append, Br, E4 l m]; omega
theorem Fi {l : List Piece} {k : Nat} {p : Piece} (h : l[k]? = some p) : Br (l.take (k + 1)) = Br (l.take k) + p.Volume := by
 rw [List.take_add_one, h, E4]; simp [Br]
theorem G2 : ∀ {l : List Piece}, (∀ p, p ∈ l → 1 ≤ p.Volume) → (l.length : Int) ≤ Br l
 | [], _ => by simp [Br]
 | x :: l, h => by
  have := h x (by simp)
  have := G2 (l := l) fun p D => h p (by simp [D])
  simp only [Br, List.length_cons]; omega
theorem Cs {l : List Piece} (h : ∀ p, p ∈ l → 1 ≤ p.Volume) (k : Nat) : 0 ≤ Br (l.take k) ∧ Br (l.take k) ≤ Br l := by
 have e : Br l = Br (l.take k) + Br (l.drop k) := by rw [← E4, List.take_append_drop]
 have G := G2 (l := l.take k) fun p D => h p (List.mem_of_mem_take D)
 have M := G2 (l := l.drop k) fun p D => h p (List.mem_of_mem_drop D)
 omega
structure Pcs (l : List Piece) : Prop where
 len : l.length ≤ 12
 vol : ∀ p, p ∈ l → 1 ≤ p.Volume
 bat : ∀ p, p ∈ l → 0 ≤ p.Batch ∧ p.Batch < 4
 next : ∀ (i : Nat) (p q : Piece), l[i]? = some p → l[i + 1]? = some q → p.Batch ≠ q.Batch
structure FillOk (cap : Int) (l : List Piece) : Prop extends Pcs l where
 sum : Br l = cap
theorem Pcs.snoc {l : List Piece} (h : Pcs l) {p : Piece} (h1 : l.length < 12) (h2 : 1 ≤ p.Volume) (M : 0 ≤ p.Batch ∧ p.Batch < 4) (O : ∀ q, l[l.length - 1]? = some q → q.Batch ≠ p.Batch) : Pcs (l ++ [p]) := by
 refine ⟨by simp; omega, fun q D => ?_, fun q D => ?_, fun i q r D G => ?_⟩
 ·rcases List.mem_append.1 D with D | D
  ·exact h.vol q D
  ·simp at D; subst D; exact h2
 ·rcases List.mem_append.1 D with D | D
  ·exact h.bat q D
  ·simp at D; subst D; exact M
 ·have hi := (gs G).1
  simp at hi
  rw [List.getElem?_append_left (by omega)] at D
  by_cases Y : i + 1 < l.length
  ·rw [List.getElem?_append_left Y] at G
   exact h.next i q r D G
  ·have : i + 1 = l.length := by omega
   rw [List.getElem?_append_right (by omega), this] at G
   simp at G; subst G
   exact O q (by rw [show l.length - 1 = i by omega]; exact D)
theorem Xl {s : T4} (hs : SrcOk s) {v : Int} (hv : 1 ≤ v ∧ v ≤ 1000) : Ok (Jz s v 4) fun r => FillOk v r.1 ∧ SrcOk r.2 := by
 unfold Jz
 refine .bind (Q := fun d : Li × Int × List Piece => SrcOk ⟨d.1, d.2.1⟩ ∧ FillOk v d.2.2) ?_ fun d hd => by unfold Jz.J1; exact .pure ⟨hd.2, hd.1⟩
 refine .loop (fun G : Li × Int × Int × List Piece => SrcOk ⟨G.1, G.2.1⟩ ∧ 0 ≤ G.2.2.1 ∧ Pcs G.2.2.2 ∧ Br G.2.2.2 + G.2.2.1 = v ∧ (G.2.2.2.length = 12 → G.2.2.1 = 0)) (fun G => G.2.2.1.toNat)
  ⟨hs, by dsimp only; omega, ⟨by simp, by simp, by simp, by simp⟩, by simp [Br], by simp⟩ (by dsimp only; omega) ?_
 rintro ⟨L_, At, M, D⟩ ⟨h1, h2, h3, h4, h5⟩
 dsimp only at h1 h2 h3 h4 h5
 have hsum := G2 h3.vol
 have hlen := h3.len
 unfold Jz.B2
 dsimp only
 refine Bn (fun hc => ?_) fun hc => .pure ⟨h1, h3, ?_⟩
 rotate_left
 ·dsimp only
  simp at hc
  by_cases h0 : 0 < M
  ·have := hc h0; have := h5 (by omega); omega
  ·omega
 simp at hc
 refine .bind (Nj h1 (by decide) (by decide)) ?_
 rintro ⟨b, s1⟩ ⟨hs1, hb⟩
 have hw : wr ((wr (M * 2)).tdiv 3) = M * 2 / 3 := by rw [A0 (x := M * 2) (by omega), Int.tdiv_eq_ediv_of_nonneg (by omega), A0 (by omega)]
 dsimp only
 rw [hw]
 refine .bind (Eu hs1 (by omega) (by decide) (by omega)) ?_
 rintro ⟨x, s2⟩ ⟨hs2, hx⟩
 dsimp only at hb hx hs2 ⊢
 have j4 : ∀ (y : Int) (z : Int), 1 ≤ y → (D.length = 11 → y = M) → (0 ≤ z ∧ z < 4) → (∀ q, D[D.length - 1]? = some q → q.Batch ≠ z) →
   Ok (Jz.J4 (L_, At, M, D) (x, s2) y z) (Sum.elim (fun G : Li × Int × Int × List Piece => (SrcOk ⟨G.1, G.2.1⟩ ∧ 0 ≤ G.2.2.1 ∧ Pcs G.2.2.2 ∧ Br G.2.2.2 + G.2.2.1 = v ∧ (G.2.2.2.length = 12 → G.2.2.1 = 0)) ∧ G.2.2.1.toNat < M.toNat)
    fun d : Li × Int × List Piece => SrcOk ⟨d.1, d.2.1⟩ ∧ FillOk v d.2.2) := by
  intro y z hy Z hz hq
  unfold Jz.J4
  dsimp only
  refine .bind' (.app (by simp; omega) (.pure ⟨⟨hs2.eta, ?_, h3.snoc (by omega) (by dsimp only; omega) hz hq, ?_, ?_⟩, ?_⟩))
  ·dsimp only; rw [A0 (by omega)]; omega
  ·dsimp only; rw [E4, A0 (by omega)]; simp only [Br]; omega
  ·intro h; dsimp only at h ⊢; rw [A0 (by omega)]; simp at h; have := Z (by omega); omega
  ·dsimp only; rw [A0 (by omega)]; omega
 have j3 : ∀ y : Int, 1 ≤ y → (D.length = 11 → y = M) → Ok (Jz.J3 4 (L_, At, M, D) (b, s1) (x, s2) y) (Sum.elim (fun G : Li × Int × Int × List Piece => (SrcOk ⟨G.1, G.2.1⟩ ∧ 0 ≤ G.2.2.1 ∧ Pcs G.2.2.2 ∧ Br G.2.2.2 + G.2.2.1 = v ∧ (G.2.2.2.length = 12 → G.2.2.1 = 0)) ∧ G.2.2.1.toNat < M.toNat)
    fun d : Li × Int × List Piece => SrcOk ⟨d.1, d.2.1⟩ ∧ FillOk v d.2.2) := by
  intro y hy Z
  unfold Jz.J3
  dsimp only
  refine Bd (fun h0 => ?_) fun h0 => ?_
  ·have O : D[D.length - 1]? = some (D[D.length - 1]'(by omega)) := gq _
   obtain ⟨q, hqe⟩ : ∃ q, q = D[D.length - 1]'(by omega) := ⟨_, rfl⟩
   rw [← hqe] at O
   have e0 : wr ((D.length : Int) - 1) = ((D.length - 1 : Nat) : Int) := by rw [A0 (by omega)]; omega
   rw [e0]
   have hbat := h3.bat q (mg O)
   refine .bind' (.eq (B8 O) ?_)
   dsimp only
   unfold Jz.J5
   refine Bn (fun he => ?_) fun he => ?_
   ·have he' : q.Batch = b := by simpa using he
    dsimp only
    have hr : (wr (b + 1)).tmod 4 = (b + 1) % 4 := by rw [A0 (by omega), Int.tmod_eq_emod_of_nonneg (by omega)]
    refine .bind' (.rem (by decide) ?_)
    rw [hr, e0]
    refine .bind' (.eq (B8 O) (Jb (fun h => ?_) fun h => j4 y _ hy Z (by omega) fun q' Y => ?_))
    ·dsimp only at h; omega
    ·rw [O] at Y; cases Y; exact h
   ·refine j4 y b hy Z hb fun q' Y => ?_
    rw [O] at Y; cases Y
    simpa using he
  ·unfold Jz.J5
   refine Bn (fun h => by cases h) fun _ => j4 y b hy Z hb fun q hq => ?_
   have : D.length = 0 := by omega
   have := (gs hq).1
   omega
 refine Jb (fun h => j3 M (by omega) fun _ => rfl) fun h => j3 x (by omega) fun hh => by omega
structure ProdOk (k : Nat) (p : Product) : Prop where
 name : p.Name = nm 112 k
 density : 400 ≤ p.Density ∧ p.Density ≤ 1200
 expansion : 0 ≤ p.Expansion ∧ p.Expansion ≤ 2000
 compress : 0 ≤ p.Compress ∧ p.Compress ≤ 5000
 friction : 1 ≤ p.Friction ∧ p.Friction ≤ 2000
structure ProdsOk (l : List Product) : Prop where
 len : 1 ≤ l.length ∧ l.length ≤ 4
 all : ∀ (k : Nat) (p : Product), l[k]? = some p → ProdOk k p
theorem Pp {s : T4} (Z : SrcOk s) {k : Nat} (Y : k < 26) : Ok (Ms s (k : Int)) fun r => ProdOk k r.1 ∧ SrcOk r.2 := by
 unfold Ms
 refine .bind' (.eq (M0 Y) ?_)
 refine .bind (Eu Z (by decide) (by decide) (by decide)) fun r1 D => .bind (E3 D.1 (by decide) (by decide)) fun r2 G => .bind (E3 G.1 (by decide) (by decide)) fun r3 M => .bind (E3 M.1 (by decide) (by decide)) fun r4 O => .pure ⟨⟨rfl, D.2, ?_, ?_, ?_⟩, O.1⟩
 ·have := G.2; simp at this; dsimp only; omega
 ·have := M.2; simp at this; dsimp only; omega
 ·have := O.2; simp at this; dsimp only; omega
theorem Oq {s : T4} (hs : SrcOk s) : Ok (Jy s) fun r => ProdsOk r.1 ∧ SrcOk r.2 := by
 unfold Jy
 refine .bind (Eu hs (by decide) (by decide) (by decide)) ?_
 rintro ⟨c, s1⟩ ⟨M, hc⟩
 dsimp only at hc M ⊢
 refine .bind (Q := fun d : Li × Int × List Product => SrcOk ⟨d.1, d.2.1⟩ ∧ ProdsOk d.2.2) ?_ fun d hd => by unfold Jy.J1; exact .pure ⟨hd.2, hd.1⟩
 refine .loop (fun D : Li × Int × List Product × Int => SrcOk ⟨D.1, D.2.1⟩ ∧ 0 ≤ D.2.2.2 ∧ (D.2.2.1.length : Int) + D.2.2.2 = c ∧ ∀ (k : Nat) (p : Product), D.2.2.1[k]? = some p → ProdOk k p) (fun D => D.2.2.2.toNat)
  ⟨M.eta, by dsimp only; omega, by simp, by simp⟩ (by dsimp only; omega) ?_
 rintro ⟨L_, At, Z, i⟩ ⟨O, h2, h3, Y⟩
 dsimp only at O h2 h3 Y
 unfold Jy.B2
 dsimp only
 refine Bd (fun h => ?_) fun h => .pure ⟨O, by dsimp only; omega, Y⟩
 refine .bind (Pp O (by omega)) fun r hr => .bind' (.app (by simp; omega) (.pure ⟨⟨hr.2.eta, ?_, ?_, ?_⟩, ?_⟩))
 ·dsimp only; rw [A0 (by omega)]; omega
 ·dsimp only; rw [A0 (by omega)]; simp; omega
 ·intro k p G
  dsimp only at G
  rw [List.getElem?_append] at G
  split at G
  ·exact Y k p G
  ·rename_i hk
   have := (gs G).1
   simp at this
   have : k = Z.length := by omega
   subst this
   simp at G; subst G; exact hr.1
 ·dsimp only; rw [A0 (by omega)]; omega
structure BatsOk (n : Nat) (l : List Batch) : Prop where
 len : l.length = 4
 all : ∀ p, p ∈ l → 0 ≤ p.Product ∧ p.Product < (n : Int)
theorem Px {s : T4} (hs : SrcOk s) {n : Nat} (hn : 1 ≤ n ∧ n ≤ 4) : Ok (Jw s 4 (n : Int)) fun r => BatsOk n r.1 ∧ SrcOk r.2 := by
 unfold Jw
 refine .bind (Q := fun d : Li × Int × List Batch => SrcOk ⟨d.1, d.2.1⟩ ∧ BatsOk n d.2.2) ?_ fun d hd => by unfold Jw.J1; exact .pure ⟨hd.2, hd.1⟩
 refine .loop (fun D : Li × Int × List Batch × Int => SrcOk ⟨D.1, D.2.1⟩ ∧ D.2.2.2 = (D.2.2.1.length : Int) ∧ D.2.2.1.length ≤ 4 ∧ ∀ p, p ∈ D.2.2.1 → 0 ≤ p.Product ∧ p.Product < (n : Int)) (fun D => 4 - D.2.2.1.length)
  ⟨hs.eta, by simp, by simp, by simp⟩ (by dsimp only; omega) ?_
 rintro ⟨L_, At, out, i⟩ ⟨Y, h2, h3, Z⟩
 dsimp only at Y h2 h3 Z
 subst h2
 unfold Jw.B2
 dsimp only
 refine Bd (fun h => ?_) fun h => .pure ⟨Y, by dsimp only; omega, Z⟩
 refine .bind (Nj Y (by omega) (by omega)) fun r1 M => .bind (Nj M.1 (by decide) (by decide)) ?_
 rintro ⟨y, s2⟩ ⟨O, hy⟩
 dsimp only at hy O ⊢
 obtain ⟨k, rfl⟩ := Ys hy.1
 refine .bind' (.eq (M0 (c := 102) (by omega)) (.bind' (.app (by simp; omega) (.pure ⟨⟨O.eta, ?_, ?_, ?_⟩, ?_⟩))))
 ·dsimp only; rw [A0 (by omega)]; simp
 ·dsimp only; simp; omega
 ·intro p G
  dsimp only at G
  rcases List.mem_append.1 G with G | G
  ·exact Z p G
  ·simp at G; subst G; exact M.2
 ·dsimp only; simp; omega
structure SegG (s : Segment) : Prop where
 name : ∃ k, k < 26 ∧ s.Name = nm 103 k
 cap : 1 ≤ s.Capacity ∧ s.Capacity ≤ 1000
 resist : 0 ≤ s.Resist ∧ s.Resist ≤ 1000
 wave : 0 ≤ s.Wave ∧ s.Wave ≤ 100000
 points : PointsOk s.Capacity s.Points
structure World19 (s : Segment) (f : List Piece) (b : List Batch) (p : List Product) : Prop where
 seg : SegG s
 fill : FillOk s.Capacity f
 bats : BatsOk p.length b
 prods : ProdsOk p
theorem Ri {k : Nat} (D : k < 26) : Gq (nm 112 k) = some true := by
 rcases Y9 D with rfl | rfl | rfl | rfl | rfl | rfl | rfl | rfl | rfl | rfl | rfl | rfl | rfl | rfl | rfl | rfl | rfl | rfl | rfl | rfl | rfl | rfl | rfl | rfl | rfl | rfl <;> rfl
def O9 (s : Sg) : Nw := ⟨([(⟨#[97]⟩ : Bt), (⟨#[98]⟩ : Bt)] : List Bt), ([(⟨s.Name, 0, 1, s.Capacity, s.Resist, s.Wave, s.Points⟩ : Sg)] : List Sg), [], [], 0, 0⟩
theorem W9 {s : Sg} (h : SegG s) : NetV (O9 s) := by
 unfold O9
 refine ⟨by simp, by simp, fun k x D => ?_, by simp, by simp, by simp, by simp, by simp, by simp, by simp, fun l hl => ?_⟩
 ·match k, D with
  | 0, D => simp at D; subst D; obtain ⟨j, G, hn⟩ := h.name; exact ⟨j, hn, by simp, h.cap, h.resist, h.wave, h.points⟩
  | k + 1, D => simp at D
 ·simp only [List.map_cons, List.map_nil, List.mem_cons, List.not_mem_nil, or_false] at hl
  rcases hl with rfl | rfl | rfl | rfl
  ·refine ⟨by simp, fun k x D => ?_, fun i j x y hi G M => ?_⟩
   ·match k, D with
    | 0, D => simp at D; subst D; rfl
    | 1, D => simp at D; subst D; rfl
    | k + 2, D => simp at D
   ·match i, j, hi, G with
    | 0, 0, _, _ => rfl
    | 1, 1, _, _ => rfl
    | 0, 1, hi, G => simp at hi G; subst hi; subst G; exact absurd M (by decide +kernel)
    | 1, 0, hi, G => simp at hi G; subst hi; subst G; exact absurd M (by decide +kernel)
    | i + 2, _, hi, _ => simp at hi
    | 0, j + 2, _, G => simp at G
    | 1, j + 2, _, G => simp at G
  ·obtain ⟨k0, Z, hn⟩ := h.name
   refine ⟨by simp, fun k x D => ?_, fun i j x y hi G M => ?_⟩
   ·match k, D with
    | 0, D => simp at D; subst D; rw [hn]; exact Uh (by simp) Z
    | k + 1, D => simp at D
   ·have O := (gs hi).1
    have Y := (gs G).1
    simp at O Y; omega
  ·exact ⟨by simp, by simp, by simp⟩
  ·exact ⟨by simp, by simp, by simp⟩
theorem U8 {s : Sg} (h : SegG s) : Jm s = some 0 := by
 have := Rh (W9 h)
 unfold O9 at this
 unfold Jm
 rw [this]
 rfl
theorem Nt {f : List Piece} (h1 : f.length ≤ 12) (h2 : ∀ p, p ∈ f → 1 ≤ p.Volume) (M : Br f ≤ 1000000) : Gl f = some (Br f) := by
 have : Ok (Gl f) fun r => r = Br f := by
  unfold Gl
  refine .bind (.forS (fun k D => D = Br (f.take k)) (by simp [Br]) ?_ fun D h => h) ?_
  ·rintro k x _ G rfl
   unfold Gl.B2
   have := Cs h2 (k + 1)
   rw [Fi G] at this ⊢
   exact .pure (by rw [A0 (by omega)])
  ·rintro _ rfl
   unfold Gl.J1
   exact .pure (by rw [List.take_of_length_le (Nat.le_refl _)])
 obtain ⟨r, h, rfl⟩ := this
 exact h
theorem Rd {cap : Int} {f : List Piece} (h : FillOk cap f) {p : Piece} (G : p ∈ f) : p.Volume ≤ cap := by
 obtain ⟨k, D⟩ := List.getElem?_of_mem G
 have M := Fi D
 have O := Cs h.vol k
 have Y := Cs h.vol (k + 1)
 have := h.sum
 omega
theorem Pr {cap : Int} {f : List Piece} (h : FillOk cap f) (hc : 1 ≤ cap ∧ cap ≤ 1000) : H6 f = some true := by
 have hl := h.len; have hs := h.sum
 have : Ok (H6 f) fun r => r = true := by
  unfold H6
  refine Bd (fun h => by omega) fun _ => .bind' (.forL (fun _ _ => True) (fun _ => False) trivial ?_ ?_ fun _ h => h.elim)
  ·intro k x _ M _
   have D := mg M
   have h1 := h.vol x D; have h2 := h.bat x D; have h3 := Rd h D
   have Z : Ok (H6.J3 false) (Sum.elim (fun _ : Unit => True) fun _ : Bool => False) := by
    unfold H6.J3; exact .pure trivial
   unfold H6.B2
   refine F9 (fun O => ?_) fun _ => Jb (fun O => by omega) fun _ => Bd (fun h0 => ?_) fun _ => Z
   ·simp [Jr] at O; omega
   ·have aa := (gs M).1
    have Y : f[k - 1]? = some (f[k - 1]'(by omega)) := gq _
    have G := h.next (k - 1) _ x Y (by rw [show k - 1 + 1 = k by omega]; exact M)
    rw [show wr ((k : Int) - 1) = ((k - 1 : Nat) : Int) by rw [A0 (by omega)]; omega]
    refine .bind' (.eq (B8 Y) ?_)
    dsimp only
    rw [show (f[k - 1].Batch == x.Batch) = false by simpa using G]
    exact Z
  ·intro _ _
   simp only [Sum.elim_inl]
   unfold H6.J1
   refine .bind' (.eq (Nt hl h.vol (by omega)) (.pure ?_))
   simp; omega
 obtain ⟨r, h, rfl⟩ := this
 exact h
theorem Ve {s : Sg} {f : List Piece} (D : SegG s) (hf : FillOk s.Capacity f) : Jv s f = some 0 := by
 have G := D.cap
 unfold Jv Jv.J1 Pg
 rw [U8 D, Pr hf G, Nt hf.len hf.vol (by have := hf.sum; omega)]
 simp [hf.sum]
theorem Dr {s : List Product} {g : Product → Option Bool} {P : Product → Bool} (hg : ∀ (k : Nat) (x : Product), s[k]? = some x → g x = some (P x)) :
  Ok (Jt s g) fun r => (r = -1 ∧ ∀ (j : Nat) (y : Product), s[j]? = some y → P y = false) ∨ ∃ (k : Nat) (x : Product), r = (k : Int) ∧ s[k]? = some x ∧ P x = true ∧ ∀ (j : Nat) (y : Product), j < k → s[j]? = some y → P y = false := by
 unfold Jt
 refine .bind' (.forL (fun k _ => ∀ (j : Nat) (y : Product), j < k → s[j]? = some y → P y = false) (fun r => ∃ (k : Nat) (x : Product), r = (k : Int) ∧ s[k]? = some x ∧ P x = true ∧ ∀ (j : Nat) (y : Product), j < k → s[j]? = some y → P y = false) (fun j y h => absurd h (Nat.not_lt_zero _)) ?_ ?_ ?_)
 ·intro k x _ M hi
  unfold Jt.B2
  refine .bind' (.eq (hg k x M) (Bn (fun G => .pure ⟨k, x, rfl, M, G, hi⟩) fun G => .pure fun j y Y D => ?_))
  by_cases h : j < k
  ·exact hi j y h D
  ·have : j = k := by omega
   subst this
   rw [M] at D; simp at D; subst D; exact G
 ·intro _ hi
  simp only [Sum.elim_inl]
  unfold Jt.J1
  exact .pure (.inl ⟨rfl, fun j y D => hi j y (gs D).1 D⟩)
 ·intro b O
  exact .pure (.inr O)
theorem Ld {l : List Product} (h : ProdsOk l) : Jj l = some 0 := by
 have hl := h.len
 have : Ok (Jj l) fun r => r = 0 := by
  unfold Jj
  refine Bd (fun h => by omega) fun _ => .bind' (.forL (fun _ _ => True) (fun _ => False) trivial ?_ ?_ fun _ h => h.elim)
  ·intro k x _ G _
   have hk := (gs G).1
   have D := h.all k x G
   have d1 := D.density; have d2 := D.expansion; have d3 := D.compress; have d4 := D.friction
   unfold Jj.B4
   refine .bind (Q := fun r => r = true) ?_ ?_
   ·unfold Ml
    refine .bind' (.forI (fun _ _ => True) (fun _ => False) trivial ?_ ?_ fun _ h => h.elim)
    ·intro i _ hi _
     have no : Ok (Ml.J3 false) (Sum.elim (fun _ : Unit => True) fun _ : Bool => False) := by
      unfold Ml.J3; exact .pure trivial
     have M : ∀ (a : Int) (b : product_span), ([⟨400, 1200⟩, ⟨0, 2000⟩, ⟨0, 5000⟩, ⟨1, 2000⟩] : List product_span)[i]? = some b → (Gp x).l[i]? = some a → b.least ≤ a ∧ a ≤ b.most → Ok (Ml.B2 x i ()) (Sum.elim (fun _ : Unit => True) fun _ : Bool => False) := by
      intro a b Z h2 h3
      unfold Ml.B2
      refine .bind' (.eq (B8 Z) (.bind' (.eq (B8 h2) (Bd (fun h => by dsimp only at h; omega) fun _ => ?_))))
      dsimp only
      rw [show decide (a > b.most) = false by simp; omega]
      exact no
     match i, hi with
     | 0, _ => exact M x.Density ⟨400, 1200⟩ rfl rfl (by dsimp only; omega)
     | 1, _ => exact M x.Expansion ⟨0, 2000⟩ rfl rfl (by dsimp only; omega)
     | 2, _ => exact M x.Compress ⟨0, 5000⟩ rfl rfl (by dsimp only; omega)
     | 3, _ => exact M x.Friction ⟨1, 2000⟩ rfl rfl (by dsimp only; omega)
     | i + 4, hi => omega
    ·intro _ _
     simp only [Sum.elim_inl]
     unfold Ml.J1
     rw [D.name, Ri (by omega)]
     exact .bind' (.pure (.pure rfl))
   ·rintro _ rfl
    exact F9 (fun h => by cases h) fun _ => .pure trivial
  ·intro _ _
   simp only [Sum.elim_inl]
   unfold Jj.J1
   refine .bind' (.forL (fun _ _ => True) (fun _ => False) trivial ?_ ?_ fun _ h => h.elim)
   ·intro k x _ G _
    have hk := (gs G).1
    have D := h.all k x G
    unfold Jj.B3
    refine .bind (Q := fun r => r = (k : Int)) ?_ ?_
    ·unfold Pf
     refine .bind (Q := fun r => r = (k : Int)) ((Dr (P := fun y => Gm y x.Name) fun _ _ _ => rfl).mono ?_) fun r hr => .pure hr
     rintro r (⟨rfl, hh⟩ | ⟨j, y, rfl, Y, O, hlt⟩)
     ·have := hh k x G
      simp only [Gm] at this
      rw [Nx] at this; cases this
     ·have hjl := (gs Y).1
      simp only [Gm] at O
      rw [(h.all j y Y).name, D.name] at O
      have := Ug (by omega) (by omega) O
      omega
    ·rintro _ rfl
     exact Bd (fun h => by omega) fun _ => .pure trivial
   ·intro _ _
    simp only [Sum.elim_inl]
    unfold Jj.J2
    exact .pure rfl
 obtain ⟨r, h, rfl⟩ := this
 exact h
def ends : List Piece → Int → Li
 | [], _ => []
 | p :: l, a => (a + p.Volume) :: ends l (a + p.Volume)
theorem Fz : ∀ (l : List Piece) (a : Int), (ends l a).length = l.length
 | [], _ => rfl
 | p :: l, a => by simp [ends, Fz l]
theorem G7 : ∀ (l : List Piece) (a : Int) (k : Nat), k < l.length → (ends l a)[k]? = some (a + Br (l.take (k + 1)))
 | [], _, k, h => by simp at h
 | p :: l, a, 0, h => by simp [ends, Br]
 | p :: l, a, k + 1, h => by
  simp only [ends, List.getElem?_cons_succ, List.take_succ_cons, Br]
  rw [G7 l _ k (by simpa using h)]
  congr 1; omega
theorem Vf {l : List Piece} {x : Int} : x ∈ ends l 0 ↔ ∃ k, k < l.length ∧ x = Br (l.take (k + 1)) := by
 constructor
 ·intro h
  obtain ⟨k, D⟩ := List.getElem?_of_mem h
  have G := (gs D).1
  rw [Fz] at G
  rw [G7 l 0 k G] at D
  exact ⟨k, G, by simp at D; omega⟩
 ·rintro ⟨k, D, rfl⟩
  have := G7 l 0 k D
  rw [Int.zero_add] at this
  exact mg this
def E9 (s : Sg) (f : List Piece) : Li := Go.Lib.compact (Gy (s.Points.map (·.At) ++ ends f 0))
theorem Qq (s : Sg) (f : List Piece) : E9 s f = asc (s.Points.map (·.At) ++ ends f 0) := by unfold E9 asc; rw [← Lo]; rfl
theorem M3 {s : Sg} {f : List Piece} {x : Int} : x ∈ E9 s f ↔ (∃ p, p ∈ s.Points ∧ p.At = x) ∨ ∃ k, k < f.length ∧ x = Br (f.take (k + 1)) := by
 rw [Qq, Xu, List.mem_append, Vf, List.mem_map]
theorem Hv (s : Sg) (f : List Piece) : (E9 s f).Pairwise (· < ·) := by rw [Qq]; exact Y2 _
theorem Ls (l : Li) : (Gy l).length = l.length := (Gs l).length_eq
theorem M4 (s : Sg) (f : List Piece) : (E9 s f).length ≤ s.Points.length + f.length := by
 unfold E9
 refine Nat.le_trans (I1 _) ?_
 rw [Ls]; simp [Fz]
theorem Rn {s : Sg} {f : List Piece} (h1 : 1 ≤ s.Points.length ∧ s.Points.length ≤ 100) (h2 : f.length ≤ 12) (h3 : ∀ p, p ∈ f → 1 ≤ p.Volume) (h4 : Br f ≤ 1000000) : H7 s f = some (E9 s f) := by
 have : Ok (H7 s f) fun r => r = E9 s f := by
  unfold H7
  refine .bind (Q := fun D => D = s.Points.map (·.At)) (.forS (fun k D => D = (s.Points.take k).map (·.At)) (by simp) ?_ fun D h => by rw [h, List.take_of_length_le (Nat.le_refl _)]) ?_
  ·rintro k x _ M rfl
   unfold H7.B4
   have Z := (gs M).1
   refine .bind' (.app (by simp; omega) (.pure ?_))
   rw [List.take_add_one, M]; simp
  rintro _ rfl
  unfold H7.J1
  refine .bind (Q := fun D : Li × Int => D.1 = s.Points.map (·.At) ++ ends f 0) (.forS (fun k (D : Li × Int) => D.1 = s.Points.map (·.At) ++ (ends f 0).take k ∧ D.2 = Br (f.take k)) (by simp [Br]) ?_ fun D h => by rw [h.1, List.take_of_length_le (by rw [Fz]; exact Nat.le_refl _)]) ?_
  ·rintro k x ⟨_, _⟩ M ⟨rfl, rfl⟩
   have Z := (gs M).1
   have hs := Cs h3 (k + 1)
   have e := Fi M
   have hw : wr (Br (f.take k) + x.Volume) = Br (f.take (k + 1)) := by rw [← e, A0 (by omega)]
   have Y := G7 f 0 k Z
   rw [Int.zero_add] at Y
   unfold H7.B3
   dsimp only
   rw [hw]
   refine .bind' (.app (by simp [Fz]; omega) (.pure ⟨?_, rfl⟩))
   dsimp only
   rw [List.take_add_one (l := ends f 0), Y]; simp
  rintro ⟨_, c⟩ rfl
  unfold H7.J2 Mu Mz
  dsimp only
  have O : s.Points.map (·.At) ++ ends f 0 ≠ [] := by
   intro h
   have := congrArg List.length h
   rw [List.length_append, List.length_map, List.length_nil] at this; omega
  have G : Gy (s.Points.map (·.At) ++ ends f 0) ≠ [] := by
   intro h
   have := congrArg List.length h
   rw [Ls, List.length_append, List.length_map, List.length_nil] at this; omega
  rw [if_neg O]
  refine .bind' (.pure ?_)
  rw [if_neg G]
  exact .bind' (.pure (.pure rfl))
 obtain ⟨r, h, rfl⟩ := this
 exact h
def Zm (D : List Point) : Prop := ∀ (i j : Nat) (p q : Point), i < j → D[i]? = some p → D[j]? = some q → p.At < q.At
theorem PointsOk.asc {cap : Int} {l : List Point} (h : PointsOk cap l) : Zm l := by
 intro i j p q Y Z G
 induction j generalizing q with
 | zero => omega
 | succ j ih =>
  have hj := (gs G).1
  have D : l[j]? = some (l[j]'(by omega)) := gq _
  have M := h.up j _ q D G
  by_cases O : i = j
  ·subst O; rw [Z] at D; cases D; exact M
  ·have := ih (l[j]'(by omega)) (by omega) D; omega
theorem Ra {n : Nat} {g : Int → Option Bool} {P : Nat → Bool} (hn : n ≤ 1000000) (hg : ∀ k : Nat, k < n → g (k : Int) = some (P k)) (hm : ∀ i j : Nat, i ≤ j → j < n → P i = true → P j = true) :
  Ok (Ka (n : Int) g) fun r => ∃ k : Nat, r = (k : Int) ∧ k ≤ n ∧ (∀ i : Nat, i < k → P i = false) ∧ (k < n → P k = true) := by
 unfold Ka
 refine .bind (Q := fun r : Int => ∃ k : Nat, r = (k : Int) ∧ k ≤ n ∧ (∀ i : Nat, i < k → P i = false) ∧ (k < n → P k = true)) ?_ fun r hr => by unfold Ka.J1; exact .pure hr
 refine .loop (fun G : Int × Int => ∃ i j : Nat, G.1 = (i : Int) ∧ G.2 = (j : Int) ∧ i ≤ j ∧ j ≤ n ∧ (∀ x : Nat, x < i → P x = false) ∧ (j < n → P j = true)) (fun G => (G.2 - G.1).toNat)
  ⟨0, n, rfl, rfl, by omega, by omega, fun x h => absurd h (Nat.not_lt_zero _), fun h => absurd h (Nat.lt_irrefl _)⟩ (by dsimp only; omega) ?_
 rintro ⟨_, _⟩ ⟨i, j, rfl, rfl, hij, Y, Z, h2⟩
 unfold Ka.B2
 dsimp only
 refine Bd (fun h => ?_) fun h => .pure ⟨i, rfl, by omega, Z, fun O => by
  have : i = j := by omega
  subst this; exact h2 O⟩
 have D : wr ((IntKind.u64.wrap (wr ((i : Int) + (j : Int)))).fdiv 2) = (((i + j) / 2 : Nat) : Int) := by
  rw [A0 (x := (i : Int) + (j : Int)) (by omega)]
  have hu : IntKind.u64.wrap ((i : Int) + (j : Int)) = (i : Int) + (j : Int) := by
   unfold IntKind.wrap
   have : (i : Int) + (j : Int) < 18446744073709551616 := by omega
   simp [IntKind.bits, IntKind.signed]
   omega
  rw [hu, Int.fdiv_eq_ediv_of_nonneg _ (by decide), A0 (by omega)]
  omega
 rw [D]
 have hk : (i + j) / 2 < j := by omega
 refine .bind' (.eq (hg _ (by omega)) (F9 (fun M => ?_) fun M => ?_))
 ·refine .pure ⟨⟨(i + j) / 2 + 1, j, ?_, rfl, by omega, Y, fun x hx => ?_, h2⟩, ?_⟩
  ·dsimp only; rw [A0 (by omega)]; omega
  ·cases hpx : P x with
   | false => rfl
   | true => rw [hm x ((i + j) / 2) (by omega) (by omega) hpx] at M; cases M
  ·dsimp only; rw [A0 (by omega)]; omega
 ·refine .pure ⟨⟨i, (i + j) / 2, rfl, rfl, by omega, by omega, Z, fun _ => M⟩, ?_⟩
  dsimp only; omega
theorem Po {s : Sg} (hl : 2 ≤ s.Points.length ∧ s.Points.length ≤ 100) (ab : Zm s.Points) (h0 : ∀ p, s.Points[0]? = some p → p.At = 0) {e : Int} (he : 0 < e) (G : ∀ p, s.Points[s.Points.length - 1]? = some p → e ≤ p.At) :
  Ok (Mk s e) fun r => ∃ (k : Nat) (a b : Point), r = ((k + 1 : Nat) : Int) ∧ s.Points[k]? = some a ∧ s.Points[k + 1]? = some b ∧ a.At < e ∧ e ≤ b.At := by
 unfold Mk
 have D : ∃ P : Nat → Bool, P = fun k => match s.Points[k]? with | some p => decide (p.At ≥ e) | none => true := ⟨_, rfl⟩
 obtain ⟨P, D⟩ := D
 rw [show wr ((s.Points.length : Int) - 1) = ((s.Points.length - 1 : Nat) : Int) by rw [A0 (by omega)]; omega]
 refine .bind (Ra (P := P) (by omega) (fun k hk => ?_) (fun i j hij hj hi => ?_)) ?_
 ·have M : s.Points[k]? = some (s.Points[k]'(by omega)) := gq _
  unfold Mp
  rw [B8 M, D]
  simp only [M]
  rfl
 ·have O : s.Points[i]? = some (s.Points[i]'(by omega)) := gq _
  have Y : s.Points[j]? = some (s.Points[j]'(by omega)) := gq _
  rw [D] at hi ⊢
  simp only [O, Y, decide_eq_true_eq] at hi ⊢
  by_cases h : i = j
  ·subst h; exact hi
  ·have := ab i j _ _ (by omega) O Y; omega
 rintro r ⟨k, rfl, hk, h1, h2⟩
 have hk1 : 1 ≤ k := by
  rcases Nat.eq_zero_or_pos k with h | h
  ·subst h
   have := h2 (by omega)
   have M : s.Points[0]? = some (s.Points[0]'(by omega)) := gq _
   rw [D] at this
   simp only [M, decide_eq_true_eq] at this
   have := h0 _ M
   omega
  ·exact h
 have ha : s.Points[k - 1]? = some (s.Points[k - 1]'(by omega)) := gq _
 have Z : s.Points[k]? = some (s.Points[k]'(by omega)) := gq _
 refine .pure ⟨k - 1, _, _, by omega, ha, by rw [show k - 1 + 1 = k by omega]; exact Z, ?_, ?_⟩
 ·have := h1 (k - 1) (by omega)
  rw [D] at this
  simp only [ha, decide_eq_false_iff_not] at this
  omega
 ·by_cases aa : k < s.Points.length - 1
  ·have := h2 aa
   rw [D] at this
   simp only [Z, decide_eq_true_eq] at this
   omega
  ·have : k = s.Points.length - 1 := by omega
   subst this
   exact G _ Z
theorem Hr {l : Li} (h : l.Pairwise (· < ·)) {i j : Nat} {a b : Int} (D : i < j) (O : l[i]? = some a) (hb : l[j]? = some b) : a < b := by
 obtain ⟨G, rfl⟩ := gs O
 obtain ⟨M, rfl⟩ := gs hb
 exact List.pairwise_iff_getElem.1 h i j G M D
theorem Ux {l : Li} (h : l.Pairwise (· < ·)) {m : Int} (Y : m ∈ l) (O : ∀ x, x ∈ l → m ≤ x) : l[0]? = some m := by
 obtain ⟨k, D⟩ := List.getElem?_of_mem Y
 have Z := (gs D).1
 by_cases M : k = 0
 ·subst M; exact D
 ·have G : l[0]? = some (l[0]'(by omega)) := gq _
  have := Hr h (i := 0) (by omega) G D
  have := O _ (mg G)
  omega
theorem W5 {l : Li} (h : l.Pairwise (· < ·)) {m : Int} (Y : m ∈ l) (O : ∀ x, x ∈ l → x ≤ m) : l[l.length - 1]? = some m := by
 obtain ⟨k, D⟩ := List.getElem?_of_mem Y
 have Z := (gs D).1
 by_cases M : k = l.length - 1
 ·subst M; exact D
 ·have G : l[l.length - 1]? = some (l[l.length - 1]'(by omega)) := gq _
  have := Hr h (i := k) (j := l.length - 1) (by omega) D G
  have := O _ (mg G)
  omega
theorem PointsOk.at_range {cap : Int} {l : List Point} (h : PointsOk cap l) {i : Nat} {p : Point} (D : l[i]? = some p) : 0 ≤ p.At ∧ p.At ≤ cap := by
 have hi := (gs D).1
 have Z := h.len
 have g0 : l[0]? = some (l[0]'(by omega)) := gq _
 have G : l[l.length - 1]? = some (l[l.length - 1]'(by omega)) := gq _
 have O := h.first _ g0
 have Y := h.last _ G
 constructor
 ·by_cases M : i = 0
  ·subst M; rw [g0] at D; cases D; omega
  ·have := h.asc 0 i _ _ (by omega) g0 D; omega
 ·by_cases M : i = l.length - 1
  ·subst M; rw [G] at D; cases D; omega
  ·have := h.asc i (l.length - 1) _ _ (by omega) D G; omega
theorem El {s : Sg} {f : List Piece} (G : PointsOk s.Capacity s.Points) (hf : FillOk s.Capacity f) {x : Int} (h : x ∈ E9 s f) : 0 ≤ x ∧ x ≤ s.Capacity := by
 rcases M3.1 h with ⟨p, D, rfl⟩ | ⟨k, M, rfl⟩
 ·obtain ⟨i, hi⟩ := List.getElem?_of_mem D
  exact G.at_range hi
 ·have := Cs hf.vol (k + 1)
  have := hf.sum; omega
theorem Lx {s : Sg} {f : List Piece} (D : PointsOk s.Capacity s.Points) (hf : FillOk s.Capacity f) : (E9 s f)[0]? = some 0 := by
 have M := D.len
 have g0 : s.Points[0]? = some (s.Points[0]'(by omega)) := gq _
 exact Ux (Hv s f) (M3.2 (.inl ⟨_, mg g0, D.first _ g0⟩)) fun x G => (El D hf G).1
theorem Vl {s : Sg} {f : List Piece} (D : PointsOk s.Capacity s.Points) (hf : FillOk s.Capacity f) : (E9 s f)[(E9 s f).length - 1]? = some s.Capacity := by
 have M := D.len
 have g0 : s.Points[s.Points.length - 1]? = some (s.Points[s.Points.length - 1]'(by omega)) := gq _
 exact W5 (Hv s f) (M3.2 (.inl ⟨_, mg g0, D.last _ g0⟩)) fun x G => (El D hf G).2
theorem M2 {s : Sg} {f : List Piece} (M : PointsOk s.Capacity s.Points) (hc : 1 ≤ s.Capacity) (hf : FillOk s.Capacity f) : 2 ≤ (E9 s f).length := by
 have G := Lx M hf
 have D := Vl M hf
 have := (gs G).1
 by_cases h : (E9 s f).length = 1
 ·rw [h] at D; rw [G] at D; simp at D; omega
 ·omega
theorem Hu {a b A B : Int} (O : -A ≤ a ∧ a ≤ A) (hb : -B ≤ b ∧ b ≤ B) : -(A * B) ≤ a * b ∧ a * b ≤ A * B := by
 have D : a.natAbs ≤ A.toNat := by omega
 have G : b.natAbs ≤ B.toNat := by omega
 have M := Nat.mul_le_mul D G
 rw [← Int.natAbs_mul] at M
 have e : ((A.toNat * B.toNat : Nat) : Int) = A * B := by
  rw [Int.natCast_mul, Int.toNat_of_nonneg (by omega), Int.toNat_of_nonneg (by omega)]
 omega
def O7 (s : Sg) (q : Int) (x : gradient_part) : Int := s.Resist * x.liquid.Friction * q * q * x.length
def P9 (s : Sg) : Int := 1000 * s.Capacity
def Qv (x : gradient_part) : Int := x.liquid.Density * 9807 * x.height * x.length
def T3 (x : gradient_part) : Int := 1000 * x.width
def lo (s : Sg) (q : Int) (x : gradient_part) : Int := dn (O7 s q x) (P9 s) + dn (Qv x) (T3 x)
def hi (s : Sg) (q : Int) (x : gradient_part) : Int := up (O7 s q x) (P9 s) + up (Qv x) (T3 x)
structure PartOk (s : Segment) (x : gradient_part) : Prop where
 length : 1 ≤ x.length ∧ x.length ≤ 1000
 width : 1 ≤ x.width ∧ x.width ≤ 1000
 height : -5500 ≤ x.height ∧ x.height ≤ 5500
 density : 400 ≤ x.liquid.Density ∧ x.liquid.Density ≤ 1200
 friction : 1 ≤ x.liquid.Friction ∧ x.liquid.Friction ≤ 2000
section
variable {s : Sg} {q : Int} {x : gradient_part}
theorem Um (Y : 0 ≤ s.Resist ∧ s.Resist ≤ 1000) (hq : 1 ≤ q ∧ q ≤ 1000) (D : PartOk s x) :
  (0 ≤ s.Resist * x.liquid.Friction ∧ s.Resist * x.liquid.Friction ≤ 2000000) ∧ (0 ≤ s.Resist * x.liquid.Friction * q ∧ s.Resist * x.liquid.Friction * q ≤ 2000000000) ∧
  (0 ≤ s.Resist * x.liquid.Friction * q * q ∧ s.Resist * x.liquid.Friction * q * q ≤ 2000000000000) ∧ 0 ≤ O7 s q x ∧ O7 s q x ≤ 2000000000000000 := by
 have h1 := D.friction; have h2 := D.length
 have a1 := Hu (a := s.Resist) (b := x.liquid.Friction) (A := 1000) (B := 2000) (by omega) (by omega)
 have G := Int.mul_nonneg Y.1 (show 0 ≤ x.liquid.Friction by omega)
 have a2 := Hu (a := s.Resist * x.liquid.Friction) (b := q) (A := 2000000) (B := 1000) (by omega) (by omega)
 have M := Int.mul_nonneg G (show 0 ≤ q by omega)
 have a3 := Hu (a := s.Resist * x.liquid.Friction * q) (b := q) (A := 2000000000) (B := 1000) (by omega) (by omega)
 have O := Int.mul_nonneg M (show 0 ≤ q by omega)
 have a4 := Hu (a := s.Resist * x.liquid.Friction * q * q) (b := x.length) (A := 2000000000000) (B := 1000) (by omega) (by omega)
 have Z := Int.mul_nonneg O (show 0 ≤ x.length by omega)
 unfold O7
 refine ⟨⟨G, by omega⟩, ⟨M, by omega⟩, ⟨O, by omega⟩, Z, by omega⟩
theorem Ui (D : PartOk s x) :
  (0 ≤ x.liquid.Density * 9807 ∧ x.liquid.Density * 9807 ≤ 11768400) ∧ (-64726200000 ≤ x.liquid.Density * 9807 * x.height ∧ x.liquid.Density * 9807 * x.height ≤ 64726200000) ∧
  -64726200000000 ≤ Qv x ∧ Qv x ≤ 64726200000000 := by
 have O := D.density; have Y := D.length; have Z := D.height
 have G := Hu (a := x.liquid.Density * 9807) (b := x.height) (A := 11768400) (B := 5500) (by omega) (by omega)
 have M := Hu (a := x.liquid.Density * 9807 * x.height) (b := x.length) (A := 64726200000) (B := 1000) (by omega) (by omega)
 unfold Qv
 refine ⟨⟨by omega, by omega⟩, ⟨by omega, by omega⟩, by omega, by omega⟩
theorem T9 (hc : 1 ≤ s.Capacity) (M : 0 ≤ s.Resist ∧ s.Resist ≤ 1000) (G : 1 ≤ q ∧ q ≤ 1000) (D : PartOk s x) :
  (-3000000000000000 ≤ lo s q x ∧ lo s q x ≤ 3000000000000000) ∧ (-3000000000000000 ≤ hi s q x ∧ hi s q x ≤ 3000000000000000) := by
 have Z := Um M G D
 have h2 := Ui D
 have O := F0 (a := O7 s q x) (b := P9 s) (by unfold P9; omega)
 have Y := F0 (a := Qv x) (b := T3 x) (by have := D.width; unfold T3; omega)
 have u1 := Nr (a := O7 s q x) (b := P9 s) (by unfold P9; omega)
 have u2 := Nr (a := Qv x) (b := T3 x) (by have := D.width; unfold T3; omega)
 unfold lo hi; omega
end
def neg (x : gradient_part) : gradient_part := ⟨x.length, x.width, -x.height, x.liquid⟩
def flat (x : gradient_part) : gradient_part := ⟨x.length, x.width, 0, x.liquid⟩
theorem Xe {s : Sg} {x : gradient_part} (h : PartOk s x) : PartOk s (neg x) := ⟨h.length, h.width, by have := h.height; simp only [neg]; omega, h.density, h.friction⟩
def Ce {α : Type} (g : α → Int) : List α → Int
 | [] => 0
 | x :: l => g x + Ce g l
theorem Hb {α : Type} (g : α → Int) : ∀ l m : List α, Ce g (l ++ m) = Ce g l + Ce g m
 | [], m => by simp [Ce]
 | x :: l, m => by simp only [List.cons_append, Ce, Hb g l m]; omega
theorem Fo {α : Type} (g : α → Int) {l : List α} {k : Nat} {x : α} (h : l[k]? = some x) : Ce g (l.take (k + 1)) = Ce g (l.take k) + g x := by
 rw [List.take_add_one, h, Hb]; simp [Ce]
theorem Kf {α : Type} {g h : α → Int} : ∀ {l : List α}, (∀ x, x ∈ l → g x ≤ h x) → Ce g l ≤ Ce h l
 | [], _ => by simp [Ce]
 | x :: l, hh => by
  have := hh x (by simp)
  have := Kf (l := l) fun y D => hh y (by simp [D])
  simp only [Ce]; omega
theorem Kg {α : Type} {g : α → Int} {B : Int} : ∀ {l : List α}, (∀ x, x ∈ l → -B ≤ g x ∧ g x ≤ B) → -(B * l.length) ≤ Ce g l ∧ Ce g l ≤ B * l.length
 | [], _ => by simp [Ce]
 | x :: l, hh => by
  have G := hh x (by simp)
  have M := Kg (l := l) fun y D => hh y (by simp [D])
  have e : B * ((x :: l).length : Int) = B * l.length + B := by rw [List.length_cons, Int.natCast_add, Int.mul_add]; simp
  rw [e]
  simp only [Ce]; omega
def Wn (s : Sg) (q : Int) (b : Bounds) (D : Li) (G : List gradient_part) (i : Nat) : Level :=
 ⟨D.getD i 0, ⟨b.Low - Ce (hi s q) (G.take i), b.High - Ce (lo s q) (G.take i)⟩⟩
def Me (s : Sg) (q : Int) (b : Bounds) (D : Li) (G : List gradient_part) : List Level := (List.range D.length).map (Wn s q b D G)
theorem G5 (s : Sg) (q : Int) (b : Bounds) (D : Li) (G : List gradient_part) : (Me s q b D G).length = D.length := by simp [Me]
theorem N4 (s : Sg) (q : Int) (b : Bounds) {D : Li} (G : List gradient_part) {i : Nat} (h : i < D.length) : (Me s q b D G)[i]? = some (Wn s q b D G i) := by
 unfold Me; rw [List.getElem?_map, List.getElem?_range h]; rfl
theorem Qi {a b : Int} (hb : 1 ≤ b ∧ b ≤ 1099511627776) (Z : -2305843009213693952 ≤ a ∧ a ≤ 2305843009213693952) : Gn a b = some (a / b, a % b, true) := by
 have h := Xk (a := a) (b := b) (by omega)
 have M := F0 (a := a) (b := b) (by omega)
 unfold dn at M
 have O := Int.emod_nonneg a (by omega : b ≠ 0)
 have Y := Int.emod_lt_of_pos a (by omega : 0 < b)
 have : Ok (Gn a b) fun r => r = (a / b, a % b, true) := by
  unfold Gn
  refine Bn (fun h => ?_) fun _ => ?_
  ·simp at h; omega
  refine .bind' (.quo (by omega) (.bind' (.rem (by omega) (Bd (fun G => ?_) fun G => ?_))))
  ·have D := h.1 G
   unfold Gn.J1
   rw [A0 (x := a.tdiv b) (by omega), A0 (by omega), A0 (by omega)]
   exact .pure (by rw [D.1, D.2])
  ·have D := h.2 G
   unfold Gn.J1
   rw [A0 (x := a.tdiv b) (by omega)]
   exact .pure (by rw [D.1, D.2])
 obtain ⟨r, h, rfl⟩ := this
 exact h
theorem Qp {a b : Int} (hb : 1 ≤ b ∧ b ≤ 1099511627776) (D : -2305843009213693952 ≤ a ∧ a ≤ 2305843009213693952) : Ji a b = some (dn a b) := by
 unfold Ji; rw [Qi hb D]; rfl
theorem Yb {a b : Int} (hb : 1 ≤ b ∧ b ≤ 1099511627776) (D : -2305843009213693952 ≤ a ∧ a ≤ 2305843009213693952) : Jo a b = some (up a b) := by
 have G := F0 (a := a) (b := b) (by omega)
 unfold dn at G
 unfold Jo
 rw [Qi hb D]
 simp only [Option.bind_some, Bool.true_and, decide_eq_true_eq, gt_iff_lt, Jo.J1]
 unfold up
 split
 ·rw [A0 (by omega)]
 ·rfl
theorem Xg {s : Sg} {q : Int} {x : gradient_part} (hc : 1 ≤ s.Capacity ∧ s.Capacity ≤ 1000) (Y : 0 ≤ s.Resist ∧ s.Resist ≤ 1000) (O : 1 ≤ q ∧ q ≤ 1000) (D : PartOk s x) :
  Mo x s q = some (lo s q x, hi s q x) := by
 have f := Um Y O D
 have l := Ui D
 have w := D.width
 have b := T9 hc.1 Y O D
 have Z : wr ((wr ((wr ((wr (s.Resist * x.liquid.Friction)) * q)) * q)) * x.length) = O7 s q x := by
  rw [A0 (x := s.Resist * x.liquid.Friction) (by omega), A0 (x := s.Resist * x.liquid.Friction * q) (by omega), A0 (x := s.Resist * x.liquid.Friction * q * q) (by omega)]
  exact A0 (x := O7 s q x) (by omega)
 have e2 : wr ((wr ((wr (x.liquid.Density * 9807)) * x.height)) * x.length) = Qv x := by
  rw [A0 (x := x.liquid.Density * 9807) (by omega), A0 (x := x.liquid.Density * 9807 * x.height) (by omega)]
  exact A0 (x := Qv x) (by omega)
 have e3 : wr (1000 * s.Capacity) = P9 s := A0 (by omega)
 have e4 : wr (1000 * x.width) = T3 x := A0 (by omega)
 have G : 1 ≤ P9 s ∧ P9 s ≤ 1099511627776 := by unfold P9; omega
 have M : 1 ≤ T3 x ∧ T3 x ≤ 1099511627776 := by unfold T3; omega
 unfold Mo
 rw [Z, e2, e3, e4, Qp G (by omega), Qp M (by omega), Yb G (by omega), Yb M (by omega)]
 have e5 : wr (dn (O7 s q x) (P9 s) + dn (Qv x) (T3 x)) = lo s q x := A0 (x := lo s q x) (by omega)
 have e6 : wr (up (O7 s q x) (P9 s) + up (Qv x) (T3 x)) = hi s q x := A0 (x := hi s q x) (by omega)
 simp only [Option.bind_some, e5, e6]
theorem Pt {f : List Piece} {b : List Batch} {p : List Product} {cap : Int} (hf : FillOk cap f) (hb : BatsOk p.length b) : Ok (Gk f b p) fun r => r.2 = 0 ∧ r.1.length = f.length ∧ ∀ y, y ∈ r.1 → y ∈ p := by
 have aa := hf.len
 unfold Gk
 refine .bind' (.forL (fun k M => M.length = k ∧ ∀ y, y ∈ M → y ∈ p) (fun _ => False) ⟨rfl, by simp⟩ ?_ ?_ fun _ h => h.elim)
 ·rintro k x M hx ⟨O, Y⟩
  have hk := (gs hx).1
  have Z := hf.bat x (mg hx)
  have hbl := hb.len
  unfold Gk.B2
  refine Bd (fun h => by omega) fun _ => .bind' (.ix' Z.1 (by omega) fun j y hj hy => ?_)
  have G := hb.all y (mg hy)
  refine Bn (fun h => ?_) fun _ => .bind' (.ix' G.1 G.2 fun i z hi hz => .bind' (.app (by simp; omega) (.pure ⟨by simp [O], fun w D => ?_⟩)))
  ·simp at h; omega
  ·rcases List.mem_append.1 D with D | D
   ·exact Y w D
   ·simp at D; subst D; exact mg hz
 ·rintro M ⟨O, Y⟩
  exact .pure ⟨rfl, O, Y⟩
def IsPart (s : Sg) (f : List Piece) (l : List Product) (i : Nat) (x : gradient_part) : Prop :=
 ∃ (a b : Int) (p : Nat) (u v : Point) (k : Nat) (y : Product), (E9 s f)[i]? = some a ∧ (E9 s f)[i + 1]? = some b ∧ s.Points[p]? = some u ∧ s.Points[p + 1]? = some v ∧ u.At < b ∧ b ≤ v.At ∧
  Br (f.take k) < b ∧ b ≤ Br (f.take (k + 1)) ∧ k < f.length ∧ l[k]? = some y ∧ x = ⟨b - a, v.At - u.At, v.Height - u.Height, y⟩
structure Parts (s : Segment) (f : List Piece) (l : List Product) (W : List gradient_part) : Prop where
 len : W.length + 1 = (E9 s f).length
 all : ∀ i x, W[i]? = some x → IsPart s f l i x
theorem IsPart.ok {s : Sg} {f : List Piece} {l : List Product} {i : Nat} {x : gradient_part} (D : SegG s) (hf : FillOk s.Capacity f) (hl : ∀ y, y ∈ l → (400 ≤ y.Density ∧ y.Density ≤ 1200) ∧ 1 ≤ y.Friction ∧ y.Friction ≤ 2000) (h : IsPart s f l i x) : PartOk s x := by
 obtain ⟨a, b, p, u, v, k, y, G, M, O, Y, h5, h6, _, _, _, h7, rfl⟩ := h
 have hc := D.cap
 have ha := El D.points hf (mg G)
 have hb := El D.points hf (mg M)
 have hab := Hr (Hv s f) (Nat.lt_succ_self i) G M
 have hu := D.points.at_range O
 have hv := D.points.at_range Y
 have hh1 := D.points.height u (mg O)
 have hh2 := D.points.height v (mg Y)
 have Z := hl y (mg h7)
 exact ⟨by dsimp only; omega, by dsimp only; omega, by dsimp only; omega, Z.1, Z.2⟩
theorem Vb {s : Sg} {f : List Piece} {l : List Product} (hs : SegG s) (hf : FillOk s.Capacity f) (hl : l.length = f.length) : Ok (Mw s f l (E9 s f)) fun W => Parts s f l W := by
 have hc := hs.cap
 have M := hs.points
 have hpl := M.len
 have hfl := hf.len
 have hbl := M4 s f
 have hb2 := M2 M hc.1 hf
 have hf0 : 0 < f.length := by
  rcases Nat.eq_zero_or_pos f.length with h | h
  ·have : f = [] := List.eq_nil_of_length_eq_zero h
   subst this
   have := hf.sum
   simp [Br] at this; omega
  ·exact h
 have hg0 : f[0]? = some (f[0]'hf0) := gq _
 unfold Mw
 refine .bind' (.eq (B8 (k := 0) hg0) (.bind (Q := fun W => Parts s f l W) ?_ fun d hd => by unfold Mw.J1; exact .pure hd))
 refine .loop (fun st : List gradient_part × Int × Int × Int => ∃ k : Nat, st.2.1 = (k : Int) ∧ k < f.length ∧ st.2.2.1 = Br (f.take (k + 1)) ∧ st.2.2.2 = ((st.1.length + 1 : Nat) : Int) ∧ st.1.length + 1 ≤ (E9 s f).length ∧
   (∀ b, (E9 s f)[st.1.length + 1]? = some b → Br (f.take k) < b) ∧ ∀ i x, st.1[i]? = some x → IsPart s f l i x) (fun st => (E9 s f).length - st.1.length)
  ⟨0, rfl, hf0, ?_, rfl, by simp; omega, ?_, by simp⟩ (by dsimp only; simp only [List.length_nil]; omega) ?_
 ·dsimp only; rw [Fi hg0]; simp [Br]
 ·intro b Y
  have h0 := Lx M hf
  have := Hr (Hv s f) (by simp) h0 Y
  simpa [Br] using this
 rintro ⟨G, i1, i2, i3⟩ ⟨k, h1, hk, h2, h3, ho, hlow, O⟩
 dsimp only at h1 h2 h3 ho hlow O
 subst h1 h2 h3
 unfold Mw.B2
 dsimp only
 refine Bd (fun h => ?_) fun h => .pure ⟨by omega, O⟩
 have Y : (E9 s f)[G.length + 1]? = some ((E9 s f)[G.length + 1]'(by omega)) := gq _
 obtain ⟨b, hbe⟩ : ∃ b, b = (E9 s f)[G.length + 1]'(by omega) := ⟨_, rfl⟩
 rw [← hbe] at Y
 have ha : (E9 s f)[G.length]? = some ((E9 s f)[G.length]'(by omega)) := gq _
 obtain ⟨a, hae⟩ : ∃ a, a = (E9 s f)[G.length]'(by omega) := ⟨_, rfl⟩
 rw [← hae] at ha
 have hbr := El M hf (mg Y)
 have har := El M hf (mg ha)
 have hab := Hr (Hv s f) (Nat.lt_succ_self _) ha Y
 refine .bind (Q := fun d : Int × Int => ∃ D : Nat, d = ((D : Int), Br (f.take (D + 1))) ∧ D < f.length ∧ Br (f.take D) < b ∧ b ≤ Br (f.take (D + 1))) ?_ ?_
 ·refine .loop (fun d : Int × Int => ∃ D : Nat, d = ((D : Int), Br (f.take (D + 1))) ∧ D < f.length ∧ Br (f.take D) < b) (fun d => f.length - d.1.toNat) ⟨k, rfl, hk, hlow b Y⟩ (by dsimp only; omega) ?_
  rintro _ ⟨D, rfl, Z, hl'⟩
  unfold Mw.B6
  dsimp only
  refine .bind' (.eq (B8 Y) (Bd (fun h => ?_) fun h => .pure ⟨D, rfl, Z, hl', by omega⟩))
  have hn : D + 1 < f.length := by
   by_cases hh : D + 1 < f.length
   ·exact hh
   ·rw [List.take_of_length_le (by omega), hf.sum] at h; omega
  have hgn : f[D + 1]? = some (f[D + 1]'hn) := gq _
  have hsn := Fi hgn
  have hsr := Cs hf.vol (D + 1 + 1)
  have hfs := hf.sum
  rw [show wr ((D : Int) + 1) = ((D + 1 : Nat) : Int) by rw [A0 (by omega)]; omega]
  refine .bind' (.eq (B8 hgn) (.pure ⟨⟨D + 1, ?_, hn, h⟩, ?_⟩))
  ·dsimp only; rw [A0 (by omega), ← hsn]
  ·dsimp only; omega
 ·rintro _ ⟨D, rfl, Z, hl1, hl2⟩
  unfold Mw.J4
  dsimp only
  refine .bind' (.eq (B8 Y) ?_)
  refine .bind (Po ⟨hpl.1, by omega⟩ M.asc M.first (e := b) (by omega) fun p hp' => by have := M.last p hp'; omega) ?_
  rintro r ⟨p, u, v, rfl, hu, hv, hub, hbv⟩
  have hpl' := (gs hv).1
  have hur := M.at_range hu
  have hvr := M.at_range hv
  have hh1 := M.height u (mg hu)
  have hh2 := M.height v (mg hv)
  rw [show wr (((p + 1 : Nat) : Int) - 1) = (p : Int) by rw [A0 (by omega)]; omega]
  refine .bind' (.eq (B8 hu) (.bind' (.eq (B8 hv) ?_)))
  unfold Mw.J5
  dsimp only
  rw [show wr (((G.length + 1 : Nat) : Int) - 1) = (G.length : Int) by rw [A0 (by omega)]; omega]
  have hly : l[D]? = some (l[D]'(by omega)) := gq _
  refine .bind' (.eq (B8 ha) (.bind' (.eq (B8 hly) (.bind' (.app (by simp; omega) ?_)))))
  unfold Mw.J3
  dsimp only
  rw [A0 (x := b - a) (by omega), A0 (x := v.At - u.At) (by omega), A0 (x := v.Height - u.Height) (by omega), A0 (x := ((G.length + 1 : Nat) : Int) + 1) (by omega)]
  refine .pure ⟨⟨D, rfl, Z, rfl, by simp, by simp; omega, fun b' hb' => ?_, fun i x hx => ?_⟩, ?_⟩
  ·simp only [List.length_append, List.length_singleton] at hb'
   have := Hr (Hv s f) (Nat.lt_succ_self _) Y hb'
   omega
  ·rw [List.getElem?_append] at hx
   split at hx
   ·exact O i x hx
   ·have hi := (gs hx).1
    simp at hi
    have : i = G.length := by omega
    subst this
    simp at hx
    exact ⟨a, b, p, u, v, D, _, ha, Y, hu, hv, hub, hbv, hl1, hl2, Z, hly, hx.symm⟩
  ·dsimp only; simp only [List.length_append, List.length_singleton]; omega
theorem Pa {α : Type} {B : List α × Int × Int → Option ((List α × Int × Int) ⊕ List α)}
  (hB : ∀ D, B D = if decide (D.2.1 < D.2.2) = true then Option.bind (ix D.1 D.2.2) fun Y => Option.bind (ix D.1 D.2.1) fun G => Option.bind (ix (D.1.set G.1 Y.2) D.2.2) fun aa => some (.inl ((D.1.set G.1 Y.2).set aa.1 G.2, wr (D.2.1 + 1), wr (D.2.2 - 1))) else some (.inr D.1))
  {l : List α} (hl : l.length ≤ 1000000) : Option.bind (C0 B Gh (l, 0, wr ((l.length : Int) - 1))) (fun d => some d) = some l.reverse := by
 have : Ok (C0 B Gh (l, 0, wr ((l.length : Int) - 1))) fun r => r = l.reverse := by
  refine .loop (fun D => ∃ i : Nat, D.2.1 = (i : Int) ∧ D.2.2 = (l.length : Int) - 1 - i ∧ 2 * i ≤ l.length ∧ D.1.length = l.length ∧ ∀ k : Nat, k < l.length → D.1[k]? = if k < i ∨ l.length - 1 - i < k then l[l.length - 1 - k]? else l[k]?) (fun D => (D.2.2 - D.2.1 + 1).toNat)
   ⟨0, rfl, by dsimp only; rw [A0 (by omega)]; omega, by omega, rfl, fun k O => ?_⟩ (by dsimp only; rw [A0 (by omega)]; omega) ?_
  ·rw [if_neg (by omega)]
  rintro ⟨m, _, _⟩ ⟨i, rfl, rfl, hi, hm, M⟩
  dsimp only at hm M
  rw [hB]
  dsimp only
  refine Bd (fun h => ?_) fun h => .pure ?_
  ·have e : (l.length : Int) - 1 - i = ((l.length - 1 - i : Nat) : Int) := by omega
   rw [e]
   have Z : m[l.length - 1 - i]? = some (m[l.length - 1 - i]'(by omega)) := gq _
   have h2 : m[i]? = some (m[i]'(by omega)) := gq _
   refine .bind' (.eq (B8 Z) (.bind' (.eq (B8 h2) ?_)))
   dsimp only
   have h3 : (m.set i (m[l.length - 1 - i]'(by omega)))[l.length - 1 - i]? = some (m[l.length - 1 - i]'(by omega)) := by rw [List.getElem?_set_ne (by omega)]; exact Z
   refine .bind' (.eq (B8 h3) (.pure ⟨⟨i + 1, ?_, ?_, by omega, by simp [hm], fun k O => ?_⟩, ?_⟩))
   ·dsimp only; rw [A0 (by omega)]; omega
   ·dsimp only; rw [A0 (by omega)]; omega
   ·dsimp only
    have e1 : m[l.length - 1 - i]? = l[l.length - 1 - i]? := by rw [M _ (by omega), if_neg (by omega)]
    have e2 : m[i]? = l[i]? := by rw [M _ (by omega), if_neg (by omega)]
    by_cases c1 : k = l.length - 1 - i
    ·subst c1
     rw [List.getElem?_set_self (by simp; omega), if_pos (by omega), ← h2, e2]
     congr 1; omega
    ·rw [List.getElem?_set_ne (by omega)]
     by_cases c2 : k = i
     ·subst c2
      rw [List.getElem?_set_self (by omega), if_pos (by omega), ← Z, e1]
     ·rw [List.getElem?_set_ne (by omega), M k O]
      by_cases c3 : k < i ∨ l.length - 1 - i < k
      ·rw [if_pos c3, if_pos (by omega)]
      ·rw [if_neg c3, if_neg (by omega)]
   ·dsimp only; rw [A0 (by omega), A0 (by omega)]; omega
  ·apply List.ext_getElem?
   intro k
   by_cases O : k < l.length
   ·rw [List.getElem?_reverse O, M k O]
    split
    ·rfl
    ·congr 1; omega
   ·rw [List.getElem?_eq_none (by omega), List.getElem?_eq_none (by simp; omega)]
 obtain ⟨r, h, rfl⟩ := this
 rw [h]; rfl
theorem Xa {l : Li} (hl : l.length ≤ 1000000) : Pe l = some l.reverse := Pa (B := Pe.B1) (fun _ => rfl) hl
theorem U9 {l : List gradient_part} (hl : l.length ≤ 1000000) : Pl l = some l.reverse := Pa (B := Pl.B1) (fun _ => rfl) hl
theorem Rb {l : List Level} (hl : l.length ≤ 1000000) : M6 l = some l.reverse := Pa (B := M6.B1) (fun _ => rfl) hl
theorem Qo {α : Type} {B : Nat → List α → Option (List α)} {g : α → α} (l : List α) (hB : ∀ (k : Nat) (m : List α) (x : α), l[k]? = some x → m[k]? = some x → B k m = some (m.set k (g x))) : forJ B 0 l.length l = some (l.map g) := by
 have : Ok (forJ B 0 l.length l) fun r => r = l.map g := by
  refine .forJ (fun k D => D.length = l.length ∧ ∀ j : Nat, D[j]? = if j < k then (l[j]?).map g else l[j]?) ⟨rfl, fun j => by simp⟩ ?_ ?_
  ·rintro k D hk ⟨Y, G⟩
   have M : l[k]? = some (l[k]'hk) := gq _
   have O : D[k]? = some (l[k]'hk) := by rw [G, if_neg (by omega), M]
   refine .eq (hB k D _ M O) ⟨by simp [Y], fun j => ?_⟩
   by_cases hj : j = k
   ·subst hj
    rw [List.getElem?_set_self (by omega), if_pos (by omega), M]; rfl
   ·rw [List.getElem?_set_ne (by omega), G]
    by_cases Z : j < k
    ·rw [if_pos Z, if_pos (by omega)]
    ·rw [if_neg Z, if_neg (by omega)]
  ·rintro D ⟨Y, G⟩
   apply List.ext_getElem?
   intro j
   rw [G, List.getElem?_map]
   split
   ·rfl
   ·rw [List.getElem?_eq_none (by omega)]; rfl
 obtain ⟨r, h, rfl⟩ := this
 exact h
theorem Wx {s : Sg} {r q : Int} {b : Bounds} {D : Li} {way : List gradient_part} (hc : 1 ≤ s.Capacity ∧ s.Capacity ≤ 1000) (Z : 0 ≤ s.Resist ∧ s.Resist ≤ 1000) (hq : max r (wr (0 - r)) = q) (M : 1 ≤ q ∧ q ≤ 1000)
  (hl : way.length + 1 = D.length) (hl2 : D.length ≤ 200) (hw : ∀ x, x ∈ way → PartOk s x) (h1 : -1125899906842624 ≤ b.Low ∧ b.Low ≤ 1125899906842624) (h2 : -1125899906842624 ≤ b.High ∧ b.High ≤ 1125899906842624) {a : Int} (ha : D[0]? = some a) :
  Ok (forJ (H4.B4 s r (way, D)) 0 way.length (b.Low, b.High, [⟨a, b⟩])) fun Y => Y.2.2 = Me s q b D way := by
 refine .forJ (fun k Y => Y.1 = b.Low - Ce (hi s q) (way.take k) ∧ Y.2.1 = b.High - Ce (lo s q) (way.take k) ∧ Y.2.2 = (List.range (k + 1)).map (Wn s q b D way)) ⟨by simp [Ce], by simp [Ce], ?_⟩ ?_ ?_
 ·simp [Wn, List.range_succ, List.getD, ha, Ce]
 ·rintro k ⟨x1, x2, out⟩ hk ⟨i1, i2, O⟩
  dsimp only at i1 i2 O
  subst i1 i2 O
  have G : way[k]? = some (way[k]'hk) := gq _
  have hm := hw _ (mg G)
  have bd : ∀ x, x ∈ way.take (k + 1) → PartOk s x := fun x G => hw x (List.mem_of_mem_take G)
  have bd0 : ∀ x, x ∈ way.take k → PartOk s x := fun x G => hw x (List.mem_of_mem_take G)
  have s1 := Kg (g := lo s q) (B := 3000000000000000) (l := way.take (k + 1)) fun x G => (T9 hc.1 Z M (bd x G)).1
  have s2 := Kg (g := hi s q) (B := 3000000000000000) (l := way.take (k + 1)) fun x G => (T9 hc.1 Z M (bd x G)).2
  have t1 := Fo (lo s q) G
  have t2 := Fo (hi s q) G
  simp only [List.length_take] at s1 s2
  unfold H4.B4
  refine .bind' (.ix k rfl hk (.bind' (.eq (by rw [hq]; exact Xg hc Z M hm) (.bind' (.ix (k + 1) rfl (by dsimp only; omega) (.bind' (.app (by simp; omega) (.pure ⟨?_, ?_, ?_⟩))))))))
  ·dsimp only; rw [t2, A0 (by omega)]; omega
  ·dsimp only; rw [t1, A0 (by omega)]; omega
  ·dsimp only
   rw [List.range_succ (n := k + 1), List.map_append]
   have e1 : wr (b.Low - Ce (hi s q) (way.take k) - hi s q way[k]) = b.Low - Ce (hi s q) (way.take (k + 1)) := by rw [t2, A0 (by omega)]; omega
   have e2 : wr (b.High - Ce (lo s q) (way.take k) - lo s q way[k]) = b.High - Ce (lo s q) (way.take (k + 1)) := by rw [t1, A0 (by omega)]; omega
   rw [e1, e2]
   simp [Wn, List.getD, gq (show k + 1 < D.length by omega)]
 ·rintro ⟨x1, x2, out⟩ ⟨i1, i2, O⟩
  dsimp only at O ⊢
  rw [O, hl]; rfl
def Jf (s : Sg) (f : List Piece) (W : List gradient_part) (r : Int) (b : Bounds) : List Level :=
 if r < 0 then (Me s (-r) b (E9 s f).reverse (W.reverse.map neg)).reverse else Me s r b (E9 s f) W
theorem Yw {f : List Piece} {b : List Batch} {p : List Product} {cap : Int} (hf : FillOk cap f) (hb : BatsOk p.length b) : ∃ l, Gk f b p = some (l, 0) ∧ l.length = f.length ∧ ∀ y, y ∈ l → y ∈ p := by
 obtain ⟨⟨l, e⟩, h, D, G, M⟩ := Pt hf hb
 dsimp only at D G M
 subst D
 exact ⟨l, h, G, M⟩
theorem Xb {p : List Product} (G : ProdsOk p) {y : Product} (M : y ∈ p) : (400 ≤ y.Density ∧ y.Density ≤ 1200) ∧ 1 ≤ y.Friction ∧ y.Friction ≤ 2000 := by
 obtain ⟨k, D⟩ := List.getElem?_of_mem M
 have := G.all k y D
 exact ⟨this.density, this.friction⟩
theorem Of {s : Sg} {f : List Piece} {bs : List Batch} {p l : List Product} (hs : SegG s) (hf : FillOk s.Capacity f) (hp : ProdsOk p) (hliq : Gk f bs p = some (l, 0)) (hlen : l.length = f.length) (hmem : ∀ y, y ∈ l → y ∈ p) :
  ∃ W, Parts s f l W ∧ (∀ x, x ∈ W → PartOk s x) ∧ ∀ (r : Int) (b : Bounds), r ≠ 0 → -1000 ≤ r → r ≤ 1000 → b.Low ≤ b.High → -1125899906842624 ≤ b.Low → b.High ≤ 1125899906842624 → H4 s f bs p r b = some (Jf s f W r b, 0) := by
 obtain ⟨W, hW, hP⟩ := Vb hs hf hlen
 have M : ∀ x, x ∈ W → PartOk s x := fun x hx => by
  obtain ⟨i, hi⟩ := List.getElem?_of_mem hx
  exact (hP.all i x hi).ok hs hf fun y hy => Xb hp (hmem y hy)
 refine ⟨W, hP, M, fun r b hr0 hr1 hr2 hb1 hb2 hb3 => ?_⟩
 have hc := hs.cap
 have hpl := hs.points.len
 have hfl := hf.len
 have hbl := M4 s f
 have hb2' := M2 hs.points hc.1 hf
 have hWl := hP.len
 have O : Gi b = true := by unfold Gi; simp; omega
 have Z : ((r == 0) || (decide (r < (-1000)) || (decide (r > 1000) || (!(Gi b))))) = false := by rw [O]; simp; omega
 have e1 : Jk (E9 s f) = some (E9 s f) := by
  unfold Jk
  rw [Qr (by simp; omega)]; rfl
 unfold H4
 rw [Ve hs hf, Ld hp, hliq, Rn ⟨by omega, by omega⟩ hfl hf.vol (by have := hf.sum; omega)]
 simp only [Option.bind_some, Z, bne_self_eq_false, Bool.false_eq_true, if_false, Option.bind_some, hW, e1]
 have Y : ∀ (D : Li) (G : List gradient_part), G.length + 1 = D.length → D.length = (E9 s f).length → (∀ x, x ∈ G → PartOk s x) →
   H4.J1 s r b (G, D) = (if decide (r < 0) = true then some ((Me s (-r) b D G).reverse, 0) else some (Me s r b D G, 0)) := by
  intro D G h1 h2 h3
  have h0 : D[0]? = some (D[0]'(by omega)) := gq _
  have hq : max r (wr (0 - r)) = if r < 0 then -r else r := by rw [A0 (by omega)]; split <;> omega
  obtain ⟨st, g1, g2⟩ := Wx (s := s) (r := r) (b := b) hc hs.resist hq (by split <;> omega) h1 (by omega) h3 (by omega) (by omega) h0
  unfold H4.J1
  have h0' : ix D 0 = some (0, D[0]) := B8 h0
  rw [h0']
  simp only [Option.bind_some, g1, H4.J2, H4.J3, g2]
  by_cases hr : r < 0
  ·simp only [hr, decide_true, if_true]
   rw [Rb (by rw [G5]; omega)]; rfl
  ·simp only [hr, decide_false, if_false, Bool.false_eq_true]
 unfold Jf
 by_cases hr : r < 0
 ·simp only [hr, decide_true, if_true]
  rw [Xa (by omega), U9 (by omega)]
  simp only [Option.bind_some]
  have hneg : forJ H4.B5 0 W.reverse.length W.reverse = some (W.reverse.map neg) := Qo _ fun k m x hx hm => by
   have hb := (M x (List.mem_reverse.1 (mg hx))).height
   unfold H4.B5
   rw [B8 hm]
   simp only [Option.bind_some]
   rw [A0 (by omega), Int.zero_sub]; rfl
  rw [hneg]
  simp only [Option.bind_some]
  rw [Y _ _ (by simp; omega) (by simp) (by
   intro x hx
   simp only [List.mem_map, List.mem_reverse] at hx
   obtain ⟨y, hy, rfl⟩ := hx
   exact Xe (M y hy))]
  simp only [hr, decide_true, if_true]
 ·simp only [hr, decide_false, if_false, Bool.false_eq_true]
  rw [Y _ _ (by omega) rfl M]
  simp only [hr, decide_false, if_false, Bool.false_eq_true]
theorem Uw {d : T4} (Z : SrcOk d) : Ok (Mj d) fun r => World19 r.1 r.2.1 r.2.2.1 r.2.2.2.1 ∧ SrcOk r.2.2.2.2 := by
 unfold Mj
 refine .bind (Yn Z (nodes := 2) (k := 0) (by decide) (by decide) (by decide) (by decide)) fun r1 D => .bind (Oq D.2) fun r2 G => ?_
 have Y := D.1.cap
 refine .bind (Xl G.2 Y) fun r3 M => .bind (Px M.2 G.1.len) fun r4 O => .pure ⟨⟨⟨⟨0, by decide, D.1.name⟩, D.1.cap, D.1.resist, D.1.wave, D.1.points⟩, M.1, O.1, G.1⟩, O.2⟩
theorem Xt : Mf = some true := by kernel_rfl
theorem Ly (s : Sg) (f : List Piece) (W : List gradient_part) (r : Int) (b : Bounds) : (Jf s f W r b).length = (E9 s f).length := by
 unfold Jf; split <;> simp [G5]
def T7 (W : List gradient_part) (r : Int) : List gradient_part := if r < 0 then W.reverse.map neg else W
def Kl (s : Sg) (f : List Piece) (r : Int) : Li := if r < 0 then (E9 s f).reverse else E9 s f
def Yi (s : Sg) (f : List Piece) (r : Int) (i : Nat) : Nat := if r < 0 then (E9 s f).length - 1 - i else i
def Yl (r : Int) : Int := if r < 0 then -r else r
theorem Ro (s : Sg) (f : List Piece) (W : List gradient_part) (r : Int) (b : Bounds) {i : Nat} (h : i < (E9 s f).length) :
  (Jf s f W r b)[i]? = some (Wn s (Yl r) b (Kl s f r) (T7 W r) (Yi s f r i)) := by
 unfold Jf T7 Kl Yi Yl
 split
 ·rw [List.getElem?_reverse (by rw [G5]; simp; omega), G5, List.length_reverse, N4 _ _ _ _ (by simp; omega)]
 ·rw [N4 _ _ _ _ h]
theorem Ln {f : List Piece} (h : ∀ p, p ∈ f → 1 ≤ p.Volume) {i j : Nat} (D : i ≤ j) : Br (f.take i) ≤ Br (f.take j) := by
 have := (Cs (l := f.take j) (fun p G => h p (List.mem_of_mem_take G)) i).2
 rwa [List.take_take, Nat.min_eq_left D] at this
end Go.Proofs.YtkhcdkioehdndaaGreatDoor
