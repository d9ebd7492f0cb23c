/- Plain proofs. No condition. -/
import Derived.Test.YtodeekicjiengaaGreatDoorYwP0
import Derived.Test.YtodeekicjiengaaGreatDoorYwD
set_option maxRecDepth 100000
namespace Go.Proofs.YtodeekicjiengaaGreatDoor
set_option linter.unusedVariables false
set_option linter.unusedSimpArgs false
open Go.Aw
def Dd : List Piece → Int
 | [] => 0
 | p :: l => p.Volume + Dd l
theorem G4 : ∀ l m : List Piece, Dd (l ++ m) = Dd l + Dd m
 | [], m => by simp [Dd]
 | x :: l, m => by simp only [List.cons_append, Dd, G4 l m]; omega
theorem Ew {l : List Piece} {k : Nat} {p : Piece} (h : l[k]? = some p) : Dd (l.take (k + 1)) = Dd (l.take k) + p.Volume := by
 rw [List.take_add_one, h, G4]; simp [Dd]
theorem L5 : ∀ {l : List Piece}, (∀ p, p ∈ l → 1 ≤ p.Volume) → (l.length : Int) ≤ Dd l
 | [], _ => by simp [Dd]
 | x :: l, h => by
  have := h x (by simp)
  have := L5 (l := l) fun p G => h p (by simp [G])
  simp only [Dd, List.length_cons]; omega
theorem Dn {l : List Piece} (h : ∀ p, p ∈ l → 1 ≤ p.Volume) (k : Nat) : 0 ≤ Dd (l.take k) ∧ Dd (l.take k) ≤ Dd l := by
 have e : Dd l = Dd (l.take k) + Dd (l.drop k) := by rw [← G4, List.take_append_drop]
 have O := L5 (l := l.take k) fun p G => h p (List.mem_of_mem_take G)
 have Y := L5 (l := l.drop k) fun p G => h p (List.mem_of_mem_drop G)
 omega
structure Pcs (l : List Piece) : Prop where
 len : l.length ≤ 12
 vol : ∀ p, p ∈ l → 1 ≤ p.Volume
 bat : ∀ p, p ∈ l → 0 ≤ p.Batch ∧ p.Batch < 4
 next : ∀ (i : Nat) (p q : Piece), l[i]? = some p → l[i + 1]? = some q → p.Batch ≠ q.Batch
structure FillOk (cap : Int) (l : List Piece) : Prop extends Pcs l where
 sum : Dd l = cap
theorem Pcs.snoc {l : List Piece} (h : Pcs l) {p : Piece} (h1 : l.length < 12) (h2 : 1 ≤ p.Volume) (Y : 0 ≤ p.Batch ∧ p.Batch < 4) (Z : ∀ q, l[l.length - 1]? = some q → q.Batch ≠ p.Batch) : Pcs (l ++ [p]) := by
 refine ⟨by simp; omega, fun q G => ?_, fun q G => ?_, fun i q r G O => ?_⟩
 ·rcases List.mem_append.1 G with G | G
  ·exact h.vol q G
  ·simp at G; subst G; exact h2
 ·rcases List.mem_append.1 G with G | G
  ·exact h.bat q G
  ·simp at G; subst G; exact Y
 ·have hi := (gs O).1
  simp at hi
  rw [List.getElem?_append_left (by omega)] at G
  by_cases he : i + 1 < l.length
  ·rw [List.getElem?_append_left he] at O
   exact h.next i q r G O
  ·have : i + 1 = l.length := by omega
   rw [List.getElem?_append_right (by omega), this] at O
   simp at O; subst O
   exact Z q (by rw [show l.length - 1 = i by omega]; exact G)
theorem pM {s : Xf} (hs : SrcOk s) {v : Int} (hv : 1 ≤ v ∧ v ≤ 1000) : Ok (Qs s v 4) fun r => FillOk v r.1 ∧ SrcOk r.2 := by
 unfold Qs
 refine .bind (Q := fun d : Li × Int × List Piece => SrcOk ⟨d.1, d.2.1⟩ ∧ FillOk v d.2.2) ?_ fun d hd => by unfold Qs.J1; exact .pure ⟨hd.2, hd.1⟩
 refine .loop (fun O : Li × Int × Int × List Piece => SrcOk ⟨O.1, O.2.1⟩ ∧ 0 ≤ O.2.2.1 ∧ Pcs O.2.2.2 ∧ Dd O.2.2.2 + O.2.2.1 = v ∧ (O.2.2.2.length = 12 → O.2.2.1 = 0)) (fun O => O.2.2.1.toNat)
  ⟨hs, by dsimp only; omega, ⟨by simp, by simp, by simp, by simp⟩, by simp [Dd], by simp⟩ (by dsimp only; omega) ?_
 rintro ⟨L_, At, Y, G⟩ ⟨h1, h2, h3, h4, h5⟩
 dsimp only at h1 h2 h3 h4 h5
 have hsum := L5 h3.vol
 have hlen := h3.len
 unfold Qs.B2
 dsimp only
 refine Bc (fun hc => ?_) fun hc => .pure ⟨h1, h3, ?_⟩
 rotate_left
 ·dsimp only
  simp at hc
  by_cases h0 : 0 < Y
  ·have := hc h0; have := h5 (by omega); omega
  ·omega
 simp at hc
 refine .bind (Ij h1 (by decide) (by decide)) ?_
 rintro ⟨b, s1⟩ ⟨hs1, hb⟩
 have hw : wr ((wr (Y * 2)).tdiv 3) = Y * 2 / 3 := by rw [Av (x := Y * 2) (by omega), Int.tdiv_eq_ediv_of_nonneg (by omega), Av (by omega)]
 dsimp only
 rw [hw]
 refine .bind (Eo hs1 (by omega) (by decide) (by omega)) ?_
 rintro ⟨x, s2⟩ ⟨hs2, hx⟩
 dsimp only at hb hx hs2 ⊢
 have j4 : ∀ (y : Int) (z : Int), 1 ≤ y → (G.length = 11 → y = Y) → (0 ≤ z ∧ z < 4) → (∀ q, G[G.length - 1]? = some q → q.Batch ≠ z) →
   Ok (Qs.J4 (L_, At, Y, G) (x, s2) y z) (Sum.elim (fun O : Li × Int × Int × List Piece => (SrcOk ⟨O.1, O.2.1⟩ ∧ 0 ≤ O.2.2.1 ∧ Pcs O.2.2.2 ∧ Dd O.2.2.2 + O.2.2.1 = v ∧ (O.2.2.2.length = 12 → O.2.2.1 = 0)) ∧ O.2.2.1.toNat < Y.toNat)
    fun d : Li × Int × List Piece => SrcOk ⟨d.1, d.2.1⟩ ∧ FillOk v d.2.2) := by
  intro y z hy ab hz hq
  unfold Qs.J4
  dsimp only
  refine .bind' (.app (by simp; omega) (.pure ⟨⟨hs2.eta, ?_, h3.snoc (by omega) (by dsimp only; omega) hz hq, ?_, ?_⟩, ?_⟩))
  ·dsimp only; rw [Av (by omega)]; omega
  ·dsimp only; rw [G4, Av (by omega)]; simp only [Dd]; omega
  ·intro h; dsimp only at h ⊢; rw [Av (by omega)]; simp at h; have := ab (by omega); omega
  ·dsimp only; rw [Av (by omega)]; omega
 have j3 : ∀ y : Int, 1 ≤ y → (G.length = 11 → y = Y) → Ok (Qs.J3 4 (L_, At, Y, G) (b, s1) (x, s2) y) (Sum.elim (fun O : Li × Int × Int × List Piece => (SrcOk ⟨O.1, O.2.1⟩ ∧ 0 ≤ O.2.2.1 ∧ Pcs O.2.2.2 ∧ Dd O.2.2.2 + O.2.2.1 = v ∧ (O.2.2.2.length = 12 → O.2.2.1 = 0)) ∧ O.2.2.1.toNat < Y.toNat)
    fun d : Li × Int × List Piece => SrcOk ⟨d.1, d.2.1⟩ ∧ FillOk v d.2.2) := by
  intro y hy ab
  unfold Qs.J3
  dsimp only
  refine A7 (fun h0 => ?_) fun h0 => ?_
  ·have Z : G[G.length - 1]? = some (G[G.length - 1]'(by omega)) := gq _
   obtain ⟨q, hqe⟩ : ∃ q, q = G[G.length - 1]'(by omega) := ⟨_, rfl⟩
   rw [← hqe] at Z
   have e0 : wr ((G.length : Int) - 1) = ((G.length - 1 : Nat) : Int) := by rw [Av (by omega)]; omega
   rw [e0]
   have hbat := h3.bat q (mg Z)
   refine .bind' (.eq (Bb Z) ?_)
   dsimp only
   unfold Qs.J5
   refine Bc (fun he => ?_) fun he => ?_
   ·have he' : q.Batch = b := by simpa using he
    dsimp only
    have hr : (wr (b + 1)).tmod 4 = (b + 1) % 4 := by rw [Av (by omega), Int.tmod_eq_emod_of_nonneg (by omega)]
    refine .bind' (.rem (by decide) ?_)
    rw [hr, e0]
    refine .bind' (.eq (Bb Z) (C6 (fun h => ?_) fun h => j4 y _ hy ab (by omega) fun q' aa => ?_))
    ·dsimp only at h; omega
    ·rw [Z] at aa; cases aa; exact h
   ·refine j4 y b hy ab hb fun q' aa => ?_
    rw [Z] at aa; cases aa
    simpa using he
  ·unfold Qs.J5
   refine Bc (fun h => by cases h) fun _ => j4 y b hy ab hb fun q hq => ?_
   have : G.length = 0 := by omega
   have := (gs hq).1
   omega
 refine C6 (fun h => j3 Y (by omega) fun _ => rfl) fun h => j3 x (by omega) fun hh => by omega
structure ProdOk (k : Nat) (p : Product) : Prop where
 name : p.Name = nm 112 k
 density : 400 ≤ p.Density ∧ p.Density ≤ 1200
 expansion : 0 ≤ p.Expansion ∧ p.Expansion ≤ 2000
 compress : 0 ≤ p.Compress ∧ p.Compress ≤ 5000
 friction : 1 ≤ p.Friction ∧ p.Friction ≤ 2000
structure ProdsOk (l : List Product) : Prop where
 len : 1 ≤ l.length ∧ l.length ≤ 4
 all : ∀ (k : Nat) (p : Product), l[k]? = some p → ProdOk k p
theorem Z8 {s : Xf} (hs : SrcOk s) {k : Nat} (hk : k < 26) : Ok (V0 s (k : Int)) fun r => ProdOk k r.1 ∧ SrcOk r.2 := by
 unfold V0
 refine .bind' (.eq (Je hk) ?_)
 refine .bind (Eo hs (by decide) (by decide) (by decide)) fun r1 G => .bind (Ec G.1 (by decide) (by decide)) fun r2 O => .bind (Ec O.1 (by decide) (by decide)) fun r3 Y => .bind (Ec Y.1 (by decide) (by decide)) fun r4 Z => .pure ⟨⟨rfl, G.2, ?_, ?_, ?_⟩, Z.1⟩
 ·have := O.2; simp at this; dsimp only; omega
 ·have := Y.2; simp at this; dsimp only; omega
 ·have := Z.2; simp at this; dsimp only; omega
theorem Y0 {s : Xf} (hs : SrcOk s) : Ok (Qq s) fun r => ProdsOk r.1 ∧ SrcOk r.2 := by
 unfold Qq
 refine .bind (Eo hs (by decide) (by decide) (by decide)) ?_
 rintro ⟨c, s1⟩ ⟨Y, hc⟩
 dsimp only at hc Y ⊢
 refine .bind (Q := fun d : Li × Int × List Product => SrcOk ⟨d.1, d.2.1⟩ ∧ ProdsOk d.2.2) ?_ fun d hd => by unfold Qq.J1; exact .pure ⟨hd.2, hd.1⟩
 refine .loop (fun G : Li × Int × List Product × Int => SrcOk ⟨G.1, G.2.1⟩ ∧ 0 ≤ G.2.2.2 ∧ (G.2.2.1.length : Int) + G.2.2.2 = c ∧ ∀ (k : Nat) (p : Product), G.2.2.1[k]? = some p → ProdOk k p) (fun G => G.2.2.2.toNat)
  ⟨Y.eta, by dsimp only; omega, by simp, by simp⟩ (by dsimp only; omega) ?_
 rintro ⟨L_, At, out, i⟩ ⟨Z, h2, h3, h4⟩
 dsimp only at Z h2 h3 h4
 unfold Qq.B2
 dsimp only
 refine A7 (fun h => ?_) fun h => .pure ⟨Z, by dsimp only; omega, h4⟩
 refine .bind (Z8 Z (by omega)) fun r hr => .bind' (.app (by simp; omega) (.pure ⟨⟨hr.2.eta, ?_, ?_, ?_⟩, ?_⟩))
 ·dsimp only; rw [Av (by omega)]; omega
 ·dsimp only; rw [Av (by omega)]; simp; omega
 ·intro k p O
  dsimp only at O
  rw [List.getElem?_append] at O
  split at O
  ·exact h4 k p O
  ·rename_i hk
   have := (gs O).1
   simp at this
   have : k = out.length := by omega
   subst this
   simp at O; subst O; exact hr.1
 ·dsimp only; rw [Av (by omega)]; omega
structure BatsOk (n : Nat) (l : List Batch) : Prop where
 len : l.length = 4
 all : ∀ p, p ∈ l → 0 ≤ p.Product ∧ p.Product < (n : Int)
theorem aJ {s : Xf} (hs : SrcOk s) {n : Nat} (hn : 1 ≤ n ∧ n ≤ 4) : Ok (Qm s 4 (n : Int)) fun r => BatsOk n r.1 ∧ SrcOk r.2 := by
 unfold Qm
 refine .bind (Q := fun d : Li × Int × List Batch => SrcOk ⟨d.1, d.2.1⟩ ∧ BatsOk n d.2.2) ?_ fun d hd => by unfold Qm.J1; exact .pure ⟨hd.2, hd.1⟩
 refine .loop (fun G : Li × Int × List Batch × Int => SrcOk ⟨G.1, G.2.1⟩ ∧ G.2.2.2 = (G.2.2.1.length : Int) ∧ G.2.2.1.length ≤ 4 ∧ ∀ p, p ∈ G.2.2.1 → 0 ≤ p.Product ∧ p.Product < (n : Int)) (fun G => 4 - G.2.2.1.length)
  ⟨hs.eta, by simp, by simp, by simp⟩ (by dsimp only; omega) ?_
 rintro ⟨L_, At, out, i⟩ ⟨h1, h2, h3, h4⟩
 dsimp only at h1 h2 h3 h4
 subst h2
 unfold Qm.B2
 dsimp only
 refine A7 (fun h => ?_) fun h => .pure ⟨h1, by dsimp only; omega, h4⟩
 refine .bind (Ij h1 (by omega) (by omega)) fun r1 Y => .bind (Ij Y.1 (by decide) (by decide)) ?_
 rintro ⟨y, s2⟩ ⟨Z, hy⟩
 dsimp only at hy Z ⊢
 obtain ⟨k, rfl⟩ := Hw hy.1
 refine .bind' (.eq (Je (c := 102) (by omega)) (.bind' (.app (by simp; omega) (.pure ⟨⟨Z.eta, ?_, ?_, ?_⟩, ?_⟩))))
 ·dsimp only; rw [Av (by omega)]; simp
 ·dsimp only; simp; omega
 ·intro p O
  dsimp only at O
  rcases List.mem_append.1 O with O | O
  ·exact h4 p O
  ·simp at O; subst O; exact Y.2
 ·dsimp only; simp; omega
structure SegG (s : Segment) : Prop where
 name : ∃ k, k < 26 ∧ s.Name = nm 103 k
 cap : 1 ≤ s.Capacity ∧ s.Capacity ≤ 1000
 resist : 0 ≤ s.Resist ∧ s.Resist ≤ 1000
 wave : 0 ≤ s.Wave ∧ s.Wave ≤ 100000
 points : PointsOk s.Capacity s.Points
theorem dC {k : Nat} (G : k < 26) : Iu (nm 112 k) = some true := by
 rcases jX G with rfl | rfl | rfl | rfl | rfl | rfl | rfl | rfl | rfl | rfl | rfl | rfl | rfl | rfl | rfl | rfl | rfl | rfl | rfl | rfl | rfl | rfl | rfl | rfl | rfl | rfl <;> rfl
def Pt (s : Sg) : Nw := ⟨([(⟨#[97]⟩ : Bt), (⟨#[98]⟩ : Bt)] : List Bt), ([(⟨s.Name, 0, 1, s.Capacity, s.Resist, s.Wave, s.Points⟩ : Sg)] : List Sg), [], [], 0, 0⟩
theorem bL {s : Sg} (h : SegG s) : NetV (Pt s) := by
 unfold Pt
 refine ⟨by simp, by simp, fun k x G => ?_, by simp, by simp, by simp, by simp, by simp, by simp, by simp, fun l hl => ?_⟩
 ·match k, G with
  | 0, G => simp at G; subst G; obtain ⟨j, O, hn⟩ := h.name; exact ⟨j, hn, by simp, h.cap, h.resist, h.wave, h.points⟩
  | k + 1, G => simp at G
 ·simp only [List.map_cons, List.map_nil, List.mem_cons, List.not_mem_nil, or_false] at hl
  rcases hl with rfl | rfl | rfl | rfl
  ·refine ⟨by simp, fun k x G => ?_, fun i j x y hi O Y => ?_⟩
   ·match k, G with
    | 0, G => simp at G; subst G; rfl
    | 1, G => simp at G; subst G; rfl
    | k + 2, G => simp at G
   ·match i, j, hi, O with
    | 0, 0, _, _ => rfl
    | 1, 1, _, _ => rfl
    | 0, 1, hi, O => simp at hi O; subst hi; subst O; exact absurd Y (by decide +kernel)
    | 1, 0, hi, O => simp at hi O; subst hi; subst O; exact absurd Y (by decide +kernel)
    | i + 2, _, hi, _ => simp at hi
    | 0, j + 2, _, O => simp at O
    | 1, j + 2, _, O => simp at O
  ·obtain ⟨k0, ab, hn⟩ := h.name
   refine ⟨by simp, fun k x G => ?_, fun i j x y hi O Y => ?_⟩
   ·match k, G with
    | 0, G => simp at G; subst G; rw [hn]; exact Zq (by simp) ab
    | k + 1, G => simp at G
   ·have Z := (gs hi).1
    have aa := (gs O).1
    simp at Z aa; omega
  ·exact ⟨by simp, by simp, by simp⟩
  ·exact ⟨by simp, by simp, by simp⟩
theorem lL {s : Sg} (h : SegG s) : Vn s = some 0 := by
 have := Tg (bL h)
 unfold Pt at this
 unfold Vn
 rw [this]
 rfl
theorem Rd {f : List Piece} (h1 : f.length ≤ 12) (h2 : ∀ p, p ∈ f → 1 ≤ p.Volume) (Y : Dd f ≤ 1000000) : K2 f = some (Dd f) := by
 have : Ok (K2 f) fun r => r = Dd f := by
  unfold K2
  refine .bind (.forS (fun k G => G = Dd (f.take k)) (by simp [Dd]) ?_ fun G h => h) ?_
  ·rintro k x _ O rfl
   unfold K2.B2
   have := Dn h2 (k + 1)
   rw [Ew O] at this ⊢
   exact .pure (by rw [Av (by omega)])
  ·rintro _ rfl
   unfold K2.J1
   exact .pure (by rw [List.take_of_length_le (Nat.le_refl _)])
 obtain ⟨r, h, rfl⟩ := this
 exact h
theorem Tc {cap : Int} {f : List Piece} (h : FillOk cap f) {p : Piece} (O : p ∈ f) : p.Volume ≤ cap := by
 obtain ⟨k, G⟩ := List.getElem?_of_mem O
 have Y := Ew G
 have Z := Dn h.vol k
 have h3 := Dn h.vol (k + 1)
 have := h.sum
 omega
theorem Lg {cap : Int} {f : List Piece} (h : FillOk cap f) (hc : 1 ≤ cap ∧ cap ≤ 1000) : Ky f = some true := by
 have hl := h.len; have hs := h.sum
 have : Ok (Ky f) fun r => r = true := by
  unfold Ky
  refine A7 (fun h => by omega) fun _ => .bind' (.forL (fun _ _ => True) (fun _ => False) trivial ?_ ?_ fun _ h => h.elim)
  ·intro k x _ Y _
   have G := mg Y
   have h1 := h.vol x G; have h2 := h.bat x G; have h3 := Tc h G
   have no : Ok (Ky.J3 false) (Sum.elim (fun _ : Unit => True) fun _ : Bool => False) := by
    unfold Ky.J3; exact .pure trivial
   unfold Ky.B2
   refine De (fun Z => ?_) fun _ => C6 (fun Z => by omega) fun _ => A7 (fun h0 => ?_) fun _ => no
   ·simp [Qa] at Z; omega
   ·have hkl := (gs Y).1
    have hj : f[k - 1]? = some (f[k - 1]'(by omega)) := gq _
    have O := h.next (k - 1) _ x hj (by rw [show k - 1 + 1 = k by omega]; exact Y)
    rw [show wr ((k : Int) - 1) = ((k - 1 : Nat) : Int) by rw [Av (by omega)]; omega]
    refine .bind' (.eq (Bb hj) ?_)
    dsimp only
    rw [show (f[k - 1].Batch == x.Batch) = false by simpa using O]
    exact no
  ·intro _ _
   simp only [Sum.elim_inl]
   unfold Ky.J1
   refine .bind' (.eq (Rd hl h.vol (by omega)) (.pure ?_))
   simp; omega
 obtain ⟨r, h, rfl⟩ := this
 exact h
theorem mC {s : Sg} {f : List Piece} (G : SegG s) (hf : FillOk s.Capacity f) : Qh s f = some 0 := by
 have O := G.cap
 unfold Qh Qh.J1 M8
 rw [lL G, Lg hf O, Rd hf.len hf.vol (by have := hf.sum; omega)]
 simp [hf.sum]
theorem Fe {s : List Product} {g : Product → Option Bool} {P : Product → Bool} (hg : ∀ (k : Nat) (x : Product), s[k]? = some x → g x = some (P x)) :
  Ok (Qf s g) fun r => (r = -1 ∧ ∀ (j : Nat) (y : Product), s[j]? = some y → P y = false) ∨ ∃ (k : Nat) (x : Product), r = (k : Int) ∧ s[k]? = some x ∧ P x = true ∧ ∀ (j : Nat) (y : Product), j < k → s[j]? = some y → P y = false := by
 unfold Qf
 refine .bind' (.forL (fun k _ => ∀ (j : Nat) (y : Product), j < k → s[j]? = some y → P y = false) (fun r => ∃ (k : Nat) (x : Product), r = (k : Int) ∧ s[k]? = some x ∧ P x = true ∧ ∀ (j : Nat) (y : Product), j < k → s[j]? = some y → P y = false) (fun j y h => absurd h (Nat.not_lt_zero _)) ?_ ?_ ?_)
 ·intro k x _ Y hi
  unfold Qf.B2
  refine .bind' (.eq (hg k x Y) (Bc (fun O => .pure ⟨k, x, rfl, Y, O, hi⟩) fun O => .pure fun j y hj G => ?_))
  by_cases h : j < k
  ·exact hi j y h G
  ·have : j = k := by omega
   subst this
   rw [Y] at G; simp at G; subst G; exact O
 ·intro _ hi
  simp only [Sum.elim_inl]
  unfold Qf.J1
  exact .pure (.inl ⟨rfl, fun j y G => hi j y (gs G).1 G⟩)
 ·intro b Z
  exact .pure (.inr Z)
theorem Kj {l : List Product} (h : ProdsOk l) : M3 l = some 0 := by
 have hl := h.len
 have : Ok (M3 l) fun r => r = 0 := by
  unfold M3
  refine A7 (fun h => by omega) fun _ => .bind' (.forL (fun _ _ => True) (fun _ => False) trivial ?_ ?_ fun _ h => h.elim)
  ·intro k x _ O _
   have hk := (gs O).1
   have G := h.all k x O
   have d1 := G.density; have d2 := G.expansion; have d3 := G.compress; have d4 := G.friction
   unfold M3.B4
   refine .bind (Q := fun r => r = true) ?_ ?_
   ·unfold Vm
    refine .bind' (.forI (fun _ _ => True) (fun _ => False) trivial ?_ ?_ fun _ h => h.elim)
    ·intro i _ hi _
     have no : Ok (Vm.J3 false) (Sum.elim (fun _ : Unit => True) fun _ : Bool => False) := by
      unfold Vm.J3; exact .pure trivial
     have Y : ∀ (a : Int) (b : product_span), ([⟨400, 1200⟩, ⟨0, 2000⟩, ⟨0, 5000⟩, ⟨1, 2000⟩] : List product_span)[i]? = some b → (K8 x).l[i]? = some a → b.least ≤ a ∧ a ≤ b.most → Ok (Vm.B2 x i ()) (Sum.elim (fun _ : Unit => True) fun _ : Bool => False) := by
      intro a b h1 h2 h3
      unfold Vm.B2
      refine .bind' (.eq (Bb h1) (.bind' (.eq (Bb h2) (A7 (fun h => by dsimp only at h; omega) fun _ => ?_))))
      dsimp only
      rw [show decide (a > b.most) = false by simp; omega]
      exact no
     match i, hi with
     | 0, _ => exact Y x.Density ⟨400, 1200⟩ rfl rfl (by dsimp only; omega)
     | 1, _ => exact Y x.Expansion ⟨0, 2000⟩ rfl rfl (by dsimp only; omega)
     | 2, _ => exact Y x.Compress ⟨0, 5000⟩ rfl rfl (by dsimp only; omega)
     | 3, _ => exact Y x.Friction ⟨1, 2000⟩ rfl rfl (by dsimp only; omega)
     | i + 4, hi => omega
    ·intro _ _
     simp only [Sum.elim_inl]
     unfold Vm.J1
     rw [G.name, dC (by omega)]
     exact .bind' (.pure (.pure rfl))
   ·rintro _ rfl
    exact De (fun h => by cases h) fun _ => .pure trivial
  ·intro _ _
   simp only [Sum.elim_inl]
   unfold M3.J1
   refine .bind' (.forL (fun _ _ => True) (fun _ => False) trivial ?_ ?_ fun _ h => h.elim)
   ·intro k x _ O _
    have hk := (gs O).1
    have G := h.all k x O
    unfold M3.B3
    refine .bind (Q := fun r => r = (k : Int)) ?_ ?_
    ·unfold Zv
     refine .bind (Q := fun r => r = (k : Int)) ((Fe (P := fun y => K4 y x.Name) fun _ _ _ => rfl).mono ?_) fun r hr => .pure hr
     rintro r (⟨rfl, hh⟩ | ⟨j, y, rfl, hj, Z, hlt⟩)
     ·have := hh k x O
      simp only [K4] at this
      rw [Rh] at this; cases this
     ·have hjl := (gs hj).1
      simp only [K4] at Z
      rw [(h.all j y hj).name, G.name] at Z
      have := Zp (by omega) (by omega) Z
      omega
    ·rintro _ rfl
     exact A7 (fun h => by omega) fun _ => .pure trivial
   ·intro _ _
    simp only [Sum.elim_inl]
    unfold M3.J2
    exact .pure rfl
 obtain ⟨r, h, rfl⟩ := this
 exact h
def ends : List Piece → Int → Li
 | [], _ => []
 | p :: l, a => (a + p.Volume) :: ends l (a + p.Volume)
theorem I0 : ∀ (l : List Piece) (a : Int), (ends l a).length = l.length
 | [], _ => rfl
 | p :: l, a => by simp [ends, I0 l]
theorem Mb : ∀ (l : List Piece) (a : Int) (k : Nat), k < l.length → (ends l a)[k]? = some (a + Dd (l.take (k + 1)))
 | [], _, k, h => by simp at h
 | p :: l, a, 0, h => by simp [ends, Dd]
 | p :: l, a, k + 1, h => by
  simp only [ends, List.getElem?_cons_succ, List.take_succ_cons, Dd]
  rw [Mb l _ k (by simpa using h)]
  congr 1; omega
theorem mD {l : List Piece} {x : Int} : x ∈ ends l 0 ↔ ∃ k, k < l.length ∧ x = Dd (l.take (k + 1)) := by
 constructor
 ·intro h
  obtain ⟨k, G⟩ := List.getElem?_of_mem h
  have O := (gs G).1
  rw [I0] at O
  rw [Mb l 0 k O] at G
  exact ⟨k, O, by simp at G; omega⟩
 ·rintro ⟨k, G, rfl⟩
  have := Mb l 0 k G
  rw [Int.zero_add] at this
  exact mg this
def Eg (s : Sg) (f : List Piece) : Li := Go.Lib.compact (Lt (s.Points.map (·.At) ++ ends f 0))
theorem bX (s : Sg) (f : List Piece) : Eg s f = asc (s.Points.map (·.At) ++ ends f 0) := by unfold Eg asc; rw [← S8]; rfl
theorem H4 {s : Sg} {f : List Piece} {x : Int} : x ∈ Eg s f ↔ (∃ p, p ∈ s.Points ∧ p.At = x) ∨ ∃ k, k < f.length ∧ x = Dd (f.take (k + 1)) := by
 rw [bX, pX, List.mem_append, mD, List.mem_map]
theorem G8 (s : Sg) (f : List Piece) : (Eg s f).Pairwise (· < ·) := by rw [bX]; exact sG _
theorem Tj (l : Li) : (Lt l).length = l.length := (Lh l).length_eq
theorem L0 (s : Sg) (f : List Piece) : (Eg s f).length ≤ s.Points.length + f.length := by
 unfold Eg
 refine Nat.le_trans (Pd _) ?_
 rw [Tj]; simp [I0]
theorem dM {s : Sg} {f : List Piece} (h1 : 1 ≤ s.Points.length ∧ s.Points.length ≤ 100) (h2 : f.length ≤ 12) (h3 : ∀ p, p ∈ f → 1 ≤ p.Volume) (h4 : Dd f ≤ 1000000) : Nj s f = some (Eg s f) := by
 have : Ok (Nj s f) fun r => r = Eg s f := by
  unfold Nj
  refine .bind (Q := fun G => G = s.Points.map (·.At)) (.forS (fun k G => G = (s.Points.take k).map (·.At)) (by simp) ?_ fun G h => by rw [h, List.take_of_length_le (Nat.le_refl _)]) ?_
  ·rintro k x _ Y rfl
   unfold Nj.B4
   have hk := (gs Y).1
   refine .bind' (.app (by simp; omega) (.pure ?_))
   rw [List.take_add_one, Y]; simp
  rintro _ rfl
  unfold Nj.J1
  refine .bind (Q := fun G : Li × Int => G.1 = s.Points.map (·.At) ++ ends f 0) (.forS (fun k (G : Li × Int) => G.1 = s.Points.map (·.At) ++ (ends f 0).take k ∧ G.2 = Dd (f.take k)) (by simp [Dd]) ?_ fun G h => by rw [h.1, List.take_of_length_le (by rw [I0]; exact Nat.le_refl _)]) ?_
  ·rintro k x ⟨_, _⟩ Y ⟨rfl, rfl⟩
   have hk := (gs Y).1
   have hs := Dn h3 (k + 1)
   have e := Ew Y
   have hw : wr (Dd (f.take k) + x.Volume) = Dd (f.take (k + 1)) := by rw [← e, Av (by omega)]
   have hg := Mb f 0 k hk
   rw [Int.zero_add] at hg
   unfold Nj.B3
   dsimp only
   rw [hw]
   refine .bind' (.app (by simp [I0]; omega) (.pure ⟨?_, rfl⟩))
   dsimp only
   rw [List.take_add_one (l := ends f 0), hg]; simp
  rintro ⟨_, c⟩ rfl
  unfold Nj.J2 V5 Wd
  dsimp only
  have Z : s.Points.map (·.At) ++ ends f 0 ≠ [] := by
   intro h
   have := congrArg List.length h
   rw [List.length_append, List.length_map, List.length_nil] at this; omega
  have O : Lt (s.Points.map (·.At) ++ ends f 0) ≠ [] := by
   intro h
   have := congrArg List.length h
   rw [Tj, List.length_append, List.length_map, List.length_nil] at this; omega
  rw [if_neg Z]
  refine .bind' (.pure ?_)
  rw [if_neg O]
  exact .bind' (.pure (.pure rfl))
 obtain ⟨r, h, rfl⟩ := this
 exact h
def tO (G : List Point) : Prop := ∀ (i j : Nat) (p q : Point), i < j → G[i]? = some p → G[j]? = some q → p.At < q.At
theorem PointsOk.asc {cap : Int} {l : List Point} (h : PointsOk cap l) : tO l := by
 intro i j p q aa hp O
 induction j generalizing q with
 | zero => omega
 | succ j ih =>
  have hj := (gs O).1
  have G : l[j]? = some (l[j]'(by omega)) := gq _
  have Y := h.up j _ q G O
  by_cases Z : i = j
  ·subst Z; rw [hp] at G; cases G; exact Y
  ·have := ih (l[j]'(by omega)) (by omega) G; omega
theorem cS {n : Nat} {g : Int → Option Bool} {P : Nat → Bool} (hn : n ≤ 1000000) (hg : ∀ k : Nat, k < n → g (k : Int) = some (P k)) (hm : ∀ i j : Nat, i ≤ j → j < n → P i = true → P j = true) :
  Ok (Qw (n : Int) g) fun r => ∃ k : Nat, r = (k : Int) ∧ k ≤ n ∧ (∀ i : Nat, i < k → P i = false) ∧ (k < n → P k = true) := by
 unfold Qw
 refine .bind (Q := fun r : Int => ∃ k : Nat, r = (k : Int) ∧ k ≤ n ∧ (∀ i : Nat, i < k → P i = false) ∧ (k < n → P k = true)) ?_ fun r hr => by unfold Qw.J1; exact .pure hr
 refine .loop (fun O : Int × Int => ∃ i j : Nat, O.1 = (i : Int) ∧ O.2 = (j : Int) ∧ i ≤ j ∧ j ≤ n ∧ (∀ x : Nat, x < i → P x = false) ∧ (j < n → P j = true)) (fun O => (O.2 - O.1).toNat)
  ⟨0, n, rfl, rfl, by omega, by omega, fun x h => absurd h (Nat.not_lt_zero _), fun h => absurd h (Nat.lt_irrefl _)⟩ (by dsimp only; omega) ?_
 rintro ⟨_, _⟩ ⟨i, j, rfl, rfl, hij, aa, h1, h2⟩
 unfold Qw.B2
 dsimp only
 refine A7 (fun h => ?_) fun h => .pure ⟨i, rfl, by omega, h1, fun Z => by
  have : i = j := by omega
  subst this; exact h2 Z⟩
 have G : wr ((IntKind.u64.wrap (wr ((i : Int) + (j : Int)))).fdiv 2) = (((i + j) / 2 : Nat) : Int) := by
  rw [Av (x := (i : Int) + (j : Int)) (by omega)]
  have hu : IntKind.u64.wrap ((i : Int) + (j : Int)) = (i : Int) + (j : Int) := by
   unfold IntKind.wrap
   have : (i : Int) + (j : Int) < 18446744073709551616 := by omega
   simp [IntKind.bits, IntKind.signed]
   omega
  rw [hu, Int.fdiv_eq_ediv_of_nonneg _ (by decide), Av (by omega)]
  omega
 rw [G]
 have hk : (i + j) / 2 < j := by omega
 refine .bind' (.eq (hg _ (by omega)) (De (fun Y => ?_) fun Y => ?_))
 ·refine .pure ⟨⟨(i + j) / 2 + 1, j, ?_, rfl, by omega, aa, fun x hx => ?_, h2⟩, ?_⟩
  ·dsimp only; rw [Av (by omega)]; omega
  ·cases hpx : P x with
   | false => rfl
   | true => rw [hm x ((i + j) / 2) (by omega) (by omega) hpx] at Y; cases Y
  ·dsimp only; rw [Av (by omega)]; omega
 ·refine .pure ⟨⟨i, (i + j) / 2, rfl, rfl, by omega, by omega, h1, fun _ => Y⟩, ?_⟩
  dsimp only; omega
theorem Z5 {s : Sg} (hl : 2 ≤ s.Points.length ∧ s.Points.length ≤ 100) (hup : tO s.Points) (h0 : ∀ p, s.Points[0]? = some p → p.At = 0) {e : Int} (he : 0 < e) (O : ∀ p, s.Points[s.Points.length - 1]? = some p → e ≤ p.At) :
  Ok (Vk s e) fun r => ∃ (k : Nat) (a b : Point), r = ((k + 1 : Nat) : Int) ∧ s.Points[k]? = some a ∧ s.Points[k + 1]? = some b ∧ a.At < e ∧ e ≤ b.At := by
 unfold Vk
 have G : ∃ P : Nat → Bool, P = fun k => match s.Points[k]? with | some p => decide (p.At ≥ e) | none => true := ⟨_, rfl⟩
 obtain ⟨P, G⟩ := G
 rw [show wr ((s.Points.length : Int) - 1) = ((s.Points.length - 1 : Nat) : Int) by rw [Av (by omega)]; omega]
 refine .bind (cS (P := P) (by omega) (fun k hk => ?_) (fun i j hij hj hi => ?_)) ?_
 ·have Y : s.Points[k]? = some (s.Points[k]'(by omega)) := gq _
  unfold Vu
  rw [Bb Y, G]
  simp only [Y]
  rfl
 ·have Z : s.Points[i]? = some (s.Points[i]'(by omega)) := gq _
  have aa : s.Points[j]? = some (s.Points[j]'(by omega)) := gq _
  rw [G] at hi ⊢
  simp only [Z, aa, decide_eq_true_eq] at hi ⊢
  by_cases h : i = j
  ·subst h; exact hi
  ·have := hup i j _ _ (by omega) Z aa; omega
 rintro r ⟨k, rfl, hk, h1, h2⟩
 have hk1 : 1 ≤ k := by
  rcases Nat.eq_zero_or_pos k with h | h
  ·subst h
   have := h2 (by omega)
   have Y : s.Points[0]? = some (s.Points[0]'(by omega)) := gq _
   rw [G] at this
   simp only [Y, decide_eq_true_eq] at this
   have := h0 _ Y
   omega
  ·exact h
 have ha : s.Points[k - 1]? = some (s.Points[k - 1]'(by omega)) := gq _
 have hb : s.Points[k]? = some (s.Points[k]'(by omega)) := gq _
 refine .pure ⟨k - 1, _, _, by omega, ha, by rw [show k - 1 + 1 = k by omega]; exact hb, ?_, ?_⟩
 ·have := h1 (k - 1) (by omega)
  rw [G] at this
  simp only [ha, decide_eq_false_iff_not] at this
  omega
 ·by_cases hkl : k < s.Points.length - 1
  ·have := h2 hkl
   rw [G] at this
   simp only [hb, decide_eq_true_eq] at this
   omega
  ·have : k = s.Points.length - 1 := by omega
   subst this
   exact O _ hb
theorem G7 {l : Li} (h : l.Pairwise (· < ·)) {i j : Nat} {a b : Int} (G : i < j) (Z : l[i]? = some a) (hb : l[j]? = some b) : a < b := by
 obtain ⟨O, rfl⟩ := gs Z
 obtain ⟨Y, rfl⟩ := gs hb
 exact List.pairwise_iff_getElem.1 h i j O Y G
theorem lE {l : Li} (h : l.Pairwise (· < ·)) {m : Int} (hm : m ∈ l) (Z : ∀ x, x ∈ l → m ≤ x) : l[0]? = some m := by
 obtain ⟨k, G⟩ := List.getElem?_of_mem hm
 have hl := (gs G).1
 by_cases Y : k = 0
 ·subst Y; exact G
 ·have O : l[0]? = some (l[0]'(by omega)) := gq _
  have := G7 h (i := 0) (by omega) O G
  have := Z _ (mg O)
  omega
theorem oS {l : Li} (h : l.Pairwise (· < ·)) {m : Int} (hm : m ∈ l) (Z : ∀ x, x ∈ l → x ≤ m) : l[l.length - 1]? = some m := by
 obtain ⟨k, G⟩ := List.getElem?_of_mem hm
 have hl := (gs G).1
 by_cases Y : k = l.length - 1
 ·subst Y; exact G
 ·have O : l[l.length - 1]? = some (l[l.length - 1]'(by omega)) := gq _
  have := G7 h (i := k) (j := l.length - 1) (by omega) G O
  have := Z _ (mg O)
  omega
theorem PointsOk.at_range {cap : Int} {l : List Point} (h : PointsOk cap l) {i : Nat} {p : Point} (G : l[i]? = some p) : 0 ≤ p.At ∧ p.At ≤ cap := by
 have hi := (gs G).1
 have h2 := h.len
 have g0 : l[0]? = some (l[0]'(by omega)) := gq _
 have O : l[l.length - 1]? = some (l[l.length - 1]'(by omega)) := gq _
 have Z := h.first _ g0
 have e1 := h.last _ O
 constructor
 ·by_cases Y : i = 0
  ·subst Y; rw [g0] at G; cases G; omega
  ·have := h.asc 0 i _ _ (by omega) g0 G; omega
 ·by_cases Y : i = l.length - 1
  ·subst Y; rw [O] at G; cases G; omega
  ·have := h.asc i (l.length - 1) _ _ (by omega) G O; omega
theorem Ef {s : Sg} {f : List Piece} (O : PointsOk s.Capacity s.Points) (hf : FillOk s.Capacity f) {x : Int} (h : x ∈ Eg s f) : 0 ≤ x ∧ x ≤ s.Capacity := by
 rcases H4.1 h with ⟨p, G, rfl⟩ | ⟨k, Y, rfl⟩
 ·obtain ⟨i, hi⟩ := List.getElem?_of_mem G
  exact O.at_range hi
 ·have := Dn hf.vol (k + 1)
  have := hf.sum; omega
theorem Ts {s : Sg} {f : List Piece} (G : PointsOk s.Capacity s.Points) (hf : FillOk s.Capacity f) : (Eg s f)[0]? = some 0 := by
 have Y := G.len
 have g0 : s.Points[0]? = some (s.Points[0]'(by omega)) := gq _
 exact lE (G8 s f) (H4.2 (.inl ⟨_, mg g0, G.first _ g0⟩)) fun x O => (Ef G hf O).1
theorem mN {s : Sg} {f : List Piece} (G : PointsOk s.Capacity s.Points) (hf : FillOk s.Capacity f) : (Eg s f)[(Eg s f).length - 1]? = some s.Capacity := by
 have Y := G.len
 have g0 : s.Points[s.Points.length - 1]? = some (s.Points[s.Points.length - 1]'(by omega)) := gq _
 exact oS (G8 s f) (H4.2 (.inl ⟨_, mg g0, G.last _ g0⟩)) fun x O => (Ef G hf O).2
theorem Lz {s : Sg} {f : List Piece} (Y : PointsOk s.Capacity s.Points) (hc : 1 ≤ s.Capacity) (hf : FillOk s.Capacity f) : 2 ≤ (Eg s f).length := by
 have O := Ts Y hf
 have G := mN Y hf
 have := (gs O).1
 by_cases h : (Eg s f).length = 1
 ·rw [h] at G; rw [O] at G; simp at G; omega
 ·omega
theorem Ed {a b A B : Int} (Z : -A ≤ a ∧ a ≤ A) (hb : -B ≤ b ∧ b ≤ B) : -(A * B) ≤ a * b ∧ a * b ≤ A * B := by
 have G : a.natAbs ≤ A.toNat := by omega
 have O : b.natAbs ≤ B.toNat := by omega
 have Y := Nat.mul_le_mul G O
 rw [← Int.natAbs_mul] at Y
 have e : ((A.toNat * B.toNat : Nat) : Int) = A * B := by
  rw [Int.natCast_mul, Int.toNat_of_nonneg (by omega), Int.toNat_of_nonneg (by omega)]
 omega
def Ht (s : Sg) (q : Int) (x : gradient_part) : Int := s.Resist * x.liquid.Friction * q * q * x.length
def G0 (s : Sg) : Int := 1000 * s.Capacity
def Lr (x : gradient_part) : Int := x.liquid.Density * 9807 * x.height * x.length
def Lp (x : gradient_part) : Int := 1000 * x.width
def lo (s : Sg) (q : Int) (x : gradient_part) : Int := dn (Ht s q x) (G0 s) + dn (Lr x) (Lp x)
def hi (s : Sg) (q : Int) (x : gradient_part) : Int := up (Ht s q x) (G0 s) + up (Lr x) (Lp x)
structure PartOk (s : Segment) (x : gradient_part) : Prop where
 length : 1 ≤ x.length ∧ x.length ≤ 1000
 width : 1 ≤ x.width ∧ x.width ≤ 1000
 height : -5500 ≤ x.height ∧ x.height ≤ 5500
 density : 400 ≤ x.liquid.Density ∧ x.liquid.Density ≤ 1200
 friction : 1 ≤ x.liquid.Friction ∧ x.liquid.Friction ≤ 2000
section
variable {s : Sg} {q : Int} {x : gradient_part}
theorem Vc (hr : 0 ≤ s.Resist ∧ s.Resist ≤ 1000) (hq : 1 ≤ q ∧ q ≤ 1000) (G : PartOk s x) :
  (0 ≤ s.Resist * x.liquid.Friction ∧ s.Resist * x.liquid.Friction ≤ 2000000) ∧ (0 ≤ s.Resist * x.liquid.Friction * q ∧ s.Resist * x.liquid.Friction * q ≤ 2000000000) ∧
  (0 ≤ s.Resist * x.liquid.Friction * q * q ∧ s.Resist * x.liquid.Friction * q * q ≤ 2000000000000) ∧ 0 ≤ Ht s q x ∧ Ht s q x ≤ 2000000000000000 := by
 have h1 := G.friction; have h2 := G.length
 have a1 := Ed (a := s.Resist) (b := x.liquid.Friction) (A := 1000) (B := 2000) (by omega) (by omega)
 have O := Int.mul_nonneg hr.1 (show 0 ≤ x.liquid.Friction by omega)
 have a2 := Ed (a := s.Resist * x.liquid.Friction) (b := q) (A := 2000000) (B := 1000) (by omega) (by omega)
 have Y := Int.mul_nonneg O (show 0 ≤ q by omega)
 have a3 := Ed (a := s.Resist * x.liquid.Friction * q) (b := q) (A := 2000000000) (B := 1000) (by omega) (by omega)
 have Z := Int.mul_nonneg Y (show 0 ≤ q by omega)
 have a4 := Ed (a := s.Resist * x.liquid.Friction * q * q) (b := x.length) (A := 2000000000000) (B := 1000) (by omega) (by omega)
 have p4 := Int.mul_nonneg Z (show 0 ≤ x.length by omega)
 unfold Ht
 refine ⟨⟨O, by omega⟩, ⟨Y, by omega⟩, ⟨Z, by omega⟩, p4, by omega⟩
theorem Vb (G : PartOk s x) :
  (0 ≤ x.liquid.Density * 9807 ∧ x.liquid.Density * 9807 ≤ 11768400) ∧ (-64726200000 ≤ x.liquid.Density * 9807 * x.height ∧ x.liquid.Density * 9807 * x.height ≤ 64726200000) ∧
  -64726200000000 ≤ Lr x ∧ Lr x ≤ 64726200000000 := by
 have Z := G.density; have h2 := G.length; have h3 := G.height
 have O := Ed (a := x.liquid.Density * 9807) (b := x.height) (A := 11768400) (B := 5500) (by omega) (by omega)
 have Y := Ed (a := x.liquid.Density * 9807 * x.height) (b := x.length) (A := 64726200000) (B := 1000) (by omega) (by omega)
 unfold Lr
 refine ⟨⟨by omega, by omega⟩, ⟨by omega, by omega⟩, by omega, by omega⟩
theorem tJ (hc : 1 ≤ s.Capacity) (G : PartOk s x) : lo s q x ≤ hi s q x ∧ hi s q x ≤ lo s q x + 2 := by
 have O := qU (a := Ht s q x) (b := G0 s) (by unfold G0; omega)
 have Y := qU (a := Lr x) (b := Lp x) (by have := G.width; unfold Lp; omega)
 unfold lo hi; omega
theorem Il (hc : 1 ≤ s.Capacity) (Y : 0 ≤ s.Resist ∧ s.Resist ≤ 1000) (O : 1 ≤ q ∧ q ≤ 1000) (G : PartOk s x) :
  (-3000000000000000 ≤ lo s q x ∧ lo s q x ≤ 3000000000000000) ∧ (-3000000000000000 ≤ hi s q x ∧ hi s q x ≤ 3000000000000000) := by
 have h1 := Vc Y O G
 have h2 := Vb G
 have Z := Es (a := Ht s q x) (b := G0 s) (by unfold G0; omega)
 have d2 := Es (a := Lr x) (b := Lp x) (by have := G.width; unfold Lp; omega)
 have u1 := L4 (a := Ht s q x) (b := G0 s) (by unfold G0; omega)
 have u2 := L4 (a := Lr x) (b := Lp x) (by have := G.width; unfold Lp; omega)
 unfold lo hi; omega
end
def neg (x : gradient_part) : gradient_part := ⟨x.length, x.width, -x.height, x.liquid⟩
def flat (x : gradient_part) : gradient_part := ⟨x.length, x.width, 0, x.liquid⟩
theorem Wh {s : Sg} {x : gradient_part} (h : PartOk s x) : PartOk s (neg x) := ⟨h.length, h.width, by have := h.height; simp only [neg]; omega, h.density, h.friction⟩
theorem bR (x : gradient_part) : Lr (neg x) = -Lr x := by unfold Lr neg; dsimp only; rw [Int.mul_neg, Int.neg_mul]
def Dc {α : Type} (g : α → Int) : List α → Int
 | [] => 0
 | x :: l => g x + Dc g l
theorem Me {α : Type} (g : α → Int) : ∀ l m : List α, Dc g (l ++ m) = Dc g l + Dc g m
 | [], m => by simp [Dc]
 | x :: l, m => by simp only [List.cons_append, Dc, Me g l m]; omega
theorem Fs {α : Type} (g : α → Int) {l : List α} {k : Nat} {x : α} (h : l[k]? = some x) : Dc g (l.take (k + 1)) = Dc g (l.take k) + g x := by
 rw [List.take_add_one, h, Me]; simp [Dc]
theorem Xt {α : Type} {g h : α → Int} : ∀ {l : List α}, (∀ x, x ∈ l → g x ≤ h x) → Dc g l ≤ Dc h l
 | [], _ => by simp [Dc]
 | x :: l, hh => by
  have := hh x (by simp)
  have := Xt (l := l) fun y G => hh y (by simp [G])
  simp only [Dc]; omega
theorem Ee {α : Type} {g : α → Int} {B : Int} : ∀ {l : List α}, (∀ x, x ∈ l → -B ≤ g x ∧ g x ≤ B) → -(B * l.length) ≤ Dc g l ∧ Dc g l ≤ B * l.length
 | [], _ => by simp [Dc]
 | x :: l, hh => by
  have O := hh x (by simp)
  have Y := Ee (l := l) fun y G => hh y (by simp [G])
  have e : B * ((x :: l).length : Int) = B * l.length + B := by rw [List.length_cons, Int.natCast_add, Int.mul_add]; simp
  rw [e]
  simp only [Dc]; omega
def Zd (s : Sg) (q : Int) (b : Bounds) (G : Li) (O : List gradient_part) (i : Nat) : Level :=
 ⟨G.getD i 0, ⟨b.Low - Dc (hi s q) (O.take i), b.High - Dc (lo s q) (O.take i)⟩⟩
def Pp (s : Sg) (q : Int) (b : Bounds) (G : Li) (O : List gradient_part) : List Level := (List.range G.length).map (Zd s q b G O)
theorem Ix (s : Sg) (q : Int) (b : Bounds) (G : Li) (O : List gradient_part) : (Pp s q b G O).length = G.length := by simp [Pp]
theorem Rp (s : Sg) (q : Int) (b : Bounds) {G : Li} (O : List gradient_part) {i : Nat} (h : i < G.length) : (Pp s q b G O)[i]? = some (Zd s q b G O i) := by
 unfold Pp; rw [List.getElem?_map, List.getElem?_range h]; rfl
theorem bN {a b : Int} (hb : 1 ≤ b ∧ b ≤ 1099511627776) (ha : -2305843009213693952 ≤ a ∧ a ≤ 2305843009213693952) : K6 a b = some (a / b, a % b, true) := by
 have h := Wi (a := a) (b := b) (by omega)
 have Y := Es (a := a) (b := b) (by omega)
 unfold dn at Y
 have Z := Int.emod_nonneg a (by omega : b ≠ 0)
 have aa := Int.emod_lt_of_pos a (by omega : 0 < b)
 have : Ok (K6 a b) fun r => r = (a / b, a % b, true) := by
  unfold K6
  refine Bc (fun h => ?_) fun _ => ?_
  ·simp at h; omega
  refine .bind' (.quo (by omega) (.bind' (.rem (by omega) (A7 (fun O => ?_) fun O => ?_))))
  ·have G := h.1 O
   unfold K6.J1
   rw [Av (x := a.tdiv b) (by omega), Av (by omega), Av (by omega)]
   exact .pure (by rw [G.1, G.2])
  ·have G := h.2 O
   unfold K6.J1
   rw [Av (x := a.tdiv b) (by omega)]
   exact .pure (by rw [G.1, G.2])
 obtain ⟨r, h, rfl⟩ := this
 exact h
theorem Wk {a b : Int} (hb : 1 ≤ b ∧ b ≤ 1099511627776) (G : -2305843009213693952 ≤ a ∧ a ≤ 2305843009213693952) : M1 a b = some (dn a b) := by
 unfold M1; rw [bN hb G]; rfl
theorem qR {a b : Int} (hb : 1 ≤ b ∧ b ≤ 1099511627776) (G : -2305843009213693952 ≤ a ∧ a ≤ 2305843009213693952) : P2 a b = some (up a b) := by
 have O := Es (a := a) (b := b) (by omega)
 unfold dn at O
 unfold P2
 rw [bN hb G]
 simp only [Option.bind_some, Bool.true_and, decide_eq_true_eq, gt_iff_lt, P2.J1]
 unfold up
 split
 ·rw [Av (by omega)]
 ·rfl
theorem pH {s : Sg} {q : Int} {x : gradient_part} (hc : 1 ≤ s.Capacity ∧ s.Capacity ≤ 1000) (hr : 0 ≤ s.Resist ∧ s.Resist ≤ 1000) (Z : 1 ≤ q ∧ q ≤ 1000) (G : PartOk s x) :
  Vt x s q = some (lo s q x, hi s q x) := by
 have f := Vc hr Z G
 have l := Vb G
 have w := G.width
 have b := Il hc.1 hr Z G
 have e1 : wr ((wr ((wr ((wr (s.Resist * x.liquid.Friction)) * q)) * q)) * x.length) = Ht s q x := by
  rw [Av (x := s.Resist * x.liquid.Friction) (by omega), Av (x := s.Resist * x.liquid.Friction * q) (by omega), Av (x := s.Resist * x.liquid.Friction * q * q) (by omega)]
  exact Av (x := Ht s q x) (by omega)
 have e2 : wr ((wr ((wr (x.liquid.Density * 9807)) * x.height)) * x.length) = Lr x := by
  rw [Av (x := x.liquid.Density * 9807) (by omega), Av (x := x.liquid.Density * 9807 * x.height) (by omega)]
  exact Av (x := Lr x) (by omega)
 have e3 : wr (1000 * s.Capacity) = G0 s := Av (by omega)
 have e4 : wr (1000 * x.width) = Lp x := Av (by omega)
 have O : 1 ≤ G0 s ∧ G0 s ≤ 1099511627776 := by unfold G0; omega
 have Y : 1 ≤ Lp x ∧ Lp x ≤ 1099511627776 := by unfold Lp; omega
 unfold Vt
 rw [e1, e2, e3, e4, Wk O (by omega), Wk Y (by omega), qR O (by omega), qR Y (by omega)]
 have e5 : wr (dn (Ht s q x) (G0 s) + dn (Lr x) (Lp x)) = lo s q x := Av (x := lo s q x) (by omega)
 have e6 : wr (up (Ht s q x) (G0 s) + up (Lr x) (Lp x)) = hi s q x := Av (x := hi s q x) (by omega)
 simp only [Option.bind_some, e5, e6]
theorem aB {f : List Piece} {b : List Batch} {p : List Product} {cap : Int} (hf : FillOk cap f) (hb : BatsOk p.length b) : Ok (G9 f b p) fun r => r.2 = 0 ∧ r.1.length = f.length ∧ ∀ y, y ∈ r.1 → y ∈ p := by
 have hlen := hf.len
 unfold G9
 refine .bind' (.forL (fun k Y => Y.length = k ∧ ∀ y, y ∈ Y → y ∈ p) (fun _ => False) ⟨rfl, by simp⟩ ?_ ?_ fun _ h => h.elim)
 ·rintro k x Y hx ⟨Z, h2⟩
  have hk := (gs hx).1
  have hbx := hf.bat x (mg hx)
  have hbl := hb.len
  unfold G9.B2
  refine A7 (fun h => by omega) fun _ => .bind' (.ix' hbx.1 (by omega) fun j y hj hy => ?_)
  have O := hb.all y (mg hy)
  refine Bc (fun h => ?_) fun _ => .bind' (.ix' O.1 O.2 fun i z hi hz => .bind' (.app (by simp; omega) (.pure ⟨by simp [Z], fun w G => ?_⟩)))
  ·simp at h; omega
  ·rcases List.mem_append.1 G with G | G
   ·exact h2 w G
   ·simp at G; subst G; exact mg hz
 ·rintro Y ⟨Z, h2⟩
  exact .pure ⟨rfl, Z, h2⟩
def IsPart (s : Sg) (f : List Piece) (l : List Product) (i : Nat) (x : gradient_part) : Prop :=
 ∃ (a b : Int) (p : Nat) (u v : Point) (k : Nat) (y : Product), (Eg s f)[i]? = some a ∧ (Eg s f)[i + 1]? = some b ∧ s.Points[p]? = some u ∧ s.Points[p + 1]? = some v ∧ u.At < b ∧ b ≤ v.At ∧
  Dd (f.take k) < b ∧ b ≤ Dd (f.take (k + 1)) ∧ k < f.length ∧ l[k]? = some y ∧ x = ⟨b - a, v.At - u.At, v.Height - u.Height, y⟩
structure Parts (s : Segment) (f : List Piece) (l : List Product) (W : List gradient_part) : Prop where
 len : W.length + 1 = (Eg s f).length
 all : ∀ i x, W[i]? = some x → IsPart s f l i x
theorem IsPart.ok {s : Sg} {f : List Piece} {l : List Product} {i : Nat} {x : gradient_part} (G : SegG s) (hf : FillOk s.Capacity f) (hl : ∀ y, y ∈ l → (400 ≤ y.Density ∧ y.Density ≤ 1200) ∧ 1 ≤ y.Friction ∧ y.Friction ≤ 2000) (h : IsPart s f l i x) : PartOk s x := by
 obtain ⟨a, b, p, u, v, k, y, O, Y, Z, h4, h5, h6, _, _, _, h7, rfl⟩ := h
 have hc := G.cap
 have ha := Ef G.points hf (mg O)
 have hb := Ef G.points hf (mg Y)
 have hab := G7 (G8 s f) (Nat.lt_succ_self i) O Y
 have hu := G.points.at_range Z
 have hv := G.points.at_range h4
 have hh1 := G.points.height u (mg Z)
 have hh2 := G.points.height v (mg h4)
 have hy := hl y (mg h7)
 exact ⟨by dsimp only; omega, by dsimp only; omega, by dsimp only; omega, hy.1, hy.2⟩
theorem lQ {s : Sg} {f : List Piece} {l : List Product} (hs : SegG s) (hf : FillOk s.Capacity f) (hl : l.length = f.length) : Ok (V8 s f l (Eg s f)) fun W => Parts s f l W := by
 have hc := hs.cap
 have Y := hs.points
 have hpl := Y.len
 have hfl := hf.len
 have hbl := L0 s f
 have hb2 := Lz Y hc.1 hf
 have hf0 : 0 < f.length := by
  rcases Nat.eq_zero_or_pos f.length with h | h
  ·have : f = [] := List.eq_nil_of_length_eq_zero h
   subst this
   have := hf.sum
   simp [Dd] at this; omega
  ·exact h
 have hg0 : f[0]? = some (f[0]'hf0) := gq _
 unfold V8
 refine .bind' (.eq (Bb (k := 0) hg0) (.bind (Q := fun W => Parts s f l W) ?_ fun d hd => by unfold V8.J1; exact .pure hd))
 refine .loop (fun st : List gradient_part × Int × Int × Int => ∃ k : Nat, st.2.1 = (k : Int) ∧ k < f.length ∧ st.2.2.1 = Dd (f.take (k + 1)) ∧ st.2.2.2 = ((st.1.length + 1 : Nat) : Int) ∧ st.1.length + 1 ≤ (Eg s f).length ∧
   (∀ b, (Eg s f)[st.1.length + 1]? = some b → Dd (f.take k) < b) ∧ ∀ i x, st.1[i]? = some x → IsPart s f l i x) (fun st => (Eg s f).length - st.1.length)
  ⟨0, rfl, hf0, ?_, rfl, by simp; omega, ?_, by simp⟩ (by dsimp only; simp only [List.length_nil]; omega) ?_
 ·dsimp only; rw [Ew hg0]; simp [Dd]
 ·intro b hb
  have h0 := Ts Y hf
  have := G7 (G8 s f) (by simp) h0 hb
  simpa [Dd] using this
 rintro ⟨O, i1, i2, i3⟩ ⟨k, h1, hk, h2, h3, ho, hlow, Z⟩
 dsimp only at h1 h2 h3 ho hlow Z
 subst h1 h2 h3
 unfold V8.B2
 dsimp only
 refine A7 (fun h => ?_) fun h => .pure ⟨by omega, Z⟩
 have hb : (Eg s f)[O.length + 1]? = some ((Eg s f)[O.length + 1]'(by omega)) := gq _
 obtain ⟨b, hbe⟩ : ∃ b, b = (Eg s f)[O.length + 1]'(by omega) := ⟨_, rfl⟩
 rw [← hbe] at hb
 have ha : (Eg s f)[O.length]? = some ((Eg s f)[O.length]'(by omega)) := gq _
 obtain ⟨a, hae⟩ : ∃ a, a = (Eg s f)[O.length]'(by omega) := ⟨_, rfl⟩
 rw [← hae] at ha
 have hbr := Ef Y hf (mg hb)
 have har := Ef Y hf (mg ha)
 have hab := G7 (G8 s f) (Nat.lt_succ_self _) ha hb
 refine .bind (Q := fun d : Int × Int => ∃ G : Nat, d = ((G : Int), Dd (f.take (G + 1))) ∧ G < f.length ∧ Dd (f.take G) < b ∧ b ≤ Dd (f.take (G + 1))) ?_ ?_
 ·refine .loop (fun d : Int × Int => ∃ G : Nat, d = ((G : Int), Dd (f.take (G + 1))) ∧ G < f.length ∧ Dd (f.take G) < b) (fun d => f.length - d.1.toNat) ⟨k, rfl, hk, hlow b hb⟩ (by dsimp only; omega) ?_
  rintro _ ⟨G, rfl, hk', hl'⟩
  unfold V8.B6
  dsimp only
  refine .bind' (.eq (Bb hb) (A7 (fun h => ?_) fun h => .pure ⟨G, rfl, hk', hl', by omega⟩))
  have hn : G + 1 < f.length := by
   by_cases hh : G + 1 < f.length
   ·exact hh
   ·rw [List.take_of_length_le (by omega), hf.sum] at h; omega
  have hgn : f[G + 1]? = some (f[G + 1]'hn) := gq _
  have hsn := Ew hgn
  have hsr := Dn hf.vol (G + 1 + 1)
  have hfs := hf.sum
  rw [show wr ((G : Int) + 1) = ((G + 1 : Nat) : Int) by rw [Av (by omega)]; omega]
  refine .bind' (.eq (Bb hgn) (.pure ⟨⟨G + 1, ?_, hn, h⟩, ?_⟩))
  ·dsimp only; rw [Av (by omega), ← hsn]
  ·dsimp only; omega
 ·rintro _ ⟨G, rfl, hk', hl1, hl2⟩
  unfold V8.J4
  dsimp only
  refine .bind' (.eq (Bb hb) ?_)
  refine .bind (Z5 ⟨hpl.1, by omega⟩ Y.asc Y.first (e := b) (by omega) fun p hp' => by have := Y.last p hp'; omega) ?_
  rintro r ⟨p, u, v, rfl, hu, hv, hub, hbv⟩
  have hpl' := (gs hv).1
  have hur := Y.at_range hu
  have hvr := Y.at_range hv
  have hh1 := Y.height u (mg hu)
  have hh2 := Y.height v (mg hv)
  rw [show wr (((p + 1 : Nat) : Int) - 1) = (p : Int) by rw [Av (by omega)]; omega]
  refine .bind' (.eq (Bb hu) (.bind' (.eq (Bb hv) ?_)))
  unfold V8.J5
  dsimp only
  rw [show wr (((O.length + 1 : Nat) : Int) - 1) = (O.length : Int) by rw [Av (by omega)]; omega]
  have hly : l[G]? = some (l[G]'(by omega)) := gq _
  refine .bind' (.eq (Bb ha) (.bind' (.eq (Bb hly) (.bind' (.app (by simp; omega) ?_)))))
  unfold V8.J3
  dsimp only
  rw [Av (x := b - a) (by omega), Av (x := v.At - u.At) (by omega), Av (x := v.Height - u.Height) (by omega), Av (x := ((O.length + 1 : Nat) : Int) + 1) (by omega)]
  refine .pure ⟨⟨G, rfl, hk', rfl, by simp, by simp; omega, fun b' hb' => ?_, fun i x hx => ?_⟩, ?_⟩
  ·simp only [List.length_append, List.length_singleton] at hb'
   have := G7 (G8 s f) (Nat.lt_succ_self _) hb hb'
   omega
  ·rw [List.getElem?_append] at hx
   split at hx
   ·exact Z i x hx
   ·have hi := (gs hx).1
    simp at hi
    have : i = O.length := by omega
    subst this
    simp at hx
    exact ⟨a, b, p, u, v, G, _, ha, hb, hu, hv, hub, hbv, hl1, hl2, hk', hly, hx.symm⟩
  ·dsimp only; simp only [List.length_append, List.length_singleton]; omega
theorem Zn {α : Type} {B : List α × Int × Int → Option ((List α × Int × Int) ⊕ List α)}
  (hB : ∀ st, B st = if decide (st.2.1 < st.2.2) = true then Option.bind (ix st.1 st.2.2) fun Z => Option.bind (ix st.1 st.2.1) fun G => Option.bind (ix (st.1.set G.1 Z.2) st.2.2) fun p63 => some (.inl ((st.1.set G.1 Z.2).set p63.1 G.2, wr (st.2.1 + 1), wr (st.2.2 - 1))) else some (.inr st.1))
  {l : List α} (hl : l.length ≤ 1000000) : Option.bind (Da B Eh (l, 0, wr ((l.length : Int) - 1))) (fun d => some d) = some l.reverse := by
 have : Ok (Da B Eh (l, 0, wr ((l.length : Int) - 1))) fun r => r = l.reverse := by
  refine .loop (fun st => ∃ i : Nat, st.2.1 = (i : Int) ∧ st.2.2 = (l.length : Int) - 1 - i ∧ 2 * i ≤ l.length ∧ st.1.length = l.length ∧ ∀ k : Nat, k < l.length → st.1[k]? = if k < i ∨ l.length - 1 - i < k then l[l.length - 1 - k]? else l[k]?) (fun st => (st.2.2 - st.2.1 + 1).toNat)
   ⟨0, rfl, by dsimp only; rw [Av (by omega)]; omega, by omega, rfl, fun k Y => ?_⟩ (by dsimp only; rw [Av (by omega)]; omega) ?_
  ·rw [if_neg (by omega)]
  rintro ⟨m, _, _⟩ ⟨i, rfl, rfl, hi, hm, O⟩
  dsimp only at hm O
  rw [hB]
  dsimp only
  refine A7 (fun h => ?_) fun h => .pure ?_
  ·have e : (l.length : Int) - 1 - i = ((l.length - 1 - i : Nat) : Int) := by omega
   rw [e]
   have h1 : m[l.length - 1 - i]? = some (m[l.length - 1 - i]'(by omega)) := gq _
   have h2 : m[i]? = some (m[i]'(by omega)) := gq _
   refine .bind' (.eq (Bb h1) (.bind' (.eq (Bb h2) ?_)))
   dsimp only
   have h3 : (m.set i (m[l.length - 1 - i]'(by omega)))[l.length - 1 - i]? = some (m[l.length - 1 - i]'(by omega)) := by rw [List.getElem?_set_ne (by omega)]; exact h1
   refine .bind' (.eq (Bb h3) (.pure ⟨⟨i + 1, ?_, ?_, by omega, by simp [hm], fun k Y => ?_⟩, ?_⟩))
   ·dsimp only; rw [Av (by omega)]; omega
   ·dsimp only; rw [Av (by omega)]; omega
   ·dsimp only
    have e1 : m[l.length - 1 - i]? = l[l.length - 1 - i]? := by rw [O _ (by omega), if_neg (by omega)]
    have e2 : m[i]? = l[i]? := by rw [O _ (by omega), if_neg (by omega)]
    by_cases c1 : k = l.length - 1 - i
    ·subst c1
     rw [List.getElem?_set_self (by simp; omega), if_pos (by omega), ← h2, e2]
     congr 1; omega
    ·rw [List.getElem?_set_ne (by omega)]
     by_cases c2 : k = i
     ·subst c2
      rw [List.getElem?_set_self (by omega), if_pos (by omega), ← h1, e1]
     ·rw [List.getElem?_set_ne (by omega), O k Y]
      by_cases c3 : k < i ∨ l.length - 1 - i < k
      ·rw [if_pos c3, if_pos (by omega)]
      ·rw [if_neg c3, if_neg (by omega)]
   ·dsimp only; rw [Av (by omega), Av (by omega)]; omega
  ·apply List.ext_getElem?
   intro k
   by_cases Y : k < l.length
   ·rw [List.getElem?_reverse Y, O k Y]
    split
    ·rfl
    ·congr 1; omega
   ·rw [List.getElem?_eq_none (by omega), List.getElem?_eq_none (by simp; omega)]
 obtain ⟨r, h, rfl⟩ := this
 rw [h]; rfl
theorem oY {l : Li} (hl : l.length ≤ 1000000) : Zu l = some l.reverse := Zn (B := Zu.B1) (fun _ => rfl) hl
theorem lN {l : List gradient_part} (hl : l.length ≤ 1000000) : Z1 l = some l.reverse := Zn (B := Z1.B1) (fun _ => rfl) hl
theorem cT {l : List Level} (hl : l.length ≤ 1000000) : Wq l = some l.reverse := Zn (B := Wq.B1) (fun _ => rfl) hl
theorem pN {α : Type} {B : Nat → List α → Option (List α)} {g : α → α} (l : List α) (hB : ∀ (k : Nat) (m : List α) (x : α), l[k]? = some x → m[k]? = some x → B k m = some (m.set k (g x))) : forJ B 0 l.length l = some (l.map g) := by
 have : Ok (forJ B 0 l.length l) fun r => r = l.map g := by
  refine .forJ (fun k G => G.length = l.length ∧ ∀ j : Nat, G[j]? = if j < k then (l[j]?).map g else l[j]?) ⟨rfl, fun j => by simp⟩ ?_ ?_
  ·rintro k G hk ⟨h1, O⟩
   have Y : l[k]? = some (l[k]'hk) := gq _
   have Z : G[k]? = some (l[k]'hk) := by rw [O, if_neg (by omega), Y]
   refine .eq (hB k G _ Y Z) ⟨by simp [h1], fun j => ?_⟩
   by_cases hj : j = k
   ·subst hj
    rw [List.getElem?_set_self (by omega), if_pos (by omega), Y]; rfl
   ·rw [List.getElem?_set_ne (by omega), O]
    by_cases h3 : j < k
    ·rw [if_pos h3, if_pos (by omega)]
    ·rw [if_neg h3, if_neg (by omega)]
  ·rintro G ⟨h1, O⟩
   apply List.ext_getElem?
   intro j
   rw [O, List.getElem?_map]
   split
   ·rfl
   ·rw [List.getElem?_eq_none (by omega)]; rfl
 obtain ⟨r, h, rfl⟩ := this
 exact h
theorem oQ {s : Sg} {r q : Int} {b : Bounds} {G : Li} {way : List gradient_part} (hc : 1 ≤ s.Capacity ∧ s.Capacity ≤ 1000) (hr : 0 ≤ s.Resist ∧ s.Resist ≤ 1000) (hq : max r (wr (0 - r)) = q) (Y : 1 ≤ q ∧ q ≤ 1000)
  (hl : way.length + 1 = G.length) (hl2 : G.length ≤ 200) (hw : ∀ x, x ∈ way → PartOk s x) (h1 : -1125899906842624 ≤ b.Low ∧ b.Low ≤ 1125899906842624) (h2 : -1125899906842624 ≤ b.High ∧ b.High ≤ 1125899906842624) {a : Int} (ha : G[0]? = some a) :
  Ok (forJ (F7.B4 s r (way, G)) 0 way.length (b.Low, b.High, [⟨a, b⟩])) fun st => st.2.2 = Pp s q b G way := by
 refine .forJ (fun k st => st.1 = b.Low - Dc (hi s q) (way.take k) ∧ st.2.1 = b.High - Dc (lo s q) (way.take k) ∧ st.2.2 = (List.range (k + 1)).map (Zd s q b G way)) ⟨by simp [Dc], by simp [Dc], ?_⟩ ?_ ?_
 ·simp [Zd, List.range_succ, List.getD, ha, Dc]
 ·rintro k ⟨x1, x2, out⟩ hk ⟨i1, i2, Z⟩
  dsimp only at i1 i2 Z
  subst i1 i2 Z
  have O : way[k]? = some (way[k]'hk) := gq _
  have hm := hw _ (mg O)
  have bd : ∀ x, x ∈ way.take (k + 1) → PartOk s x := fun x O => hw x (List.mem_of_mem_take O)
  have bd0 : ∀ x, x ∈ way.take k → PartOk s x := fun x O => hw x (List.mem_of_mem_take O)
  have s1 := Ee (g := lo s q) (B := 3000000000000000) (l := way.take (k + 1)) fun x O => (Il hc.1 hr Y (bd x O)).1
  have s2 := Ee (g := hi s q) (B := 3000000000000000) (l := way.take (k + 1)) fun x O => (Il hc.1 hr Y (bd x O)).2
  have t1 := Fs (lo s q) O
  have t2 := Fs (hi s q) O
  simp only [List.length_take] at s1 s2
  unfold F7.B4
  refine .bind' (.ix k rfl hk (.bind' (.eq (by rw [hq]; exact pH hc hr Y hm) (.bind' (.ix (k + 1) rfl (by dsimp only; omega) (.bind' (.app (by simp; omega) (.pure ⟨?_, ?_, ?_⟩))))))))
  ·dsimp only; rw [t2, Av (by omega)]; omega
  ·dsimp only; rw [t1, Av (by omega)]; omega
  ·dsimp only
   rw [List.range_succ (n := k + 1), List.map_append]
   have e1 : wr (b.Low - Dc (hi s q) (way.take k) - hi s q way[k]) = b.Low - Dc (hi s q) (way.take (k + 1)) := by rw [t2, Av (by omega)]; omega
   have e2 : wr (b.High - Dc (lo s q) (way.take k) - lo s q way[k]) = b.High - Dc (lo s q) (way.take (k + 1)) := by rw [t1, Av (by omega)]; omega
   rw [e1, e2]
   simp [Zd, List.getD, gq (show k + 1 < G.length by omega)]
 ·rintro ⟨x1, x2, out⟩ ⟨i1, i2, Z⟩
  dsimp only at Z ⊢
  rw [Z, hl]; rfl
def Hg (s : Sg) (f : List Piece) (W : List gradient_part) (r : Int) (b : Bounds) : List Level :=
 if r < 0 then (Pp s (-r) b (Eg s f).reverse (W.reverse.map neg)).reverse else Pp s r b (Eg s f) W
theorem kN {f : List Piece} {b : List Batch} {p : List Product} {cap : Int} (hf : FillOk cap f) (hb : BatsOk p.length b) : ∃ l, G9 f b p = some (l, 0) ∧ l.length = f.length ∧ ∀ y, y ∈ l → y ∈ p := by
 obtain ⟨⟨l, e⟩, h, G, O, Y⟩ := aB hf hb
 dsimp only at G O Y
 subst G
 exact ⟨l, h, O, Y⟩
theorem pB {p : List Product} (O : ProdsOk p) {y : Product} (Y : y ∈ p) : (400 ≤ y.Density ∧ y.Density ≤ 1200) ∧ 1 ≤ y.Friction ∧ y.Friction ≤ 2000 := by
 obtain ⟨k, G⟩ := List.getElem?_of_mem Y
 have := O.all k y G
 exact ⟨this.density, this.friction⟩
theorem Ry {s : Sg} {f : List Piece} {bs : List Batch} {p l : List Product} (hs : SegG s) (hf : FillOk s.Capacity f) (hp : ProdsOk p) (hliq : G9 f bs p = some (l, 0)) (hlen : l.length = f.length) (hmem : ∀ y, y ∈ l → y ∈ p) :
  ∃ W, Parts s f l W ∧ (∀ x, x ∈ W → PartOk s x) ∧ ∀ (r : Int) (b : Bounds), r ≠ 0 → -1000 ≤ r → r ≤ 1000 → b.Low ≤ b.High → -1125899906842624 ≤ b.Low → b.High ≤ 1125899906842624 → F7 s f bs p r b = some (Hg s f W r b, 0) := by
 obtain ⟨W, hW, hP⟩ := lQ hs hf hlen
 have Y : ∀ x, x ∈ W → PartOk s x := fun x hx => by
  obtain ⟨i, hi⟩ := List.getElem?_of_mem hx
  exact (hP.all i x hi).ok hs hf fun y hy => pB hp (hmem y hy)
 refine ⟨W, hP, Y, fun r b hr0 hr1 hr2 hb1 hb2 hb3 => ?_⟩
 have hc := hs.cap
 have hpl := hs.points.len
 have hfl := hf.len
 have hbl := L0 s f
 have hb2' := Lz hs.points hc.1 hf
 have hWl := hP.len
 have Z : Kt b = true := by unfold Kt; simp; omega
 have ab : ((r == 0) || (decide (r < (-1000)) || (decide (r > 1000) || (!(Kt b))))) = false := by rw [Z]; simp; omega
 have e1 : Iq (Eg s f) = some (Eg s f) := by
  unfold Iq
  rw [Wo (by simp; omega)]; rfl
 unfold F7
 rw [mC hs hf, Kj hp, hliq, dM ⟨by omega, by omega⟩ hfl hf.vol (by have := hf.sum; omega)]
 simp only [Option.bind_some, ab, bne_self_eq_false, Bool.false_eq_true, if_false, Option.bind_some, hW, e1]
 have aa : ∀ (G : Li) (O : List gradient_part), O.length + 1 = G.length → G.length = (Eg s f).length → (∀ x, x ∈ O → PartOk s x) →
   F7.J1 s r b (O, G) = (if decide (r < 0) = true then some ((Pp s (-r) b G O).reverse, 0) else some (Pp s r b G O, 0)) := by
  intro G O h1 h2 h3
  have h0 : G[0]? = some (G[0]'(by omega)) := gq _
  have hq : max r (wr (0 - r)) = if r < 0 then -r else r := by rw [Av (by omega)]; split <;> omega
  obtain ⟨st, g1, g2⟩ := oQ (s := s) (r := r) (b := b) hc hs.resist hq (by split <;> omega) h1 (by omega) h3 (by omega) (by omega) h0
  unfold F7.J1
  have h0' : ix G 0 = some (0, G[0]) := Bb h0
  rw [h0']
  simp only [Option.bind_some, g1, F7.J2, F7.J3, g2]
  by_cases hr : r < 0
  ·simp only [hr, decide_true, if_true]
   rw [cT (by rw [Ix]; omega)]; rfl
  ·simp only [hr, decide_false, if_false, Bool.false_eq_true]
 unfold Hg
 by_cases hr : r < 0
 ·simp only [hr, decide_true, if_true]
  rw [oY (by omega), lN (by omega)]
  simp only [Option.bind_some]
  have hneg : forJ F7.B5 0 W.reverse.length W.reverse = some (W.reverse.map neg) := pN _ fun k m x hx hm => by
   have hb := (Y x (List.mem_reverse.1 (mg hx))).height
   unfold F7.B5
   rw [Bb hm]
   simp only [Option.bind_some]
   rw [Av (by omega), Int.zero_sub]; rfl
  rw [hneg]
  simp only [Option.bind_some]
  rw [aa _ _ (by simp; omega) (by simp) (by
   intro x hx
   simp only [List.mem_map, List.mem_reverse] at hx
   obtain ⟨y, hy, rfl⟩ := hx
   exact Wh (Y y hy))]
  simp only [hr, decide_true, if_true]
 ·simp only [hr, decide_false, if_false, Bool.false_eq_true]
  rw [aa _ _ (by omega) rfl Y]
  simp only [hr, decide_false, if_false, Bool.false_eq_true]
theorem Fq (s : Sg) (f : List Piece) (W : List gradient_part) (r : Int) (b : Bounds) : (Hg s f W r b).length = (Eg s f).length := by
 unfold Hg; split <;> simp [Ix]
def Oq (W : List gradient_part) (r : Int) : List gradient_part := if r < 0 then W.reverse.map neg else W
def E3 (s : Sg) (f : List Piece) (r : Int) : Li := if r < 0 then (Eg s f).reverse else Eg s f
def Zi (s : Sg) (f : List Piece) (r : Int) (i : Nat) : Nat := if r < 0 then (Eg s f).length - 1 - i else i
def Zk (r : Int) : Int := if r < 0 then -r else r
theorem N7 (s : Sg) (f : List Piece) (W : List gradient_part) (r : Int) (b : Bounds) {i : Nat} (h : i < (Eg s f).length) :
  (Hg s f W r b)[i]? = some (Zd s (Zk r) b (E3 s f r) (Oq W r) (Zi s f r i)) := by
 unfold Hg Oq E3 Zi Zk
 split
 ·rw [List.getElem?_reverse (by rw [Ix]; simp; omega), Ix, List.length_reverse, Rp _ _ _ _ (by simp; omega)]
 ·rw [Rp _ _ _ _ h]
theorem cF (W : List gradient_part) (r : Int) : (Oq W r).length = W.length := by unfold Oq; split <;> simp
theorem Rx {s : Sg} {f : List Piece} {i : Nat} {a b x : Int} (h1 : (Eg s f)[i]? = some a) (h2 : (Eg s f)[i + 1]? = some b) (Y : x ∈ Eg s f) (hb : x < b) : x ≤ a := by
 obtain ⟨j, G⟩ := List.getElem?_of_mem Y
 rcases Nat.lt_trichotomy j i with h | h | h
 ·have := G7 (G8 s f) h G h1; omega
 ·subst h; rw [G] at h1; cases h1; omega
 ·rcases Nat.lt_or_ge (i + 1) j with O | O
  ·have := G7 (G8 s f) O h2 G; omega
  ·have : j = i + 1 := by omega
   subst this
   rw [G] at h2; cases h2; omega
theorem bO {a b M : Int} (hb : 0 < b) (h : -(M * b) ≤ a ∧ a ≤ M * b) : (-M ≤ dn a b ∧ dn a b ≤ M) ∧ -M ≤ up a b ∧ up a b ≤ M := by
 have G : dn (M * b) b = M := Int.mul_ediv_cancel M (by omega)
 have O : dn (-(M * b)) b = -M := by rw [← Int.neg_mul]; exact Int.mul_ediv_cancel (-M) (by omega)
 have Y : up (M * b) b = M := by rw [Xi hb]; rw [show -(M * b) / b = -M from O]; omega
 have Z : up (-(M * b)) b = -M := by rw [rN hb, G]
 have m1 := bU hb h.1; have m2 := bU hb h.2; have m3 := bI hb h.1; have m4 := bI hb h.2
 omega
def Uz (s : Sg) (x : gradient_part) : Prop := x.length ≤ x.width ∧ x.length ≤ s.Capacity
theorem IsPart.fits {s : Sg} {f : List Piece} {l : List Product} {i : Nat} {x : gradient_part} (Y : SegG s) (hf : FillOk s.Capacity f) (h : IsPart s f l i x) : Uz s x := by
 obtain ⟨a, b, p, u, v, k, y, G, O, Z, h4, h5, h6, _, _, _, h7, rfl⟩ := h
 have ha := Ef Y.points hf (mg G)
 have hb := Ef Y.points hf (mg O)
 have hua : u.At ≤ a := Rx G O (H4.2 (.inl ⟨u, mg Z, rfl⟩)) h5
 exact ⟨by dsimp only; omega, by dsimp only; omega⟩
theorem R6 {s : Sg} {q : Int} {x : gradient_part} (hc : 1 ≤ s.Capacity ∧ s.Capacity ≤ 1000) (hr : 0 ≤ s.Resist ∧ s.Resist ≤ 1000) (hq : 1 ≤ q ∧ q ≤ 1000) (G : PartOk s x) (hf : Uz s x) :
  (-2100000000 ≤ lo s q x ∧ lo s q x ≤ 2100000000) ∧ -2100000000 ≤ hi s q x ∧ hi s q x ≤ 2100000000 := by
 have fr := G.friction; have de := G.density; have le := G.length; have wi := G.width; have he := G.height
 obtain ⟨f1, f2⟩ := hf
 have Y : 0 ≤ s.Resist * x.liquid.Friction := Int.mul_nonneg hr.1 (by omega)
 have a2 := Ed (a := s.Resist) (b := x.liquid.Friction) (A := 1000) (B := 2000) (by omega) (by omega)
 have Z : 0 ≤ s.Resist * x.liquid.Friction * q := Int.mul_nonneg Y (by omega)
 have b2 := Ed (a := s.Resist * x.liquid.Friction) (b := q) (A := 2000000) (B := 1000) (by omega) (by omega)
 have c1 : 0 ≤ s.Resist * x.liquid.Friction * q * q := Int.mul_nonneg Z (by omega)
 have c2 := Ed (a := s.Resist * x.liquid.Friction * q) (b := q) (A := 2000000000) (B := 1000) (by omega) (by omega)
 have d1 : 0 ≤ Ht s q x := Int.mul_nonneg c1 (by omega)
 have d2 : Ht s q x ≤ 2000000000000 * s.Capacity := by
  have := Int.mul_le_mul (c2.2) f2 (by omega : 0 ≤ x.length) (by omega : (0 : Int) ≤ 2000000000 * 1000)
  unfold Ht; omega
 have e1 := bO (a := Ht s q x) (b := G0 s) (M := 2000000000) (by unfold G0; omega) (by unfold G0; omega)
 have O := Ed (a := x.liquid.Density * 9807) (b := x.height) (A := 12000000) (B := 5500) (by omega) (by omega)
 have g2 : -(66000000000 * x.length) ≤ Lr x ∧ Lr x ≤ 66000000000 * x.length := by
  unfold Lr
  have u1 := Int.mul_le_mul_of_nonneg_right O.2 (by omega : 0 ≤ x.length)
  have u2 := Int.mul_le_mul_of_nonneg_right O.1 (by omega : 0 ≤ x.length)
  omega
 have e2 := bO (a := Lr x) (b := Lp x) (M := 66000000) (by unfold Lp; omega) (by unfold Lp; omega)
 unfold lo hi
 omega
def Bd (B : Int) (b : Bounds) : Prop := b.Low ≤ b.High ∧ -B ≤ b.Low ∧ b.High ≤ B
theorem Bd.mono {B C : Int} {b : Bounds} (h : Bd B b) (hc : B ≤ C) : Bd C b := ⟨h.1, by have := h.2; omega, by have := h.2; omega⟩
theorem rZ {s : Sg} {q B : Int} {G : List gradient_part} {b : Bounds} (hc : 1 ≤ s.Capacity ∧ s.Capacity ≤ 1000) (hr : 0 ≤ s.Resist ∧ s.Resist ≤ 1000) (hq : 1 ≤ q ∧ q ≤ 1000) (hw : ∀ x, x ∈ G → PartOk s x ∧ Uz s x) (hl : G.length ≤ 20) (hb : Bd B b) (Y : Li) (j : Nat) :
  Bd (B + 42000000000) (Zd s q b Y G j).Bounds := by
 have Z : ∀ x, x ∈ G.take j → PartOk s x ∧ Uz s x := fun x O => hw x (List.mem_of_mem_take O)
 have s1 := Ee (g := lo s q) (B := 2100000000) (l := G.take j) fun x O => (R6 hc hr hq (Z x O).1 (Z x O).2).1
 have s2 := Ee (g := hi s q) (B := 2100000000) (l := G.take j) fun x O => (R6 hc hr hq (Z x O).1 (Z x O).2).2
 have s3 := Xt (g := lo s q) (h := hi s q) (l := G.take j) fun x O => (tJ hc.1 (Z x O).1).1
 simp only [List.length_take] at s1 s2
 obtain ⟨h1, h2, h3⟩ := hb
 unfold Zd
 exact ⟨by dsimp only; omega, by dsimp only; omega, by dsimp only; omega⟩
theorem lS {s : Sg} {x : gradient_part} (h : Uz s x) : Uz s (neg x) := h
theorem cH {s : Sg} {W : List gradient_part} (h : ∀ x, x ∈ W → PartOk s x ∧ Uz s x) (r : Int) : ∀ x, x ∈ Oq W r → PartOk s x ∧ Uz s x := by
 intro x G
 unfold Oq at G
 split at G
 ·simp only [List.mem_map, List.mem_reverse] at G
  obtain ⟨y, O, rfl⟩ := G
  exact ⟨Wh (h y O).1, lS (h y O).2⟩
 ·exact h x G
theorem Yj {s : Sg} {f : List Piece} {bs : List Batch} {p : List Product} (G : SegG s) (hf : FillOk s.Capacity f) (hp : ProdsOk p) (hb : BatsOk p.length bs) {r B : Int} {b : Bounds} (hr : r ≠ 0 ∧ -1000 ≤ r ∧ r ≤ 1000) (hB : 0 ≤ B ∧ B ≤ 1000000000000000) (ab : Bd B b) :
  ∃ x, F7 s f bs p r b = some (x, 0) ∧ 2 ≤ x.length ∧ x.length ≤ 20 ∧ (∀ y, y ∈ x → Bd (B + 42000000000) y.Bounds ∧ 0 ≤ y.At ∧ y.At ≤ s.Capacity) := by
 obtain ⟨l, ae, af, ag⟩ := kN hf hb
 obtain ⟨W, hW, hP, hA⟩ := Ry G hf hp ae af ag
 have hc := G.cap
 have hpl := G.points.len
 have hfl := hf.len
 have hbl := L0 s f
 have aa := Lz G.points hc.1 hf
 have hWl := hW.len
 have Z : ∀ x, x ∈ W → PartOk s x ∧ Uz s x := fun x hx => by
  obtain ⟨i, hi⟩ := List.getElem?_of_mem hx
  exact ⟨hP x hx, (hW.all i x hi).fits G hf⟩
 obtain ⟨b1, b2, b3⟩ := ab
 refine ⟨_, hA r b hr.1 hr.2.1 hr.2.2 b1 (by omega) (by omega), by rw [Fq]; exact aa, by rw [Fq]; omega, fun y hy => ?_⟩
 obtain ⟨i, hi⟩ := List.getElem?_of_mem hy
 have ac : i < (Eg s f).length := by have := (gs hi).1; rw [Fq] at this; exact this
 rw [N7 _ _ _ _ _ ac] at hi
 have Y := Option.some.inj hi
 have hq : 1 ≤ Zk r ∧ Zk r ≤ 1000 := by unfold Zk; split <;> omega
 refine ⟨by rw [← Y]; exact rZ hc G.resist hq (cH Z r) (by rw [cF]; omega) ⟨b1, b2, b3⟩ _ _, ?_⟩
 have hm : y.At ∈ Eg s f := by
  rw [← Y]
  simp only [Zd]
  have O : (E3 s f r).length = (Eg s f).length := by unfold E3; split <;> simp
  have ad : Zi s f r i < (E3 s f r).length := by rw [O]; unfold Zi; split <;> omega
  have hg : (E3 s f r)[Zi s f r i]? = some ((E3 s f r)[Zi s f r i]'ad) := gq _
  rw [List.getD_eq_getElem?_getD, hg]
  have := mg hg
  simp only [Option.getD_some]
  unfold E3 at this ⊢
  split at this
  ·rename_i hn; simp only [if_pos hn] at this ⊢; exact List.mem_reverse.1 this
  ·rename_i hn; simp only [if_neg hn] at this ⊢; exact this
 exact Ef G.points hf hm
def Gc (t : Sn) (rate : Int) : Int := max 0 (t.Head - dn (t.Fall * rate * rate) 1000)
theorem Rj {k nodes : Nat} {s : Sn} (G : StOk nodes k s) (Z : k < 26) (hn : nodes ≤ 24) {b : Bounds} {B rate : Int} (hB : 0 ≤ B ∧ B ≤ 1000000000000000) (hb : Bd B b) (O : 0 ≤ rate ∧ rate ≤ 32000) :
  Vd s b rate = some (⟨b.Low + Gc s rate, b.High + Gc s rate⟩, 0) ∧ Bd (B + 2000000) ⟨b.Low + Gc s rate, b.High + Gc s rate⟩ := by
 unfold Gc
 have h1 := G.node; have h2 := G.head; have Y := G.fall; have h4 := G.suction
 obtain ⟨b1, b2, b3⟩ := hb
 have m1 : 0 ≤ s.Fall * rate := Int.mul_nonneg Y.1 O.1
 have m2 := Ed (a := s.Fall) (b := rate) (A := 100000) (B := 32000) (by omega) (by omega)
 have m3 : 0 ≤ s.Fall * rate * rate := Int.mul_nonneg m1 O.1
 have m4 := Ed (a := s.Fall * rate) (b := rate) (A := 3200000000) (B := 32000) (by omega) (by omega)
 have dd := Es (a := s.Fall * rate * rate) (b := 1000) (by decide)
 have d0 := Tn (a := s.Fall * rate * rate) (b := 1000) (by decide) m3
 have e : V7 s rate = some (max 0 (s.Head - dn (s.Fall * rate * rate) 1000), 0) := by
  have hv : P4 s = some true := by
   unfold P4 P4.J1
   rw [G.name, Zq (by simp) Z]
   have v1 : Er s.Node 23 = true := by simp [Er]; omega
   have v2 : Er s.Head 100000000 = true := by simp [Er]; omega
   have v3 : Er s.Fall 100000 = true := by simp [Er]; omega
   have v4 : Er s.Suction 100000000 = true := by simp [Er]; omega
   simp only [Option.bind_some, v1, v2, v3, v4, if_true]
  unfold V7
  rw [hv]
  simp only [Option.bind_some, Bool.not_true, Bool.false_eq_true, if_false]
  rw [if_neg (by simp; omega)]
  unfold Zx
  dsimp only
  rw [Av (x := s.Fall * rate) (by omega), Av (x := s.Fall * rate * rate) (by omega), Wk (by decide) (by omega)]
  simp only [Option.bind_some]
  rw [Av (by omega)]
 refine ⟨?_, by dsimp only; omega, by dsimp only; omega, by dsimp only; omega⟩
 unfold Vd
 rw [e]
 simp only [Option.bind_some, bne_self_eq_false, Bool.false_eq_true, if_false]
 rw [if_neg (by simp; omega), Av (x := b.Low + max 0 (s.Head - dn (s.Fall * rate * rate) 1000)) (by omega), Av (x := b.High + max 0 (s.Head - dn (s.Fall * rate * rate) 1000)) (by omega)]
structure FillsOk (n : Network) (f : List (List Piece)) : Prop where
 len : f.length = n.Segments.length
 all : ∀ (k : Nat) (x : List Piece) (s : Sg), f[k]? = some x → n.Segments[k]? = some s → FillOk s.Capacity x
theorem mB {n : Nw} (hn : NetOk n) {s : Xf} (hs : SrcOk s) : Ok (Qy s n 4) fun r => FillsOk n r.1 ∧ SrcOk r.2 := by
 have hl := hn.segs1
 unfold Qy
 refine .bind (.forS (fun k (Z : Li × Int × List (List Piece)) => SrcOk ⟨Z.1, Z.2.1⟩ ∧ Z.2.2.length = k ∧ ∀ (j : Nat) (x : List Piece) (s : Sg), Z.2.2[j]? = some x → n.Segments[j]? = some s → FillOk s.Capacity x) ⟨hs.eta, rfl, by simp⟩ ?_ fun Z h => h) ?_
 ·rintro k x ⟨L_, At, Y⟩ hx ⟨i1, O, i3⟩
  dsimp only at i1 O i3
  have hk := (gs hx).1
  have hc := (hn.segs k x hx).cap
  unfold Qy.B2
  dsimp only
  refine .bind (pM i1 hc) fun r hr => .bind' (.app (by simp; omega) (.pure ⟨hr.2.eta, by simp [O], fun j y t G ht => ?_⟩))
  dsimp only at G
  rw [List.getElem?_append] at G
  split at G
  ·exact i3 j y t G ht
  ·rename_i hj
   have := (gs G).1
   simp at this
   have : j = Y.length := by omega
   subst this
   subst O
   rw [hx] at ht; cases ht
   simp at G; subst G; exact hr.1
 ·rintro ⟨L_, At, Y⟩ ⟨i1, O, i3⟩
  unfold Qy.J1
  exact .pure ⟨⟨O, i3⟩, i1.eta⟩
theorem SegOk.g {nodes k : Nat} {s : Sg} (h : SegOk nodes k s) (G : k < 26) : SegG s := ⟨⟨k, G, h.name⟩, h.cap, h.resist, h.wave, h.points⟩
structure W21 (n : Network) (b : List Batch) (pr : List Product) (f : List (List Piece)) : Prop where
 net : NetOk n
 prods : ProdsOk pr
 bats : BatsOk pr.length b
 fills : FillsOk n f
def Hr (n : Nw) (b : List Batch) (pr : List Product) (f : List (List Piece)) (p : Plan) (K : List Bool) (N : List Bounds) (S : List (List Level)) : steady_line := ⟨n, b, pr, f, p, ⟨K, N, S⟩⟩
abbrev ST := steady_line
abbrev pk (n : Nw) (b : List Batch) (pr : List Product) (f : List (List Piece)) (p : Plan) (K : List Bool) (N : List Bounds) (S : List (List Level)) : ST := Hr n b pr f p K N S
structure Inv (n : Network) (B : Int) (K : List Bool) (N : List Bounds) (S : List (List Level)) : Prop where
 kl : K.length = n.Nodes.length
 nl : N.length = n.Nodes.length
 sl : S.length = n.Segments.length
 nb : ∀ b, b ∈ N → Bd B b
 sb : ∀ (i : Nat) (lv : List Level) (s : Sg), S[i]? = some lv → n.Segments[i]? = some s → lv.length ≤ 20 ∧ ∀ y, y ∈ lv → Bd B y.Bounds ∧ 0 ≤ y.At ∧ y.At ≤ s.Capacity
theorem Inv.mono {n : Nw} {B C : Int} {K : List Bool} {N : List Bounds} {S : List (List Level)} (h : Inv n B K N S) (hc : B ≤ C) : Inv n C K N S :=
 ⟨h.kl, h.nl, h.sl, fun b Z => (h.nb b Z).mono hc, fun i Y s G O => ⟨(h.sb i Y s G O).1, fun y hy => let q := (h.sb i Y s G O).2 y hy; ⟨q.1.mono hc, q.2⟩⟩⟩
theorem mG {n : Nw} {b : List Batch} {pr : List Product} {f : List (List Piece)} {p : Plan} {K : List Bool} {N : List Bounds} {S : List (List Level)} {B node : Int} {c : Bounds} (h : Inv n B K N S) (hv : 0 ≤ node ∧ node < (n.Nodes.length : Int)) (hc : Bd B c) :
  Ok (Is (Hr n b pr f p K N S) node c) fun l => ∃ K' N', l = Hr n b pr f p K' N' S ∧ Inv n B K' N' S := by
 have G := h.kl; have O := h.nl
 obtain ⟨v, rfl⟩ := Hw hv.1
 have j1 : ∀ x y : Int, Bd B ⟨x, y⟩ → Ok (Is.J1 (Hr n b pr f p K N S) (v : Int) (x, y)) fun l => ∃ K' N', l = Hr n b pr f p K' N' S ∧ Inv n B K' N' S := by
  intro x y Y
  unfold Is.J1 Hr
  dsimp only
  refine .bind' (.ix v rfl (by omega) (.bind' (.ix v rfl (by omega) (.pure ⟨_, _, rfl, by simp [G], by simp [O], h.sl, fun z Z => ?_, h.sb⟩))))
  rcases List.mem_or_eq_of_mem_set Z with Z | rfl
  ·exact h.nb z Z
  ·exact Y
 unfold Is
 refine .bind' (.ix v rfl (by simp only [Hr]; omega) (Bc (fun _ => .bind' (.ix v rfl (by simp only [Hr]; omega) (j1 _ _ ?_))) fun _ => j1 _ _ hc))
 have := h.nb _ (List.getElem_mem (l := N) (n := v) (by omega))
 obtain ⟨a1, a2, a3⟩ := this
 obtain ⟨b1, b2, b3⟩ := hc
 simp only [Hr]
 exact ⟨by dsimp only; omega, by dsimp only; omega, by dsimp only; omega⟩
theorem Gh {s : List (List Piece)} {g : List Piece → Option Bool} (hg : ∀ (k : Nat) x, s[k]? = some x → g x = some false) : Qv s g = some false := by
 have : Ok (Qv s g) fun r => r = false := by
  unfold Qv Vl
  refine .bind (Q := fun r : Int => r = -1) (.bind' (.forL (fun _ _ => True) (fun _ => False) trivial ?_ ?_ fun _ h => h.elim)) ?_
  ·intro k y _ G _
   unfold Vl.B2
   exact .bind' (.eq (hg k y G) (Bc (fun h => by cases h) fun _ => .pure trivial))
  ·intro _ _
   simp only [Sum.elim_inl]
   unfold Vl.J1
   exact .pure rfl
  ·rintro _ rfl
   exact .pure rfl
 obtain ⟨r, h, rfl⟩ := this
 exact h
theorem Hc {s : List (Piece)} {g : Piece → Option Bool} (hg : ∀ (k : Nat) x, s[k]? = some x → g x = some false) : Pw s g = some false := by
 have : Ok (Pw s g) fun r => r = false := by
  unfold Pw Vz
  refine .bind (Q := fun r : Int => r = -1) (.bind' (.forL (fun _ _ => True) (fun _ => False) trivial ?_ ?_ fun _ h => h.elim)) ?_
  ·intro k y _ G _
   unfold Vz.B2
   exact .bind' (.eq (hg k y G) (Bc (fun h => by cases h) fun _ => .pure trivial))
  ·intro _ _
   simp only [Sum.elim_inl]
   unfold Vz.J1
   exact .pure rfl
  ·rintro _ rfl
   exact .pure rfl
 obtain ⟨r, h, rfl⟩ := this
 exact h
theorem Gy {s : List (Bounds)} {g : Bounds → Option Bool} (hg : ∀ (k : Nat) x, s[k]? = some x → g x = some false) : P1 s g = some false := by
 have : Ok (P1 s g) fun r => r = false := by
  unfold P1 Vg
  refine .bind (Q := fun r : Int => r = -1) (.bind' (.forL (fun _ _ => True) (fun _ => False) trivial ?_ ?_ fun _ h => h.elim)) ?_
  ·intro k y _ G _
   unfold Vg.B2
   exact .bind' (.eq (hg k y G) (Bc (fun h => by cases h) fun _ => .pure trivial))
  ·intro _ _
   simp only [Sum.elim_inl]
   unfold Vg.J1
   exact .pure rfl
  ·rintro _ rfl
   exact .pure rfl
 obtain ⟨r, h, rfl⟩ := this
 exact h
theorem Hd {s : List (Level)} {g : Level → Option Bool} (hg : ∀ (k : Nat) x, s[k]? = some x → g x = some false) : Qn s g = some false := by
 have : Ok (Qn s g) fun r => r = false := by
  unfold Qn Wa
  refine .bind (Q := fun r : Int => r = -1) (.bind' (.forL (fun _ _ => True) (fun _ => False) trivial ?_ ?_ fun _ h => h.elim)) ?_
  ·intro k y _ G _
   unfold Wa.B2
   exact .bind' (.eq (hg k y G) (Bc (fun h => by cases h) fun _ => .pure trivial))
  ·intro _ _
   simp only [Sum.elim_inl]
   unfold Wa.J1
   exact .pure rfl
  ·rintro _ rfl
   exact .pure rfl
 obtain ⟨r, h, rfl⟩ := this
 exact h
theorem cJ {cap : Int} {f : List Piece} (h : FillOk cap f) (hc : 1 ≤ cap ∧ cap ≤ 1000) : M8 f = some cap := by
 unfold M8
 rw [Lg h hc, Rd h.len h.vol (by have := h.sum; omega), h.sum]
 rfl
theorem mS {n : Nw} {b : List Batch} {pr : List Product} {f : List (List Piece)} (Z : W21 n b pr f) : P3 n f = some 0 := by
 have hfl := Z.fills.len
 have G : ∀ (k : Nat) (x : List Piece), f[k]? = some x → ∃ s, n.Segments[k]? = some s ∧ FillOk s.Capacity x ∧ 1 ≤ s.Capacity ∧ s.Capacity ≤ 1000 := by
  intro k x O
  have hk := (gs O).1
  have Y : n.Segments[k]? = some (n.Segments[k]'(by omega)) := gq _
  exact ⟨_, Y, Z.fills.all k x _ O Y, (Z.net.segs k _ Y).cap⟩
 have : Ok (P3 n f) fun r => r = 0 := by
  unfold P3
  rw [Rn Z.net]
  refine .bind' (.pure (Cl (fun h => absurd rfl h) fun _ => Cl (fun h => by omega) fun _ => ?_))
  rw [Gh (fun k x O => by
   obtain ⟨s, _, h1, h2⟩ := G k x O
   unfold V3
   rw [Lg h1 h2]; rfl)]
  unfold P3.J1
  refine .bind' (.pure (Bc (fun h => by cases h) fun _ => .bind' (.forL (fun _ _ => True) (fun _ => False) trivial ?_ (fun _ _ => .pure rfl) fun _ h => h.elim)))
  intro k x _ O _
  obtain ⟨s, Y, h1, h2⟩ := G k x O
  unfold P3.B3
  rw [cJ h1 h2]
  exact .bind' (.pure (.bind' (.eq (Bb Y) (Cl (fun h => absurd rfl h) fun _ => .pure trivial))))
 obtain ⟨r, h, rfl⟩ := this
 exact h
theorem lX {b : List Batch} {pr : List Product} (hb : BatsOk pr.length b) {k : Int} (G : 0 ≤ k ∧ k < 4) : Nf k b pr = some true := by
 have Z := hb.len
 have : Ok (Nf k b pr) fun r => r = true := by
  unfold Nf Nf.J1
  refine A7 (fun _ => .bind' (.ix' G.1 (by omega) fun j y Y O => ?_)) fun h => by omega
  have := hb.all y (mg O)
  exact A7 (fun _ => .pure (by simp; omega)) fun h => by dsimp only at h; omega
 obtain ⟨r, h, rfl⟩ := this
 exact h
def Ic (G : List Point) (x : Int) : Nat → Int
 | 0 => 100000000
 | k + 1 => match G[k]?, G[k + 1]? with
  | some a, some b => if a.At ≤ x ∧ x ≤ b.At then min (min (Ic G x k) a.Limit) b.Limit else Ic G x k
  | _, _ => Ic G x k
def Mt (G : List Point) (x : Int) : Int := Ic G x (G.length - 1)
theorem R7 {G : List Point} {x : Int} {k : Nat} {a b : Point} (O : G[k]? = some a) (hb : G[k + 1]? = some b) :
  Ic G x (k + 1) = if a.At ≤ x ∧ x ≤ b.At then min (min (Ic G x k) a.Limit) b.Limit else Ic G x k := by
 simp only [Ic, O, hb]
theorem N2 {s : Sg} (h1 : 1 ≤ s.Points.length ∧ s.Points.length ≤ 1000) (x : Int) : Ni s x = some (Mt s.Points x) := by
 have : Ok (Ni s x) fun r => r = Mt s.Points x := by
  unfold Ni
  refine .bind (Q := fun d : Int => d = Mt s.Points x) ?_ (by rintro _ rfl; unfold Ni.J1; exact .pure rfl)
  refine .loop (fun O : Int × Int => ∃ k : Nat, O.2 = ((k + 1 : Nat) : Int) ∧ k + 1 ≤ s.Points.length ∧ O.1 = Ic s.Points x k) (fun O => s.Points.length - O.2.toNat) ⟨0, rfl, by omega, rfl⟩ (by dsimp only; omega) ?_
  rintro ⟨m, i⟩ ⟨k, Y, e2, Z⟩
  dsimp only at Y e2 Z
  subst Y Z
  unfold Ni.B2
  dsimp only
  refine A7 (fun hlt => ?_) fun hn => .pure ?_
  ·have ha : s.Points[k]? = some (s.Points[k]'(by omega)) := gq _
   have hb : s.Points[k + 1]? = some (s.Points[k + 1]'(by omega)) := gq _
   have e := R7 (x := x) ha hb
   rw [Av (by omega), show ((k + 1 : Nat) : Int) - 1 = (k : Int) by omega, Bb ha, Bb hb]
   simp only [Option.bind_some]
   unfold Ni.J4 Ni.J3
   dsimp only
   rw [Av (by omega)]
   refine Bc (fun G => .pure ⟨⟨k + 1, by dsimp only; omega, by omega, ?_⟩, by dsimp only; omega⟩) fun G => .pure ⟨⟨k + 1, by dsimp only; omega, by omega, ?_⟩, by dsimp only; omega⟩
   ·simp at G
    dsimp only; rw [e, if_pos G]
   ·simp at G
    dsimp only; rw [e, if_neg (by omega)]
  ·unfold Mt
   rw [show s.Points.length - 1 = k by omega]; rfl
 obtain ⟨r, h, rfl⟩ := this
 exact h
structure ExOk (n : Network) (e : List Int) : Prop where
 len : e.length = n.Segments.length
 all : ∀ x, x ∈ e → 0 ≤ x ∧ x ≤ 1125899906842624
theorem Tb {n : Nw} {p : Plan} {x : Pressures} {e : Li} (hn : NetOk n) (hp : p.Pumps.length = n.Stations.length) (O : Inv n 400000000000 x.Known x.Nodes x.Segments) (he : ExOk n e) : Nh n x p e = some true := by
 have h1 := O.kl; have h2 := O.nl; have h3 := O.sl; have h4 := he.len
 have G : ∀ c : Bounds, Bd 400000000000 c → Ks c = true := by
  rintro c ⟨a1, a2, a3⟩
  unfold Ks
  simp; omega
 have : Ok (Nh n x p e) fun r => r = true := by
  unfold Nh
  rw [Rn hn]
  refine .bind' (.pure (Cl (fun h => absurd rfl h) fun _ => Cl (fun h => by omega) fun _ => Cl (fun h => by omega) fun _ => Cl (fun h => by omega) fun _ => Cl (fun h => by omega) fun _ => ?_))
  rw [show ((e.length : Int) != (n.Segments.length : Int)) = false by simp; omega]
  unfold Nh.J1
  refine Bc (fun h => by cases h) fun _ => ?_
  rw [Eu (P := fun _ => false) (fun k y Z => by
   have := he.all y (mg Z)
   simp [Ng]; omega), E8 (fun _ _ _ => rfl)]
  refine .bind' (.pure (Bc (fun h => by cases h) fun _ => ?_))
  rw [Gy (fun k y Z => by
   unfold Py
   rw [G y (O.nb y (mg Z))]; rfl)]
  refine .bind' (.pure ?_)
  unfold Nh.J2
  refine Bc (fun h => by cases h) fun _ => .bind' (.forL (fun _ _ => True) (fun _ => False) trivial ?_ (fun _ _ => .pure rfl) fun _ h => h.elim)
  intro k lv _ Y _
  have hk := (gs Y).1
  have hs : n.Segments[k]? = some (n.Segments[k]'(by omega)) := gq _
  have hg := O.sb k lv _ Y hs
  unfold Nh.B4
  rw [Hd (fun j y Z => by
   have aa := hg.2 y (mg Z)
   unfold Pz Pz.J1
   rw [G _ aa.1]
   simp only [Bool.not_true, Bool.false_eq_true, if_false]
   rw [if_neg (by simp; omega), Bb hs]
   simp; omega)]
  exact .bind' (.pure (Bc (fun h => by cases h) fun _ => .pure trivial))
 obtain ⟨r, h, rfl⟩ := this
 exact h
def Iv (n : Nw) (x : Pressures) (e : Li) : Prop :=
 ∃ (i : Nat) (G : List Level) (s : Sg) (a : Int) (y : Level), x.Segments[i]? = some G ∧ n.Segments[i]? = some s ∧ e[i]? = some a ∧ y ∈ G ∧ (Mt s.Points y.At < y.Bounds.High + a ∨ y.Bounds.Low - a < n.Vapour)
theorem Tu {n : Nw} {x : Pressures} {e : Li} (hn : NetOk n) (hI : Inv n 400000000000 x.Known x.Nodes x.Segments) (he : ExOk n e) : Ok (K7 x e n) fun r => (r.2 = true ↔ Iv n x e) := by
 have h3 := hI.sl; have h4 := he.len
 unfold K7
 refine .bind (Q := Sum.elim (fun _ : Unit => ¬ Iv n x e) fun d : Fault × Bool => d.2 = true ∧ Iv n x e)
  (.forL (fun k _ => ∀ (i : Nat) (O : List Level) (s : Sg) (a : Int) (y : Level), i < k → x.Segments[i]? = some O → n.Segments[i]? = some s → e[i]? = some a → y ∈ O → ¬ (Mt s.Points y.At < y.Bounds.High + a ∨ y.Bounds.Low - a < n.Vapour))
   (fun d => d.2 = true ∧ Iv n x e) (fun i O s a y h => absurd h (Nat.not_lt_zero _)) ?_ ?_ fun _ h => h) ?_
 ·intro k O _ G hJ
  have hk := (gs G).1
  have hs : n.Segments[k]? = some (n.Segments[k]'(by omega)) := gq _
  have ha : e[k]? = some (e[k]'(by omega)) := gq _
  have hg := hI.sb k O _ G hs
  have hab := he.all _ (mg ha)
  have hpl := (hn.segs k _ hs).points.len
  unfold K7.B2
  refine .bind (Q := Sum.elim (fun _ : Unit => ∀ y, y ∈ O → ¬ (Mt (n.Segments[k]'(by omega)).Points y.At < y.Bounds.High + e[k]'(by omega) ∨ y.Bounds.Low - e[k]'(by omega) < n.Vapour)) fun d : Fault × Bool => d.2 = true ∧ Iv n x e)
   (.forL (fun j _ => ∀ (i : Nat) (y : Level), i < j → O[i]? = some y → ¬ (Mt (n.Segments[k]'(by omega)).Points y.At < y.Bounds.High + e[k]'(by omega) ∨ y.Bounds.Low - e[k]'(by omega) < n.Vapour)) (fun d => d.2 = true ∧ Iv n x e) (fun i y h => absurd h (Nat.not_lt_zero _)) ?_ ?_ fun _ h => h) ?_
  ·intro j y _ Y aa
   have hyb := hg.2 y (mg Y)
   obtain ⟨⟨y1, y2, y3⟩, y4⟩ := hyb
   unfold K7.B4
   refine .bind' (.eq (Bb ha) (.bind' (.eq (Bb hs) (.bind' (.eq (N2 ⟨by dsimp only; omega, by dsimp only; omega⟩ _) ?_)))))
   dsimp only
   rw [Av (x := y.Bounds.High + e[k]'(by omega)) (by omega), Av (x := y.Bounds.Low - e[k]'(by omega)) (by omega)]
   refine A7 (fun hh => .pure ⟨rfl, k, O, _, _, y, G, hs, ha, mg Y, .inl hh⟩) fun Z => A7 (fun hh => .pure ⟨rfl, k, O, _, _, y, G, hs, ha, mg Y, .inr hh⟩) fun h2 => .pure ?_
   intro i z hi hz
   by_cases hij : i = j
   ·subst hij
    rw [Y] at hz; cases hz
    omega
   ·exact aa i z (by omega) hz
  ·intro _ aa
   simp only [Sum.elim_inl]
   intro y Y
   obtain ⟨j, hj⟩ := List.getElem?_of_mem Y
   exact aa j y (gs hj).1 hj
  ·rintro (_ | d) hd
   ·unfold K7.J3
    refine .pure fun i lv' s' a' y hi Z h2 h3 Y => ?_
    by_cases hik : i = k
    ·subst hik
     rw [G] at Z; cases Z
     rw [hs] at h2; cases h2
     rw [ha] at h3; cases h3
     exact hd y Y
    ·exact hJ i lv' s' a' y (by omega) Z h2 h3 Y
   ·exact .pure hd
 ·intro _ hJ
  simp only [Sum.elim_inl]
  rintro ⟨i, O, s, a, y, Z, h2, h3, h4, h5⟩
  exact hJ i O s a y (gs Z).1 Z h2 h3 h4 h5
 ·rintro (_ | d) hd
  ·unfold K7.J1
   exact .pure ⟨fun h => (Bool.false_ne_true h).elim, fun h => absurd h hd⟩
  ·exact .pure ⟨fun _ => hd.2, fun _ => hd.1⟩
theorem Tt {n : Nw} {x : Pressures} {p : Plan} (hn : NetOk n) (hp : p.Pumps.length = n.Stations.length) (Y : Inv n 400000000000 x.Known x.Nodes x.Segments) : ∃ r, Gp n p x = some r := by
 have h1 := Y.kl; have h2 := Y.nl
 have : Ok (Gp n p x) fun _ => True := by
  unfold Gp
  refine .bind (Q := fun _ => True) (.forL (fun _ _ => True) (fun _ => True) trivial ?_ (fun _ _ => trivial) fun _ _ => trivial) ?_
  ·intro k s _ Z _
   have hk := (gs Z).1
   have G := (hn.sts k s Z).node
   have O : ∀ c, Ok (Gp.J3 k c) (Sum.elim (fun _ : Unit => True) fun _ : Fault × Bool => True) := by
    intro c
    unfold Gp.J3
    exact Bc (fun _ => .pure trivial) fun _ => .pure trivial
   unfold Gp.B2
   refine .bind' (.ix k rfl (by omega) (Bc (fun _ => .bind' (.ix' G.1 (by omega) fun j c _ _ => Bc (fun _ => .bind' (.ix' G.1 (by omega) fun j c _ _ => O _)) fun _ => O _)) fun _ => O _))
  ·rintro (_ | d) _
   ·unfold Gp.J1; exact .pure trivial
   ·exact .pure trivial
 obtain ⟨r, h, _⟩ := this
 exact ⟨r, h⟩
def Broken (n : Nw) (p : Plan) (x : Pressures) (e : Li) : Prop := Iv n x e ∨ ∃ r, Gp n p x = some r ∧ r.2 = true
theorem Yh {n : Nw} {x : Pressures} {p : Plan} {e : Li} (Z : NetOk n) (hp : p.Pumps.length = n.Stations.length) (Y : Inv n 400000000000 x.Known x.Nodes x.Segments) (he : ExOk n e) : Ok (F9 n x p e) fun r => (r.2 = true ↔ Broken n p x e) := by
 unfold F9
 rw [Tb Z hp Y he]
 refine .bind' (.pure (De (fun h => by cases h) fun _ => .bind (Tu Z Y he) fun r1 h1 => ?_))
 obtain ⟨r2, O⟩ := Tt Z hp Y
 unfold F9.K Broken
 refine Bc (fun G => .pure ⟨fun _ => .inl (h1.1 G), fun _ => G⟩) fun G => .eq O ?_
 have aa : ¬ Iv n x e := fun h => by rw [h1.2 h] at G; cases G
 constructor
 ·exact fun h => .inr ⟨r2, O, h⟩
 ·rintro (h | ⟨r, h, h'⟩)
  ·exact absurd h aa
  ·rw [O] at h; cases h; exact h'
theorem Broken.mono {n : Nw} {p : Plan} {x : Pressures} {e e' : Li} (hl : e.length = e'.length) (h : ∀ (i : Nat) (a a' : Int), e[i]? = some a → e'[i]? = some a' → a ≤ a') (hb : Broken n p x e) : Broken n p x e' := by
 rcases hb with ⟨i, lv, s, a, y, Z, O, Y, h4, h5⟩ | O
 ·have hi := (gs Y).1
  have G : e'[i]? = some (e'[i]'(by omega)) := gq _
  have := h i a _ Y G
  exact .inl ⟨i, lv, s, _, y, Z, O, G, h4, by omega⟩
 ·exact .inr O
structure Mn (C : Bounds → Prop) (k : Bool) (b : Bounds) : Prop where
 kn : k = true ↔ ∃ c, C c
 no : k = false → b = ⟨0, 0⟩
 le : k = true → ∀ c, C c → b.Low ≤ c.Low ∧ b.High ≤ c.High
 lo : k = true → ∃ c, C c ∧ b.Low = c.Low
 hi : k = true → ∃ c, C c ∧ b.High = c.High
theorem Mn.congr {C D : Bounds → Prop} {k : Bool} {b : Bounds} (h : Mn C k b) (hc : ∀ c, D c ↔ C c) : Mn D k b := by
 have : D = C := funext fun c => propext (hc c)
 rw [this]; exact h
def oH (k : Bool) (b c : Bounds) : Bounds := if k then ⟨min b.Low c.Low, min b.High c.High⟩ else c
theorem Mn.add {C D : Bounds → Prop} {k : Bool} {b c : Bounds} (h : Mn C k b) (hc : ∀ d, D d ↔ C d ∨ d = c) : Mn D true (oH k b c) := by
 have hD : D = fun d => C d ∨ d = c := funext fun d => propext (hc d)
 subst hD
 cases k with
 | false =>
  have hn : ∀ d, ¬ C d := fun d G => by have := h.kn.2 ⟨d, G⟩; cases this
  refine ⟨by simp only [true_iff]; exact ⟨c, .inr rfl⟩, (by intro h; cases h), fun _ d G => ?_, fun _ => ⟨c, .inr rfl, rfl⟩, fun _ => ⟨c, .inr rfl, rfl⟩⟩
  rcases G with G | rfl
  ·exact absurd G (hn d)
  ·exact ⟨Int.le_refl _, Int.le_refl _⟩
 | true =>
  obtain ⟨O, Z, e1⟩ := h.lo rfl
  obtain ⟨Y, h2, e2⟩ := h.hi rfl
  refine ⟨by simp only [true_iff]; exact ⟨c, .inr rfl⟩, (by intro h; cases h), fun _ d G => ?_, fun _ => ?_, fun _ => ?_⟩
  ·simp only [oH, if_true]
   rcases G with G | rfl
   ·have := h.le rfl d G
    exact ⟨by omega, by omega⟩
   ·exact ⟨by omega, by omega⟩
  ·simp only [oH, if_true]
   by_cases hl : b.Low ≤ c.Low
   ·exact ⟨O, .inl Z, by omega⟩
   ·exact ⟨c, .inr rfl, by omega⟩
  ·simp only [oH, if_true]
   by_cases hl : b.High ≤ c.High
   ·exact ⟨Y, .inl h2, by omega⟩
   ·exact ⟨c, .inr rfl, by omega⟩
def Ik (r : Int) (lv : List Level) : Bounds := if 0 < r then ((lv[lv.length - 1]?).map (·.Bounds)).getD ⟨0, 0⟩ else ((lv[0]?).map (·.Bounds)).getD ⟨0, 0⟩
def Come (n : Nw) (p : Plan) (S : List (List Level)) (P D : Nat → Prop) (w : Int) (c : Bounds) : Prop :=
 (∃ (i : Nat) (q : Port) (x : Int), P i ∧ n.Ports[i]? = some q ∧ p.Ports[i]? = some x ∧ 0 < x ∧ q.Node = w ∧ c = ⟨q.Pressure, q.Pressure⟩) ∨
 (∃ (i : Nat) (s : Sg) (r : Int) (G : List Level), D i ∧ Flw n p i s r ∧ (Bn s r).2 = w ∧ S[i]? = some G ∧ c = Ik r G)
theorem Come.congr {n : Nw} {p : Plan} {S : List (List Level)} {P D P' D' : Nat → Prop} {w : Int} {c : Bounds} (hP : ∀ i q, n.Ports[i]? = some q → (P i ↔ P' i)) (hD : ∀ i s r, Flw n p i s r → (D i ↔ D' i)) :
  Come n p S P D w c ↔ Come n p S P' D' w c := by
 unfold Come
 constructor
 ·rintro (⟨i, q, x, O, G, Y⟩ | ⟨i, s, r, Z, O, G, Y⟩)
  ·exact .inl ⟨i, q, x, (hP i q G).1 O, G, Y⟩
  ·exact .inr ⟨i, s, r, Z, (hD i s r G).1 O, G, Y⟩
 ·rintro (⟨i, q, x, O, G, Y⟩ | ⟨i, s, r, Z, O, G, Y⟩)
  ·exact .inl ⟨i, q, x, (hP i q G).2 O, G, Y⟩
  ·exact .inr ⟨i, s, r, Z, (hD i s r G).2 O, G, Y⟩
def Sp (v : Int) : List Sg → Li → Int
 | s :: ss, r :: rs => (if (Bn s r).1 = v then max r (-r) else 0) + Sp v ss rs
 | _, _ => 0
def Gd (n : Nw) (p : Plan) (v : Int) : Int := Sp v n.Segments p.Rates
def bZ (n : Nw) (p : Plan) (v : Int) (b c : Bounds) : Prop :=
 (∃ (j : Nat) (t : Sn), n.Stations[j]? = some t ∧ t.Node = v ∧ p.Pumps[j]? = some true ∧ c = ⟨b.Low + Gc t (Gd n p v), b.High + Gc t (Gd n p v)⟩) ∨
 ((∀ (j : Nat) (t : Sn), n.Stations[j]? = some t → t.Node = v → p.Pumps[j]? ≠ some true) ∧ c = b)
section
variable {n : Nw} {b : List Batch} {pr : List Product} {f : List (List Piece)} {p : Plan} {K : List Bool} {N : List Bounds} {S : List (List Level)}
theorem Jp {α : Type} {l : List α} {k : Nat} {x : α} (h : l[k]? = some x) : l.drop k = x :: l.drop (k + 1) := by
 obtain ⟨O, G⟩ := gs h
 rw [List.drop_eq_getElem_cons O, G]
theorem N3 (hn : NetOk n) (hp : FlowOk n p) (node : Int) :
  Nu (Hr n b pr f p K N S) node = some (Gd n p node, Hr n b pr f p K N S) ∧ 0 ≤ Gd n p node ∧ Gd n p node ≤ 32000 := by
 have h1 := hn.segs1; have h2 := hp.rl
 have : Ok (Nu (Hr n b pr f p K N S) node) fun r => r = (Gd n p node, Hr n b pr f p K N S) ∧ 0 ≤ Gd n p node ∧ Gd n p node ≤ 32000 := by
  unfold Nu
  refine .bind (.forS (fun k (O : Int) => (0 ≤ O ∧ O ≤ 1000 * k) ∧ O + Sp node (n.Segments.drop k) (p.Rates.drop k) = Gd n p node) ⟨⟨by omega, by omega⟩, by simp [Gd]⟩ ?_ fun O h => h) ?_
  ·rintro k s O Z ⟨⟨i1, i2⟩, G⟩
   have hk := (gs Z).1
   simp only [Hr] at hk Z
   have hr : p.Rates[k]? = some (p.Rates[k]'(by omega)) := gq _
   have hg := hp.rng k _ s hr Z
   rw [Jp Z, Jp hr] at G
   simp only [Sp] at G
   unfold Nu.B2 Nu.J3
   refine .bind' (.eq (Bb hr) (C6 (fun Y => .pure ?_) fun Y => .pure ⟨⟨i1, by omega⟩, ?_⟩))
   ·dsimp only at Y ⊢
    rw [if_pos Y] at G
    rw [Av (x := 0 - p.Rates[k]) (by omega), Av (by omega)]
    omega
   ·dsimp only at Y
    rw [if_neg Y] at G
    omega
  ·rintro O ⟨⟨i1, i2⟩, G⟩
   unfold Nu.J1
   simp only [Hr] at i2 G
   have hd : Sp node (n.Segments.drop n.Segments.length) (p.Rates.drop n.Segments.length) = 0 := by simp [Sp]
   rw [hd] at G
   refine .pure ⟨by rw [← G]; simp, by omega, by omega⟩
 obtain ⟨r, h, rfl, h3⟩ := this
 exact ⟨h, h3⟩
theorem dK {B node : Int} (hn : NetOk n) (hp : FlowOk n p) (h : Inv n B K N S) (hB : 0 ≤ B ∧ B ≤ 1000000000000000) {v : Nat} {O : Bounds} (hg : N[v]? = some O) :
  ∃ c, bZ n p (v : Int) O c ∧ Bd (B + 2000000) c ∧ P5 (Hr n b pr f p K N S) (v : Int) = some (c, 0, Hr n b pr f p K N S) := by
 have hnl := h.nl; have h1 := hn.sts1; have h2 := hp.ml; have h3 := hn.nodes
 have Z := h.nb _ (mg hg)
 have : Ok (P5 (Hr n b pr f p K N S) (v : Int)) fun r => ∃ c, bZ n p (v : Int) O c ∧ Bd (B + 2000000) c ∧ r = (c, 0, Hr n b pr f p K N S) := by
  unfold P5
  refine .bind' (.eq (Bb (l := (Hr n b pr f p K N S).x.Nodes) hg) ?_)
  refine .bind (Q := Sum.elim (fun _ : Unit => ∀ (j : Nat) (t : Sn), n.Stations[j]? = some t → t.Node = (v : Int) → p.Pumps[j]? ≠ some true) fun d : Bounds × Int × steady_line => ∃ c, bZ n p (v : Int) O c ∧ Bd (B + 2000000) c ∧ d = (c, 0, Hr n b pr f p K N S))
   (.forL (fun k _ => ∀ (j : Nat) (t : Sn), j < k → n.Stations[j]? = some t → t.Node = (v : Int) → p.Pumps[j]? ≠ some true) (fun d => ∃ c, bZ n p (v : Int) O c ∧ Bd (B + 2000000) c ∧ d = (c, 0, Hr n b pr f p K N S)) (fun j t hj => absurd hj (Nat.not_lt_zero _)) ?_ ?_ fun _ h => h) ?_
  ·intro k s _ hs hJ
   simp only [Hr] at hs
   have hk := (gs hs).1
   have hq : p.Pumps[k]? = some (p.Pumps[k]'(by omega)) := gq _
   have no : (s.Node = (v : Int) → p.Pumps[k]'(by omega) = false) → Ok (P5.J3 (Hr n b pr f p K N S) (v : Int) (v, O) s false) (Sum.elim (fun _ : Unit => ∀ (j : Nat) (t : Sn), j < k + 1 → n.Stations[j]? = some t → t.Node = (v : Int) → p.Pumps[j]? ≠ some true) fun d : Bounds × Int × steady_line => ∃ c, bZ n p (v : Int) O c ∧ Bd (B + 2000000) c ∧ d = (c, 0, Hr n b pr f p K N S)) := by
    intro hno
    unfold P5.J3
    refine Bc (fun h => by cases h) fun _ => .pure fun j t hj Y htn => ?_
    by_cases hjk : j = k
    ·subst hjk
     rw [hs] at Y; cases Y
     rw [hq, hno htn]; simp
    ·exact hJ j t (by omega) Y htn
   unfold P5.B2
   refine C6 (fun G => .bind' (.eq (Bb (l := (Hr n b pr f p K N S).p.Pumps) hq) ?_)) fun G => no fun h => absurd h G
   dsimp only
   cases hpk : p.Pumps[k]'(by omega) with
   | false => exact no fun _ => hpk
   | true =>
    obtain ⟨e0, e1, e2⟩ := N3 (b := b) (pr := pr) (f := f) (K := K) (N := N) (S := S) hn hp (v : Int)
    unfold P5.J3
    refine Bc (fun _ => .bind' (.eq e0 ?_)) fun h => by cases h
    dsimp only
    obtain ⟨e3, e4⟩ := Rj (hn.sts k s hs) (by omega) (by omega) hB Z ⟨e1, e2⟩
    exact .bind' (.eq e3 (.pure ⟨_, .inl ⟨k, s, hs, G, by rw [hq, hpk], rfl⟩, e4, rfl⟩))
  ·intro _ hJ
   simp only [Sum.elim_inl]
   exact fun j t Y => hJ j t (gs Y).1 Y
  ·rintro (_ | d) hd
   ·unfold P5.J1
    exact .pure ⟨O, .inr ⟨hd, rfl⟩, Z.mono (by omega), rfl⟩
   ·exact .pure hd
 obtain ⟨r, h, c, h1, h2, rfl⟩ := this
 exact ⟨c, h1, h2, h⟩
theorem Rw {v : Nat} {k : Bool} {G c : Bounds} (O : K[v]? = some k) (hb : N[v]? = some G) :
  Is (Hr n b pr f p K N S) (v : Int) c = some (Hr n b pr f p (K.set v true) (N.set v (oH k G c)) S) := by
 unfold Is Is.J1
 simp only [Hr, Bb O, Bb hb, Option.bind_some]
 cases k <;> simp [oH]
theorem Tp {B : Int} {v : Nat} {k : Bool} {G c : Bounds} (h : Inv n B K N S) (Z : K[v]? = some k) (hb : N[v]? = some G) (hv : v < n.Nodes.length) (hc : Bd B c) : Inv n B (K.set v true) (N.set v (oH k G c)) S := by
 obtain ⟨l, O, K', N', rfl, Y⟩ := mG (n := n) (b := []) (pr := []) (f := []) (p := ⟨[], [], []⟩) (node := (v : Int)) h ⟨by omega, by omega⟩ hc
 rw [Rw Z hb] at O
 have := Option.some.inj O
 simp only [Hr, steady_line.mk.injEq, Pressures.mk.injEq, true_and, and_true] at this
 obtain ⟨rfl, rfl⟩ := this
 exact Y
theorem Lk : ∀ {w x : Li}, (∀ (i : Nat) (a c : Int), w[i]? = some a → x[i]? = some c → a * c ≤ 0) → G1 w x ≤ 0
 | [], _, _ => by simp [G1]
 | _ :: _, [], _ => by simp [G1]
 | a :: w, c :: x, h => by
  have Y := h 0 a c rfl rfl
  have := Lk (w := w) (x := x) fun i a c G O => h (i + 1) a c (by simpa using G) (by simpa using O)
  simp only [G1]; omega
theorem Ly : ∀ {w x : Li}, (∀ (i : Nat) (a c : Int), w[i]? = some a → x[i]? = some c → a * c ≤ 0) → (∃ (i : Nat) (a c : Int), w[i]? = some a ∧ x[i]? = some c ∧ a * c < 0) → G1 w x < 0
 | [], _, _, ⟨i, a, c, G, _⟩ => by simp at G
 | _ :: _, [], _, ⟨i, a, c, _, O, _⟩ => by simp at O
 | a :: w, c :: x, h, ⟨0, a', c', G, O, h3⟩ => by
  simp at G O
  subst G O
  have := Lk (w := w) (x := x) fun i a c G O => h (i + 1) a c (by simpa using G) (by simpa using O)
  simp only [G1]; omega
 | a :: w, c :: x, h, ⟨i + 1, a', c', G, O, h3⟩ => by
  have Y := h 0 a c rfl rfl
  have := Ly (w := w) (x := x) (fun i a c G O => h (i + 1) a c (by simpa using G) (by simpa using O)) ⟨i, a', c', by simpa using G, by simpa using O, h3⟩
  simp only [G1]; omega
theorem Tk (hn : NetOk n) (hp : FlowOk n p) {i : Nat} {s : Sg} {r : Int} {v : Nat} (hf : Flw n p i s r) (ho : (Bn s r).1 = (v : Int)) :
  (∃ (k : Nat) (q : Port) (x : Int), n.Ports[k]? = some q ∧ p.Ports[k]? = some x ∧ 0 < x ∧ q.Node = (v : Int)) ∨ (∃ j s' r', Flw n p j s' r' ∧ (Bn s' r').2 = (v : Int)) := by
 refine Classical.byContradiction fun O => ?_
 rw [not_or] at O
 obtain ⟨c1, c2⟩ := O
 have hse := (hn.segs i s hf.seg).ends
 have hv : v < 24 := by
  have := hn.nodes
  rcases Kn (s := s) hf.ne with ⟨Y, _⟩ | ⟨Y, _⟩ <;> rw [Y] at ho <;> dsimp only at ho <;> omega
 have hb := hp.bal v hv
 have t1 : ∀ (i : Nat) (a c : Int), (wt n (v : Int))[i]? = some a → p.Rates[i]? = some c → a * c ≤ 0 := by
  intro i a c h1 h2
  simp only [wt, List.getElem?_map, Option.map_eq_some_iff] at h1
  obtain ⟨s', hs', rfl⟩ := h1
  by_cases Z : c = 0
  ·subst Z; simp
  have G : (Bn s' c).2 ≠ (v : Int) := fun h => c2 ⟨i, s', c, ⟨hs', h2, Z⟩, h⟩
  rcases Kn (s := s') Z with ⟨Y, hc⟩ | ⟨Y, hc⟩ <;> rw [Y] at G <;> dsimp only at G
  ·have : ind s'.From (v : Int) = 0 := by unfold ind; rw [if_neg G]
   rw [this]
   unfold ind; split <;> omega
  ·have : ind s'.To (v : Int) = 0 := by unfold ind; rw [if_neg G]
   rw [this]
   unfold ind; split <;> omega
 have t2 : ∃ (i : Nat) (a c : Int), (wt n (v : Int))[i]? = some a ∧ p.Rates[i]? = some c ∧ a * c < 0 := by
  refine ⟨i, ind s.To (v : Int) - ind s.From (v : Int), r, by simp only [wt, List.getElem?_map, hf.seg, Option.map_some], hf.rate, ?_⟩
  have G : (Bn s r).2 ≠ (v : Int) := fun h => c2 ⟨i, s, r, hf, h⟩
  rcases Kn (s := s) hf.ne with ⟨Y, hc⟩ | ⟨Y, hc⟩ <;> rw [Y] at G ho <;> dsimp only at G ho
  ·have e1 : ind s.From (v : Int) = 0 := by unfold ind; rw [if_neg G]
   have e2 : ind s.To (v : Int) = 1 := by unfold ind; rw [if_pos ho]
   rw [e1, e2]; omega
  ·have e1 : ind s.To (v : Int) = 0 := by unfold ind; rw [if_neg G]
   have e2 : ind s.From (v : Int) = 1 := by unfold ind; rw [if_pos ho]
   rw [e1, e2]; omega
 have t3 : ∀ (i : Nat) (a c : Int), (wp n (v : Int))[i]? = some a → p.Ports[i]? = some c → a * c ≤ 0 := by
  intro i a c h1 h2
  simp only [wp, List.getElem?_map, Option.map_eq_some_iff] at h1
  obtain ⟨q, hq, rfl⟩ := h1
  by_cases aa : q.Node = (v : Int)
  ·have : ¬ 0 < c := fun h => c1 ⟨i, q, c, hq, h2, h, aa⟩
   unfold ind; rw [if_pos aa]; omega
  ·unfold ind; rw [if_neg aa]; omega
 have := Ly t1 t2
 have := Lk t3
 omega
end
end Go.Proofs.YtodeekicjiengaaGreatDoor
