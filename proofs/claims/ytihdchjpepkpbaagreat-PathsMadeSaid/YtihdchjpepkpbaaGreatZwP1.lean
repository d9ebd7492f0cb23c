/- Plain proofs. No condition. -/
import Derived.Test.YtihdchjpepkpbaaGreatZwP0
import Derived.Test.YtihdchjpepkpbaaGreatZwD
set_option maxRecDepth 100000
namespace Go.Aw
set_option linter.unusedVariables false
set_option linter.unusedSimpArgs false
theorem Ok.any {α B : Type} {f : Nat → α → Unit → Option (Unit ⊕ B)} {l : List α} {d : B} (P : Nat → α → Prop)
  (hf : ∀ (k : Nat) x, l[k]? = some x → Ok (f k x ()) fun o => (P k x ∧ o = .inr d) ∨ (¬ P k x ∧ o = .inl ())) :
  Ok (Aw.forL f 0 l ()) fun o => ((∃ (k : Nat) (x : α), l[k]? = some x ∧ P k x) ∧ o = .inr d) ∨ ((∀ (k : Nat) (x : α), l[k]? = some x → ¬ P k x) ∧ o = .inl ()) := by
 refine .forL (fun m _ => ∀ (k : Nat) (x : α), k < m → l[k]? = some x → ¬ P k x) (fun b => b = d ∧ ∃ (k : Nat) (x : α), l[k]? = some x ∧ P k x) (fun k x h => absurd h (Nat.not_lt_zero _)) ?_ ?_ ?_
 ·intro k x _ G W
  refine (hf k x G).mono ?_
  rintro o (⟨h, rfl⟩ | ⟨h, rfl⟩)
  ·exact ⟨rfl, k, x, G, h⟩
  ·intro j y X O
   by_cases M : j = k
   ·subst M; rw [G] at O; cases O; exact h
   ·exact W j y (by omega) O
 ·exact fun _ h => .inr ⟨fun k x G => h k x (gs G).1 G, rfl⟩
 ·rintro b ⟨rfl, h⟩; exact .inl ⟨h, rfl⟩
theorem Jz {B : Type} {f : Nat → Unit → Option (Unit ⊕ B)} {n : Nat} {d : B} (P : Nat → Prop)
  (hf : ∀ (k : Nat), k < n → Ok (f k ()) fun o => (P k ∧ o = .inr d) ∨ (¬ P k ∧ o = .inl ())) :
  Ok (Aw.forI f 0 n ()) fun o => ((∃ k, k < n ∧ P k) ∧ o = .inr d) ∨ ((∀ k, k < n → ¬ P k) ∧ o = .inl ()) := by
 refine .forI (fun m _ => ∀ k, k < m → ¬ P k) (fun b => b = d ∧ ∃ k, k < n ∧ P k) (fun k h => absurd h (Nat.not_lt_zero _)) ?_ ?_ ?_
 ·intro k _ M O
  refine (hf k M).mono ?_
  rintro o (⟨h, rfl⟩ | ⟨h, rfl⟩)
  ·exact ⟨rfl, k, M, h⟩
  ·intro j W
   by_cases G : j = k
   ·subst G; exact h
   ·exact O j (by omega)
 ·exact fun _ h => .inr ⟨h, rfl⟩
 ·rintro b ⟨rfl, h⟩; exact .inl ⟨h, rfl⟩
theorem Ok.test {B : Type} {c : Bool} {d : B} {P : Prop} (h : c = true ↔ P) : Ok (if c = true then some (.inr d) else some (.inl ()) : Option (Unit ⊕ B)) fun o => (P ∧ o = .inr d) ∨ (¬ P ∧ o = .inl ()) := by
 by_cases G : c = true
 ·rw [if_pos G]; exact .pure (.inl ⟨h.1 G, rfl⟩)
 ·rw [if_neg G]; exact .pure (.inr ⟨fun M => G (h.2 M), rfl⟩)
theorem Ig {α B : Type} {l : List α} {k : Nat} {d : B} {f : Int → Option (Int ⊕ (B ⊕ Unit))} (P : α → Prop) (hk : k ≤ l.length) (hl : l.length ≤ 1000000)
  (hf : ∀ (i : Nat) (y : α), i < k → l[i]? = some y → Ok (f (i : Int)) fun o => (P y ∧ o = .inr (.inl d)) ∨ (¬ P y ∧ o = .inl (wr ((i : Int) + 1)))) (he : f (k : Int) = some (.inr (.inr ()))) :
  Ok (Cl f Du 0) fun o => ((∃ (j : Nat) (y : α), j < k ∧ l[j]? = some y ∧ P y) ∧ o = .inl d) ∨ ((¬ ∃ (j : Nat) (y : α), j < k ∧ l[j]? = some y ∧ P y) ∧ o = .inr ()) := by
 refine .loop (fun i : Int => 0 ≤ i ∧ i ≤ (k : Int) ∧ ∀ (j : Nat) (y : α), (j : Int) < i → l[j]? = some y → ¬ P y) (fun i => k - i.toNat) ⟨by omega, by omega, fun j y h => by omega⟩ (by omega) ?_
 rintro i ⟨i0, i1, X⟩
 obtain ⟨i, rfl⟩ : ∃ m : Nat, i = (m : Int) := ⟨i.toNat, by omega⟩
 by_cases O : i = k
 ·subst O
  rw [he]
  exact .pure (.inr ⟨fun ⟨j, y, Y, M, Z⟩ => X j y (by omega) M Z, rfl⟩)
 have M : l[i]? = some (l[i]'(by omega)) := gq _
 refine (hf i _ (by omega) M).mono ?_
 rintro o (⟨h, rfl⟩ | ⟨h, rfl⟩)
 ·exact .inl ⟨⟨i, _, by omega, M, h⟩, rfl⟩
 ·simp only [Sum.elim_inl]
  rw [Bn (by omega)]
  refine ⟨⟨by omega, by omega, fun j y Y G => ?_⟩, by omega⟩
  by_cases W : j = i
  ·subst W; rw [M] at G; cases G; exact h
  ·exact X j y (by omega) G
theorem Tk {α β : Type} {l : List α} {st : List β} {g : α → List β} {f : Nat → α → List β → Option (List β)} (hf : ∀ k x st, f k x st = (C0 st (g x)).bind fun y => some y) (hg : ∀ x, (g x).length ≤ 2) (hl : l.length ≤ 1000) (hs : st.length ≤ 1000000) :
  Ok (Aw.forS f 0 l st) fun r => r = st ++ l.flatMap g ∧ r.length ≤ st.length + 2000 := by
 refine .forS (fun k r => r = st ++ (l.take k).flatMap g ∧ r.length ≤ st.length + 2 * k) (by simp) ?_ fun r h => ⟨by rw [h.1]; simp, by omega⟩
 rintro k x r G ⟨rfl, h⟩
 rw [hf]
 have M := (gs G).1
 have := hg x
 refine .bind' (.app (by omega) (.pure ⟨?_, by rw [List.length_append]; omega⟩))
 rw [List.take_add_one, G]; simp
theorem C4 {α : Type} {c : Bool} {Q : Prop} {x y : Option α} {P : α → Prop} (h : c = true ↔ Q) (h1 : Q → Ok x P) (h2 : ¬ Q → Ok y P) : Ok (if c = true then x else y) P :=
 kL (fun G => h1 (h.1 G)) fun G => h2 fun M => G (h.2 M)
end Go.Aw
namespace Go.Proofs.YtihdchjpepkpbaaGreat
set_option linter.unusedVariables false
set_option linter.unusedSimpArgs false
open Go.Aw
theorem Ib {α β : Type} {l : List α} {g : α → β} {f : Nat → α → List β → Option (List β)} (hf : ∀ k x st, f k x st = (C0 st [g x]).bind fun y => some y) (hl : l.length ≤ 1000) :
  Ok (forS f 0 l []) fun r => r = l.map g := by
 refine .forS (fun k st => st = (l.take k).map g) (by simp) ?_ fun st h => by rw [h]; simp
 rintro k x st G rfl
 rw [hf]
 have M := (gs G).1
 refine .bind' (.app (by simp; omega) (.pure ?_))
 rw [List.take_add_one, G]
 simp
theorem Ux {n : Nw} (h1 : n.Segments.length ≤ 1000) (h2 : n.Ports.length ≤ 1000) (G : n.Stations.length ≤ 1000) :
  Ok (L4 n) fun r => r.l = [n.Nodes, n.Segments.map (·.Name), n.Ports.map (·.Name), n.Stations.map (·.Name)] := by
 unfold L4
 refine .bind (Ib (g := (·.Name)) (fun _ _ _ => rfl) h1) ?_
 rintro _ rfl
 unfold L4.J1
 refine .bind (Ib (g := (·.Name)) (fun _ _ _ => rfl) h2) ?_
 rintro _ rfl
 unfold L4.J2
 refine .bind (Ib (g := (·.Name)) (fun _ _ _ => rfl) G) ?_
 rintro _ rfl
 unfold L4.J3
 exact .pure rfl
theorem dW (a : Bt) : T3 a a = true := by simp [T3]
def bX (n : Nw) : List (List Bt) := [n.Nodes, n.Segments.map (·.Name), n.Ports.map (·.Name), n.Stations.map (·.Name)]
def Nk (s : Sg) : Prop := 2 ≤ s.Points.length ∧ s.Points.length ≤ 8
def Lim (n : Nw) : Prop := (1 ≤ n.Nodes.length ∧ n.Nodes.length ≤ 24 ∧ n.Segments.length ≤ 32 ∧ n.Ports.length ≤ 24 ∧ n.Stations.length ≤ 12) ∧ ∀ (k : Nat) (s : Sg), n.Segments[k]? = some s → Nk s
def low (c : Int) : Prop := 97 ≤ c ∧ c ≤ 122
def ch (x : Bt) (k : Nat) : Int := ((x.data.getD k 0).toNat : Int)
def Jk (x : Bt) : Prop := (1 ≤ x.size ∧ x.size ≤ 12 ∧ low (ch x 0)) ∧ ∀ k, k < x.size → low (ch x k) ∨ (48 ≤ ch x k ∧ ch x k ≤ 57) ∨ ch x k = 45
def Wp (l : List Bt) : Prop := ∃ (k : Nat) (x : Bt), l[k]? = some x ∧ ¬ Jk x
def H5 (n : Nw) : Prop := ∃ k, k < 4 ∧ ∃ l, (bX n)[k]? = some l ∧ Wp l
def cP (l : List Bt) (k : Nat) (x : Bt) : Prop := ∃ (j : Nat) (y : Bt), j < k ∧ l[j]? = some y ∧ x.toList = y.toList
def kP (l : List Bt) : Prop := ∃ (k : Nat) (x : Bt), l[k]? = some x ∧ cP l k x
def Wo (l : List Sn) (k : Nat) (x : Sn) : Prop := ∃ (j : Nat) (y : Sn), j < k ∧ l[j]? = some y ∧ x.Node = y.Node
def Ns (n : Nw) : Prop := ∃ k, k < 4 ∧ ∃ l, (bX n)[k]? = some l ∧ kP l
def Nr (n : Nw) : Prop := ∃ (k : Nat) (x : Sn), n.Stations[k]? = some x ∧ Wo n.Stations k x
def At (n : Nw) (k : Int) : Prop := 0 ≤ k ∧ k < (n.Nodes.length : Int)
def Nl (n : Nw) : Prop := (∀ (k : Nat) (s : Sg), n.Segments[k]? = some s → At n s.From ∧ At n s.To) ∧ (∀ (k : Nat) (s : Port), n.Ports[k]? = some s → At n s.Node) ∧ ∀ (k : Nat) (s : Sn), n.Stations[k]? = some s → At n s.Node
def cO (p : Point) : Prop := (-500 ≤ p.Height ∧ p.Height ≤ 5000) ∧ 0 ≤ p.Limit ∧ p.Limit ≤ 100000000
def Is (s : Sg) (k : Nat) (p : Point) : Prop := ¬ cO p ∨ ∃ q, 0 < k ∧ s.Points[k - 1]? = some q ∧ p.At ≤ q.At
structure PipeOk (s : Segment) : Prop where
 ends : s.From ≠ s.To
 cap : 1 ≤ s.Capacity ∧ s.Capacity ≤ 1000000
 resist : 0 ≤ s.Resist ∧ s.Resist ≤ 1000
 wave : 0 ≤ s.Wave ∧ s.Wave ≤ 100000
 first : ∀ p, s.Points[0]? = some p → p.At = 0
 last : ∀ p, s.Points[s.Points.length - 1]? = some p → p.At = s.Capacity
 pts : ∀ (k : Nat) (p : Point), s.Points[k]? = some p → ¬ Is s k p
structure StnOk (s : Station) : Prop where
 head : 0 ≤ s.Head ∧ s.Head ≤ 100000000
 fall : 0 ≤ s.Fall ∧ s.Fall ≤ 100000
 suction : 0 ≤ s.Suction ∧ s.Suction ≤ 100000000
structure Proper (n : Network) : Prop where
 segs : ∀ (k : Nat) (s : Sg), n.Segments[k]? = some s → PipeOk s
 ports : ∀ (k : Nat) (s : Port), n.Ports[k]? = some s → 0 ≤ s.Pressure ∧ s.Pressure ≤ 100000000
 sts : ∀ (k : Nat) (s : Sn), n.Stations[k]? = some s → StnOk s
 vapour : -100000 ≤ n.Vapour ∧ n.Vapour ≤ 100000000
 settle : 0 ≤ n.Settle ∧ n.Settle ≤ 100
def NetRes (n : Nw) (r : Int) : Prop := (¬ Lim n ∧ r = 4) ∨ (Lim n ∧ ((H5 n ∧ r = 3) ∨ (¬ H5 n ∧ (((Ns n ∨ Nr n) ∧ r = 7) ∨ (¬ (Ns n ∨ Nr n) ∧ ((¬ Nl n ∧ r = 8) ∨ (Nl n ∧ ((¬ Proper n ∧ r = 9) ∨ (Proper n ∧ r = 0)))))))))
theorem NetRes.uniq {n : Nw} {r r' : Int} (h : NetRes n r) (G : NetRes n r') : r = r' := by
 unfold NetRes at h G
 rcases h with ⟨a, rfl⟩ | ⟨a, ⟨b, rfl⟩ | ⟨b, ⟨c, rfl⟩ | ⟨c, ⟨d, rfl⟩ | ⟨d, ⟨e, rfl⟩ | ⟨e, rfl⟩⟩⟩⟩⟩ <;>
  rcases G with ⟨M, rfl⟩ | ⟨M, ⟨O, rfl⟩ | ⟨O, ⟨W, rfl⟩ | ⟨W, ⟨X, rfl⟩ | ⟨X, ⟨Y, rfl⟩ | ⟨Y, rfl⟩⟩⟩⟩⟩ <;> first | rfl | contradiction
structure Sane (n : Network) : Prop where
 nodes : n.Nodes.length ≤ 1000
 segs : n.Segments.length ≤ 1000
 ports : n.Ports.length ≤ 1000
 sts : n.Stations.length ≤ 1000
 pts : ∀ (k : Nat) (s : Sg), n.Segments[k]? = some s → s.Points.length ≤ 1000
theorem Ju {a b : Bt} : T3 a b = true ↔ a.toList = b.toList := by simp [T3]
theorem M9 {x : Bt} {k : Nat} (h : k < x.size) : iW x (k : Int) = some (k, ch x k) := by
 unfold iW ch; rw [if_pos ⟨by omega, by omega⟩]; simp
theorem iO {c : Bool} {P : Prop} (h : c = true ↔ P) : (c = true ∧ P) ∨ (c = false ∧ ¬ P) := by
 cases c
 ·exact .inr ⟨rfl, fun G => by cases h.2 G⟩
 ·exact .inl ⟨rfl, h.1 rfl⟩
theorem Kg {x : Bt} : Ok (G9 x) fun r => r = true ↔ Jk x := by
 have W : ¬ (1 ≤ x.size ∧ x.size ≤ 12 ∧ low (ch x 0)) → Ok (G9.J1 x true) fun r => r = true ↔ Jk x := fun h => by
  unfold G9.J1
  exact .pure ⟨fun h => (by cases h), fun O => absurd O.1 h⟩
 unfold G9
 refine Ax (fun h => W (by omega)) fun X => Ax (fun h => W (by omega)) fun Y => ?_
 refine .bind' (.eq (M9 (k := 0) (by omega)) ?_)
 have e : (Hw (ch x 0) != 1) = true ↔ ¬ low (ch x 0) := by
  unfold Hw Hw.J1 low
  by_cases a : (decide (ch x 0 ≥ 97) && decide (ch x 0 ≤ 122)) = true
  ·rw [if_pos a]; simp at a ⊢; omega
  ·rw [if_neg a]
   simp at a
   refine ⟨fun _ => by omega, fun _ => ?_⟩
   split <;> (try split) <;> rfl
 rcases iO e with ⟨e, G⟩ | ⟨e, G⟩
 ·dsimp only; rw [e]; exact W (fun h => G h.2.2)
 dsimp only
 rw [e]
 unfold G9.J1
 refine A7 (fun h => by cases h) fun _ => .bind' (.chk (by omega) ?_)
 refine .bind (Jz (d := false) (P := fun k => ¬ (low (ch x k) ∨ (48 ≤ ch x k ∧ ch x k ≤ 57) ∨ ch x k = 45)) fun k M => ?_) ?_
 ·unfold G9.B3
  refine .bind' (.eq (M9 (by simpa using M)) (.test ?_))
  dsimp only
  unfold Hw Hw.J1 low
  split
  ·rename_i h; simp at h ⊢; omega
  ·split
   ·rename_i h; simp at h ⊢; omega
   ·split
    ·rename_i h; simp at h ⊢; omega
    ·rename_i X Y G; simp at X Y G ⊢; omega
 ·rintro _ (⟨⟨k, M, h⟩, rfl⟩ | ⟨h, rfl⟩)
  ·exact .pure ⟨fun h => (by cases h), fun O => absurd (O.2 k (by simpa using M)) h⟩
  ·refine .pure ⟨fun _ => ⟨⟨by omega, by omega, Classical.not_not.1 G⟩, fun k M => Classical.not_not.1 (h k (by simpa using M))⟩, fun _ => rfl⟩
theorem Wt {k0 : Nat} {l : List Bt} : Ok (forL (Nx.B6 (k0, l)) 0 l ()) fun o => (kP l ∧ o = .inr true) ∨ (¬ kP l ∧ o = .inl ()) := by
 refine (Ok.any (d := true) (P := cP l) fun k x O => ?_).mono fun o h => h.imp (fun h => h) fun h => ⟨fun ⟨k, x, O, X⟩ => h.1 k x O X, h.2⟩
 unfold Nx.B6
 refine .bind Ip fun r hr => .test ?_
 rcases hr with ⟨rfl, h⟩ | ⟨j, y, rfl, Z, Y, M⟩
 ·have := h k x O
  rw [dW] at this; cases this
 ·simp only [decide_eq_true_eq]
  refine ⟨fun h => ⟨j, y, by omega, Z, Ju.1 Y⟩, fun ⟨i, z, hi, hz, W⟩ => ?_⟩
  by_cases G : i < j
  ·have := M i z G hz
   rw [Ju.2 W] at this; cases this
  ·omega
theorem Xt {n : Nw} {l : List (List Bt)} (h : l = bX n) {k : Nat} (G : k < 4) : ∃ x, l[k]? = some x ∧ (bX n)[k]? = some x := by
 subst h
 exact ⟨(bX n)[k]'G, gq _, gq _⟩
theorem dQ {n : Nw} (Y : Sane n) : Ok (Nx n) fun r => r = true ↔ (Ns n ∨ Nr n) := by
 unfold Nx
 refine .bind (Ux Y.segs Y.ports Y.sts) fun r Z => .bind (Jz (d := true) (P := fun k => ∃ l, (bX n)[k]? = some l ∧ kP l) fun k W => ?_) ?_
 ·obtain ⟨l, h1, G⟩ := Xt Z W
  unfold Nx.B4
  refine .bind' (.eq (A8 h1) (.bind Wt ?_))
  rintro _ (⟨h, rfl⟩ | ⟨h, rfl⟩)
  ·exact .pure (.inl ⟨⟨l, G, h⟩, rfl⟩)
  ·refine .pure (.inr ⟨fun ⟨m, h3, h4⟩ => ?_, rfl⟩)
   rw [G] at h3; cases h3; exact h h4
 rintro _ (⟨h, rfl⟩ | ⟨h, rfl⟩)
 ·exact .pure ⟨fun _ => .inl h, fun _ => rfl⟩
 unfold Nx.J1
 refine .bind (Ok.any (d := true) (P := Wo n.Stations) fun k x hx => ?_) ?_
 ·unfold Nx.B3
  refine .bind (Dx (P := fun y => Hv y x) fun _ _ _ => rfl) fun r Z => .test ?_
  rcases Z with ⟨rfl, h⟩ | ⟨j, y, rfl, hj, he, X⟩
  ·have := h k x hx
   simp [Hv] at this
  ·simp only [decide_eq_true_eq]
   refine ⟨fun h => ⟨j, y, by omega, hj, by simp [Hv] at he; exact he.symm⟩, fun ⟨i, z, hi, hz, hxz⟩ => ?_⟩
   by_cases O : i < j
   ·have := X i z O hz
    simp [Hv, hxz] at this
   ·omega
 ·rintro _ (⟨M, rfl⟩ | ⟨M, rfl⟩)
  ·exact .pure ⟨fun _ => .inr M, fun _ => rfl⟩
  ·refine .pure ⟨fun h => (by cases h), fun G => ?_⟩
   rcases G with ⟨k, W, G⟩ | ⟨k, x, hx, hd⟩
   ·exact absurd G (h k W)
   ·exact absurd hd (M k x hx)
theorem eD {n : Nw} (W : Sane n) : Ok (O8 n) fun r => r = true ↔ Nl n := by
 unfold O8
 refine .bind (Tk (g := fun s : Sg => [s.From, s.To]) (fun _ _ _ => rfl) (fun _ => by simp) W.segs (by simp)) ?_
 rintro l1 ⟨X, M⟩
 unfold O8.J1
 refine .bind (Tk (g := fun s : Port => [s.Node]) (fun _ _ _ => rfl) (fun _ => by simp) W.ports (by simp at M; omega)) ?_
 rintro l2 ⟨Y, aa⟩
 unfold O8.J2
 refine .bind (Tk (g := fun s : Sn => [s.Node]) (fun _ _ _ => rfl) (fun _ => by simp) W.sts (by simp at M; omega)) ?_
 rintro l3 ⟨Z, -⟩
 subst Z Y X
 unfold O8.J3
 refine .bind' (.eq (Fw (P := fun x => I9 x n) fun _ _ _ => rfl) (.pure ?_))
 have e : ∀ x, I9 x n = false ↔ At n x := fun x => by unfold At; simp [I9]
 rw [Bool.not_eq_true', List.any_eq_false]
 simp only [List.nil_append, List.mem_append, List.mem_flatMap, List.mem_cons, List.not_mem_nil, or_false, Bool.not_eq_true, e]
 refine ⟨fun h => ⟨fun k s G => ⟨h _ (.inl (.inl ⟨s, mg G, .inl rfl⟩)), h _ (.inl (.inl ⟨s, mg G, .inr rfl⟩))⟩, fun k s G => h _ (.inl (.inr ⟨s, mg G, rfl⟩)), fun k s G => h _ (.inr ⟨s, mg G, rfl⟩)⟩, fun h x hx => ?_⟩
 rcases hx with (⟨s, G, rfl | rfl⟩ | ⟨s, G, rfl⟩) | ⟨s, G, rfl⟩ <;> obtain ⟨k, O⟩ := List.getElem?_of_mem G
 ·exact (h.1 k s O).1
 ·exact (h.1 k s O).2
 ·exact h.2.1 k s O
 ·exact h.2.2 k s O
theorem Wk {a b c : Int} : C7 a b c = true ↔ b ≤ a ∧ a ≤ c := by simp [C7]
theorem Jw {a b c : Int} : (!(C7 a b c)) = true ↔ ¬ (b ≤ a ∧ a ≤ c) := by rw [← Wk]; simp
theorem X1 {s : Sg} (hs : s.Points.length ≤ 1000) {k : Nat} {p : Point} (M : s.Points[k]? = some p) (O : 0 < k) : ∃ q, s.Points[k - 1]? = some q ∧ ix s.Points (wr ((k : Int) - 1)) = some (k - 1, q) := by
 have W := (gs M).1
 have G : s.Points[k - 1]? = some (s.Points[k - 1]'(by omega)) := gq _
 refine ⟨_, G, ?_⟩
 rw [Bn (by omega), show ((k : Int) - 1) = ((k - 1 : Nat) : Int) by omega]
 exact A8 G
theorem Yf {s : Sg} {k : Nat} {p q : Point} (h : cO p) (W : 0 < k) (O : s.Points[k - 1]? = some q) : Is s k p ↔ p.At ≤ q.At := by
 refine ⟨fun G => ?_, fun G => .inr ⟨q, W, O, G⟩⟩
 rcases G with G | ⟨X, _, M, G⟩
 ·exact absurd h G
 ·rw [O] at M; cases M; exact G
theorem Yc {s : Sg} (h2 : 2 ≤ s.Points.length ∧ s.Points.length ≤ 1000) : ∃ p q, s.Points[0]? = some p ∧ s.Points[s.Points.length - 1]? = some q ∧ ix s.Points 0 = some (0, p) ∧ ix s.Points (wr ((s.Points.length : Int) - 1)) = some (s.Points.length - 1, q) := by
 have G : s.Points[0]? = some (s.Points[0]'(by omega)) := gq _
 have M : s.Points[s.Points.length - 1]? = some (s.Points[s.Points.length - 1]'(by omega)) := gq _
 refine ⟨_, _, G, M, A8 G, ?_⟩
 rw [Bn (by omega), show ((s.Points.length : Int) - 1) = ((s.Points.length - 1 : Nat) : Int) by omega]
 exact A8 M
theorem X3 {s : Sg} (h2 : 2 ≤ s.Points.length ∧ s.Points.length ≤ 1000) : Ok (Jh s) fun r => r = true ↔ PipeOk s := by
 obtain ⟨p0, pl, Y, Z, i0, il⟩ := Yc h2
 unfold Jh
 refine C4 (Q := ¬ (s.From ≠ s.To ∧ (1 ≤ s.Capacity ∧ s.Capacity ≤ 1000000) ∧ (0 ≤ s.Resist ∧ s.Resist ≤ 1000) ∧ 0 ≤ s.Wave ∧ s.Wave ≤ 100000)) ?_ (fun h => .pure ⟨fun h => (by cases h), fun G => absurd ⟨G.ends, G.cap, G.resist, G.wave⟩ h⟩) fun h => ?_
 ·simp only [Bool.or_eq_true, Jw, beq_iff_eq]; omega
 obtain ⟨a1, a2, a3, a4⟩ := Classical.not_not.1 h
 refine .bind (Ok.any (d := false) (P := Is s) fun k p G => ?_) ?_
 ·have X : ∀ b : Bool, (b = true ↔ Is s k p) → Ok (Jh.J4 b) fun o => (Is s k p ∧ o = .inr false) ∨ (¬ Is s k p ∧ o = .inl ()) := fun b h => by unfold Jh.J4; exact .test h
  unfold Jh.B3
  refine C4 Jw (fun h => X _ ⟨fun _ => .inl fun M => h M.1, fun _ => rfl⟩) fun h1 => C4 Jw (fun h => X _ ⟨fun _ => .inl fun M => h M.2, fun _ => rfl⟩) fun h3 => ?_
  have M : cO p := ⟨Classical.not_not.1 h1, Classical.not_not.1 h3⟩
  refine Ax (fun O => ?_) fun O => X _ ⟨fun h => (by cases h), fun W => ?_⟩
  ·obtain ⟨q, hq, hi⟩ := X1 h2.2 G (by omega)
   exact .bind' (.eq hi (X _ (by rw [Yf M (by omega) hq]; simp)))
  ·rcases W with W | ⟨q, hk, _⟩
   ·exact absurd M W
   ·omega
 ·rintro _ (⟨⟨k, p, G, W⟩, rfl⟩ | ⟨h, rfl⟩)
  ·exact .pure ⟨fun h => (by cases h), fun h => absurd W (h.pts k p G)⟩
  ·simp only [Sum.elim_inl]
   unfold Jh.J1 Jh.J2
   rw [i0, il]
   refine .bind' (.pure (C4 (Q := p0.At = 0) (by simp) (fun O => .bind' (.pure (.pure ?_))) fun O => .pure ⟨fun h => (by cases h), fun h => absurd (h.first _ Y) O⟩))
   dsimp only
   rw [beq_iff_eq]
   refine ⟨fun hl => ⟨a1, a2, a3, a4, fun p G => ?_, fun p G => ?_, h⟩, fun G => G.last _ Z⟩
   ·rw [Y] at G; cases G; exact O
   ·rw [Z] at G; cases G; exact hl
theorem Ie {α : Type} {l : List α} {P : α → Bool} {Q : α → Prop} (h : ∀ (k : Nat) (x : α), l[k]? = some x → (P x = true ↔ Q x)) : l.any P = true ↔ ∃ (k : Nat) (x : α), l[k]? = some x ∧ Q x := by
 rw [List.any_eq_true]
 refine ⟨fun ⟨x, G, O⟩ => ?_, fun ⟨k, x, G, W⟩ => ⟨x, mg G, (h k x G).2 W⟩⟩
 obtain ⟨k, M⟩ := List.getElem?_of_mem G
 exact ⟨k, x, M, (h k x M).1 O⟩
theorem Lim.pts {n : Nw} (hl : Lim n) {k : Nat} {s : Sg} (hs : n.Segments[k]? = some s) : 2 ≤ s.Points.length ∧ s.Points.length ≤ 1000 := by
 have := hl.2 k s hs; unfold Nk at this; omega
theorem kE {n : Nw} : Ok (Ol n) fun r => r = true ↔ Lim n := by
 unfold Ol
 refine C4 (Q := ¬ (1 ≤ n.Nodes.length ∧ n.Nodes.length ≤ 24 ∧ n.Segments.length ≤ 32 ∧ n.Ports.length ≤ 24 ∧ n.Stations.length ≤ 12)) (by simp; omega) (fun h => .pure ⟨fun h => (by cases h), fun G => absurd G.1 h⟩) fun h => ?_
 refine .bind' (.eq (Dt (P := fun x => I8 x) fun _ _ _ => rfl) (.pure ?_))
 have e := Ie (l := n.Segments) (P := fun x => I8 x) (Q := fun s => ¬ Nk s) fun k s _ => by simp [I8, Nk]; omega
 rw [Bool.not_eq_true', ← Bool.not_eq_true, e]
 exact ⟨fun W => ⟨Classical.not_not.1 h, fun k s O => Classical.not_not.1 fun M => W ⟨k, s, O, M⟩⟩, fun G ⟨k, s, O, M⟩ => M (G.2 k s O)⟩
theorem Yt {n : Nw} (hl : Lim n) : Ok (Ta n) fun r => r = true ↔ Proper n := by
 unfold Ta
 refine .bind' (.eq (Dt (P := fun s => !((Jh s).getD false)) fun k s G => ?_) ?_)
 ·obtain ⟨b, O, _⟩ := X3 (hl.pts G)
  unfold Sv
  rw [O]; rfl
 have W := Ie (l := n.Segments) (P := fun s => !((Jh s).getD false)) (Q := fun s => ¬ PipeOk s) fun k s G => by
  obtain ⟨b, O, he⟩ := X3 (hl.pts G)
  rw [O, ← he]; simp
 refine C4 W (fun ⟨k, s, G, M⟩ => .pure ⟨fun h => (by cases h), fun h => absurd (h.segs k s G) M⟩) fun Z => ?_
 refine .bind' (.eq (Fh (P := fun x => Ja x) fun _ _ _ => rfl) ?_)
 have X := Ie (l := n.Ports) (P := fun x => Ja x) (Q := fun s => ¬ (0 ≤ s.Pressure ∧ s.Pressure ≤ 100000000)) fun k s G => by unfold Ja; exact Jw
 refine C4 X (fun ⟨k, s, G, M⟩ => .pure ⟨fun h => (by cases h), fun h => absurd (h.ports k s G) M⟩) fun h2 => ?_
 refine .bind' (.eq (Eo (P := fun x => Jf x) fun _ _ _ => rfl) ?_)
 have Y := Ie (l := n.Stations) (P := fun x => Jf x) (Q := fun s => ¬ StnOk s) fun k s G => by
  unfold Jf
  simp only [Bool.or_eq_true, Jw]
  exact ⟨fun h G => h.elim (fun h => h G.head) fun h => h.elim (fun h => h G.fall) fun h => h G.suction, fun h => Classical.byContradiction fun hn => h ⟨by omega, by omega, by omega⟩⟩
 refine C4 Y (fun ⟨k, s, G, M⟩ => .pure ⟨fun h => (by cases h), fun h => absurd (h.sts k s G) M⟩) fun h3 => .pure ?_
 rw [Bool.and_eq_true, Wk, Wk]
 exact ⟨fun h => ⟨fun k s G => Classical.not_not.1 fun M => Z ⟨k, s, G, M⟩, fun k s G => Classical.not_not.1 fun M => h2 ⟨k, s, G, M⟩, fun k s G => Classical.not_not.1 fun M => h3 ⟨k, s, G, M⟩, h.1, h.2⟩, fun h => ⟨h.vapour, h.settle⟩⟩
theorem Lim.sane {n : Nw} (h : Lim n) : Sane n := by
 have := h.1
 exact ⟨by omega, by omega, by omega, by omega, fun k s G => by have := h.2 k s G; unfold Nk at this; omega⟩
theorem X5 {n : Nw} : Ok (Dw n) (NetRes n) := by
 unfold Dw
 refine .bind kE fun r1 h1 => C4 (Q := ¬ Lim n) (by rw [← h1]; simp) (fun h => .pure (.inl ⟨h, rfl⟩)) fun Y => ?_
 have M := Classical.not_not.1 Y
 have O := M.sane
 refine .bind (Ux O.segs O.ports O.sts) fun r hr => .bind (Jz (d := 3) (P := fun k => ∃ l, (bX n)[k]? = some l ∧ Wp l) fun k G => ?_) ?_
 ·obtain ⟨l, g1, g2⟩ := Xt hr G
  unfold Dw.B2
  refine .bind' (.eq (A8 g1) (.bind' (.eq (Gl (P := fun x => !((G9 x).getD false)) fun j x hx => ?_) (.test ?_))))
  ·obtain ⟨b, X, _⟩ := Kg (x := x)
   unfold S3
   rw [X]; rfl
  ·rw [Ie (Q := fun x => ¬ Jk x) fun j x hx => by obtain ⟨b, X, he⟩ := Kg (x := x); rw [X, ← he]; simp]
   exact ⟨fun h => ⟨l, g2, h⟩, fun ⟨m, g3, h⟩ => by rw [g2] at g3; cases g3; exact h⟩
 rintro _ (⟨h, rfl⟩ | ⟨h, rfl⟩)
 ·exact .pure (.inr ⟨M, .inl ⟨h, rfl⟩⟩)
 have W : ¬ H5 n := fun ⟨k, G, h'⟩ => h k G h'
 simp only [Sum.elim_inl]
 unfold Dw.J1
 refine .bind (dQ O) fun r2 h2 => C4 h2 (fun h => .pure (.inr ⟨M, .inr ⟨W, .inl ⟨h, rfl⟩⟩⟩)) fun Z => ?_
 refine .bind (eD O) fun r3 h3 => C4 (Q := ¬ Nl n) (by rw [← h3]; simp) (fun h => .pure (.inr ⟨M, .inr ⟨W, .inr ⟨Z, .inl ⟨h, rfl⟩⟩⟩⟩)) fun G => ?_
 have G := Classical.not_not.1 G
 refine .bind (Yt M) fun r4 h4 => C4 (Q := ¬ Proper n) (by rw [← h4]; simp) (fun h => .pure (.inr ⟨M, .inr ⟨W, .inr ⟨Z, .inr ⟨G, .inl ⟨h, rfl⟩⟩⟩⟩⟩)) fun hp => ?_
 exact .pure (.inr ⟨M, .inr ⟨W, .inr ⟨Z, .inr ⟨G, .inr ⟨Classical.not_not.1 hp, rfl⟩⟩⟩⟩⟩)
theorem kA {n : Nw} (_ : Sane n) : Ok (Dw n) (NetRes n) := X5
theorem NetRes.good {n : Nw} (h : NetRes n 0) : Lim n ∧ ¬ H5 n ∧ ¬ (Ns n ∨ Nr n) ∧ Nl n ∧ Proper n := by
 rcases h with ⟨_, h⟩ | ⟨a, ⟨_, h⟩ | ⟨b, ⟨_, h⟩ | ⟨c, ⟨_, h⟩ | ⟨d, ⟨_, h⟩ | ⟨e, _⟩⟩⟩⟩⟩
 ·cases h
 ·cases h
 ·cases h
 ·cases h
 ·cases h
 ·exact ⟨a, b, c, d, e⟩
def Named (c : UInt8) (l : List Bt) : Prop := l.length ≤ 26 ∧ ∀ (k : Nat) (x : Bt), l[k]? = some x → x = nm c k
theorem NetOk.named {n : Nw} (h : NetOk n) : ∀ l, l ∈ [n.Nodes, n.Segments.map (·.Name), n.Ports.map (·.Name), n.Stations.map (·.Name)] → ∃ c, (c = 110 ∨ c = 103 ∨ c = 113 ∨ c = 115) ∧ Named c l := by
 have W := h.nodes; have X := h.segs1; have Y := h.ports1; have Z := h.sts1
 intro l O
 simp only [List.mem_cons, List.not_mem_nil, or_false] at O
 rcases O with rfl | rfl | rfl | rfl
 ·exact ⟨110, by simp, by omega, h.names⟩
 ·refine ⟨103, by simp, by simp; omega, fun k x G => ?_⟩
  rw [List.getElem?_map] at G
  obtain ⟨s, M, rfl⟩ := Option.map_eq_some_iff.1 G
  exact (h.segs k s M).name
 ·refine ⟨113, by simp, by simp; omega, fun k x G => ?_⟩
  rw [List.getElem?_map] at G
  obtain ⟨s, M, rfl⟩ := Option.map_eq_some_iff.1 G
  exact (h.ports k s M).name
 ·refine ⟨115, by simp, by simp; omega, fun k x G => ?_⟩
  rw [List.getElem?_map] at G
  obtain ⟨s, M, rfl⟩ := Option.map_eq_some_iff.1 G
  exact (h.sts k s M).name
theorem gV {c : UInt8} (hc : 97 ≤ c.toNat ∧ c.toNat ≤ 122) {k : Nat} (Y : k < 26) : G9 (nm c k) = some true := by
 obtain ⟨b, W, X⟩ := Kg (x := nm c k)
 have M : ch (nm c k) 0 = (c.toNat : Int) := rfl
 have O : ch (nm c k) 1 = 97 + k := by
  show (((97 + UInt8.ofNat k).toNat : Nat) : Int) = _
  rw [UInt8.toNat_add, UInt8.toNat_ofNat', show (97 : UInt8).toNat = 97 from rfl]
  omega
 rw [W, X.2 ⟨⟨by show 1 ≤ 2; omega, by show 2 ≤ 12; omega, by rw [M]; unfold low; omega⟩, fun j G => ?_⟩]
 have G : j < 2 := G
 refine .inl ?_
 unfold low
 match j, G with
 | 0, _ => rw [M]; omega
 | 1, _ => rw [O]; omega
theorem kB {c : UInt8} (hc : c = 110 ∨ c = 103 ∨ c = 113 ∨ c = 115) {k : Nat} (G : k < 26) : G9 (nm c k) = some true := by
 refine gV ?_ G
 rcases hc with rfl | rfl | rfl | rfl <;> decide
theorem jW {c : UInt8} {i j : Nat} (hi : i < 26) (W : j < 26) (h : T3 (nm c i) (nm c j) = true) : i = j := by
 have O : (nm c i).toList = (nm c j).toList := by simpa [T3] using h
 have G : [c, 97 + UInt8.ofNat i] = [c, 97 + UInt8.ofNat j] := by simpa [nm, ByteArray.toList, ByteArray.toList.loop, ByteArray.size, ByteArray.get!] using O
 simp only [List.cons.injEq, and_true, true_and] at G
 have M := congrArg UInt8.toNat G
 simp only [UInt8.toNat_add, UInt8.toNat_ofNat'] at M
 have : (97 : UInt8).toNat = 97 := rfl
 rw [this] at M
 omega
def lL (l : List Bt) : Prop := l.length ≤ 26 ∧ (∀ (k : Nat) (x : Bt), l[k]? = some x → G9 x = some true) ∧ ∀ (i j : Nat) (x y : Bt), l[i]? = some x → l[j]? = some y → T3 x y = true → i = j
theorem Named.nmd {c : UInt8} (hc : c = 110 ∨ c = 103 ∨ c = 113 ∨ c = 115) {l : List Bt} (h : Named c l) : lL l := by
 obtain ⟨X, G⟩ := h
 refine ⟨X, fun k x W => ?_, fun i j x y M O Y => ?_⟩
 ·have := (gs W).1
  rw [G k x W]; exact kB hc (by omega)
 ·have Z := (gs M).1
  have aa := (gs O).1
  have hx := G i x M; have hy := G j y O
  subst hx; subst hy
  exact jW (by omega) (by omega) Y
structure SegB (nodes : Nat) (s : Segment) : Prop where
 ends : 0 ≤ s.From ∧ s.From < (nodes : Int) ∧ 0 ≤ s.To ∧ s.To < (nodes : Int) ∧ s.From ≠ s.To
 cap : 1 ≤ s.Capacity ∧ s.Capacity ≤ 1000
 resist : 0 ≤ s.Resist ∧ s.Resist ≤ 1000
 wave : 0 ≤ s.Wave ∧ s.Wave ≤ 100000
 points : PointsOk s.Capacity s.Points
theorem SegOk.b {nodes k : Nat} {s : Sg} (h : SegOk nodes k s) : SegB nodes s := ⟨h.ends, h.cap, h.resist, h.wave, h.points⟩
theorem Za {α : Type} {l : List α} {P : α → Bool} (h : ∀ (k : Nat) (x : α), l[k]? = some x → P x = false) : l.any P = false := by
 rw [List.any_eq_false]
 intro x M
 obtain ⟨j, G⟩ := List.getElem?_of_mem M
 rw [h j x G]; simp
structure NetV (n : Network) : Prop where
 nodes : 1 ≤ n.Nodes.length ∧ n.Nodes.length ≤ 6
 segs1 : n.Segments.length ≤ 8
 segs : ∀ (k : Nat) (s : Sg), n.Segments[k]? = some s → ∃ j, SegOk n.Nodes.length j s
 ports1 : n.Ports.length ≤ 6
 ports : ∀ k s, n.Ports[k]? = some s → PortOk n.Nodes.length k s
 sts1 : n.Stations.length ≤ 6
 sts : ∀ k s, n.Stations[k]? = some s → StOk n.Nodes.length k s
 stsUp : ∀ (i j : Nat) (p q : Sn), i < j → n.Stations[i]? = some p → n.Stations[j]? = some q → p.Node < q.Node
 vapour : -100000 ≤ n.Vapour ∧ n.Vapour ≤ 50000
 settle : 0 ≤ n.Settle ∧ n.Settle ≤ 100
 named : ∀ l, l ∈ [n.Nodes, n.Segments.map (·.Name), n.Ports.map (·.Name), n.Stations.map (·.Name)] → lL l
theorem NetOk.v {n : Nw} (h : NetOk n) : NetV n :=
 ⟨by have := h.nodes; omega, h.segs1.2, fun k s M => ⟨k, h.segs k s M⟩, h.ports1.2, h.ports, h.sts1, h.sts, h.stsUp, h.vapour, h.settle, fun l G => let ⟨_, hc, hn⟩ := h.named l G; hn.nmd hc⟩
structure NetW (n : Network) : Prop where
 nodes : 1 ≤ n.Nodes.length ∧ n.Nodes.length ≤ 6
 segs1 : n.Segments.length ≤ 8
 segs : ∀ (k : Nat) (s : Sg), n.Segments[k]? = some s → SegB n.Nodes.length s
 ports1 : n.Ports.length ≤ 6
 ports : ∀ (k : Nat) s, n.Ports[k]? = some s → (0 ≤ s.Node ∧ s.Node < (n.Nodes.length : Int)) ∧ 0 ≤ s.Pressure ∧ s.Pressure ≤ 100000000
 sts1 : n.Stations.length ≤ 6
 sts : ∀ k s, n.Stations[k]? = some s → StOk n.Nodes.length k s
 stsUp : ∀ (i j : Nat) (p q : Sn), i < j → n.Stations[i]? = some p → n.Stations[j]? = some q → p.Node < q.Node
 vapour : -100000 ≤ n.Vapour ∧ n.Vapour ≤ 50000
 settle : 0 ≤ n.Settle ∧ n.Settle ≤ 100
 named : ∀ l, l ∈ [n.Nodes, n.Segments.map (·.Name), n.Ports.map (·.Name), n.Stations.map (·.Name)] → lL l
theorem NetV.w {n : Nw} (h : NetV n) : NetW n :=
 ⟨h.nodes, h.segs1, fun k s G => (h.segs k s G).choose_spec.b, h.ports1, fun k s G => ⟨(h.ports k s G).node, (h.ports k s G).pressure⟩, h.sts1, h.sts, h.stsUp, h.vapour, h.settle, h.named⟩
theorem NetW.res {n : Nw} (h : NetW n) : NetRes n 0 := by
 have h1 := h.nodes; have h2 := h.segs1; have h3 := h.ports1; have h4 := h.sts1; have h5 := h.vapour; have h6 := h.settle
 refine .inr ⟨⟨by omega, fun k s G => (h.segs k s G).points.len⟩, .inr ⟨?_, .inr ⟨?_, .inr ⟨⟨fun k s G => ?_, fun k s G => (h.ports k s G).1, fun k s G => (h.sts k s G).node⟩, .inr ⟨⟨fun k s G => ?_, fun k s G => (h.ports k s G).2, fun k s G => ⟨?_, ?_, ?_⟩, by omega, h6⟩, rfl⟩⟩⟩⟩⟩
 ·rintro ⟨k, Y, l, Z, j, x, W, hn⟩
  obtain ⟨b, M, X⟩ := Kg (x := x)
  rw [(h.named l (mg Z)).2.1 j x W] at M
  cases M
  exact hn (X.1 rfl)
 ·rintro (⟨k, Y, l, Z, i, x, W, j, y, hj, hy, X⟩ | ⟨i, x, W, j, y, hj, hy, X⟩)
  ·have := (h.named l (mg Z)).2.2 i j x y W hy (Ju.2 X)
   omega
  ·have := h.stsUp j i y x hj hy W
   omega
 ·have := (h.segs k s G).ends
  exact ⟨⟨by omega, by omega⟩, by omega, by omega⟩
 ·have G := h.segs k s G
  have O := G.points
  refine ⟨G.ends.2.2.2.2, by have := G.cap; omega, G.resist, G.wave, O.first, O.last, fun k p Y M => ?_⟩
  have hm := mg Y
  rcases M with M | ⟨q, h0, hq, hle⟩
  ·exact M ⟨O.height p hm, O.limit p hm⟩
  ·have := O.up (k - 1) q p hq (by rw [show k - 1 + 1 = k by omega]; exact Y)
   omega
 ·have := (h.sts k s G).head; omega
 ·have := (h.sts k s G).fall; omega
 ·have := (h.sts k s G).suction; omega
theorem NetW.sane {n : Nw} (h : NetW n) : Sane n := by
 have M := h.nodes; have O := h.segs1; have W := h.ports1; have X := h.sts1
 exact ⟨by omega, by omega, by omega, by omega, fun k s G => by have := (h.segs k s G).points.len; omega⟩
theorem Re {n : Nw} (h : NetW n) : Dw n = some 0 := by
 obtain ⟨r, G, M⟩ := kA h.sane
 rw [G, M.uniq h.res]
theorem Yz {n : Nw} (h : NetV n) : Dw n = some 0 := Re h.w
theorem eA {n : Nw} (h : NetOk n) : Dw n = some 0 := Yz h.v
structure NetC (n : Network) : Prop where
 nodes : 1 ≤ n.Nodes.length ∧ n.Nodes.length ≤ 24
 segs1 : n.Segments.length ≤ 32
 segs : ∀ (k : Nat) (s : Sg), n.Segments[k]? = some s → (0 ≤ s.From ∧ s.From < (n.Nodes.length : Int) ∧ 0 ≤ s.To ∧ s.To < (n.Nodes.length : Int) ∧ s.From ≠ s.To) ∧ 1 ≤ s.Capacity ∧ s.Capacity ≤ 1000000
 ports1 : n.Ports.length ≤ 24
 ports : ∀ (k : Nat) s, n.Ports[k]? = some s → 0 ≤ s.Node ∧ s.Node < (n.Nodes.length : Int)
 sts1 : n.Stations.length ≤ 12
 check : Dw n = some 0
structure NetG (n : Network) : Prop where
 nodes : 1 ≤ n.Nodes.length ∧ n.Nodes.length ≤ 6
 segs1 : n.Nodes.length - 1 ≤ n.Segments.length ∧ n.Segments.length ≤ 8
 segs : ∀ (k : Nat) (s : Sg), n.Segments[k]? = some s → SegB n.Nodes.length s
 ports1 : 2 ≤ n.Ports.length ∧ n.Ports.length ≤ 6
 ports : ∀ (k : Nat) s, n.Ports[k]? = some s → 0 ≤ s.Node ∧ s.Node < (n.Nodes.length : Int)
 sts1 : n.Stations.length ≤ 6
 check : Dw n = some 0
theorem NetG.c {n : Nw} (h : NetG n) : NetC n := by
 have M := h.nodes; have O := h.segs1; have W := h.ports1; have X := h.sts1
 exact ⟨by omega, by omega, fun k s G => ⟨(h.segs k s G).ends, by have := (h.segs k s G).cap; omega⟩, by omega, h.ports, by omega, h.check⟩
theorem NetRes.c {n : Nw} (h : NetRes n 0) (Y : Dw n = some 0) : NetC n := by
 obtain ⟨a, b, c, d, e⟩ := h.good
 have := a.1
 refine ⟨by omega, by omega, fun k s G => ⟨?_, (e.segs k s G).cap⟩, by omega, d.2.1, by omega, Y⟩
 obtain ⟨⟨M, O⟩, W, X⟩ := d.1 k s G
 exact ⟨M, O, W, X, (e.segs k s G).ends⟩
theorem NetOk.g {n : Nw} (h : NetOk n) : NetG n :=
 ⟨by have := h.nodes; omega, h.segs1, fun k s G => (h.segs k s G).b, h.ports1, fun k s G => (h.ports k s G).node, h.sts1, eA h⟩
theorem NetW.g {n : Nw} (h : NetW n) (h1 : n.Nodes.length - 1 ≤ n.Segments.length) (h2 : 2 ≤ n.Ports.length) : NetG n :=
 ⟨h.nodes, ⟨h1, h.segs1⟩, h.segs, ⟨h2, h.ports1⟩, fun k s G => (h.ports k s G).1, h.sts1, Re h⟩
theorem Jx {α : Type} {P : Nat → α → Prop} {l : List α} {x : α} (h : ∀ k s, l[k]? = some s → P k s) (hx : P l.length x) : ∀ k s, (l ++ [x])[k]? = some s → P k s := by
 intro k s G
 rw [List.getElem?_append] at G
 split at G
 ·exact h k s G
 ·have M := (gs G).1
  simp at M
  have : k = l.length := by omega
  subst this
  simp at G; subst G; exact hx
theorem dI {α : Type} {f : α → Int} {l : List α} {x : α} (h : ∀ (i j : Nat) (p q : α), i < j → l[i]? = some p → l[j]? = some q → f p < f q) (hx : ∀ (k : Nat) (p : α), l[k]? = some p → f p < f x) :
  ∀ (i j : Nat) (p q : α), i < j → (l ++ [x])[i]? = some p → (l ++ [x])[j]? = some q → f p < f q := by
 intro i j p q M O G
 have W := (gs G).1
 simp at W
 rw [List.getElem?_append_left (by omega)] at O
 rw [List.getElem?_append] at G
 split at G
 ·exact h i j p q M O G
 ·have : j = l.length := by omega
  subst this
  simp at G; subst G; exact hx i p O
structure PortsInv (nodes : Nat) (i : Int) (ports : List Port) (sts : List Station) : Prop where
 i0 : 0 ≤ i ∧ i ≤ (nodes : Int)
 pl : (ports.length : Int) ≤ i
 p1 : 0 < i → 1 ≤ ports.length
 p2 : i = (nodes : Int) → 2 ≤ ports.length
 po : ∀ k s, ports[k]? = some s → PortOk nodes k s ∧ s.Node < i
 pu : ∀ (i j : Nat) (p q : Port), i < j → ports[i]? = some p → ports[j]? = some q → p.Node < q.Node
 sl : (sts.length : Int) ≤ i
 so : ∀ k s, sts[k]? = some s → StOk nodes k s ∧ s.Node < i
 su : ∀ (i j : Nat) (p q : Sn), i < j → sts[i]? = some p → sts[j]? = some q → p.Node < q.Node
theorem jZ {s : V9} (hs : SrcOk s) : Ok (S9 s) fun r => NetOk r.1 ∧ SrcOk r.2 := by
 unfold S9
 refine .bind (Cs hs (by decide) (by decide)) fun r5 h5 => ?_
 refine .bind (Cs h5.1 (by decide) (by decide)) fun r8 h8 => ?_
 refine .bind (Gc h8.1 (by decide) (by decide) (by decide)) fun r650 h650 => ?_
 have c5 := h5.2; have c8 := h8.2
 simp only [List.mem_cons, List.not_mem_nil, or_false] at c5 c8
 refine .bind (Q := fun d : Li × Int × List Bt => SrcOk ⟨d.1, d.2.1⟩ ∧ (2 ≤ d.2.2.length ∧ d.2.2.length ≤ 6) ∧ ∀ k x, d.2.2[k]? = some x → x = nm 110 k) ?_ ?_
 ·refine .loop (fun G : List Bt × Int => 0 ≤ G.2 ∧ (G.1.length : Int) + G.2 = r650.1 ∧ ∀ k x, G.1[k]? = some x → x = nm 110 k) (fun G => G.2.toNat) ⟨by dsimp only; omega, by simp, by simp⟩ (by dsimp only; omega) ?_
  rintro ⟨nodes, c⟩ ⟨Y, i2, i3⟩
  dsimp only at Y i2 i3
  unfold S9.B12
  refine Ax (fun h => ?_) fun h => .pure ⟨h650.1, by dsimp only at h ⊢; omega, i3⟩
  dsimp only at h ⊢
  refine .bind' (.eq (M8 (by omega)) (.bind' (.app (by simp; omega) (.pure ?_))))
  rw [Bn (by omega)]
  exact ⟨⟨by dsimp only; omega, by simp; omega, Jx i3 rfl⟩, by dsimp only; omega⟩
 rintro ⟨L_, At, nodes⟩ ⟨hs, hn, hnm⟩
 dsimp only at hs hn hnm
 unfold S9.J1
 refine .bind (Q := fun d : Li × Int × List Sg => SrcOk ⟨d.1, d.2.1⟩ ∧ d.2.2.length = nodes.length - 1 ∧ ∀ k x, d.2.2[k]? = some x → SegOk nodes.length k x) ?_ ?_
 ·refine .loop (fun G : Li × Int × List Sg × Int => SrcOk ⟨G.1, G.2.1⟩ ∧ (G.2.2.1.length : Int) = G.2.2.2 ∧ G.2.2.1.length ≤ nodes.length - 1 ∧ ∀ k x, G.2.2.1[k]? = some x → SegOk nodes.length k x) (fun G => nodes.length - G.2.2.1.length) ⟨hs, by simp, by simp, by simp⟩ (by dsimp only; omega) ?_
  rintro ⟨L_, At, aa, i⟩ ⟨Y, i2, i3, i4⟩
  dsimp only at Y i2 i3 i4
  unfold S9.B11
  dsimp only
  simp (disch := omega) only [Bn]
  refine Ax (fun h => ?_) fun h => .pure ⟨Y, by dsimp only; omega, i4⟩
  refine .bind (cX Y (nodes := nodes.length) (by omega) (by omega) (by omega) (by omega)) fun r641 h641 => ?_
  refine .bind' (.app (by simp; omega) (.pure ⟨⟨h641.2, by simp; omega, by simp; omega, Jx i4 h641.1⟩, by simp; omega⟩))
 rintro ⟨L_, At, aa⟩ ⟨hs, hsl, Z⟩
 dsimp only at hs hsl Z
 unfold S9.J2
 refine .bind (E1 hs (by decide) (by decide)) fun r531 h531 => ?_
 refine .bind (Q := fun d : Li × Int × List Sg => SrcOk ⟨d.1, d.2.1⟩ ∧ (nodes.length - 1 ≤ d.2.2.length ∧ d.2.2.length ≤ 8) ∧ ∀ k x, d.2.2[k]? = some x → SegOk nodes.length k x) ?_ ?_
 ·refine .loop (fun G : Li × Int × List Sg × Int => SrcOk ⟨G.1, G.2.1⟩ ∧ 0 ≤ G.2.2.2 ∧ (G.2.2.1.length : Int) + G.2.2.2 ≤ 8 ∧ nodes.length - 1 ≤ G.2.2.1.length ∧ ∀ k x, G.2.2.1[k]? = some x → SegOk nodes.length k x) (fun G => G.2.2.2.toNat)
   ⟨h531.1, h531.2.1, by dsimp only; omega, by dsimp only; omega, Z⟩ (by dsimp only; omega) ?_
  rintro ⟨L_, At, aa, i⟩ ⟨Y, i2, i3, i4, i5⟩
  dsimp only at Y i2 i3 i4 i5
  unfold S9.B10
  dsimp only
  simp (disch := omega) only [Bn]
  refine Ax (fun h => ?_) fun h => .pure ⟨Y, by dsimp only; omega, i5⟩
  refine .bind (E1 Y (by omega) (by omega)) fun r589 h589 => ?_
  simp (disch := omega) only [Bn]
  refine .bind (Gc h589.1 (by omega) (by omega) (by omega)) fun r591 h591 => ?_
  refine .bind (cX h591.1 (nodes := nodes.length) (by omega) (by omega) (by omega) (by omega)) fun r593 h593 => ?_
  refine .bind' (.app (by simp; omega) (.pure ⟨⟨h593.2, by dsimp only; omega, by simp; omega, by simp; omega, Jx i5 h593.1⟩, by dsimp only; omega⟩))
 rintro ⟨L_, At, aa⟩ ⟨hs, hsl, Z⟩
 dsimp only at hs hsl Z
 unfold S9.J3
 refine .bind (Q := fun d : Li × Int × List Port × List Sn => SrcOk ⟨d.1, d.2.1⟩ ∧ PortsInv nodes.length (nodes.length : Int) d.2.2.1 d.2.2.2) ?_ ?_
 ·refine .loop (fun G : Li × Int × List Port × List Sn × Int => SrcOk ⟨G.1, G.2.1⟩ ∧ PortsInv nodes.length G.2.2.2.2 G.2.2.1 G.2.2.2.1) (fun G => nodes.length - G.2.2.2.2.toNat)
   ⟨hs, by dsimp only; omega, by simp, by simp, by dsimp only; omega, by simp, by simp, by simp, by simp, by simp⟩ (by dsimp only; omega) ?_
  rintro ⟨L_, At, X, ab, i⟩ ⟨Y, M⟩
  dsimp only at Y M
  have hi := M.i0
  have j6 : ∀ (j : Li × Int × List Port × List Sn), SrcOk ⟨j.1, j.2.1⟩ → PortsInv nodes.length (i + 1) j.2.2.1 j.2.2.2 → i < (nodes.length : Int) →
    Ok (S9.J6 (L_, At, X, ab, i) j) (Sum.elim (fun G => (SrcOk ⟨G.1, G.2.1⟩ ∧ PortsInv nodes.length G.2.2.2.2 G.2.2.1 G.2.2.2.1) ∧ nodes.length - G.2.2.2.2.toNat < nodes.length - i.toNat) fun d => SrcOk ⟨d.1, d.2.1⟩ ∧ PortsInv nodes.length (nodes.length : Int) d.2.2.1 d.2.2.2) := by
   intro j h1 h2 h3
   unfold S9.J6
   dsimp only
   rw [Bn (by omega)]
   exact .pure ⟨⟨h1, h2⟩, by dsimp only; omega⟩
  have j7 : ∀ (j : Li × Int × List Port), SrcOk ⟨j.1, j.2.1⟩ → ((∀ O, (O.length : Int) ≤ i + 1 → (∀ k s, O[k]? = some s → StOk nodes.length k s ∧ s.Node < i + 1) →
     (∀ (i j : Nat) (p q : Sn), i < j → O[i]? = some p → O[j]? = some q → p.Node < q.Node) → PortsInv nodes.length (i + 1) j.2.2 O)) → i < (nodes.length : Int) →
    Ok (S9.J7 (L_, At, nodes) (L_, At, X, ab, i) j) (Sum.elim (fun G => (SrcOk ⟨G.1, G.2.1⟩ ∧ PortsInv nodes.length G.2.2.2.2 G.2.2.1 G.2.2.2.1) ∧ nodes.length - G.2.2.2.2.toNat < nodes.length - i.toNat) fun d => SrcOk ⟨d.1, d.2.1⟩ ∧ PortsInv nodes.length (nodes.length : Int) d.2.2.1 d.2.2.2) := by
   intro j h1 h2 h3
   have old := h2 ab (by have := M.sl; omega) (fun k s W => ⟨(M.so k s W).1, by have := (M.so k s W).2; omega⟩) M.su
   unfold S9.J7
   refine Ax (fun h => ?_) fun h => ?_
   ·refine .bind (E1 h1 (by decide) (by decide)) fun r507 h507 => ?_
    unfold S9.J8
    refine A7 (fun _ => ?_) fun _ => j6 (_, _, _, _) h507.1 old h3
    have hsl' := M.sl
    refine .bind' (.eq (M8 (by dsimp only; omega)) ?_)
    refine .bind (Cs h507.1 (by decide) (by decide)) fun r493 h493 => ?_
    refine .bind (Cs h493.1 (by decide) (by decide)) fun r496 h496 => ?_
    refine .bind (Cs h496.1 (by decide) (by decide)) fun r499 h499 => ?_
    have c1 := h493.2; have c2 := h496.2; have c3 := h499.2
    simp only [List.mem_cons, List.not_mem_nil, or_false] at c1 c2 c3
    refine .bind' (.app (by simp; omega) (j6 (_, _, _, _) h499.1 (h2 _ (by simp; omega) ?_ ?_) h3))
    ·exact Jx (P := fun k s => StOk nodes.length k s ∧ s.Node < i + 1) (fun k s W => ⟨(M.so k s W).1, by have := (M.so k s W).2; omega⟩) ⟨⟨rfl, ⟨by dsimp only; omega, by dsimp only; omega⟩, by dsimp only; omega, by dsimp only; omega, by dsimp only; omega⟩, by dsimp only; omega⟩
    ·exact dI (f := Station.Node) M.su fun k p W => (M.so k p W).2
   ·unfold S9.J8
    refine A7 (fun h => by cases h) fun _ => j6 (_, _, _, _) h1 old h3
  have j9 : ∀ (j : Li × Int × Bool), SrcOk ⟨j.1, j.2.1⟩ → (i = 0 ∨ i = (nodes.length : Int) - 1 → j.2.2 = true) → i < (nodes.length : Int) →
    Ok (S9.J9 (L_, At, nodes) (L_, At, X, ab, i) j) (Sum.elim (fun G => (SrcOk ⟨G.1, G.2.1⟩ ∧ PortsInv nodes.length G.2.2.2.2 G.2.2.1 G.2.2.2.1) ∧ nodes.length - G.2.2.2.2.toNat < nodes.length - i.toNat) fun d => SrcOk ⟨d.1, d.2.1⟩ ∧ PortsInv nodes.length (nodes.length : Int) d.2.2.1 d.2.2.2) := by
   intro j h1 h2 h3
   have Er := M.pl
   have hp1 := M.p1
   unfold S9.J9
   refine A7 (fun _ => ?_) fun hb => j7 (_, _, _) h1 (fun O q1 q2 q3 => ?_) h3
   ·refine .bind' (.eq (M8 (by dsimp only; omega)) ?_)
    refine .bind (Cs h1 (by decide) (by decide)) fun r518 h518 => ?_
    have c1 := h518.2
    simp only [List.mem_cons, List.not_mem_nil, or_false] at c1
    refine .bind' (.app (by simp; omega) (j7 (_, _, _) h518.1 (fun O q1 q2 q3 => ⟨by omega, by simp; omega, by simp, fun _ => by simp; omega, ?_, ?_, q1, q2, q3⟩) h3))
    ·exact Jx (P := fun k s => PortOk nodes.length k s ∧ s.Node < i + 1) (fun k s W => ⟨(M.po k s W).1, by have := (M.po k s W).2; omega⟩) ⟨⟨rfl, ⟨by dsimp only; omega, by dsimp only; omega⟩, by dsimp only; omega⟩, by dsimp only; omega⟩
    ·exact dI (f := Port.Node) M.pu fun k p W => (M.po k p W).2
   ·have hi0 : ¬ (i = 0 ∨ i = (nodes.length : Int) - 1) := fun h => by rw [h2 h] at hb; cases hb
    exact ⟨by omega, by dsimp only; omega, fun _ => by dsimp only; omega, fun _ => by omega, fun k s W => ⟨(M.po k s W).1, by have := (M.po k s W).2; omega⟩, M.pu, q1, q2, q3⟩
  unfold S9.B5
  dsimp only
  rw [Bn (by omega)]
  refine Ax (fun h => ?_) fun h => .pure ⟨Y, ?_⟩
  ·refine Dk (fun h0 => j9 (_, _, _) Y (fun _ => rfl) (by omega)) fun h0 => Dk (fun h1 => j9 (_, _, _) Y (fun _ => rfl) (by omega)) fun h1 => ?_
   refine .bind (E1 Y (by decide) (by decide)) fun r527 h527 => j9 (_, _, _) h527.1 (fun h => by omega) (by omega)
  ·have : i = (nodes.length : Int) := by omega
   rw [← this]; exact M
 rintro ⟨L_, At, X, ab⟩ ⟨hs, M⟩
 dsimp only at hs M
 unfold S9.J4
 have := M.pl; have := M.sl
 exact .pure ⟨⟨hn, hnm, hsl, Z, ⟨M.p2 rfl, by dsimp only; omega⟩, fun k s W => (M.po k s W).1, M.pu, by dsimp only; omega, fun k s W => (M.so k s W).1, M.su, by dsimp only; omega, by dsimp only; omega⟩, hs⟩
def ind (a v : Int) : Int := if a = v then 1 else 0
def wt (n : Nw) (v : Int) : Li := n.Segments.map fun s => ind s.To v - ind s.From v
def wp (n : Nw) (v : Int) : Li := n.Ports.map fun p => ind p.Node v
structure RateOk (s : Segment) (r : Int) : Prop where
 rng : -1000 ≤ r ∧ r ≤ 1000 ∧ -s.Capacity ≤ r ∧ r ≤ s.Capacity
 up : s.From < s.To → 0 ≤ r
 down : s.To < s.From → r ≤ 0
structure PlInv (n : Network) (rates ports : List Int) : Prop where
 rl : rates.length = n.Segments.length
 pl : ports.length = n.Ports.length
 rng : ∀ (k : Nat) (r : Int) (s : Sg), rates[k]? = some r → n.Segments[k]? = some s → RateOk s r
 prt : ∀ (k : Nat) (x : Int), ports[k]? = some x → -1000 ≤ x ∧ x ≤ 1000
 bal : ∀ v, Ep (wt n v) rates + Ep (wp n v) ports = 0
structure Hop1 (n : Network) (rates : List Int) (rate a : Int) (i : Nat) (x : Segment) (r b : Int) : Prop where
 seg : n.Segments[i]? = some x
 old : rates[i]? = some r
 lt : a < b
 ends : x.From = a ∧ x.To = b ∨ x.To = a ∧ x.From = b
 rng : r + rate ≤ 1000 ∧ rate - r ≤ 1000 ∧ r + rate ≤ x.Capacity ∧ rate - r ≤ x.Capacity
def Nm (n : Nw) (rates : Li) (rate a k b : Int) : Prop := ∃ (i : Nat) (x : Sg) (r : Int), k = (i : Int) ∧ Hop1 n rates rate a i x r b
theorem eP {n : Nw} {rates ports way : Li} {rate : Int} {s : V9} {l : Li} {q e : Int} {nd : Nat → Int} (h : PlInv n rates ports) (hr : 1 ≤ rate ∧ rate ≤ 300)
  (hw : ∀ (j : Nat) (k : Int), way[j]? = some k → Nm n rates rate (nd j) k (nd (j + 1))) :
  Ok (forJ (Lz.B9 n (rate, s) (l, q, way, e)) 0 way.length rates) fun st => st.length = rates.length ∧ (∀ (k : Nat) (r : Int) (s : Sg), st[k]? = some r → n.Segments[k]? = some s → RateOk s r) ∧
   ∀ v, Ep (wt n v) st = Ep (wt n v) rates + (rate * ind (nd way.length) v - rate * ind (nd 0) v) := by
 refine .forJ (fun j st => st.length = rates.length ∧ (∀ (k : Nat) (r : Int) (s : Sg), st[k]? = some r → n.Segments[k]? = some s → RateOk s r) ∧
   (∀ (k : Nat) (s : Sg), n.Segments[k]? = some s → nd j ≤ s.From → nd j ≤ s.To → st[k]? = rates[k]?) ∧
   ∀ v, Ep (wt n v) st = Ep (wt n v) rates + (rate * ind (nd j) v - rate * ind (nd 0) v)) ⟨rfl, h.rng, fun _ _ _ _ _ => rfl, fun v => by omega⟩ ?_ fun st ⟨h1, h2, _, h4⟩ => ⟨h1, h2, h4⟩
 rintro j st hj ⟨h1, h2, h3, h4⟩
 obtain ⟨i, x, r, hk, Z, X, hlt, G, hrng⟩ := hw j way[j] (gq hj)
 have hil := (gs Z).1
 have aa : st[i]? = some r := by
  rw [h3 i x Z (by rcases G with h | h <;> omega) (by rcases G with h | h <;> omega)]; exact X
 have Y := h.rng i r x X Z
 have o1 := Y.rng; have o2 := Y.up; have o3 := Y.down
 have hw : ∀ v, (wt n v)[i]? = some (ind x.To v - ind x.From v) := fun v => by unfold wt; rw [List.getElem?_map, Z]; rfl
 have ab : ∀ y : Int, RateOk x y → (∀ v, (ind x.To v - ind x.From v) * (y - r) = rate * ind (nd (j + 1)) v - rate * ind (nd j) v) → Ok (Lz.J10 (st.set i y)) fun st => st.length = rates.length ∧ (∀ (k : Nat) (r : Int) (s : Sg), st[k]? = some r → n.Segments[k]? = some s → RateOk s r) ∧
   (∀ (k : Nat) (s : Sg), n.Segments[k]? = some s → nd (j + 1) ≤ s.From → nd (j + 1) ≤ s.To → st[k]? = rates[k]?) ∧
   ∀ v, Ep (wt n v) st = Ep (wt n v) rates + (rate * ind (nd (j + 1)) v - rate * ind (nd 0) v) := by
  intro y hy hyv
  unfold Lz.J10
  refine .pure ⟨by simp [h1], fun k r' s' W M => ?_, fun k s' M a1 a2 => ?_, fun v => ?_⟩
  ·rw [Ee] at W
   split at W
   ·rename_i hik
    obtain ⟨rfl, _⟩ := hik
    simp at W; subst W
    rw [Z] at M; simp at M; subst M; exact hy
   ·exact h2 k r' s' W M
  ·have hne : i ≠ k := by
    rintro rfl
    rw [Z] at M; simp at M; subst M
    rcases G with h | h <;> omega
   rw [List.getElem?_set_ne hne]
   exact h3 k s' M (by omega) (by omega)
  ·rw [Gp (hw v) aa, h4 v, hyv v]; omega
 unfold Lz.B9
 refine .bind' (.ix j rfl hj ?_)
 dsimp only
 rw [hk]
 refine .bind' (.ix i rfl hil ?_)
 have hx : n.Segments[i] = x := by
  have := gq hil
  rw [Z] at this; exact (Option.some.inj this).symm
 have O := (gs aa).1
 have hsr : st[i] = r := by
  have := gq O
  rw [aa] at this; exact (Option.some.inj this).symm
 dsimp only
 rw [hx]
 refine Ax (fun hft => ?_) fun hft => ?_
 ·refine .bind' (.ix i rfl O ?_)
  dsimp only
  rw [hsr, Bn (by omega)]
  have he : x.From = nd j ∧ x.To = nd (j + 1) := by rcases G with h | h <;> omega
  have := o2 hft
  refine ab _ ⟨by omega, fun _ => by omega, fun _ => by omega⟩ fun v => ?_
  rw [he.1, he.2, show r + rate - r = rate by omega, Int.sub_mul, Int.mul_comm, Int.mul_comm (ind (nd j) v)]
 ·refine .bind' (.ix i rfl O ?_)
  dsimp only
  rw [hsr, Bn (by omega)]
  have he : x.To = nd j ∧ x.From = nd (j + 1) := by rcases G with h | h <;> omega
  have := o3 (by omega)
  refine ab _ ⟨by omega, fun _ => by omega, fun _ => by omega⟩ fun v => ?_
  rw [he.1, he.2, show r - rate - r = -rate by omega, Int.sub_mul, Int.mul_neg, Int.mul_neg, Int.mul_comm, Int.mul_comm (ind (nd (j + 1)) v)]; omega
theorem kK {x : Int} (h : -1000000 ≤ x ∧ x ≤ 1000000) : G7 x = max x (-x) := by
 unfold G7
 rw [Bn (by omega), Int.zero_sub]
theorem dA {l : Li} {f : Nat → Int → Li → Option Li} (hf : ∀ k x st, f k x st = (C0 st [wr (0 - x)]).bind fun y => some y) (hl : l.length ≤ 1000) (M : ∀ (k : Nat) (x : Int), l[k]? = some x → -1000000 ≤ x ∧ x ≤ 1000000) :
  Ok (forS f 0 l []) fun r => r = l.map fun x => -x := by
 refine .forS (fun k st => st = (l.take k).map fun x => -x) (by simp) ?_ fun st h => by rw [h]; simp
 rintro k x st G rfl
 rw [hf]
 have O := (gs G).1
 have := M k x G
 refine .bind' (.app (by simp; omega) (.pure ?_))
 rw [List.take_add_one, G, Bn (by omega)]
 simp
theorem Wz {p : Plan} (h1 : p.Rates.length ≤ 1000) (h2 : p.Ports.length ≤ 1000) (O : p.Pumps.length ≤ 1000) (G : ∀ (k : Nat) (x : Int), p.Rates[k]? = some x → -1000000 ≤ x ∧ x ≤ 1000000)
  (M : ∀ (k : Nat) (x : Int), p.Ports[k]? = some x → -1000000 ≤ x ∧ x ≤ 1000000) : S4 p = some ⟨p.Rates.map fun x => -x, p.Ports.map fun x => -x, p.Pumps⟩ := by
 refine So ?_
 unfold S4
 refine .bind' (.app (by simp; omega) (.bind (dA (fun _ _ _ => rfl) h1 G) ?_))
 rintro _ rfl
 unfold S4.J1
 refine .bind (dA (fun _ _ _ => rfl) h2 M) ?_
 rintro _ rfl
 unfold S4.J2
 exact .pure (by simp)
def WayTo (n : Nw) (rates : Li) (rate s0 : Int) (way : Li) (t : Int) : Prop :=
 ∃ nd : Nat → Int, nd 0 = s0 ∧ nd way.length = t ∧ ∀ (j : Nat) (k : Int), way[j]? = some k → Nm n rates rate (nd j) k (nd (j + 1))
theorem WayTo.snoc {n : Nw} {rates : Li} {rate s0 : Int} {way : Li} {m k t : Int} (h : WayTo n rates rate s0 way m) (Z : Nm n rates rate m k t) : WayTo n rates rate s0 (way ++ [k]) t := by
 obtain ⟨nd, M, O, W⟩ := h
 refine ⟨fun i => if i ≤ way.length then nd i else t, by simp [M], by simp; omega, fun j k' G => ?_⟩
 rw [List.getElem?_append] at G
 split at G
 ·rename_i Y
  have := W j k' G
  dsimp only
  rw [if_pos (by omega), if_pos (by omega)]; exact this
 ·have X := (gs G).1
  simp at X
  have : j = way.length := by omega
  subst this
  simp at G; subst G
  dsimp only
  rw [if_pos (by omega), if_neg (by omega), O]; exact Z
def Xx (n : Nw) (ports : Li) (rate : Int) (a : Nat) (t e : Int) : Prop :=
 ∃ (G : Nat) (p : Port) (x : Int), e = (G : Int) ∧ G ≠ a ∧ n.Ports[G]? = some p ∧ p.Node = t ∧ ports[G]? = some x ∧ x ≤ 0 ∧ x - rate ≥ -1000
theorem jO {n : Nw} (hn : NetOk n) {rates ports : Li} {rate : Int} {a : Nat} {l0 : Li} {q0 c0 s0 : Int} {sa s : V9} (h : PlInv n rates ports) (hr : 1 ≤ rate ∧ rate ≤ 300) (hs : SrcOk s)
  (h0 : 0 ≤ s0 ∧ s0 < (n.Nodes.length : Int)) :
  Ok (Cl (Lz.B11 n (l0, q0, rates, ports, c0) ((a : Int), sa) (rate, s)) Du (s.L_, s.At, s0, [], -1)) fun d => SrcOk ⟨d.1, d.2.1⟩ ∧ (d.2.2.2 < 0 ∨ ∃ t, WayTo n rates rate s0 d.2.2.1 t ∧ Xx n ports rate a t d.2.2.2) := by
 have hnn := hn.nodes
 have hsn := hn.segs1
 refine .loop (fun Z : Li × Int × Int × Li × Int => SrcOk ⟨Z.1, Z.2.1⟩ ∧ Z.2.2.2.2 = -1 ∧ (0 ≤ Z.2.2.1 ∧ Z.2.2.1 < (n.Nodes.length : Int)) ∧ (Z.2.2.2.1.length : Int) ≤ Z.2.2.1 ∧ WayTo n rates rate s0 Z.2.2.2.1 Z.2.2.1) (fun Z => n.Nodes.length - Z.2.2.1.toNat)
  ⟨hs, rfl, h0, by simp; omega, fun _ => s0, rfl, rfl, by simp⟩ (by dsimp only; omega) ?_
 rintro ⟨L_, At, G, way, e⟩ ⟨i1, i2, i3, i4, i5⟩
 dsimp only at i1 i2 i3 i4 i5
 subst i2
 unfold Lz.B11
 refine Ax (fun _ => ?_) fun h => absurd (show (-1 : Int) < 0 by decide) h
 refine .bind (Q := fun d : Li × Int × Int => SrcOk ⟨d.1, d.2.1⟩ ∧ (d.2.2 = -1 ∨ Xx n ports rate a G d.2.2)) ?_ ?_
 ·refine .forS (fun _ d => SrcOk ⟨d.1, d.2.1⟩ ∧ (d.2.2 = -1 ∨ Xx n ports rate a G d.2.2)) ⟨i1, .inl rfl⟩ ?_ fun _ h => h
  rintro k p ⟨L2, A2, e2⟩ hp ⟨Y, j2⟩
  dsimp only at Y j2
  have no : ∀ {x : Li × Int × Bool}, SrcOk ⟨x.1, x.2.1⟩ → x.2.2 = false → Ok (Lz.J19 k (L2, A2, e2) x) fun d => SrcOk ⟨d.1, d.2.1⟩ ∧ (d.2.2 = -1 ∨ Xx n ports rate a G d.2.2) := by
   intro x h1 h2
   unfold Lz.J19 Lz.J18
   rw [h2]
   exact .pure ⟨h1, j2⟩
  have hkl := (gs hp).1
  have Er := h.pl
  unfold Lz.B17
  refine Dk (fun he => ?_) fun _ => no Y rfl
  refine Cx (fun hka => ?_) fun _ => no Y rfl
  refine .bind' (.ix k rfl (by dsimp only; omega) ?_)
  have hx : ports[k]? = some ports[k] := gq (by omega)
  have hxr := h.prt k _ hx
  dsimp only
  rw [Bn (by omega)]
  refine Ax (fun hx0 => ?_) fun _ => no Y rfl
  refine Ax (fun hxm => ?_) fun _ => no Y rfl
  refine Ax (fun _ => ?_) fun _ => no Y rfl
  refine .bind (E1 Y (by decide) (by decide)) fun r X => ?_
  unfold Lz.J19 Lz.J18
  refine A7 (fun _ => .pure ⟨X.1, .inr ⟨k, p, ports[k], rfl, fun h => by omega, hp, he, hx, hx0, hxm⟩⟩) fun _ => .pure ⟨X.1, j2⟩
 rintro ⟨L2, A2, e2⟩ ⟨Y, j2⟩
 dsimp only at Y j2
 unfold Lz.J12
 refine Ax (fun h0 => .pure ⟨Y, .inr ⟨G, i5, ?_⟩⟩) fun h0 => ?_
 ·rcases j2 with h | h
  ·dsimp only at h0; omega
  ·exact h
 have he2 : e2 = -1 := by
  rcases j2 with h | ⟨kk, _, _, h, _⟩
  ·exact h
  ·dsimp only at h0; omega
 subst he2
 refine .bind (Q := fun M : Li => M.length ≤ 1000 ∧ ∀ k, k ∈ M → ∃ t, Nm n rates rate G k t ∧ G < t ∧ t < (n.Nodes.length : Int)) ?_ ?_
 ·refine .forS (fun k M => M.length ≤ k ∧ ∀ k, k ∈ M → ∃ t, Nm n rates rate G k t ∧ G < t ∧ t < (n.Nodes.length : Int)) ⟨by simp, by simp⟩ ?_ fun M ho => ⟨by have := ho.1; omega, ho.2⟩
  rintro k x M hx ⟨o1, o2⟩
  have hkl := (gs hx).1
  have hxo := (hn.segs k x hx).ends
  have hxc := (hn.segs k x hx).cap
  have hrl := h.rl
  have hold : rates[k]? = some rates[k] := gq (by omega)
  have hro := (h.rng k _ x hold hx).rng
  have no : ∀ {x : Bool}, x = false → Ok (Lz.J16 k M x) fun M => M.length ≤ k + 1 ∧ ∀ k, k ∈ M → ∃ t, Nm n rates rate G k t ∧ G < t ∧ t < (n.Nodes.length : Int) := by
   intro x hx
   unfold Lz.J16 Lz.J15
   rw [hx]
   exact .pure ⟨by omega, o2⟩
  have yes : ∀ t, (x.From = G ∧ x.To = t ∨ x.To = G ∧ x.From = t) → G < t → Ok (Lz.J16 k M (decide ((wr ((G7 rates[k]) + rate)) ≤ (min 1000 x.Capacity)))) fun M => M.length ≤ k + 1 ∧ ∀ k, k ∈ M → ∃ t, Nm n rates rate G k t ∧ G < t ∧ t < (n.Nodes.length : Int) := by
   intro t ht hlt
   unfold Lz.J16 Lz.J15
   refine Ax (fun hc => ?_) fun _ => .pure ⟨by omega, o2⟩
   rw [kK (by omega), Bn (by omega)] at hc
   refine .bind' (.app (by simp; omega) (.pure ⟨by simp; omega, fun k' W => ?_⟩))
   rcases List.mem_append.1 W with W | W
   ·exact o2 k' W
   ·simp at W; subst W
    exact ⟨t, ⟨k, x, rates[k], rfl, hx, hold, hlt, ht, by omega⟩, hlt, by rcases ht with h | h <;> omega⟩
  unfold Lz.B14
  dsimp only
  simp (disch := omega) only [Bn]
  refine Dk (fun hf => ?_) fun _ => Dk (fun hf => ?_) fun _ => no rfl
  ·refine Ax (fun ht => ?_) fun _ => no rfl
   exact .bind' (.ix k rfl (by omega) (yes x.To (.inl ⟨hf, rfl⟩) (by omega)))
  ·refine Ax (fun ht => ?_) fun _ => no rfl
   exact .bind' (.ix k rfl (by omega) (yes x.From (.inr ⟨hf, rfl⟩) (by omega)))
 rintro M ⟨o1, o2⟩
 unfold Lz.J13
 refine Dk (fun _ => .pure ⟨Y, .inl (show (-1 : Int) < 0 by decide)⟩) fun hl => ?_
 refine .bind (E1 Y (by omega) (by omega)) fun r X => ?_
 refine .bind' (.ix' X.2.1 X.2.2 fun k y _ hy => ?_)
 obtain ⟨t, O, hlt, htn⟩ := o2 y (mg hy)
 have hop' := O
 obtain ⟨i, x, r0, rfl, O⟩ := O
 refine .bind' (.app (by simp; omega) ?_)
 have hil := (gs O.seg).1
 have hxo := (hn.segs i x O.seg).ends
 refine .bind' (.eq (A8 O.seg) ?_)
 dsimp only
 have he := O.ends
 have hw : wr (wr (x.From + x.To) - G) = t := by
  simp (disch := omega) only [Bn]
  rcases he with h | h <;> omega
 rw [hw]
 exact .pure ⟨⟨X.1, rfl, ⟨by dsimp only; omega, htn⟩, by simp; omega, i5.snoc hop'⟩, by dsimp only; omega⟩
structure PlanOk (n : Network) (p : Plan) : Prop where
 rl : p.Rates.length = n.Segments.length
 pl : p.Ports.length = n.Ports.length
 ml : p.Pumps.length = n.Stations.length
 rng : ∀ (k : Nat) (r : Int) (s : Sg), p.Rates[k]? = some r → n.Segments[k]? = some s → -1000 ≤ r ∧ r ≤ 1000 ∧ -s.Capacity ≤ r ∧ r ≤ s.Capacity
 prt : ∀ (k : Nat) (x : Int), p.Ports[k]? = some x → -1000 ≤ x ∧ x ≤ 1000
 bal : ∀ v, Ep (wt n v) p.Rates + Ep (wp n v) p.Ports = 0
 dir : (∀ (k : Nat) (r : Int) (s : Sg), p.Rates[k]? = some r → n.Segments[k]? = some s → (0 < r → s.From < s.To) ∧ (r < 0 → s.To < s.From)) ∨
  (∀ (k : Nat) (r : Int) (s : Sg), p.Rates[k]? = some r → n.Segments[k]? = some s → (0 < r → s.To < s.From) ∧ (r < 0 → s.From < s.To))
theorem Ww {n : Nw} (hn : NetOk n) {s : V9} (hs : SrcOk s) {rates ports : Li} {c : Int} (hc : 0 ≤ c ∧ c < 5) (h : PlInv n rates ports) :
  Ok (Cl (Lz.B4 n) Du (s.L_, s.At, rates, ports, c)) fun d => SrcOk ⟨d.1, d.2.1⟩ ∧ PlInv n d.2.2.1 d.2.2.2 := by
 have hpn := hn.ports1
 refine .loop (fun M : Li × Int × Li × Li × Int => SrcOk ⟨M.1, M.2.1⟩ ∧ PlInv n M.2.2.1 M.2.2.2.1 ∧ 0 ≤ M.2.2.2.2 ∧ M.2.2.2.2 < 5) (fun M => M.2.2.2.2.toNat) ⟨hs, h, hc⟩ (by dsimp only; omega) ?_
 rintro ⟨L_, At, rates, ports, c⟩ ⟨i1, X, i3⟩
 dsimp only at i1 X i3
 unfold Lz.B4
 refine Ax (fun h0 => ?_) fun _ => .pure ⟨i1, X⟩
 dsimp only at h0
 have j5 : ∀ j : Li × Int × Li × Li, SrcOk ⟨j.1, j.2.1⟩ → PlInv n j.2.2.1 j.2.2.2 → Ok (Lz.J5 (L_, At, rates, ports, c) j)
   (Sum.elim (fun M => (SrcOk ⟨M.1, M.2.1⟩ ∧ PlInv n M.2.2.1 M.2.2.2.1 ∧ 0 ≤ M.2.2.2.2 ∧ M.2.2.2.2 < 5) ∧ M.2.2.2.2.toNat < c.toNat) fun d => SrcOk ⟨d.1, d.2.1⟩ ∧ PlInv n d.2.2.1 d.2.2.2) := by
  intro j h1 h2
  unfold Lz.J5
  dsimp only
  rw [Bn (by omega)]
  exact .pure ⟨⟨h1, h2, by dsimp only; omega⟩, by dsimp only; omega⟩
 refine .bind (E1 i1 (by omega) (by omega)) fun r4095 O => ?_
 obtain ⟨ai, sa⟩ := r4095
 dsimp only at O
 obtain ⟨a, rfl⟩ := Ed O.2.1
 have hal : a < n.Ports.length := by omega
 have hpa : n.Ports[a]? = some n.Ports[a] := gq hal
 have hpo := (hn.ports a _ hpa).node
 refine .bind' (.eq (A8 hpa) ?_)
 refine .bind (Cs O.1 (by decide) (by decide)) fun r4101 Y => ?_
 have c1 := Y.2
 simp only [List.mem_cons, List.not_mem_nil, or_false] at c1
 refine .bind (Gc Y.1 (by omega) (by omega) (by omega)) fun r4103 W => ?_
 obtain ⟨G, s⟩ := r4103
 dsimp only at W
 have Z : 1 ≤ G ∧ G ≤ 300 := by omega
 have hxl : a < ports.length := by have := X.pl; omega
 have hx : ports[a]? = some ports[a] := gq hxl
 have hxr := X.prt a _ hx
 refine .bind' (.eq (A8 hx) ?_)
 dsimp only
 have j6t : Ok (Lz.J6 n (L_, At, rates, ports, c) ((a : Int), sa) (a, n.Ports[a]) (G, s) true)
   (Sum.elim (fun M => (SrcOk ⟨M.1, M.2.1⟩ ∧ PlInv n M.2.2.1 M.2.2.2.1 ∧ 0 ≤ M.2.2.2.2 ∧ M.2.2.2.2 < 5) ∧ M.2.2.2.2.toNat < c.toNat) fun d => SrcOk ⟨d.1, d.2.1⟩ ∧ PlInv n d.2.2.1 d.2.2.2) := by
  unfold Lz.J6
  exact j5 (_, _, _, _) W.1 X
 rw [Bn (by omega)]
 refine Ax (fun _ => j6t) fun hx0 => ?_
 by_cases ab : ports[a] + G > 1000
 ·simp only [ab, decide_true]; exact j6t
 simp only [ab, decide_false]
 unfold Lz.J6
 refine .bind (jO hn X Z W.1 hpo) ?_
 rintro ⟨L2, A2, way, e⟩ ⟨w1, w2⟩
 dsimp only at w1 w2
 unfold Lz.J7
 refine Ax (fun _ => j5 (_, _, _, _) w1 X) fun he => ?_
 dsimp only at he
 obtain ⟨t, ⟨nd, n0, n1, n2⟩, kk, p, x, rfl, hka, hp, hpt, aa, hx0', hxm⟩ := w2.resolve_left he
 have hkl := (gs aa).1
 have hxkr := X.prt kk _ aa
 refine .bind' (.eq (A8 hx) (.bind' (.eq (A8 aa) ?_)))
 dsimp only
 rw [Bn (by omega)]
 have hset : (ports.set a (ports[a] + G))[kk]? = some x := by rw [List.getElem?_set_ne (Ne.symm hka)]; exact aa
 refine .bind' (.eq (A8 hset) ?_)
 dsimp only
 rw [Bn (by omega)]
 unfold Lz.J8
 refine .bind (eP X Z n2) fun M hst => ?_
 obtain ⟨s1, s2, s3⟩ := hst
 dsimp only at s1 s2 s3
 refine j5 (_, _, _, _) w1 ⟨by dsimp only; rw [s1]; exact X.rl, by simp [X.pl], s2, fun k y hk => ?_, fun v => ?_⟩
 ·dsimp only at hk
  rw [Ee] at hk
  split at hk
  ·simp at hk; omega
  ·rw [Ee] at hk
   split at hk
   ·simp at hk; omega
   ·exact X.prt k y hk
 ·have w1 : (wp n v)[a]? = some (ind n.Ports[a].Node v) := by unfold wp; rw [List.getElem?_map, hpa]; rfl
  have w2 : (wp n v)[kk]? = some (ind p.Node v) := by unfold wp; rw [List.getElem?_map, hp]; rfl
  dsimp only
  rw [Gp w2 hset, Gp w1 hx, s3 v, n0, n1, hpt]
  have := X.bal v
  have e1 : ind n.Ports[a].Node v * (ports[a] + G - ports[a]) = G * ind n.Ports[a].Node v := by rw [show ports[a] + G - ports[a] = G by omega, Int.mul_comm]
  have e2 : ind t v * (x - G - x) = -(G * ind t v) := by rw [show x - G - x = -G by omega, Int.mul_neg, Int.mul_comm]
  rw [e1, e2]
  omega
theorem X2 {n : Nw} (X : NetOk n) {s : V9} (hs : SrcOk s) : Ok (Lz s n) fun r => PlanOk n r.1 ∧ SrcOk r.2 := by
 have h1 := X.segs1; have h2 := X.ports1; have h3 := X.sts1
 unfold Lz
 refine .bind' (.mk n.Segments.length rfl (by omega) (.bind' (.mk n.Ports.length rfl (by omega) ?_)))
 unfold Lz.J1
 refine .bind (Q := fun d : Li × Int × List Bool => SrcOk ⟨d.1, d.2.1⟩ ∧ d.2.2.length = n.Stations.length) ?_ ?_
 ·refine .loop (fun st : Li × Int × List Bool × Int => SrcOk ⟨st.1, st.2.1⟩ ∧ (st.2.2.1.length : Int) = st.2.2.2 ∧ st.2.2.1.length ≤ n.Stations.length) (fun st => n.Stations.length - st.2.2.1.length) ⟨hs, by simp, by simp⟩ (by dsimp only; omega) ?_
  rintro ⟨L_, At, Z, i⟩ ⟨i1, i2, i3⟩
  dsimp only at i1 i2 i3
  unfold Lz.B20
  refine Ax (fun h0 => ?_) fun h0 => .pure ⟨i1, by dsimp only at h0 ⊢; omega⟩
  dsimp only at h0 ⊢
  refine .bind (E1 i1 (by decide) (by decide)) fun r G => .bind' (.app (by simp; omega) (.pure ?_))
  rw [Bn (by omega)]
  exact ⟨⟨G.1, by simp; omega, by simp; omega⟩, by simp; omega⟩
 rintro ⟨L_, At, Z⟩ ⟨i1, i2⟩
 dsimp only at i1 i2
 unfold Lz.J2
 refine .bind (E1 i1 (by decide) (by decide)) fun r51 h51 => .bind (E1 h51.1 (by decide) (by decide)) fun r1787 O => ?_
 refine .bind (Ww X O.1 O.2 ⟨by simp, by simp, fun k r s G hs => ?_, fun k x Y => ?_, fun v => ?_⟩) ?_
 ·have := mg G
  simp at this
  have hc := (X.segs k s hs).cap
  exact ⟨by omega, fun _ => by omega, fun _ => by omega⟩
 ·have := mg Y
  simp at this
  omega
 ·rw [Vi, Vi]; omega
 rintro ⟨L2, A2, aa, ports⟩ ⟨j1, M⟩
 dsimp only at j1 M
 have hr0 : ∀ (k : Nat) (r : Int), aa[k]? = some r → -1000000 ≤ r ∧ r ≤ 1000000 := fun k r G => by
  have hk := (gs G).1
  have hs : n.Segments[k]? = some _ := gq (by have := M.rl; omega)
  have := (M.rng k r _ G hs).rng
  omega
 unfold Lz.J3
 refine Dk (fun _ => ?_) fun _ => .pure ⟨⟨M.rl, M.pl, i2, fun k r s G hs => (M.rng k r s G hs).rng, M.prt, M.bal, .inl fun k r s G hs => ?_⟩, j1⟩
 ·refine .bind' (.eq (Wz (by dsimp only; have := M.rl; omega) (by dsimp only; have := M.pl; omega) (by dsimp only; omega) hr0 fun k x Y => by have := M.prt k x Y; omega) (.pure ⟨⟨by simp [M.rl], by simp [M.pl], i2, fun k r s G hs => ?_, fun k x Y => ?_, fun v => ?_, .inr fun k r s G hs => ?_⟩, j1⟩))
  ·dsimp only at G
   rw [List.getElem?_map] at G
   obtain ⟨r', W, rfl⟩ := Option.map_eq_some_iff.1 G
   have := (M.rng k r' s W hs).rng
   omega
  ·dsimp only at Y
   rw [List.getElem?_map] at Y
   obtain ⟨r', W, rfl⟩ := Option.map_eq_some_iff.1 Y
   have := M.prt k r' W
   omega
  ·dsimp only
   rw [Nb, Nb]
   have := M.bal v
   omega
  ·dsimp only at G
   rw [List.getElem?_map] at G
   obtain ⟨r', W, rfl⟩ := Option.map_eq_some_iff.1 G
   have h5 := M.rng k r' s W hs
   have h6 := (X.segs k s hs).ends
   have := h5.up; have := h5.down
   omega
 ·have h5 := M.rng k r s G hs
  have h6 := (X.segs k s hs).ends
  have := h5.up; have := h5.down
  omega
def val {n : Nat} (a : Arr Int n) (v : Nat) : Int := a.l.getD v 0
theorem Tf {n : Nat} {a : Arr Int n} {i v : Nat} {x : Int} (hv : v < n) : val (a.set i x) v = if i = v then x else val a v := by
 unfold val Arr.set
 dsimp only
 rw [List.getD_eq_getElem?_getD, List.getD_eq_getElem?_getD, Ee]
 have := a.h
 by_cases h : i = v
 ·rw [if_pos ⟨h, by omega⟩, if_pos h]; rfl
 ·rw [if_neg (fun G => h G.1), if_neg h]
theorem M5 {n : Nat} {a : Arr Int n} {i : Nat} {x : Int} (h : a.l[i]? = some x) : val a i = x := by
 unfold val; rw [List.getD_eq_getElem?_getD, h]; rfl
theorem Tg {n v : Nat} : val (Arr.rep n (0 : Int)) v = 0 := by
 unfold val Arr.rep
 dsimp only
 rw [List.getD_eq_getElem?_getD, List.getElem?_replicate]
 split <;> rfl
structure Strm (b : Int) (s : flow_streams) (f : Nat → Int) : Prop where
 come : ∀ v, v < 24 → 0 ≤ val s.come v ∧ val s.come v ≤ b
 leave : ∀ v, v < 24 → 0 ≤ val s.leave v ∧ val s.leave v ≤ b
 diff : ∀ v, v < 24 → val s.come v - val s.leave v = f v
theorem Eh (v : Int) : ind v v = 1 := if_pos rfl
theorem D9 {a v : Int} (h : a ≠ v) : ind a v = 0 := if_neg h
theorem dJ {s : flow_streams} {b : Int} {f : Nat → Int} (h : Strm b s f) (hb : 0 ≤ b ∧ b ≤ 1000000) {G M rate : Int} (hf : G < 24) (ht : M < 24) (Z : -1 ≤ G ∧ -1 ≤ M)
  (hr : -1000 ≤ rate ∧ rate ≤ 1000) : Ok (Ll s G M rate) fun r => Strm (b + 1000) r fun v => f v + (ind M v - ind G v) * rate := by
 have aa : ∀ (G M rate : Int), G < 24 → M < 24 → -1 ≤ G ∧ -1 ≤ M → 0 ≤ rate ∧ rate ≤ 1000 → Ok (Ll.J1 s (G, M, rate)) fun r => Strm (b + 1000) r fun v => f v + (ind M v - ind G v) * rate := by
  intro G M rate hf ht Z hr
  have j2 : ∀ (lv : Arr Int 24), (∀ v, v < 24 → 0 ≤ val lv v ∧ val lv v ≤ b + 1000 ∧ val lv v = val s.leave v + ind G v * rate) → Ok (Ll.J2 s (G, M, rate) lv) fun r => Strm (b + 1000) r fun v => f v + (ind M v - ind G v) * rate := by
   intro lv W
   unfold Ll.J2
   refine Ax (fun X => ?_) fun X => .pure ?_
   ·dsimp only at X
    obtain ⟨t, rfl⟩ := Ed X
    have hl := s.come.h
    refine .bind' (.ix t rfl (by omega) ?_)
    have hx : s.come.l[t]? = some s.come.l[t] := gq (by omega)
    have hvx := M5 hx
    have hcx := h.come t (by omega)
    dsimp only
    rw [Bn (by omega)]
    refine .pure ⟨fun v O => ?_, fun v O => ⟨(W v O).1, (W v O).2.1⟩, fun v O => ?_⟩
    ·have := h.come v O
     dsimp only
     rw [Tf O]; split <;> omega
    ·have h1 := h.diff v O
     have h2 := (W v O).2.2
     dsimp only
     rw [Tf O, h2, Int.sub_mul]
     by_cases Y : t = v
     ·subst Y; rw [if_pos rfl, Eh]; omega
     ·rw [if_neg Y, D9 (a := (t : Int)) (by omega)]; omega
   ·dsimp only at X
    refine ⟨fun v O => ?_, fun v O => ⟨(W v O).1, (W v O).2.1⟩, fun v O => ?_⟩
    ·have := h.come v O
     dsimp only; omega
    ·have h1 := h.diff v O
     have h2 := (W v O).2.2
     dsimp only
     rw [h2, Int.sub_mul, D9 (a := M) (by omega)]; omega
  unfold Ll.J1
  refine Ax (fun X => ?_) fun X => ?_
  ·dsimp only at X
   obtain ⟨t, rfl⟩ := Ed X
   have hl := s.leave.h
   refine .bind' (.ix t rfl (by omega) ?_)
   have hx : s.leave.l[t]? = some s.leave.l[t] := gq (by omega)
   have hvx := M5 hx
   have hcx := h.leave t (by omega)
   dsimp only
   rw [Bn (by omega)]
   refine j2 _ fun v O => ?_
   have := h.leave v O
   rw [Tf O]
   by_cases Y : t = v
   ·subst Y; rw [if_pos rfl, Eh]; omega
   ·rw [if_neg Y, D9 (by omega)]; omega
  ·dsimp only at X
   refine j2 _ fun v O => ?_
   have := h.leave v O
   rw [D9 (by omega)]; omega
 unfold Ll
 refine Ax (fun X => ?_) fun X => aa _ _ _ hf ht Z (by omega)
 rw [Bn (by omega)]
 refine (aa M G (0 - rate) ht hf ⟨Z.2, Z.1⟩ (by omega)).mono fun r hr => ⟨hr.come, hr.leave, fun v O => ?_⟩
 rw [hr.diff v O]
 have : ∀ a b r : Int, (a - b) * (0 - r) = (b - a) * r := fun a b r => by rw [Int.zero_sub, Int.mul_neg, ← Int.neg_mul]; congr 1; omega
 rw [this]
def Ef (n : Nw) (p : Plan) (there : List Bool) (j : Nat) : Prop :=
 ∃ (i : Nat) (s : Sg) (r : Int) (f : Nat), n.Segments[i]? = some s ∧ p.Rates[i]? = some r ∧ r ≠ 0 ∧ (Ck s r).2 = (j : Int) ∧ (Ck s r).1 = (f : Int) ∧ there[f]? = some false
def I0 (n : Nw) (p : Plan) : Prop := ∀ there : List Bool, there.length = n.Nodes.length → (∀ j : Nat, there[j]? = some false → Ef n p there j) → ∀ k : Nat, there[k]? ≠ some false
structure FlowOk (n : Network) (p : Plan) : Prop where
 rl : p.Rates.length = n.Segments.length
 pl : p.Ports.length = n.Ports.length
 ml : p.Pumps.length = n.Stations.length
 rng : ∀ (k : Nat) (r : Int) (s : Sg), p.Rates[k]? = some r → n.Segments[k]? = some s → -1000 ≤ r ∧ r ≤ 1000 ∧ -s.Capacity ≤ r ∧ r ≤ s.Capacity
 prt : ∀ (k : Nat) (x : Int), p.Ports[k]? = some x → -1000 ≤ x ∧ x ≤ 1000
 bal : ∀ v : Nat, v < 24 → Ep (wt n v) p.Rates + Ep (wp n v) p.Ports = 0
 acyc : I0 n p
theorem Wn {s : Sg} {r : Int} (M : r ≠ 0) : Ck s r = (s.To, s.From) ∧ r < 0 ∨ Ck s r = (s.From, s.To) ∧ 0 < r := by
 unfold Ck
 by_cases G : r < 0
 ·exact .inl ⟨by rw [if_pos (by simp [G])], G⟩
 ·exact .inr ⟨by rw [if_neg (by simp [G])], by omega⟩
theorem PlanOk.flow {n : Nw} {p : Plan} (h : PlanOk n p) : FlowOk n p := by
 refine ⟨h.rl, h.pl, h.ml, h.rng, h.prt, fun v _ => h.bal v, fun G hl i5 => ?_⟩
 rcases h.dir with hd | hd
 ·intro k
  induction k using Nat.strongRecOn with
  | ind k ih =>
   intro Z
   have hkl := (gs Z).1
   obtain ⟨i, s, r, f, hs, hr, W, O, M, hf⟩ := i5 k Z
   have := hd i r s hr hs
   refine ih f ?_ hf
   rcases Wn (s := s) W with ⟨Y, X⟩ | ⟨Y, X⟩ <;> rw [Y] at O M <;> dsimp only at O M <;> omega
 ·have : ∀ m k : Nat, G.length - k = m → G[k]? ≠ some false := by
   intro m
   induction m using Nat.strongRecOn with
   | ind m ih =>
    intro k hm Z
    have hkl := (gs Z).1
    obtain ⟨i, s, r, f, hs, hr, W, O, M, hf⟩ := i5 k Z
    have hfl := (gs hf).1
    have := hd i r s hr hs
    refine ih (G.length - f) ?_ f rfl hf
    rcases Wn (s := s) W with ⟨Y, X⟩ | ⟨Y, X⟩ <;> rw [Y] at O M <;> dsimp only at O M <;> omega
  exact fun k => this _ k rfl
theorem dT {n : Nw} (Y : NetC n) {p : Plan} (h4 : p.Rates.length = n.Segments.length) (h5 : p.Ports.length = n.Ports.length) (hrng : ∀ (k : Nat) (r : Int), p.Rates[k]? = some r → -1000 ≤ r ∧ r ≤ 1000) (Z : ∀ (k : Nat) (x : Int), p.Ports[k]? = some x → -1000 ≤ x ∧ x ≤ 1000) :
  Ok (Nu n p) fun r => Strm 60000 r fun v => Ep (wt n v) p.Rates + Ep (wp n v) p.Ports := by
 have h1 := Y.nodes; have h2 := Y.segs1; have h3 := Y.ports1
 unfold Nu
 refine .bind (.forS (fun k W => Strm (1000 * k) ⟨W.1, W.2⟩ fun v => Ep (wt n v) (p.Rates.take k)) ⟨fun v G => ?_, fun v G => ?_, fun v G => ?_⟩ ?_ fun W h => h) ?_
 ·dsimp only; rw [Tg]; omega
 ·dsimp only; rw [Tg]; omega
 ·dsimp only; rw [Tg]; simp [Ic]
 ·intro k s W X O
  have hkl := (gs X).1
  have hr : p.Rates[k]? = some p.Rates[k] := gq (by omega)
  have hrr := hrng k _ hr
  have he := (Y.segs k s X).1
  unfold Nu.B4
  refine .bind' (.ix k rfl (by omega) (.bind (dJ O (by omega) (by omega) (by omega) (by omega) (by dsimp only; omega)) fun r M => .pure ?_))
  refine ⟨fun v G => ?_, fun v G => ?_, fun v G => ?_⟩
  ·have := M.come v G; dsimp only; omega
  ·have := M.leave v G; dsimp only; omega
  ·have := M.diff v G
   dsimp only at this ⊢
   rw [this, Fm (w := wt n v) (a := ind s.To v - ind s.From v) (by unfold wt; rw [List.getElem?_map, X]; rfl) hr]
 ·intro W O
  rw [List.take_of_length_le (by omega)] at O
  unfold Nu.J1
  refine .bind (.forS (fun k W => Strm (32000 + 1000 * k) ⟨W.1, W.2⟩ fun v => Ep (wt n v) p.Rates + Ep (wp n v) (p.Ports.take k)) ⟨fun v G => ?_, fun v G => ?_, fun v G => ?_⟩ ?_ fun W h => h) ?_
  ·have := O.come v G; dsimp only at this ⊢; omega
  ·have := O.leave v G; dsimp only at this ⊢; omega
  ·have := O.diff v G; dsimp only at this ⊢; rw [this]; simp [Ic]
  ·intro k s W X O
   have hkl := (gs X).1
   have hr : p.Ports[k]? = some p.Ports[k] := gq (by omega)
   have hrr := Z k _ hr
   have he := (Y.ports k s X)
   unfold Nu.B3
   refine .bind' (.ix k rfl (by omega) (.bind (dJ O (by omega) (by omega) (by omega) (by omega) (by dsimp only; omega)) fun r M => .pure ?_))
   refine ⟨fun v G => ?_, fun v G => ?_, fun v G => ?_⟩
   ·have := M.come v G; dsimp only; omega
   ·have := M.leave v G; dsimp only; omega
   ·have := M.diff v G
    dsimp only at this ⊢
    rw [this, Fm (w := wp n v) (a := ind s.Node v) (by unfold wp; rw [List.getElem?_map, X]; rfl) hr, D9 (a := -1) (by omega), Int.sub_zero]; omega
  ·intro W O
   rw [List.take_of_length_le (by omega)] at O
   unfold Nu.J2
   refine .pure ⟨fun v G => ?_, fun v G => ?_, fun v G => ?_⟩
   ·have := O.come v G; dsimp only at this ⊢; omega
   ·have := O.leave v G; dsimp only at this ⊢; omega
   ·exact O.diff v G
def bZ : List Bool → Nat
 | [] => 0
 | b :: l => (if b = true then 1 else 0) + bZ l
theorem Nq : ∀ l : List Bool, bZ l ≤ l.length
 | [] => Nat.le_refl _
 | b :: l => by have := Nq l; cases b <;> simp [bZ] <;> omega
theorem hT (n : Nat) : bZ (List.replicate n false) = 0 := by induction n with | zero => rfl | succ n ih => simp [List.replicate_succ, bZ, ih]
theorem Tq : ∀ {l : List Bool} {k : Nat}, l[k]? = some false → bZ (l.set k true) = bZ l + 1
 | [], k, h => by simp at h
 | b :: l, 0, h => by simp at h; subst h; simp [bZ]; omega
 | b :: l, k + 1, h => by simp at h; simp [bZ, Tq h]; omega
structure Flw (n : Network) (p : Plan) (i : Nat) (s : Segment) (r : Int) : Prop where
 seg : n.Segments[i]? = some s
 rate : p.Rates[i]? = some r
 ne : r ≠ 0
structure Topo (n : Network) (p : Plan) (l : List Int) : Prop where
 rng : ∀ v, v ∈ l → 0 ≤ v ∧ v < (n.Nodes.length : Int)
 nodup : l.Nodup
 topo : ∀ (k : Nat) (v : Int), l[k]? = some v → ∀ i s r, Flw n p i s r → (Ck s r).2 = v → (Ck s r).1 ∈ l.take k
 least : ∀ (k : Nat) (v : Int), l[k]? = some v → ∀ j : Nat, (j : Int) < v → (j : Int) ∉ l.take k → ∃ i s r, Flw n p i s r ∧ (Ck s r).2 = (j : Int) ∧ (Ck s r).1 ∉ l.take k
structure There (n : Network) (p : Plan) (out : List Int) (there : List Bool) : Prop where
 len : there.length = n.Nodes.length
 topo : Topo n p out
 mem : ∀ v : Nat, there[v]? = some true ↔ (v : Int) ∈ out
theorem There.nil (n : Nw) (p : Plan) : There n p [] (List.replicate n.Nodes.length false) :=
 ⟨by simp, ⟨by simp, by simp, by simp, by simp⟩, fun v => by simp [List.getElem?_replicate]⟩
theorem There.short {n : Nw} {p : Plan} {out : Li} {there : List Bool} (h : There n p out there) : out.length ≤ n.Nodes.length := by
 have := h.topo.nodup.length_le_of_subset (l₂ := (List.range n.Nodes.length).map fun v : Nat => (v : Int)) fun v G => by
  have := h.topo.rng v G
  exact List.mem_map.2 ⟨v.toNat, List.mem_range.2 (by omega), by omega⟩
 simpa using this
theorem There.step {n : Nw} {p : Plan} {out : Li} {there : List Bool} (h : There n p out there) {k : Nat} (hk : there[k]? = some false) (hr : ∀ i s r, Flw n p i s r → (Ck s r).2 = (k : Int) → (Ck s r).1 ∈ out)
  (hl : ∀ j : Nat, j < k → there[j]? = some false → Ef n p there j) : There n p (out ++ [(k : Int)]) (there.set k true) := by
 have hkl := (gs hk).1
 have h1 := h.len
 have X : (k : Int) ∉ out := fun G => by have := (h.mem k).2 G; rw [hk] at this; cases this
 have Y : ∀ {m : Nat} {v : Int}, (out ++ [(k : Int)])[m]? = some v → (out[m]? = some v ∧ (out ++ [(k : Int)]).take m = out.take m) ∨ (v = (k : Int) ∧ (out ++ [(k : Int)]).take m = out) := fun {m v} G => by
  rw [List.getElem?_append] at G
  split at G
  ·rename_i Z
   exact .inl ⟨G, List.take_append_of_le_length (by omega)⟩
  ·rename_i Z
   have hl := (gs G).1
   simp at hl
   have : m = out.length := by omega
   subst this
   simp at G
   exact .inr ⟨G.symm, List.take_left⟩
 refine ⟨by simp [h1], ⟨fun v M => ?_, ?_, fun m v G i s r hf ht => ?_, fun m v G j hj hn => ?_⟩, fun v => ?_⟩
 ·rcases List.mem_append.1 M with M | M
  ·exact h.topo.rng v M
  ·simp at M; omega
 ·exact List.nodup_append.2 ⟨h.topo.nodup, by simp, fun a ha b O he => by simp at O; subst O; subst he; exact X ha⟩
 ·rcases Y G with ⟨G, e⟩ | ⟨rfl, e⟩ <;> rw [e]
  ·exact h.topo.topo m v G i s r hf ht
  ·exact hr i s r hf ht
 ·rcases Y G with ⟨G, e⟩ | ⟨rfl, e⟩ <;> rw [e] at hn ⊢
  ·exact h.topo.least m v G j hj hn
  ·have W : there[j]? = some there[j] := gq (by omega)
   cases O : there[j] with
   | true => exact absurd ((h.mem j).1 (by rw [W, O])) hn
   | false =>
    obtain ⟨i, s, r, f, e1, e2, e3, e4, e5, e6⟩ := hl j (by omega) (by rw [W, O])
    exact ⟨i, s, r, ⟨e1, e2, e3⟩, e4, fun G => by rw [e5] at G; have := (h.mem f).2 G; rw [e6] at this; cases this⟩
 ·by_cases M : v = k
  ·subst M
   rw [List.getElem?_set_self (by omega)]; simp
  ·rw [List.getElem?_set_ne (by omega), h.mem v]
   simp; omega
theorem There.fin {n : Nw} {p : Plan} {out : Li} {there : List Bool} (h : There n p out there) (hb : ∀ j : Nat, there[j]? = some false → Ef n p there j) :
  (∀ v : Nat, v < n.Nodes.length → (v : Int) ∈ out) ∨ ((∃ v : Nat, v < n.Nodes.length ∧ (v : Int) ∉ out) ∧ ¬ I0 n p) := by
 have Y := h.len
 by_cases G : ∀ k : Nat, there[k]? ≠ some false
 ·refine .inl fun v M => (h.mem v).1 ?_
  have W : there[v]? = some there[v] := gq (by omega)
  cases hb : there[v] with
  | true => rw [W, hb]
  | false => exact absurd (by rw [W, hb]) (G v)
 ·refine .inr ⟨?_, fun O => G (O there h.len hb)⟩
  obtain ⟨v, M⟩ := Classical.not_forall.1 G
  have M := Classical.not_not.1 M
  refine ⟨v, by have := (gs M).1; omega, fun X => ?_⟩
  have := (h.mem v).2 X
  rw [M] at this; cases this
theorem V0 {n : Nw} (hn : NetC n) {p : Plan} (h4 : p.Rates.length = n.Segments.length) : Ok (Oc n p) fun r => Topo n p r ∧ ((∀ v : Nat, v < n.Nodes.length → (v : Int) ∈ r) ∨ ((∃ v : Nat, v < n.Nodes.length ∧ (v : Int) ∉ r) ∧ ¬ I0 n p)) := by
 have h1 := hn.nodes; have h2 := hn.segs1
 let I : Li × List Bool × Int → Prop := fun Y => There n p Y.1 Y.2.1 ∧ 0 ≤ Y.2.2 ∧ Y.2.2 ≤ (n.Nodes.length : Int) ∧ ∀ j : Nat, (j : Int) < Y.2.2 → Y.2.1[j]? = some false → Ef n p Y.2.1 j
 let R : Li → Prop := fun r => Topo n p r ∧ ((∀ v : Nat, v < n.Nodes.length → (v : Int) ∈ r) ∨ ((∃ v : Nat, v < n.Nodes.length ∧ (v : Int) ∉ r) ∧ ¬ I0 n p))
 let μ : Li × List Bool × Int → Nat := fun Y => (n.Nodes.length - bZ Y.2.1) * 100 + (n.Nodes.length - Y.2.2.toNat)
 unfold Oc
 refine .bind' (.mk n.Nodes.length rfl (by omega) ?_)
 refine .bind (Q := R) ?_ fun r hr => .pure hr
 refine .loop I μ ⟨.nil n p, by simp, by simp, fun j Z => by dsimp only at Z; omega⟩ (by simp only [μ]; rw [hT]; omega) ?_
 rintro ⟨O, G, k⟩ ⟨iT, i3, i4, i5⟩
 dsimp only at iT i3 i4 i5
 have i1 := iT.len
 have hc := Nq G
 unfold Oc.B2
 refine Ax (fun h0 => ?_) fun h0 => ?_
 ·dsimp only at h0
  obtain ⟨M, rfl⟩ := Ed i3
  have hkl : M < G.length := by omega
  have hx : G[M]? = some G[M] := gq hkl
  have next : Ef n p G M ∨ G[M] = true → Ok (Oc.J3 (O, G, (M : Int))) (Sum.elim (fun Y => I Y ∧ μ Y < μ (O, G, (M : Int))) R) := by
   intro hb
   unfold Oc.J3
   dsimp only
   rw [Bn (by omega)]
   refine .pure ⟨⟨iT, by dsimp only; omega, by dsimp only; omega, fun j Z W => ?_⟩, by simp only [μ]; omega⟩
   dsimp only at Z W
   by_cases hjk : j = M
   ·subst hjk
    rcases hb with hb | hb
    ·exact hb
    ·rw [hx, hb] at W; cases W
   ·exact i5 j (by omega) W
  refine .bind' (.eq (A8 hx) (A7 (fun ht => next (.inr ht)) fun ht => ?_))
  dsimp only at ht
  refine .bind' (.forL (fun i _ => ∀ (j : Nat) (s : Sg) (r : Int), j < i → Flw n p j s r → (Ck s r).2 = (M : Int) → (Ck s r).1 ∈ O) (fun d => d = (O, G, (M : Int)) ∧ Ef n p G M) (fun j s r Z => absurd Z (Nat.not_lt_zero _)) ?_ ?_ ?_)
  ·intro i s _ hs hJ
   have hil := (gs hs).1
   have hr : p.Rates[i]? = some p.Rates[i] := gq (by omega)
   have he := (hn.segs i s hs).1
   have no : (p.Rates[i] ≠ 0 → (Ck s p.Rates[i]).2 = (M : Int) → (Ck s p.Rates[i]).1 ∈ O) → Ok (Oc.J6 (O, G, (M : Int)) false) (Sum.elim (fun _ : Unit => ∀ (j : Nat) (s : Sg) (r : Int), j < i + 1 → Flw n p j s r → (Ck s r).2 = (M : Int) → (Ck s r).1 ∈ O) fun d => d = (O, G, (M : Int)) ∧ Ef n p G M) := by
    intro hq
    unfold Oc.J6
    refine .pure fun j s' r' Z W ht => ?_
    by_cases hji : j = i
    ·subst hji
     have e1 := W.seg; have e2 := W.rate
     rw [hs] at e1; cases e1
     rw [hr] at e2; cases e2
     exact hq W.ne ht
    ·exact hJ j s' r' (by omega) W ht
   unfold Oc.B5
   refine .bind' (.eq (A8 hr) (Cx (fun aa => Dk (fun X => ?_) fun X => no fun _ h => absurd h X) fun aa => no fun h => absurd aa h))
   dsimp only at aa X ⊢
   have hfr : 0 ≤ (Ck s p.Rates[i]).1 ∧ (Ck s p.Rates[i]).1 < (n.Nodes.length : Int) := by
    unfold Ck
    split <;> dsimp only <;> omega
   refine .bind' (.ix' hfr.1 (by omega) fun f x W hfx => ?_)
   dsimp only
   cases x with
   | false =>
    unfold Oc.J6
    exact .pure ⟨rfl, i, s, p.Rates[i], f, hs, hr, aa, X, W, hfx⟩
   | true => exact no fun _ _ => by rw [W]; exact (iT.mem f).1 hfx
  ·intro _ hJ
   simp only [Sum.elim_inl]
   unfold Oc.J4
   refine .bind' (.app (by have := iT.short; simp; omega) ?_)
   unfold Oc.J3
   dsimp only
   rw [Bn (by omega)]
   have hx' : G[M]? = some false := by rw [hx, ht]
   have hcs := Tq hx'
   have hcl := Nq (G.set M true)
   simp at hcl
   refine .pure ⟨⟨iT.step hx' (fun i s r W X => hJ i s r (gs W.seg).1 W X) fun j Z => i5 j (by omega), by simp, by dsimp only; omega, fun j Z => by dsimp only at Z; omega⟩, ?_⟩
   simp only [μ]
   rw [hcs]; omega
  ·rintro _ ⟨rfl, hb⟩
   exact next (.inl hb)
 ·dsimp only at h0
  have hk : k = (n.Nodes.length : Int) := by omega
  subst hk
  have T4 : ∀ j : Nat, G[j]? = some false → Ef n p G j := fun j Z => i5 j (by have := (gs Z).1; omega) Z
  exact .pure ⟨iT.topo, iT.fin T4⟩
theorem Ve {l : Li} {m : Nat} (G : ∀ v, v ∈ l → 0 ≤ v ∧ v < (m : Int)) (W : l.Nodup) (M : ∀ v : Nat, v < m → (v : Int) ∈ l) : l.length = m := by
 have X : l.Perm ((List.range m).map fun k : Nat => (k : Int)) := (List.perm_ext_iff_of_nodup W (List.Pairwise.map _ (fun a b h Y => h (by omega)) List.nodup_range)).2 fun v => by
  simp only [List.mem_map, List.mem_range]
  refine ⟨fun h => ⟨v.toNat, by have := G v h; omega, by have := G v h; omega⟩, ?_⟩
  rintro ⟨k, O, rfl⟩
  exact M k O
 simpa using X.length_eq
theorem Gi : ∀ {w l : Li}, (∀ x, x ∈ w → x = 0) → Ep w l = 0
 | [], _, _ => rfl
 | _ :: _, [], _ => rfl
 | a :: w, x :: l, h => by simp only [Ep]; rw [h a (by simp), Gi fun y G => h y (by simp [G])]; omega
theorem Ty {n : Nw} {p : Plan} (G : Nat → Nat) (h : ∀ (i : Nat) (s : Sg) (r : Int) (f t : Nat), n.Segments[i]? = some s → p.Rates[i]? = some r → r ≠ 0 → (Ck s r).1 = (f : Int) → (Ck s r).2 = (t : Int) → t < n.Nodes.length → G f < G t) : I0 n p := by
 intro M hl Z
 have : ∀ m k : Nat, G k = m → M[k]? ≠ some false := by
  intro m
  induction m using Nat.strongRecOn with
  | ind m ih =>
   intro k hm Y
   have hkl := (gs Y).1
   obtain ⟨i, s, r, f, hs, hr, W, X, O, hf⟩ := Z k Y
   exact ih (G f) (by have := h i s r f k hs hr W O X (by omega); omega) f rfl hf
 exact fun k => this _ k rfl
theorem Topo.acyc {n : Nw} {p : Plan} {l : Li} (h : Topo n p l) (X : ∀ v : Nat, v < n.Nodes.length → (v : Int) ∈ l) : I0 n p := by
 refine Ty (fun v => l.idxOf (v : Int)) fun i s r f t hs hr M Z ht O => ?_
 have hm := X t O
 have W := List.idxOf_lt_length_of_mem hm
 have hk : l[l.idxOf (t : Int)]? = some (t : Int) := by rw [gq W, List.getElem_idxOf W]
 have := h.topo _ _ hk i s r ⟨hs, hr, M⟩ ht
 rw [Z] at this
 obtain ⟨j, hj, Y⟩ := List.mem_take_iff_getElem.1 this
 have G : j < l.length := by omega
 have h2 : l.idxOf (f : Int) ≤ j := by
  rw [← Y]
  have := h.nodup.idxOf_getElem j G
  omega
 omega
theorem Va {l : Li} {m : Nat} (O : ∀ v, v ∈ l → 0 ≤ v ∧ v < (m : Int)) (M : l.Nodup) {v : Nat} (hv : v < m) (h : (v : Int) ∉ l) : l.length < m := by
 have := (List.nodup_cons.2 ⟨h, M⟩).length_le_of_subset (l₂ := (List.range m).map fun v : Nat => (v : Int)) fun x G => by
  rcases List.mem_cons.1 G with rfl | G
  ·exact List.mem_map.2 ⟨v, List.mem_range.2 hv, rfl⟩
  ·have := O x G
   exact List.mem_map.2 ⟨x.toNat, List.mem_range.2 (by omega), by omega⟩
 simp at this; omega
theorem Topo.uniq {n : Nw} {p : Plan} {l l' : Li} (h : Topo n p l) (X : Topo n p l') (e : l.length = l'.length) : l = l' := by
 have M : ∀ {l l' : Li} {k : Nat} {v v' : Int}, Topo n p l → Topo n p l' → l.take k = l'.take k → l[k]? = some v → l'[k]? = some v' → ¬ v < v' := fun {l l' k v v'} h X Y O G aa => by
  have hr := h.rng v (mg O)
  obtain ⟨j, rfl⟩ := Ed hr.1
  have hm : (j : Int) ∉ l.take k := fun hm => by
   obtain ⟨i, hi, he⟩ := List.mem_take_iff_getElem.1 hm
   have Z := (gs O).1
   have := (List.getElem_inj h.nodup (i := i) (j := k) (h₀ := by omega) (h₁ := Z)).1 (by rw [he]; exact (gs O).2.symm)
   omega
  obtain ⟨i, s, r, hf, h1, h2⟩ := X.least k v' G j aa (by rw [← Y]; exact hm)
  rw [← Y] at h2
  exact h2 (h.topo k j O i s r hf h1)
 have : ∀ k, k ≤ l.length → l.take k = l'.take k := fun k => by
  induction k with
  | zero => intro _; simp
  | succ k W =>
   intro Y
   have W := W (by omega)
   have O : l[k]? = some l[k] := gq (by omega)
   have G : l'[k]? = some l'[k] := gq (by omega)
   have := M h X W O G
   have := M X h W.symm G O
   rw [List.take_add_one, List.take_add_one, W, O, G, show l[k] = l'[k] by omega]
 have := this l.length (by omega)
 rw [List.take_length] at this
 rw [this, e, List.take_length]
theorem Wx {n : Nw} (X : NetC n) {p : Plan} (O : p.Rates.length = n.Segments.length) : Ok (Oc n p) fun r => (r.length : Int) < (n.Nodes.length : Int) ↔ ¬ I0 n p := by
 refine (V0 X O).mono fun r ⟨M, G⟩ => ?_
 rcases G with G | ⟨⟨v, Y, W⟩, G⟩
 ·have := Ve M.rng M.nodup G
  exact ⟨fun h => by omega, fun h => absurd (M.acyc G) h⟩
 ·have := Va M.rng M.nodup Y W
  exact ⟨fun _ => G, fun _ => by omega⟩
def Wd (n : Nw) (p : Plan) : Prop := p.Rates.length = n.Segments.length ∧ p.Ports.length = n.Ports.length ∧ p.Pumps.length = n.Stations.length
def Nj (s : Sg) (r : Int) : Prop := -1000 ≤ r ∧ r ≤ 1000 ∧ -s.Capacity ≤ r ∧ r ≤ s.Capacity
def Rng (n : Nw) (p : Plan) : Prop := ∀ (k : Nat) (r : Int) (s : Sg), p.Rates[k]? = some r → n.Segments[k]? = some s → Nj s r
def lI (p : Plan) : Prop := ∀ (k : Nat) (x : Int), p.Ports[k]? = some x → -1000 ≤ x ∧ x ≤ 1000
def Bal (n : Nw) (p : Plan) : Prop := ∀ v : Nat, v < n.Nodes.length → Ep (wt n v) p.Rates + Ep (wp n v) p.Ports = 0
def FlowRes (n : Nw) (p : Plan) (r : Int) : Prop := (¬ Wd n p ∧ r = 9) ∨ (Wd n p ∧ ((¬ Rng n p ∧ r = 1) ∨ (Rng n p ∧ ((¬ lI p ∧ r = 1) ∨ (lI p ∧ ((¬ Bal n p ∧ r = 12) ∨ (Bal n p ∧ ((¬ I0 n p ∧ r = 13) ∨ (I0 n p ∧ r = 0)))))))))
theorem FlowRes.uniq {n : Nw} {p : Plan} {r r' : Int} (h : FlowRes n p r) (Y : FlowRes n p r') : r = r' := by
 rcases h with ⟨a, rfl⟩ | ⟨a, ⟨b, rfl⟩ | ⟨b, ⟨c, rfl⟩ | ⟨c, ⟨d, rfl⟩ | ⟨d, ⟨e, rfl⟩ | ⟨e, rfl⟩⟩⟩⟩⟩ <;>
  rcases Y with ⟨G, rfl⟩ | ⟨G, ⟨M, rfl⟩ | ⟨M, ⟨O, rfl⟩ | ⟨O, ⟨W, rfl⟩ | ⟨W, ⟨X, rfl⟩ | ⟨X, rfl⟩⟩⟩⟩⟩ <;> first | rfl | contradiction
theorem Bal.all {n : Nw} (X : NetC n) {p : Plan} (h : Bal n p) (v : Nat) : Ep (wt n v) p.Rates + Ep (wp n v) p.Ports = 0 := by
 by_cases O : v < n.Nodes.length
 ·exact h v O
 ·rw [Gi, Gi]; rfl
  ·intro x W
   obtain ⟨k, G⟩ := List.getElem?_of_mem W
   unfold wp at G
   rw [List.getElem?_map] at G
   obtain ⟨s, M, rfl⟩ := Option.map_eq_some_iff.1 G
   have := X.ports k s M
   exact D9 (by omega)
  ·intro x W
   obtain ⟨k, G⟩ := List.getElem?_of_mem W
   unfold wt at G
   rw [List.getElem?_map] at G
   obtain ⟨s, M, rfl⟩ := Option.map_eq_some_iff.1 G
   have := (X.segs k s M).1
   rw [D9 (a := s.To) (by omega), D9 (a := s.From) (by omega)]; rfl
theorem FlowRes.flow {n : Nw} (G : NetC n) {p : Plan} (h : FlowRes n p 0) : FlowOk n p := by
 rcases h with ⟨_, h⟩ | ⟨a, ⟨_, h⟩ | ⟨b, ⟨_, h⟩ | ⟨c, ⟨_, h⟩ | ⟨d, ⟨_, h⟩ | ⟨e, _⟩⟩⟩⟩⟩
 ·cases h
 ·cases h
 ·cases h
 ·cases h
 ·cases h
 ·exact ⟨a.1, a.2.1, a.2.2, b, c, fun v _ => d.all G v, e⟩
theorem FlowOk.res {n : Nw} (G : NetC n) {p : Plan} (h : FlowOk n p) : FlowRes n p 0 :=
 .inr ⟨⟨h.rl, h.pl, h.ml⟩, .inr ⟨h.rng, .inr ⟨h.prt, .inr ⟨fun v M => h.bal v (by have := G.nodes; omega), .inr ⟨h.acyc, rfl⟩⟩⟩⟩⟩
theorem Rng.all {n : Nw} {p : Plan} (hl : Wd n p) (h : Rng n p) (k : Nat) (r : Int) (G : p.Rates[k]? = some r) : -1000 ≤ r ∧ r ≤ 1000 := by
 have M := (gs G).1
 have O : n.Segments[k]? = some (n.Segments[k]'(by have := hl.1; omega)) := gq _
 have := h k r _ G O
 exact ⟨this.1, this.2.1⟩
theorem Pz {r m : Int} (G : 0 ≤ m ∧ m ≤ 1000000) : Lo r m = true ↔ -m ≤ r ∧ r ≤ m := by
 unfold Lo
 rw [Bn (by omega)]
 simp
theorem Yb {n : Nw} (X : NetC n) {p : Plan} : Ok (Ga n p) (FlowRes n p) := by
 have h1 := X.nodes; have h2 := X.segs1; have h3 := X.ports1
 unfold Ga
 refine .bind' (.eq X.check (Cx (fun h => absurd rfl h) fun _ => C4 (Q := ¬ Wd n p) (by unfold Wd; simp; omega) (fun h => .pure (.inl ⟨h, rfl⟩)) fun W => ?_))
 have W := Classical.not_not.1 W
 have l1 := W.1; have l2 := W.2.1
 have hrk : ∀ (k : Nat) (s : Sg), n.Segments[k]? = some s → ∃ r, p.Rates[k]? = some r := fun k s Z => ⟨_, gq (by have := (gs Z).1; omega)⟩
 refine .bind (Ok.any (d := 1) (P := fun k s => ∃ r, p.Rates[k]? = some r ∧ ¬ Nj s r) fun k s Z => ?_) ?_
 ·obtain ⟨r, G⟩ := hrk k s Z
  have hc := (X.segs k s Z).2
  unfold Ga.B2
  refine .bind' (.eq (A8 G) (.test ?_))
  rw [Bool.not_eq_true', ← Bool.not_eq_true, Pz (by omega)]
  refine ⟨fun h => ⟨r, G, fun M => h (by unfold Nj at M; dsimp only; omega)⟩, fun ⟨r', aa, h⟩ M => ?_⟩
  rw [G] at aa; cases aa
  exact h (by unfold Nj; dsimp only at M; omega)
 rintro _ (⟨⟨k, s, Z, r, G, h⟩, rfl⟩ | ⟨h, rfl⟩)
 ·exact .pure (.inr ⟨W, .inl ⟨fun M => h (M k r s G Z), rfl⟩⟩)
 have M : Rng n p := fun k r s G Z => Classical.not_not.1 fun X => h k s Z ⟨r, G, X⟩
 simp only [Sum.elim_inl]
 unfold Ga.J1
 refine .bind' (.eq (Fw (P := fun x => L1 x) fun _ _ _ => rfl) (C4 (Ie (Q := fun x => ¬ (-1000 ≤ x ∧ x ≤ 1000)) fun k x _ => ?_) (fun ⟨k, x, hx, O⟩ => .pure (.inr ⟨W, .inr ⟨M, .inl ⟨fun Y => O (Y k x hx), rfl⟩⟩⟩)) fun Y => ?_))
 ·unfold L1
  rw [Bool.not_eq_true', ← Bool.not_eq_true, Pz (by omega)]
 have Y : lI p := fun k x hx => Classical.not_not.1 fun O => Y ⟨k, x, hx, O⟩
 refine .bind (dT X l1 l2 (M.all W) Y) fun r G => ?_
 have he : r.come = r.leave ↔ Bal n p := by
  refine ⟨fun he v hv => ?_, fun O => Arr.ext' (List.ext_getElem (by rw [r.come.h, r.leave.h]) fun i a b => ?_)⟩
  ·have := G.diff v (by omega)
   rw [he] at this
   omega
  ·have := G.diff i (by rw [← r.come.h]; exact a)
   rw [M5 (gq a), M5 (gq b)] at this
   have := O.all X i
   omega
 refine C4 (Q := ¬ Bal n p) (by rw [← he]; simp) (fun h => .pure (.inr ⟨W, .inr ⟨M, .inr ⟨Y, .inl ⟨h, rfl⟩⟩⟩⟩)) fun O => ?_
 have O := Classical.not_not.1 O
 refine .bind (Wx X l1) fun r G => C4 (Q := ¬ I0 n p) (by rw [← G]; simp) (fun h => .pure (.inr ⟨W, .inr ⟨M, .inr ⟨Y, .inr ⟨O, .inl ⟨h, rfl⟩⟩⟩⟩⟩)) fun ha => ?_
 exact .pure (.inr ⟨W, .inr ⟨M, .inr ⟨Y, .inr ⟨O, .inr ⟨Classical.not_not.1 ha, rfl⟩⟩⟩⟩⟩)
theorem W8 {n : Nw} (G : NetC n) {p : Plan} (h : FlowOk n p) : Ga n p = some 0 := by
 obtain ⟨r, M, O⟩ := Yb G (p := p)
 rw [M, O.uniq (h.res G)]
theorem eE {a b c : Int} : Ch a b c = true ↔ b ≤ a ∧ a ≤ c := by simp [Ch]
theorem Dq {a b c : Int} : (!(Ch a b c)) = true ↔ ¬ (b ≤ a ∧ a ≤ c) := by rw [← eE]; simp
theorem Y0 {x : Bt} : Ok (Ov x) fun r => r = true ↔ Jk x := by
 have X : ¬ (1 ≤ x.size ∧ x.size ≤ 12 ∧ low (ch x 0)) → Ok (Ov.J1 x true) fun r => r = true ↔ Jk x := fun h => by
  unfold Ov.J1
  exact .pure ⟨fun h => (by cases h), fun hn => absurd hn.1 h⟩
 unfold Ov
 refine Ax (fun h => X (by omega)) fun h1 => Ax (fun h => X (by omega)) fun h2 => ?_
 refine .bind' (.eq (M9 (k := 0) (by omega)) (Ax (fun h => X (fun hl => by have := hl.2.2; unfold low at this; dsimp only at h; omega)) fun M => ?_))
 dsimp only at M ⊢
 by_cases h4 : ch x 0 > 122
 ·rw [decide_eq_true h4]; exact X (fun hl => by have := hl.2.2; unfold low at this; omega)
 rw [decide_eq_false h4]
 unfold Ov.J1
 refine A7 (fun h => by cases h) fun _ => ?_
 refine .bind (Q := fun o : Bool ⊕ Unit => (o = .inl false ∧ ∃ k, k < x.size ∧ ¬ (low (ch x k) ∨ (48 ≤ ch x k ∧ ch x k ≤ 57) ∨ ch x k = 45)) ∨ (o = .inr () ∧ ∀ k, k < x.size → low (ch x k) ∨ (48 ≤ ch x k ∧ ch x k ≤ 57) ∨ ch x k = 45)) ?_ ?_
 ·refine .loop (fun i : Int => 0 ≤ i ∧ i ≤ (x.size : Int) ∧ ∀ k : Nat, (k : Int) < i → low (ch x k) ∨ (48 ≤ ch x k ∧ ch x k ≤ 57) ∨ ch x k = 45) (fun i => x.size - i.toNat) ⟨by omega, by omega, fun k h => by omega⟩ (by omega) ?_
  rintro i ⟨i0, i1, i2⟩
  obtain ⟨i, rfl⟩ := Ed i0
  unfold Ov.B3
  refine Ax (fun hlt => .bind' (.eq (M9 (by omega)) ?_)) fun h => .pure (.inr ⟨rfl, fun k hk => i2 k (by omega)⟩)
  have W : low (ch x i) ∨ (48 ≤ ch x i ∧ ch x i ≤ 57) ∨ ch x i = 45 → Ok (Ov.J4 i false) (Sum.elim (fun j : Int => (0 ≤ j ∧ j ≤ (x.size : Int) ∧ ∀ k : Nat, (k : Int) < j → low (ch x k) ∨ (48 ≤ ch x k ∧ ch x k ≤ 57) ∨ ch x k = 45) ∧ x.size - j.toNat < x.size - (i : Int).toNat) fun o : Bool ⊕ Unit => (o = .inl false ∧ ∃ k, k < x.size ∧ ¬ (low (ch x k) ∨ (48 ≤ ch x k ∧ ch x k ≤ 57) ∨ ch x k = 45)) ∨ (o = .inr () ∧ ∀ k, k < x.size → low (ch x k) ∨ (48 ≤ ch x k ∧ ch x k ≤ 57) ∨ ch x k = 45)) := fun hg => by
   unfold Ov.J4
   refine A7 (fun h => by cases h) fun _ => .pure ?_
   rw [Bn (by omega)]
   refine ⟨⟨by omega, by omega, fun k hk => ?_⟩, by omega⟩
   by_cases hki : k = i
   ·subst hki; exact hg
   ·exact i2 k (by omega)
  have O : ¬ (low (ch x i) ∨ (48 ≤ ch x i ∧ ch x i ≤ 57) ∨ ch x i = 45) → Ok (Ov.J4 i true) (Sum.elim (fun j : Int => (0 ≤ j ∧ j ≤ (x.size : Int) ∧ ∀ k : Nat, (k : Int) < j → low (ch x k) ∨ (48 ≤ ch x k ∧ ch x k ≤ 57) ∨ ch x k = 45) ∧ x.size - j.toNat < x.size - (i : Int).toNat) fun o : Bool ⊕ Unit => (o = .inl false ∧ ∃ k, k < x.size ∧ ¬ (low (ch x k) ∨ (48 ≤ ch x k ∧ ch x k ≤ 57) ∨ ch x k = 45)) ∨ (o = .inr () ∧ ∀ k, k < x.size → low (ch x k) ∨ (48 ≤ ch x k ∧ ch x k ≤ 57) ∨ ch x k = 45)) := fun hg => by
   unfold Ov.J4
   exact A7 (fun _ => .pure (.inl ⟨rfl, i, by omega, hg⟩)) fun h => by cases h
  have G : (ch x i < 48 ∨ 57 < ch x i) → ¬ low (ch x i) → Ok (Ov.J4 i (ch x i != 45)) _ := fun h1 h2 => by
   by_cases M : ch x i = 45
   ·rw [M]; exact W (.inr (.inr M))
   ·rw [show (ch x i != 45) = true by simpa using M]; exact O (fun h => h.elim h2 fun h => h.elim (fun h => by omega) M)
  dsimp only
  refine Ax (fun h5 => Ax (fun Y => G (by omega) (by unfold low; omega)) fun Y => Ax (fun Z => G (by omega) (by unfold low; omega)) fun Z => W (by omega)) fun h5 => Ax (fun Y => Ax (fun Z => G (by omega) (by unfold low; omega)) fun Z => Ax (fun h8 => G (by omega) (by unfold low; omega)) fun h8 => W (by omega)) fun Y => W (by unfold low; omega)
 ·rintro _ (⟨rfl, k, hk, h⟩ | ⟨rfl, h⟩)
  ·exact .pure ⟨fun h => (by cases h), fun hn => absurd (hn.2 k hk) h⟩
  ·unfold Ov.J2
   exact .pure ⟨fun _ => ⟨⟨by omega, by omega, by unfold low; omega⟩, h⟩, fun _ => rfl⟩
theorem gP {l : List Bt} (hl : l.length ≤ 1000000) : Ok (Pd l) fun r => r = true ↔ kP l := by
 unfold Pd
 refine .bind (Ok.any (d := true) (P := cP l) fun k x G => ?_) ?_
 ·have Y := (gs G).1
  unfold Pd.B2
  refine .bind (Ig (k := k) (d := true) (P := fun y => x.toList = y.toList) (by omega) hl (fun i y X W => ?_) ?_) ?_
  ·unfold Pd.B4
   refine Ax (fun _ => .bind' (.eq (A8 W) (A7 (fun h => .pure (.inl ⟨Ju.1 h, rfl⟩)) fun h => .pure (.inr ⟨fun O => ?_, rfl⟩)))) fun h => by omega
   rw [Ju.2 O] at h; cases h
  ·unfold Pd.B4
   rw [if_neg (by simp)]
  ·rintro _ (⟨h, rfl⟩ | ⟨h, rfl⟩)
   ·exact .pure (.inl ⟨h, rfl⟩)
   ·exact .pure (.inr ⟨h, rfl⟩)
 ·rintro _ (⟨h, rfl⟩ | ⟨h, rfl⟩)
  ·exact .pure ⟨fun _ => h, fun _ => rfl⟩
  ·exact .pure ⟨fun h => (by cases h), fun ⟨k, x, G, M⟩ => absurd M (h k x G)⟩
theorem jV {s : Sg} (h2 : 2 ≤ s.Points.length ∧ s.Points.length ≤ 1000) : Ok (Oq s) fun r => r = true ↔ PipeOk s := by
 obtain ⟨p0, pl, e0, el, i0, il⟩ := Yc h2
 have W : (PipeOk s → False) → Ok (Oq.J1 s true) fun r => r = true ↔ PipeOk s := fun h => by
  unfold Oq.J1; exact .pure ⟨fun h => (by cases h), fun G => absurd G h⟩
 unfold Oq
 refine C4 (Q := s.From = s.To) (by simp) (fun h => W fun G => G.ends h) fun a1 => C4 Dq (fun h => W fun G => h G.cap) fun a2 => C4 Dq (fun h => W fun G => h G.resist) fun a3 => C4 Dq (fun h => W fun G => h G.wave) fun a4 => ?_
 rw [i0, il]
 refine .bind' (.pure (C4 (Q := p0.At ≠ 0) (by simp) (fun h => W fun G => h (G.first _ e0)) fun Z => .bind' (.pure ?_)))
 dsimp only
 by_cases Y : pl.At = s.Capacity
 ·rw [show (pl.At != s.Capacity) = false by simpa using Y]
  unfold Oq.J1
  refine A7 (fun h => by cases h) fun _ => .bind (Ok.any (d := false) (P := Is s) fun k p G => ?_) ?_
  ·have X : ∀ b : Bool, (b = true ↔ Is s k p) → Ok (Oq.J4 b) fun o => (Is s k p ∧ o = .inr false) ∨ (¬ Is s k p ∧ o = .inl ()) := fun b h => by unfold Oq.J4; exact .test h
   unfold Oq.B3
   refine Ax (fun Z => ?_) fun Z => C4 Dq (fun h => X _ ⟨fun _ => .inl fun O => h O.1, fun _ => rfl⟩) fun h1 => X _ ?_
   ·obtain ⟨q, hq, hi⟩ := X1 h2.2 G (by omega)
    refine .bind' (.eq hi (Ax (fun h => X _ ⟨fun _ => .inr ⟨q, by omega, hq, h⟩, fun _ => rfl⟩) fun h => C4 Dq (fun h => X _ ⟨fun _ => .inl fun O => h O.1, fun _ => rfl⟩) fun h1 => X _ ?_))
    rw [Dq]
    refine ⟨fun h => .inl fun O => h O.2, fun M h3 => ?_⟩
    have := (Yf ⟨Classical.not_not.1 h1, h3⟩ (by omega) hq).1 M
    dsimp only at h; omega
   ·rw [Dq]
    refine ⟨fun h => .inl fun O => h O.2, fun M h3 => ?_⟩
    rcases M with M | ⟨q, hk, _⟩
    ·exact M ⟨Classical.not_not.1 h1, h3⟩
    ·omega
  ·rintro _ (⟨⟨k, p, G, M⟩, rfl⟩ | ⟨h, rfl⟩)
   ·exact .pure ⟨fun h => (by cases h), fun h => absurd M (h.pts k p G)⟩
   ·refine .pure ⟨fun _ => ⟨a1, Classical.not_not.1 a2, Classical.not_not.1 a3, Classical.not_not.1 a4, fun p G => ?_, fun p G => ?_, h⟩, fun _ => rfl⟩
    ·rw [e0] at G; cases G; exact Classical.not_not.1 Z
    ·rw [el] at G; cases G; exact Y
 ·rw [show (pl.At != s.Capacity) = true by simpa using Y]
  exact W fun G => Y (G.last _ el)
theorem W7 {n : Nw} (h1 : n.Segments.length ≤ 1000) (h2 : n.Ports.length ≤ 1000) (G : n.Stations.length ≤ 1000) : Ok (Ow n) fun r => r.l = bX n := by
 unfold Ow
 refine .bind (Ib (g := (·.Name)) (fun _ _ _ => rfl) h1) ?_
 rintro _ rfl
 unfold Ow.J1
 refine .bind (Ib (g := (·.Name)) (fun _ _ _ => rfl) h2) ?_
 rintro _ rfl
 unfold Ow.J2
 refine .bind (Ib (g := (·.Name)) (fun _ _ _ => rfl) G) ?_
 rintro _ rfl
 unfold Ow.J3
 exact .pure rfl
theorem Uw {n : Nw} : Ok (Eg n) (NetRes n) := by
 unfold Eg
 refine C4 (Q := ¬ (1 ≤ n.Nodes.length ∧ n.Nodes.length ≤ 24 ∧ n.Segments.length ≤ 32 ∧ n.Ports.length ≤ 24 ∧ n.Stations.length ≤ 12)) (by simp only [Bool.or_eq_true, Dq, decide_eq_true_eq]; omega) (fun h => .pure (.inl ⟨fun W => h W.1, rfl⟩)) fun h0 => ?_
 refine .bind (Ok.any (d := 4) (P := fun _ s => ¬ Nk s) fun k s G => ?_) ?_
 ·unfold Eg.B24 Nk
  exact .test (by rw [Dq]; omega)
 rintro _ (⟨⟨k, s, G, h⟩, rfl⟩ | ⟨h1, rfl⟩)
 ·exact .pure (.inl ⟨fun W => h (W.2 k s G), rfl⟩)
 have W : Lim n := ⟨Classical.not_not.1 h0, fun k s G => Classical.not_not.1 (h1 k s G)⟩
 have hnl := W.1
 have hn := W.sane
 simp only [Sum.elim_inl]
 unfold Eg.J1
 refine .bind (W7 hn.segs hn.ports hn.sts) fun r hr => .bind (Jz (d := 3) (P := fun k => ∃ l, (bX n)[k]? = some l ∧ Wp l) fun k O => ?_) ?_
 ·obtain ⟨l, g1, g2⟩ := Xt hr O
  unfold Eg.B21
  refine .bind' (.eq (A8 g1) (.bind (Ok.any (d := 3) (P := fun _ x => ¬ Jk x) fun j x hx => ?_) ?_))
  ·unfold Eg.B23
   exact .bind Y0 fun b hb => .test (by rw [← hb]; simp)
  ·rintro _ (⟨h, rfl⟩ | ⟨h, rfl⟩)
   ·exact .pure (.inl ⟨⟨l, g2, h⟩, rfl⟩)
   ·refine .pure (.inr ⟨fun ⟨m, g3, j, x, hx, hm⟩ => ?_, rfl⟩)
    rw [g2] at g3; cases g3; exact h j x hx hm
 rintro _ (⟨h, rfl⟩ | ⟨h, rfl⟩)
 ·exact .pure (.inr ⟨W, .inl ⟨h, rfl⟩⟩)
 have hf : ¬ H5 n := fun ⟨k, O, h'⟩ => h k O h'
 simp only [Sum.elim_inl]
 unfold Eg.J2
 refine .bind (Jz (d := 7) (P := fun k => ∃ l, (bX n)[k]? = some l ∧ kP l) fun k O => ?_) ?_
 ·obtain ⟨l, g1, g2⟩ := Xt hr O
  unfold Eg.B20
  have hll : l.length ≤ 1000000 := by
   have := mg g2
   simp only [bX, List.mem_cons, List.not_mem_nil, or_false] at this
   rcases this with rfl | rfl | rfl | rfl <;> simp <;> omega
  refine .bind' (.eq (A8 g1) (.bind (gP hll) fun b hb => .test ?_))
  rw [hb]
  exact ⟨fun h => ⟨l, g2, h⟩, fun ⟨m, g3, h⟩ => by rw [g2] at g3; cases g3; exact h⟩
 rintro _ (⟨h, rfl⟩ | ⟨h2, rfl⟩)
 ·exact .pure (.inr ⟨W, .inr ⟨hf, .inl ⟨.inl h, rfl⟩⟩⟩)
 simp only [Sum.elim_inl]
 unfold Eg.J3
 refine .bind (Ok.any (d := 7) (P := Wo n.Stations) fun k x hx => ?_) ?_
 ·have O := (gs hx).1
  unfold Eg.B17
  refine .bind (Ig (l := n.Stations) (k := k) (d := 7) (P := fun y => x.Node = y.Node) (by omega) (by omega) (fun i y hi hy => ?_) ?_) ?_
  ·unfold Eg.B19
   exact Ax (fun _ => .bind' (.eq (A8 hy) (Dk (fun h => .pure (.inl ⟨h, rfl⟩)) fun h => .pure (.inr ⟨h, rfl⟩)))) fun h => by omega
  ·unfold Eg.B19
   rw [if_neg (by simp)]
  ·rintro _ (⟨h, rfl⟩ | ⟨h, rfl⟩)
   ·exact .pure (.inl ⟨h, rfl⟩)
   ·exact .pure (.inr ⟨h, rfl⟩)
 rintro _ (⟨h, rfl⟩ | ⟨h3, rfl⟩)
 ·exact .pure (.inr ⟨W, .inr ⟨hf, .inl ⟨.inr h, rfl⟩⟩⟩)
 have ht : ¬ (Ns n ∨ Nr n) := by
  rintro (⟨k, O, h⟩ | ⟨k, x, hx, h⟩)
  ·exact h2 k O h
  ·exact h3 k x hx h
 have Z : ¬ Nl n → NetRes n 8 := fun h => .inr ⟨W, .inr ⟨hf, .inr ⟨ht, .inl ⟨h, rfl⟩⟩⟩⟩
 have e : wr ((n.Nodes.length : Int) - 1) = (n.Nodes.length : Int) - 1 := Bn (by omega)
 have M : ∀ k : Int, (!(Ch k 0 ((n.Nodes.length : Int) - 1))) = true ↔ ¬ At n k := fun k => by rw [Dq]; unfold At; omega
 simp only [Sum.elim_inl]
 unfold Eg.J4
 refine .bind (Ok.any (d := 8) (P := fun _ s => ¬ (At n s.From ∧ At n s.To)) fun k s G => ?_) ?_
 ·unfold Eg.B16
  refine .test ?_
  rw [e, Bool.or_eq_true, M, M]
  exact ⟨fun h hc => h.elim (fun h => h hc.1) fun h => h hc.2, fun h => Classical.byContradiction fun hc => h ⟨Classical.byContradiction fun h => hc (.inl h), Classical.byContradiction fun h => hc (.inr h)⟩⟩
 rintro _ (⟨⟨k, s, G, h⟩, rfl⟩ | ⟨k1, rfl⟩)
 ·exact .pure (Z fun O => h (O.1 k s G))
 simp only [Sum.elim_inl]
 unfold Eg.J5
 refine .bind (Ok.any (d := 8) (P := fun _ s => ¬ At n s.Node) fun k s G => ?_) ?_
 ·unfold Eg.B15
  exact .test (by rw [e]; exact M _)
 rintro _ (⟨⟨k, s, G, h⟩, rfl⟩ | ⟨k2, rfl⟩)
 ·exact .pure (Z fun O => h (O.2.1 k s G))
 simp only [Sum.elim_inl]
 unfold Eg.J6
 refine .bind (Ok.any (d := 8) (P := fun _ s => ¬ At n s.Node) fun k s G => ?_) ?_
 ·unfold Eg.B14
  exact .test (by rw [e]; exact M _)
 rintro _ (⟨⟨k, s, G, h⟩, rfl⟩ | ⟨k3, rfl⟩)
 ·exact .pure (Z fun O => h (O.2.2 k s G))
 have O : Nl n := ⟨fun k s G => Classical.not_not.1 (k1 k s G), fun k s G => Classical.not_not.1 (k2 k s G), fun k s G => Classical.not_not.1 (k3 k s G)⟩
 have X : ¬ Proper n → NetRes n 9 := fun h => .inr ⟨W, .inr ⟨hf, .inr ⟨ht, .inr ⟨O, .inl ⟨h, rfl⟩⟩⟩⟩⟩
 simp only [Sum.elim_inl]
 unfold Eg.J7
 refine .bind (Ok.any (d := 9) (P := fun _ s => ¬ PipeOk s) fun k s G => ?_) ?_
 ·unfold Eg.B13
  exact .bind (jV (W.pts G)) fun b hb => .test (by rw [← hb]; simp)
 rintro _ (⟨⟨k, s, G, h⟩, rfl⟩ | ⟨p1, rfl⟩)
 ·exact .pure (X fun Y => h (Y.segs k s G))
 simp only [Sum.elim_inl]
 unfold Eg.J8
 refine .bind (Ok.any (d := 9) (P := fun _ s => ¬ (0 ≤ s.Pressure ∧ s.Pressure ≤ 100000000)) fun k s G => ?_) ?_
 ·unfold Eg.B12
  exact .test Dq
 rintro _ (⟨⟨k, s, G, h⟩, rfl⟩ | ⟨p2, rfl⟩)
 ·exact .pure (X fun Y => h (Y.ports k s G))
 simp only [Sum.elim_inl]
 unfold Eg.J9
 refine .bind (Ok.any (d := 9) (P := fun _ s => ¬ StnOk s) fun k s G => ?_) ?_
 ·unfold Eg.B11
  refine .test ?_
  simp only [Bool.or_eq_true, Dq]
  exact ⟨fun h G => h.elim (fun h => h G.head) fun h => h.elim (fun h => h G.fall) fun h => h G.suction, fun h => Classical.byContradiction fun hn => h ⟨by omega, by omega, by omega⟩⟩
 rintro _ (⟨⟨k, s, G, h⟩, rfl⟩ | ⟨p3, rfl⟩)
 ·exact .pure (X fun Y => h (Y.sts k s G))
 simp only [Sum.elim_inl]
 unfold Eg.J10
 refine C4 (Q := ¬ ((-100000 ≤ n.Vapour ∧ n.Vapour ≤ 100000000) ∧ 0 ≤ n.Settle ∧ n.Settle ≤ 100)) (by rw [Bool.or_eq_true, Dq, Dq]; omega) (fun h => .pure (X fun Y => h ⟨Y.vapour, Y.settle⟩)) fun h => ?_
 have h := Classical.not_not.1 h
 exact .pure (.inr ⟨W, .inr ⟨hf, .inr ⟨ht, .inr ⟨O, .inr ⟨⟨fun k s G => Classical.not_not.1 (p1 k s G), fun k s G => Classical.not_not.1 (p2 k s G), fun k s G => Classical.not_not.1 (p3 k s G), h.1, h.2⟩, rfl⟩⟩⟩⟩⟩)
theorem F7 (n : Nw) : ∃ r, Dw n = some r ∧ Eg n = some r ∧ NetRes n r := by
 obtain ⟨r, M, G⟩ := X5 (n := n)
 obtain ⟨X, O, W⟩ := Uw (n := n)
 obtain rfl := G.uniq W
 exact ⟨r, M, O, G⟩
theorem eM {n : Nw} (_ : Sane n) : ∃ r, Dw n = some r ∧ Eg n = some r ∧ NetRes n r := F7 n
theorem eN {n : Nw} (h : NetW n) : Eg n = some 0 := by
 obtain ⟨r, G, M⟩ := Uw
 rw [G, M.uniq h.res]
theorem eO {n : Nw} (h : NetV n) : Eg n = some 0 := eN h.w
theorem iA {n : Nw} (h : NetOk n) : Eg n = some 0 := eO h.v
end Go.Proofs.YtihdchjpepkpbaaGreat
