/- Plain proofs. No condition. -/
import Derived.Test.YtkhcdkioehdndaaGreatDoorZxP1
import Derived.Test.YtkhcdkioehdndaaGreatDoorZxD
import Derived.Test.YtkhcdkioehdndaaGreatDoorZxP0
import Derived.Test.YtkhcdkioehdndaaGreatDoorZxB1
import Derived.ProofKit
import Derived.SizedLaws
import Derived.Carry
import Derived.OpenShut
import Derived.ChangeSame
import Derived.LaidMore
import Derived.MakeChecks
import Derived.Stop.Joined
set_option maxRecDepth 100000
namespace Go.Proofs.YtkhcdkioehdndaaGreatDoor
set_option linter.unusedVariables false
set_option linter.unusedSimpArgs false
open Go.Aw
def Lj (x : Product) : Prop := Hk x.Name ∧ (400 ≤ x.Density ∧ x.Density ≤ 1200) ∧ (0 ≤ x.Expansion ∧ x.Expansion ≤ 2000) ∧ (0 ≤ x.Compress ∧ x.Compress ≤ 5000) ∧ 1 ≤ x.Friction ∧ x.Friction ≤ 2000
def bY (l : List Product) (k : Nat) (x : Product) : Prop := ∃ (j : Nat) (y : Product), j < k ∧ l[j]? = some y ∧ y.Name.toList = x.Name.toList
theorem fP {x : Product} : Ok (Kn x) fun b => b = true ↔ Lj x := by
 unfold Kn
 refine .bind (H4 (d := false) (P := fun i => ∃ (a : Int) (b : product_span), ([⟨400, 1200⟩, ⟨0, 2000⟩, ⟨0, 5000⟩, ⟨1, 2000⟩] : List product_span)[i]? = some b ∧ (Ey x).l[i]? = some a ∧ ¬ (b.least ≤ a ∧ a ≤ b.most)) fun i hi => ?_) ?_
 ·obtain ⟨b, D⟩ : ∃ b, ([⟨400, 1200⟩, ⟨0, 2000⟩, ⟨0, 5000⟩, ⟨1, 2000⟩] : List product_span)[i]? = some b := ⟨_, gq hi⟩
  obtain ⟨a, M⟩ : ∃ a, (Ey x).l[i]? = some a := ⟨_, gq (by simpa [Ey] using hi)⟩
  have j3 : ∀ c : Bool, (c = true ↔ ¬ (b.least ≤ a ∧ a ≤ b.most)) → Ok (Kn.J3 c) fun o => ((∃ (a : Int) (b : product_span), ([⟨400, 1200⟩, ⟨0, 2000⟩, ⟨0, 5000⟩, ⟨1, 2000⟩] : List product_span)[i]? = some b ∧ (Ey x).l[i]? = some a ∧ ¬ (b.least ≤ a ∧ a ≤ b.most)) ∧ o = .inr false) ∨ (¬ (∃ (a : Int) (b : product_span), ([⟨400, 1200⟩, ⟨0, 2000⟩, ⟨0, 5000⟩, ⟨1, 2000⟩] : List product_span)[i]? = some b ∧ (Ey x).l[i]? = some a ∧ ¬ (b.least ≤ a ∧ a ≤ b.most)) ∧ o = .inl ()) := fun c h => by
   unfold Kn.J3
   refine .test (h.trans ⟨fun h => ⟨a, b, D, M, h⟩, fun ⟨a', b', Y, O, h⟩ => ?_⟩)
   rw [D] at Y; rw [M] at O; cases Y; cases O; exact h
  unfold Kn.B2
  refine .bind' (.eq (A6 D) (.bind' (.eq (A6 M) (As (fun h => j3 _ ⟨fun _ G => by dsimp only at h; omega, fun _ => rfl⟩) fun h => j3 _ ?_))))
  dsimp only at h ⊢
  rw [decide_eq_true_eq]; omega
 ·have Z : (∀ i, i < 4 → ¬ ∃ (a : Int) (b : product_span), ([⟨400, 1200⟩, ⟨0, 2000⟩, ⟨0, 5000⟩, ⟨1, 2000⟩] : List product_span)[i]? = some b ∧ (Ey x).l[i]? = some a ∧ ¬ (b.least ≤ a ∧ a ≤ b.most)) → (400 ≤ x.Density ∧ x.Density ≤ 1200) ∧ (0 ≤ x.Expansion ∧ x.Expansion ≤ 2000) ∧ (0 ≤ x.Compress ∧ x.Compress ≤ 5000) ∧ 1 ≤ x.Friction ∧ x.Friction ≤ 2000 := fun h =>
   ⟨Classical.not_not.1 fun G => h 0 (by omega) ⟨x.Density, ⟨400, 1200⟩, rfl, rfl, G⟩, Classical.not_not.1 fun G => h 1 (by omega) ⟨x.Expansion, ⟨0, 2000⟩, rfl, rfl, G⟩, Classical.not_not.1 fun G => h 2 (by omega) ⟨x.Compress, ⟨0, 5000⟩, rfl, rfl, G⟩, Classical.not_not.1 fun G => h 3 (by omega) ⟨x.Friction, ⟨1, 2000⟩, rfl, rfl, G⟩⟩
  rintro _ (⟨⟨i, hi, a, b, D, M, G⟩, rfl⟩ | ⟨h, rfl⟩)
  ·refine .pure ⟨fun h => (by cases h), fun hv => ?_⟩
   obtain ⟨_, v1, v2, v3, v4⟩ := hv
   have hi : i < 4 := hi
   match i, hi, D, M with
   | 0, _, D, M => cases D; cases M; exact absurd v1 G
   | 1, _, D, M => cases D; cases M; exact absurd v2 G
   | 2, _, D, M => cases D; cases M; exact absurd v3 G
   | 3, _, D, M => cases D; cases M; exact absurd v4 G
  ·simp only [Sum.elim_inl]
   unfold Kn.J1
   exact .bind Hm fun b D => .pure (D.trans ⟨fun G => ⟨G, Z h⟩, fun hv => hv.1⟩)
theorem eL {x : Product} : Ok (Mm x) fun b => b = true ↔ Lj x := by
 unfold Mm Mm.J1
 have G : ¬ Lj x → Ok (some false) fun b => b = true ↔ Lj x := fun h => .pure ⟨fun h => (by cases h), fun D => absurd D h⟩
 refine .bind Pc fun b Y => Cd Y (fun M => As (fun Z => As (fun h2 => As (fun h3 => As (fun h4 => As (fun h5 => As (fun h6 => As (fun h7 => .pure ?_) fun h => G fun D => ?_) fun h => G fun D => ?_) fun h => G fun D => ?_) fun h => G fun D => ?_) fun h => G fun D => ?_) fun h => G fun D => ?_) fun h => G fun D => ?_) fun h => G fun D => h D.1
 ·rw [decide_eq_true_eq]
  exact ⟨fun O => ⟨M, ⟨by omega, by omega⟩, ⟨by omega, by omega⟩, ⟨by omega, by omega⟩, by omega, O⟩, fun D => D.2.2.2.2.2⟩
 all_goals (obtain ⟨_, v1, v2, v3, v4⟩ := D; omega)
def ProdRes (l : List Product) (r : Int) : Prop := (16 < l.length ∧ r = 4) ∨ (l.length ≤ 16 ∧ (((∃ (k : Nat) (x : Product), l[k]? = some x ∧ ¬ Lj x) ∧ r = 9) ∨ ((∀ (k : Nat) (x : Product), l[k]? = some x → ¬ ¬ Lj x) ∧ (((∃ (k : Nat) (x : Product), l[k]? = some x ∧ bY l k x) ∧ r = 7) ∨ ((∀ (k : Nat) (x : Product), l[k]? = some x → ¬ bY l k x) ∧ r = 0)))))
theorem ProdRes.uniq {l : List Product} {r r' : Int} (h : ProdRes l r) (h' : ProdRes l r') : r = r' := by
 rcases h with ⟨a, rfl⟩ | ⟨a, ⟨⟨k, x, O, b⟩, rfl⟩ | ⟨b, ⟨⟨k, x, O, c⟩, rfl⟩ | ⟨c, rfl⟩⟩⟩ <;> rcases h' with ⟨a', rfl⟩ | ⟨a', ⟨⟨Y, Z, D, G⟩, rfl⟩ | ⟨G, ⟨⟨Y, Z, D, M⟩, rfl⟩ | ⟨M, rfl⟩⟩⟩ <;>
  first
  | rfl
  | omega
  | exact absurd b (G k x O)
  | exact absurd G (b Y Z D)
  | exact absurd c (M k x O)
  | exact absurd M (c Y Z D)
theorem cN {l : List Product} : Ok (Gy l) (ProdRes l) := by
 unfold Gy
 refine As (fun h => .pure (.inl ⟨by omega, rfl⟩)) fun hl => .bind (hG (d := 9) (P := fun _ x => ¬ Lj x) fun k x Z => ?_) ?_
 ·unfold Gy.B4
  exact .bind fP fun b hb => .test (by rw [← hb]; simp)
 rintro _ (⟨h, rfl⟩ | ⟨Y, rfl⟩)
 ·exact .pure (.inr ⟨by omega, .inl ⟨h, rfl⟩⟩)
 simp only [Sum.elim_inl]
 unfold Gy.J1
 refine .bind (hG (d := 7) (P := bY l) fun k x Z => ?_) ?_
 ·unfold Gy.B3 Qk
  refine .bind (.bind (Di (P := fun y => Gk y x.Name) fun _ _ _ => rfl) fun r M => .pure M) fun r M => .test ?_
  rcases M with ⟨rfl, h⟩ | ⟨j, y, rfl, hj, he, G⟩
  ·have := h k x Z
   unfold Gk at this
   rw [Nh] at this; cases this
  ·simp only [decide_eq_true_eq]
   refine ⟨fun h => ⟨j, y, by omega, hj, Gc.1 he⟩, fun ⟨i, z, hi, hz, O⟩ => ?_⟩
   by_cases D : i < j
   ·have := G i z D hz
    unfold Gk at this
    rw [Gc.2 O] at this; cases this
   ·omega
 rintro _ (⟨h, rfl⟩ | ⟨hd, rfl⟩)
 ·exact .pure (.inr ⟨by omega, .inr ⟨Y, .inl ⟨h, rfl⟩⟩⟩)
 ·unfold Gy.J2
  exact .pure (.inr ⟨by omega, .inr ⟨Y, .inr ⟨hd, rfl⟩⟩⟩)
theorem Vn {l : List Product} : Ok (Iy l) (ProdRes l) := by
 unfold Iy
 refine As (fun h => .pure (.inl ⟨by omega, rfl⟩)) fun hl => .bind (hG (d := 9) (P := fun _ x => ¬ Lj x) fun k x Y => ?_) ?_
 ·unfold Iy.B4
  exact .bind eL fun b hb => .test (by rw [← hb]; simp)
 rintro _ (⟨h, rfl⟩ | ⟨hv, rfl⟩)
 ·exact .pure (.inr ⟨by omega, .inl ⟨h, rfl⟩⟩)
 simp only [Sum.elim_inl]
 unfold Iy.J1
 refine .bind (hG (d := 7) (P := bY l) fun k x Y => ?_) ?_
 ·unfold Iy.B3 Qw
  refine .bind (Q := fun r => ∃ (j : Nat) (y : Product), r = (j : Int) ∧ j ≤ k ∧ l[j]? = some y ∧ y.Name.toList = x.Name.toList ∧ ∀ (i : Nat) (z : Product), i < j → l[i]? = some z → z.Name.toList ≠ x.Name.toList) (.bind (Q := Sum.elim (fun _ : Unit => False) fun r : Int => ∃ (j : Nat) (y : Product), r = (j : Int) ∧ j ≤ k ∧ l[j]? = some y ∧ y.Name.toList = x.Name.toList ∧ ∀ (i : Nat) (z : Product), i < j → l[i]? = some z → z.Name.toList ≠ x.Name.toList) (.forL (fun j _ => j ≤ k ∧ ∀ (i : Nat) (z : Product), i < j → l[i]? = some z → z.Name.toList ≠ x.Name.toList) (fun r => ∃ (j : Nat) (y : Product), r = (j : Int) ∧ j ≤ k ∧ l[j]? = some y ∧ y.Name.toList = x.Name.toList ∧ ∀ (i : Nat) (z : Product), i < j → l[i]? = some z → z.Name.toList ≠ x.Name.toList) ⟨Nat.zero_le _, fun i z h => absurd h (Nat.not_lt_zero _)⟩ ?_ ?_ fun _ h => h) ?_) ?_
  ·rintro j y _ D ⟨hj, M⟩
   unfold Qw.B2
   refine Cd Gc (fun h => .pure ⟨j, y, rfl, hj, D, h, M⟩) fun h => .pure ?_
   have : j ≠ k := fun e => by subst e; rw [Y] at D; cases D; exact h rfl
   refine ⟨by omega, fun i z hi G => ?_⟩
   by_cases O : i = j
   ·subst O; rw [D] at G; cases G; exact h
   ·exact M i z (by omega) G
  ·rintro _ ⟨h, _⟩
   have := (gs Y).1
   omega
  ·rintro (_ | r) hr
   ·exact hr.elim
   ·exact .pure hr
  ·rintro r ⟨j, y, rfl, hj, D, he, M⟩
   refine .test ?_
   rw [bne_iff_ne]
   refine ⟨fun h => ⟨j, y, by omega, D, he⟩, fun ⟨i, z, hi, G, Z⟩ h => ?_⟩
   have : j = k := by omega
   subst this
   exact M i z hi G Z
 rintro _ (⟨h, rfl⟩ | ⟨hd, rfl⟩)
 ·exact .pure (.inr ⟨by omega, .inr ⟨hv, .inl ⟨h, rfl⟩⟩⟩)
 ·unfold Iy.J2
  exact .pure (.inr ⟨by omega, .inr ⟨hv, .inr ⟨hd, rfl⟩⟩⟩)
theorem cK (l : List Product) : ∃ e, Gy l = some e ∧ Iy l = some e ∧ (e = 0 → gC l ∧ l.length ≤ 16) := by
 obtain ⟨r, G, D⟩ := cN (l := l)
 obtain ⟨r', M, O⟩ := Vn (l := l)
 obtain rfl := D.uniq O
 refine ⟨r, G, M, fun h => ?_⟩
 rcases D with ⟨_, e⟩ | ⟨a, ⟨_, e⟩ | ⟨b, ⟨_, e⟩ | _⟩⟩
 ·omega
 ·omega
 ·omega
 ·refine ⟨fun y Z => ?_, a⟩
  obtain ⟨k, Y⟩ := List.getElem?_of_mem Z
  have := Classical.not_not.1 (b k y Y)
  exact ⟨this.2.1, this.2.2.2.2⟩
def T9 (f : List Piece) (b : List Batch) (p l : List Product) : Prop := ∀ (k : Nat) (x : Piece) (y : Product), f[k]? = some x → l[k]? = some y → ∃ (j : Nat) (c : Batch) (i : Nat), x.Batch = (j : Int) ∧ b[j]? = some c ∧ c.Product = (i : Int) ∧ p[i]? = some y
def Gr (b : List Batch) (p : List Product) (x : Piece) : Prop := ∀ (j : Nat) (c : Batch) (i : Nat), x.Batch = (j : Int) → b[j]? = some c → c.Product = (i : Int) → p[i]? = none
theorem eT {f : List Piece} {b : List Batch} {p : List Product} (hf : ∀ x, x ∈ f → 0 ≤ x.Batch) (hl : f.length ≤ 200) :
  (∃ l, Fg f b p = some (l, 0) ∧ G1 f b p = some true ∧ l.length = f.length ∧ (∀ y, y ∈ l → y ∈ p) ∧ T9 f b p l) ∨ (Fg f b p = some ([], 8) ∧ G1 f b p = some false) := by
 have a : Ok (Fg f b p) fun r => (r.2 = 0 ∧ (∀ x, x ∈ f → ¬ Gr b p x) ∧ r.1.length = f.length ∧ (∀ y, y ∈ r.1 → y ∈ p) ∧ T9 f b p r.1) ∨ (r = ([], 8) ∧ ∃ x, x ∈ f ∧ Gr b p x) := by
  unfold Fg
  refine .bind (Q := Sum.elim (fun O : List Product => (∀ x, x ∈ f → ¬ Gr b p x) ∧ O.length = f.length ∧ (∀ y, y ∈ O → y ∈ p) ∧ T9 f b p O) fun r : List Product × Int => r = ([], 8) ∧ ∃ x, x ∈ f ∧ Gr b p x) (.forL (fun k O => (∀ (j : Nat) (x : Piece), j < k → f[j]? = some x → ¬ Gr b p x) ∧ O.length = k ∧ (∀ y, y ∈ O → y ∈ p) ∧ T9 f b p O) (fun r => r = ([], 8) ∧ ∃ x, x ∈ f ∧ Gr b p x) ⟨fun j x h => absurd h (Nat.not_lt_zero _), rfl, by simp, fun k x y _ h => by simp at h⟩ ?_ ?_ fun _ h => h) ?_
  ·rintro k x O G ⟨h0, Z, h2, h3⟩
   have hk := (gs G).1
   have hm := mg G
   unfold Fg.B2
   refine As (fun h => .pure ⟨rfl, x, hm, fun j c i e1 Y _ => ?_⟩) fun hb => .bind' (.ix' (hf x hm) (by omega) fun j y hj hy => ?_)
   ·have := (gs Y).1; omega
   refine Cd (Q := y.Product < 0 ∨ y.Product ≥ (p.length : Int)) (by simp) (fun h => .pure ⟨rfl, x, hm, fun j' c i e1 Y e3 => ?_⟩) fun h => .bind' (.ix' (by dsimp only; omega) (by dsimp only; omega) fun i z hi hz => .bind' (.app (by simp; omega) (.pure ⟨fun j' x' hj' D => ?_, by simp [Z], fun w hw => ?_, fun k' x' y' D M => ?_⟩)))
   ·have : j' = j := by omega
    subst this
    rw [hy] at Y; cases Y
    refine List.getElem?_eq_none ?_
    omega
   ·by_cases hjk : j' = k
    ·subst hjk
     rw [G] at D; cases D
     intro hn
     have := hn j y i hj hy hi
     rw [hz] at this; cases this
    ·exact h0 j' x' (by omega) D
   ·rcases List.mem_append.1 hw with hw | hw
    ·exact h2 w hw
    ·simp at hw; subst hw; exact mg hz
   ·rw [List.getElem?_append] at M
    split at M
    ·exact h3 k' x' y' D M
    ·rename_i hge
     have := (gs M).1
     simp at this
     have : k' = O.length := by omega
     subst this
     simp at M
     subst Z
     rw [G] at D; cases D
     subst M
     exact ⟨j, y, i, hj, hy, hi, hz⟩
  ·rintro O ⟨h0, Z, h2, h3⟩
   exact ⟨fun x G => by obtain ⟨k, hk⟩ := List.getElem?_of_mem G; exact h0 k x (gs hk).1 hk, Z, h2, h3⟩
  ·rintro (O | r) hr
   ·simp only [Sum.elim_inl]
    unfold Fg.J1
    exact .pure (.inl ⟨rfl, hr⟩)
   ·exact .pure (.inr hr)
 have c : Ok (G1 f b p) fun r => (r = true ∧ ∀ x, x ∈ f → ¬ Gr b p x) ∨ (r = false ∧ ∃ x, x ∈ f ∧ Gr b p x) := by
  unfold G1
  refine .bind (hG (d := false) (P := fun _ x => Gr b p x) fun k x G => ?_) ?_
  ·have hm := mg G
   have j3 : ∀ c : Bool, (c = true ↔ Gr b p x) → Ok (G1.J3 c) fun o => (Gr b p x ∧ o = .inr false) ∨ (¬ Gr b p x ∧ o = .inl ()) := fun c h => by unfold G1.J3; exact .test h
   unfold G1.B2
   refine As (fun h => j3 _ ⟨fun _ j c i e1 Y _ => ?_, fun _ => rfl⟩) fun hb => .bind' (.ix' (hf x hm) (by omega) fun j y hj hy => ?_)
   ·have := (gs Y).1; omega
   have key : Gr b p x ↔ y.Product < 0 ∨ y.Product ≥ (p.length : Int) := by
    refine ⟨fun hn => ?_, fun h j' c i e1 Y e3 => ?_⟩
    ·by_cases h : 0 ≤ y.Product
     ·obtain ⟨i, hi⟩ := S8 h
      have := hn j y i hj hy hi
      rw [List.getElem?_eq_none_iff] at this
      omega
     ·omega
    ·have : j' = j := by omega
     subst this
     rw [hy] at Y; cases Y
     exact List.getElem?_eq_none (by omega)
   refine As (fun h => j3 _ ⟨fun _ => key.2 (.inl h), fun _ => rfl⟩) fun h => j3 _ ?_
   dsimp only at h ⊢
   rw [decide_eq_true_eq, key]; omega
  ·rintro _ (⟨⟨k, x, G, hn⟩, rfl⟩ | ⟨h, rfl⟩)
   ·exact .pure (.inr ⟨rfl, x, mg G, hn⟩)
   ·unfold G1.J1
    exact .pure (.inl ⟨rfl, fun x G => by obtain ⟨k, hk⟩ := List.getElem?_of_mem G; exact h k x hk⟩)
 obtain ⟨⟨l, e⟩, Z, h2⟩ := a
 obtain ⟨r, h3, h4⟩ := c
 rcases h2 with ⟨e0, g1, g2⟩ | ⟨e0, x, G, hn⟩ <;> rcases h4 with ⟨rfl, k1⟩ | ⟨rfl, y, hy, hm⟩
 ·dsimp only at e0; subst e0
  exact .inl ⟨l, Z, h3, g2⟩
 ·exact absurd hm (g1 y hy)
 ·exact absurd hn (k1 x G)
 ·rw [e0] at Z
  exact .inr ⟨Z, h3⟩
theorem V2 {s : Sg} (hl : s.Points.length ≤ 1000) (f : List Piece) : ∃ r, Qp s f = some r ∧ Ql s f = some r := by
 obtain ⟨e, O, Y, Z⟩ := Zp hl f
 unfold Qp Ql
 rw [O, Y]
 by_cases G : e = 0
 ·subst G
  obtain ⟨M, D, _⟩ := Z rfl
  have ab := M.points.len
  have hc := M.cap
  have aa := D.sum
  simp only [Option.bind_some, bne_self_eq_false, Bool.false_eq_true, if_false]
  rw [N7 ⟨by omega, by omega⟩ D.len D.vol (by omega), G6 (by omega) D.len D.vol (by omega)]
  exact ⟨_, rfl, rfl⟩
 ·simp only [Option.bind_some]
  rw [if_pos (by simpa using G), if_pos (by simpa using G)]
  exact ⟨_, rfl, rfl⟩
theorem Nu {s : Sg} (hl : s.Points.length ≤ 1000) (f : List Piece) (b : List Batch) (p : List Product) (r : Int) (z : Bounds) : ∃ t, Ex s f b p r z = some t ∧ Ej s f b p r z = some t := by
 obtain ⟨e, Z, O, h3⟩ := Zp hl f
 by_cases M : e = 0
 case neg =>
  refine ⟨([], e), ?_, ?_⟩
  ·unfold Ex
   rw [Z, Option.bind_some, if_pos (by simpa using M)]
  ·unfold Ej
   rw [O, Option.bind_some, if_pos (by simpa using M)]
 subst M
 obtain ⟨hs, hf, hv⟩ := h3 rfl
 obtain ⟨c, g1, Y, g3⟩ := cK p
 by_cases M : c = 0
 case neg =>
  refine ⟨([], c), ?_, ?_⟩
  ·unfold Ex
   rw [Z, g1, Option.bind_some, if_neg (by simp), Option.bind_some, if_pos (by simpa using M)]
  ·unfold Ej
   rw [O, Y, Option.bind_some, if_neg (by simp), Option.bind_some, if_pos (by simpa using M)]
 subst M
 obtain ⟨hp, hp16⟩ := g3 rfl
 rcases eT (b := b) (p := p) hf.bat hf.len with ⟨l, k1, k2, k3, k4, k5⟩ | ⟨k1, k2⟩
 case inr =>
  refine ⟨([], 8), ?_, ?_⟩
  ·unfold Ex
   rw [Z, g1, k1, Option.bind_some, if_neg (by simp), Option.bind_some, if_neg (by simp), Option.bind_some, if_pos (by simp)]
  ·unfold Ej
   rw [O, Y, k2, Option.bind_some, if_neg (by simp), Option.bind_some, if_neg (by simp), Option.bind_some, if_pos (by simp)]
 by_cases hr : (r ≠ 0 ∧ -1000 ≤ r ∧ r ≤ 1000) ∧ z.Low ≤ z.High ∧ -1125899906842624 ≤ z.Low ∧ z.High ≤ 1125899906842624
 case neg =>
  have D : ((r == 0) || (decide (r < (-1000)) || (decide (r > 1000) || (!(Ff z))))) = true := by unfold Ff; simp; omega
  have G : ((r == 0) || (decide (r < (-1000)) || (decide (r > 1000) || (!(Fv z))))) = true := D
  refine ⟨([], 1), ?_, ?_⟩
  ·unfold Ex
   rw [Z, g1, k1, Option.bind_some, if_neg (by simp), Option.bind_some, if_neg (by simp), Option.bind_some, if_neg (by simp), if_pos D]
  ·unfold Ej
   rw [O, Y, k2, Option.bind_some, if_neg (by simp), Option.bind_some, if_neg (by simp), Option.bind_some, if_neg (by simp), if_pos G]
 obtain ⟨⟨r0, r1, r2⟩, z1, z2, z3⟩ := hr
 obtain ⟨W, hW, hP, hA⟩ := V3 hs hf Z g1 hp k1 k3 k4
 refine ⟨_, hA r z r0 r1 r2 z1 z2 z3, ?_⟩
 by_cases hr : 0 < r
 ·exact aJ hs hf hv O Y k2 k5 hW hP ⟨by omega, r2⟩ z1 z2 z3
 ·exact V5 hs hf hv O Y k2 k5 hW hP ⟨r1, by omega⟩ z1 z2 z3
theorem Jc {s : List Level} {P : Level → Bool} : Ok (Qt s fun x => some (P x)) fun r => r = s.any P := by
 unfold Qt Qx
 refine .bind (Q := fun r : Int => (r = -1 ∧ s.any P = false) ∨ (0 ≤ r ∧ s.any P = true)) (.bind' (.forL (fun k _ => ∀ (j : Nat) (y : Level), j < k → s[j]? = some y → P y = false) (fun r => 0 ≤ r ∧ s.any P = true) (fun j y h => absurd h (Nat.not_lt_zero _)) ?_ ?_ ?_)) ?_
 ·intro k x _ D hi
  unfold Qx.B2
  refine .bind' (.pure (Bd (fun M => .pure ⟨by omega, List.any_eq_true.2 ⟨x, mg D, M⟩⟩) fun M => .pure fun j y G O => ?_))
  by_cases h : j < k
  ·exact hi j y h O
  ·have : j = k := by omega
   subst this
   rw [D] at O; cases O; exact M
 ·intro _ hi
  simp only [Sum.elim_inl]
  unfold Qx.J1
  refine .pure (.inl ⟨rfl, ?_⟩)
  rw [List.any_eq_false]
  intro x D
  obtain ⟨j, G⟩ := List.getElem?_of_mem D
  rw [hi j x (gs G).1 G]; simp
 ·exact fun b Z => .pure (.inr Z)
 ·rintro r (⟨rfl, h⟩ | ⟨Y, h⟩)
  ·exact .pure (by rw [h]; rfl)
  ·exact .pure (by rw [h]; simpa using Y)
theorem Si {B : Type} {l : List Level} {d : B} {f : Int → Option (Int ⊕ (B ⊕ Unit))} (hl : l.length ≤ 1000000)
  (hf : ∀ (i : Nat) (x y : Level), l[i]? = some x → l[i + 1]? = some y → Ok (f ((i + 1 : Nat) : Int)) fun o => (y.At ≤ x.At ∧ o = .inr (.inl d)) ∨ (¬ y.At ≤ x.At ∧ o = .inl (wr (((i + 1 : Nat) : Int) + 1)))) (he : ∀ i : Nat, l.length ≤ i → f (i : Int) = some (.inr (.inr ()))) :
  Ok (C2 f E4 1) fun o => ((∃ (i : Nat) (x y : Level), l[i]? = some x ∧ l[i + 1]? = some y ∧ y.At ≤ x.At) ∧ o = .inl d) ∨ ((¬ ∃ (i : Nat) (x y : Level), l[i]? = some x ∧ l[i + 1]? = some y ∧ y.At ≤ x.At) ∧ o = .inr ()) := by
 refine .loop (fun i : Int => ∃ m : Nat, i = ((m + 1 : Nat) : Int) ∧ m ≤ l.length ∧ ∀ (j : Nat) (x y : Level), j < m → l[j]? = some x → l[j + 1]? = some y → ¬ y.At ≤ x.At) (fun i => l.length + 2 - i.toNat) ⟨0, rfl, Nat.zero_le _, fun j x y h => absurd h (Nat.not_lt_zero _)⟩ (by omega) ?_
 rintro _ ⟨m, rfl, hm, hI⟩
 by_cases Z : m + 1 < l.length
 ·have O : l[m]? = some (l[m]'(by omega)) := gq _
  have M : l[m + 1]? = some (l[m + 1]'Z) := gq _
  refine (hf m _ _ O M).mono ?_
  rintro o (⟨h, rfl⟩ | ⟨h, rfl⟩)
  ·exact .inl ⟨⟨m, _, _, O, M, h⟩, rfl⟩
  ·simp only [Sum.elim_inl]
   rw [Ap (by omega)]
   refine ⟨⟨m + 1, by omega, by omega, fun j x y hj D G => ?_⟩, by omega⟩
   by_cases Y : j = m
   ·subst Y
    rw [O] at D; rw [M] at G; cases D; cases G; exact h
   ·exact hI j x y (by omega) D G
 ·rw [he (m + 1) (by omega)]
  refine .pure (.inr ⟨fun ⟨i, x, y, O, M, h⟩ => ?_, rfl⟩)
  have := (gs M).1
  exact hI i x y (by omega) O M h
theorem Z5 {s : Sg} (hl : s.Points.length ≤ 1000) (l : List Level) (v : Int) : ∃ r, Iu s l v = some r ∧ Kp s l v = some r := by
 obtain ⟨b, h1, h2, h3⟩ := Zc hl
 cases b with
 | false =>
  refine ⟨(0, 9), ?_, ?_⟩
  ·unfold Iu
   rw [h1, Option.bind_some]; rfl
  ·unfold Kp
   rw [h2, Option.bind_some]; rfl
 | true =>
  have hs := h3 rfl
  have hpl := hs.points.len
  let Out : Level → Prop := fun x => x.At < 0 ∨ x.At > s.Capacity
  let Back : Prop := ∃ (i : Nat) (x y : Level), l[i]? = some x ∧ l[i + 1]? = some y ∧ y.At ≤ x.At
  let Bad' : Nat → Level → Prop := fun _ x => x.Bounds.High > bS s.Points x.At ∨ x.Bounds.Low < v
  let R : Int × Int → Prop := fun r => ((208 < l.length ∨ ∃ (k : Nat) (x : Level), l[k]? = some x ∧ Out x) ∧ r = (0, 1)) ∨ (¬ (208 < l.length ∨ ∃ (k : Nat) (x : Level), l[k]? = some x ∧ Out x) ∧ ((Back ∧ r = (0, 6)) ∨ (¬ Back ∧ ((∃ (k : Nat) (x : Level), l[k]? = some x ∧ Bad' k x ∧ (∀ (j : Nat) (y : Level), j < k → l[j]? = some y → ¬ Bad' j y) ∧ r = (x.At, 15)) ∨ ((∀ (k : Nat) (x : Level), l[k]? = some x → ¬ Bad' k x) ∧ r = (-1, 0))))))
  have a : Ok (Iu s l v) R := by
   unfold Iu
   rw [h1]
   refine .bind' (.pure (Eo (fun h => absurd rfl h) fun _ => ?_))
   have out : (208 < l.length ∨ ∃ (k : Nat) (x : Level), l[k]? = some x ∧ Out x) → Ok (Iu.J1 s l v true) R := fun h => by
    unfold Iu.J1; exact .pure (.inl ⟨h, rfl⟩)
   refine As (fun h => out (.inl (by omega))) fun hl8 => .bind Jc fun r Z => ?_
   subst Z
   have e := Hy (l := l) (P := fun x => Kt x s) (Q := Out) fun k x _ => by simp only [Out]; unfold Kt; simp
   rcases U8 e with ⟨e, h⟩ | ⟨e, h⟩
   ·rw [e]; exact out (.inr h)
   rw [e]
   have no : ¬ (208 < l.length ∨ ∃ (k : Nat) (x : Level), l[k]? = some x ∧ Out x) := fun h' => h'.elim (fun h => by omega) h
   unfold Iu.J1
   refine Bd (fun h => by cases h) fun _ => .bind (Si (l := l) (d := ((0 : Int), (6 : Int))) (by omega) (fun i x y D M => ?_) fun i hi => ?_) ?_
   ·have hyl := (gs M).1
    unfold Iu.B6
    rw [Ap (x := ((i + 1 : Nat) : Int) - 1) (by omega), show ((i + 1 : Nat) : Int) - 1 = (i : Int) by omega]
    exact As (fun _ => .bind' (.eq (A6 D) (.bind' (.eq (A6 M) (As (fun h => .pure (.inl ⟨h, rfl⟩)) fun h => .pure (.inr ⟨h, rfl⟩)))))) fun h => by omega
   ·unfold Iu.B6
    rw [if_neg (by simp; omega)]
   rintro _ (⟨G, rfl⟩ | ⟨G, rfl⟩)
   ·exact .pure (.inr ⟨no, .inl ⟨G, rfl⟩⟩)
   simp only [Sum.elim_inr]
   unfold Iu.J2
   refine .bind (Q := Sum.elim (fun _ : Unit => ∀ (k : Nat) (x : Level), l[k]? = some x → ¬ Bad' k x) fun r => ∃ (k : Nat) (x : Level), l[k]? = some x ∧ Bad' k x ∧ (∀ (j : Nat) (y : Level), j < k → l[j]? = some y → ¬ Bad' j y) ∧ r = (x.At, 15)) (.forL (fun k _ => ∀ (j : Nat) (y : Level), j < k → l[j]? = some y → ¬ Bad' j y) (fun r => ∃ (k : Nat) (x : Level), l[k]? = some x ∧ Bad' k x ∧ (∀ (j : Nat) (y : Level), j < k → l[j]? = some y → ¬ Bad' j y) ∧ r = (x.At, 15)) (fun j y h => absurd h (Nat.not_lt_zero _)) ?_ (fun _ h k x D => h k x (gs D).1 D) fun _ h => h) ?_
   ·intro k x _ D hI
    have j5 : ∀ c : Bool, (c = true ↔ Bad' k x) → Ok (Iu.J5 x c) (Sum.elim (fun _ : Unit => ∀ (j : Nat) (y : Level), j < k + 1 → l[j]? = some y → ¬ Bad' j y) fun r => ∃ (k : Nat) (x : Level), l[k]? = some x ∧ Bad' k x ∧ (∀ (j : Nat) (y : Level), j < k → l[j]? = some y → ¬ Bad' j y) ∧ r = (x.At, 15)) := fun c hc => by
     unfold Iu.J5
     refine Cd hc (fun h => .pure ⟨k, x, D, h, hI, rfl⟩) fun h => .pure fun j y hj M => ?_
     by_cases Y : j = k
     ·subst Y; rw [D] at M; cases M; exact h
     ·exact hI j y (by omega) M
    unfold Iu.B4
    refine .bind' (.eq (Z2 ⟨by omega, by omega⟩ _) (As (fun h => j5 _ ⟨fun _ => .inl h, fun _ => rfl⟩) fun h => j5 _ ?_))
    rw [decide_eq_true_eq]
    exact ⟨.inr, fun G => G.resolve_left h⟩
   ·rintro (_ | r) Z
    ·unfold Iu.J3
     exact .pure (.inr ⟨no, .inr ⟨G, .inr ⟨Z, rfl⟩⟩⟩)
    ·exact .pure (.inr ⟨no, .inr ⟨G, .inl Z⟩⟩)
  have c : Ok (Kp s l v) R := by
   unfold Kp
   rw [h2]
   refine .bind' (.pure (Eh (fun h => by cases h) fun _ => As (fun h => .pure (.inl ⟨.inl (by omega), rfl⟩)) fun hl8 => ?_))
   refine .bind (hG (d := ((0 : Int), (1 : Int))) (P := fun _ x => Out x) fun k x D => ?_) ?_
   ·unfold Kp.B7
    exact .test (by simp only [Out]; simp)
   rintro _ (⟨h, rfl⟩ | ⟨h, rfl⟩)
   ·exact .pure (.inl ⟨.inr h, rfl⟩)
   have no : ¬ (208 < l.length ∨ ∃ (k : Nat) (x : Level), l[k]? = some x ∧ Out x) := fun h' => h'.elim (fun h => by omega) fun ⟨k, x, D, ho⟩ => h k x D ho
   simp only [Sum.elim_inl]
   unfold Kp.J1
   refine .bind (Si (l := l) (d := ((0 : Int), (6 : Int))) (by omega) (fun i x y D M => ?_) fun i hi => ?_) ?_
   ·have hyl := (gs M).1
    unfold Kp.B6
    rw [Ap (x := ((i + 1 : Nat) : Int) - 1) (by omega), show ((i + 1 : Nat) : Int) - 1 = (i : Int) by omega]
    exact As (fun _ => .bind' (.eq (A6 M) (.bind' (.eq (A6 D) (As (fun h => .pure (.inl ⟨h, rfl⟩)) fun h => .pure (.inr ⟨h, rfl⟩)))))) fun h => by omega
   ·unfold Kp.B6
    rw [if_neg (by simp; omega)]
   rintro _ (⟨G, rfl⟩ | ⟨G, rfl⟩)
   ·exact .pure (.inr ⟨no, .inl ⟨G, rfl⟩⟩)
   simp only [Sum.elim_inr]
   unfold Kp.J2
   refine .bind (Q := Sum.elim (fun _ : Unit => ∀ (k : Nat) (x : Level), l[k]? = some x → ¬ Bad' k x) fun r => ∃ (k : Nat) (x : Level), l[k]? = some x ∧ Bad' k x ∧ (∀ (j : Nat) (y : Level), j < k → l[j]? = some y → ¬ Bad' j y) ∧ r = (x.At, 15)) (.forL (fun k _ => ∀ (j : Nat) (y : Level), j < k → l[j]? = some y → ¬ Bad' j y) (fun r => ∃ (k : Nat) (x : Level), l[k]? = some x ∧ Bad' k x ∧ (∀ (j : Nat) (y : Level), j < k → l[j]? = some y → ¬ Bad' j y) ∧ r = (x.At, 15)) (fun j y h => absurd h (Nat.not_lt_zero _)) ?_ (fun _ h k x D => h k x (gs D).1 D) fun _ h => h) ?_
   ·intro k x _ D hI
    have j5 : ∀ c : Bool, (c = true ↔ Bad' k x) → Ok (Kp.J5 x c) (Sum.elim (fun _ : Unit => ∀ (j : Nat) (y : Level), j < k + 1 → l[j]? = some y → ¬ Bad' j y) fun r => ∃ (k : Nat) (x : Level), l[k]? = some x ∧ Bad' k x ∧ (∀ (j : Nat) (y : Level), j < k → l[j]? = some y → ¬ Bad' j y) ∧ r = (x.At, 15)) := fun c hc => by
     unfold Kp.J5
     refine Cd hc (fun h => .pure ⟨k, x, D, h, hI, rfl⟩) fun h => .pure fun j y hj M => ?_
     by_cases Y : j = k
     ·subst Y; rw [D] at M; cases M; exact h
     ·exact hI j y (by omega) M
    unfold Kp.B4
    refine .bind' (.eq (cT ⟨by omega, by omega⟩ _) (As (fun h => j5 _ ⟨fun _ => .inl h, fun _ => rfl⟩) fun h => j5 _ ?_))
    rw [decide_eq_true_eq]
    exact ⟨.inr, fun G => G.resolve_left h⟩
   ·rintro (_ | r) Z
    ·unfold Kp.J3
     exact .pure (.inr ⟨no, .inr ⟨G, .inr ⟨Z, rfl⟩⟩⟩)
    ·exact .pure (.inr ⟨no, .inr ⟨G, .inl Z⟩⟩)
  obtain ⟨r, e1, q1⟩ := a
  obtain ⟨r', e2, q2⟩ := c
  have : r = r' := by
   rcases q1 with ⟨_, rfl⟩ | ⟨n1, ⟨_, rfl⟩ | ⟨n2, ⟨k, x, D, b1, b2, rfl⟩ | ⟨n3, rfl⟩⟩⟩ <;> rcases q2 with ⟨_, rfl⟩ | ⟨m1, ⟨_, rfl⟩ | ⟨m2, ⟨k', x', O, c1, c2, rfl⟩ | ⟨m3, rfl⟩⟩⟩ <;> first | rfl | contradiction | skip
   ·have : k = k' := by
     rcases Nat.lt_trichotomy k k' with h | h | h
     ·exact absurd b1 (c2 k x h D)
     ·exact h
     ·exact absurd c1 (b2 k' x' h O)
    subst this
    rw [D] at O; cases O; rfl
   ·exact absurd b1 (m3 k x D)
   ·exact absurd c1 (n3 k' x' O)
  subst this
  exact ⟨r, e1, e2⟩
theorem Zt {d : S2} (Z : SrcOk d) : Ok (Qi d) fun r => World19 r.1 r.2.1 r.2.2.1 r.2.2.2.1 ∧ SrcOk r.2.2.2.2 := by
 unfold Qi
 refine .bind (eI Z (nodes := 2) (k := 0) (by decide) (by decide) (by decide) (by decide)) fun r1 D => .bind (Ss D.2) fun r2 G => ?_
 have Y := D.1.cap
 refine .bind (cX G.2 Y) fun r3 M => .bind (Tr M.2 G.1.len) fun r4 O => .pure ⟨⟨⟨⟨0, by decide, D.1.name⟩, D.1.cap, D.1.resist, D.1.wave, D.1.points⟩, M.1, O.1, G.1⟩, O.2⟩
theorem Uw : Mf = some true := by kernel_rfl
theorem Pk {d : S2} (hd : SrcOk d) : Ok (My d) fun r => (-1000 ≤ r.1.Low ∧ r.1.Low ≤ 5000000 ∧ r.1.Low ≤ r.1.High ∧ r.1.High ≤ r.1.Low + 198) ∧ SrcOk r.2 := by
 unfold My
 refine .bind (Dq hd (by decide) (by decide)) fun Z M => .bind (Jf M.1 (by decide) (by decide)) fun D O => .bind (Jf O.1 (by decide) (by decide)) fun G Y => .pure ?_
 have hl : -1000 ≤ Z.1 ∧ Z.1 ≤ 5000000 := by
  have := M.2
  simp at this
  omega
 have hm : 0 ≤ D.1 * G.1 ∧ D.1 * G.1 ≤ 198 := by
  have a := O.2; have b := Y.2
  have : D.1 = 0 ∨ D.1 = 1 ∨ D.1 = 2 := by omega
  rcases this with h | h | h <;> rw [h] <;> omega
 dsimp only
 rw [Ap (x := D.1 * G.1) (by omega), Ap (by omega)]
 exact ⟨by omega, Y.1⟩
theorem Vw (l : Li) : Ms l l = some true := by
 obtain ⟨b, D, rfl⟩ : Ok (Ms l l) fun b => b = true := by
  unfold Ms
  refine Eo (fun h => absurd rfl h) fun _ => .bind' (.forL (fun _ _ => True) (fun _ => False) trivial (fun k x M G _ => ?_) (fun M _ => .pure rfl) fun _ h => h.elim)
  unfold Ms.B2
  exact .bind' (.eq (A6 G) (Eo (fun h => absurd rfl h) fun _ => .pure trivial))
 exact D
theorem O7 (l : List Level) : Iw l l = some true := by
 obtain ⟨b, D, rfl⟩ : Ok (Iw l l) fun b => b = true := by
  unfold Iw
  refine Eo (fun h => absurd rfl h) fun _ => .bind' (.forL (fun _ _ => True) (fun _ => False) trivial (fun k x M G _ => ?_) (fun M _ => .pure rfl) fun _ h => h.elim)
  unfold Iw.B2
  exact .bind' (.eq (A6 G) (Bd (fun h => by simp at h) fun _ => .pure trivial))
 exact D
abbrev eH {S : Type} (I : S → Prop) : S ⊕ Bool → Prop := Sum.elim I fun _ => False
theorem H3 {S : Type} {n : Nat} {D : S} {f : Nat → S → Option (S ⊕ Bool)} (I : S → Prop) (G : I D) (hf : ∀ k D, k < n → I D → Ok (f k D) (eH I)) : Ok (forI f 0 n D) (eH I) :=
 .forI (fun _ D => I D) (fun _ => False) G hf (fun _ h => h) fun _ h => h
theorem Ok.after {S : Type} {B : Type} {o : Option (S ⊕ Bool)} {I : S → Prop} {g : S ⊕ Bool → Option B} {P : B → Prop} (h : Ok o (eH I)) (k : ∀ s, I s → Ok (g (.inl s)) P) : Ok (o.bind g) P :=
 h.bind fun x D => by
  cases x with
  | inl s => exact k s D
  | inr b => exact D.elim
theorem cE {s : S2} (h : SrcOk s) {l : List Bt} (h1 : 1 ≤ l.length) (h2 : l.length ≤ 1000) : Ok (Qs s l) fun r => SrcOk r.2 := by
 unfold Qs
 exact .bind (Jf h (by omega) (by omega)) fun r D => .bind' (.ix' (by omega) (by omega) fun _ _ _ _ => .pure D.1)
theorem eN {s : S2} (h : SrcOk s) (p : Product) : Ok (Mg s p) fun r => SrcOk r.2 := by
 unfold Mg Mg.J1
 refine .bind (Jf h (by decide) (by decide)) fun r D => ?_
 exact Bd (fun _ => .bind (cE D.1 (by simp) (by simp)) fun r D => .pure D) fun _ =>
  Bd (fun _ => .bind (Dq D.1 (by simp) (by simp)) fun r D => .pure D.1) fun _ =>
  Bd (fun _ => .bind (Dq D.1 (by simp) (by simp)) fun r D => .pure D.1) fun _ =>
  Bd (fun _ => .bind (Dq D.1 (by simp) (by simp)) fun r D => .pure D.1) fun _ => .bind (Dq D.1 (by simp) (by simp)) fun r D => .pure D.1
theorem Z8 {s : S2} (hs : SrcOk s) {v : Int} (hv : 1 ≤ v ∧ v ≤ 1000) : Ok (Hj s v 5) fun r => SrcOk r.2 := by
 unfold Hj
 refine .bind (Q := fun d : Li × Int × List Piece => SrcOk ⟨d.1, d.2.1⟩) ?_ fun d hd => by unfold Hj.J1; exact .pure hd
 refine .loop (fun D : Li × Int × Int × List Piece => SrcOk ⟨D.1, D.2.1⟩ ∧ D.2.2.1 ≤ 1000 ∧ D.2.2.2.length ≤ 12) (fun D => D.2.2.1.toNat)
  ⟨hs, hv.2, by simp⟩ (by dsimp only; omega) ?_
 rintro ⟨L_, At, G, M⟩ ⟨Z, h2, h3⟩
 dsimp only at Z h2 h3
 unfold Hj.B2
 dsimp only
 refine Bd (fun hc => ?_) fun hc => .pure Z
 simp at hc
 refine .bind (Jf Z (by decide) (by decide)) ?_
 rintro ⟨b, s1⟩ ⟨aa, hb⟩
 have hw : wr ((wr (G * 2)).tdiv 3) = G * 2 / 3 := by rw [Ap (x := G * 2) (by omega), Int.tdiv_eq_ediv_of_nonneg (by omega), Ap (by omega)]
 dsimp only
 rw [hw]
 refine .bind (Ep aa (by omega) (by decide) (by omega)) ?_
 rintro ⟨x, s2⟩ ⟨O, hx⟩
 dsimp only at hb hx O ⊢
 have j4 : ∀ (y : Int) (z : Int), 1 ≤ y → Ok (Hj.J4 (L_, At, G, M) (x, s2) y z) (Sum.elim (fun D : Li × Int × Int × List Piece => (SrcOk ⟨D.1, D.2.1⟩ ∧ D.2.2.1 ≤ 1000 ∧ D.2.2.2.length ≤ 12) ∧ D.2.2.1.toNat < G.toNat)
    fun d : Li × Int × List Piece => SrcOk ⟨d.1, d.2.1⟩) := by
  intro y z Y
  unfold Hj.J4
  dsimp only
  refine .bind' (.app (by simp; omega) (.pure ⟨⟨O.eta, ?_, by simp; omega⟩, ?_⟩))
  ·dsimp only; rw [Ap (by omega)]; omega
  ·dsimp only; rw [Ap (by omega)]; omega
 have j3 : ∀ y : Int, 1 ≤ y → Ok (Hj.J3 5 (L_, At, G, M) (b, s1) (x, s2) y) (Sum.elim (fun D : Li × Int × Int × List Piece => (SrcOk ⟨D.1, D.2.1⟩ ∧ D.2.2.1 ≤ 1000 ∧ D.2.2.2.length ≤ 12) ∧ D.2.2.1.toNat < G.toNat)
    fun d : Li × Int × List Piece => SrcOk ⟨d.1, d.2.1⟩) := by
  intro y Y
  unfold Hj.J3
  dsimp only
  refine As (fun h0 => ?_) fun h0 => ?_
  ·have e0 : wr ((M.length : Int) - 1) = ((M.length - 1 : Nat) : Int) := by rw [Ap (by omega)]; omega
   rw [e0]
   refine .bind' (.ix' (by omega) (by omega) fun j q hj hq => ?_)
   dsimp only
   unfold Hj.J5
   refine Bd (fun he => ?_) fun he => j4 y b Y
   refine .bind' (.rem (by decide) ?_)
   dsimp only
   rw [e0]
   refine .bind' (.ix' (by omega) (by omega) fun j q hj hq => Bd (fun h => .pure ⟨⟨O.eta, ?_, by simpa using h3⟩, ?_⟩) fun h => j4 y _ Y)
   ·dsimp only; rw [Ap (by omega)]; omega
   ·dsimp only; rw [Ap (by omega)]; omega
  ·unfold Hj.J5
   exact Bd (fun h => by cases h) fun _ => j4 y b Y
 exact Bd (fun h => j3 G (by omega)) fun h => j3 x (by omega)
abbrev Ve (st : Li × Int) : Prop := SrcOk ⟨st.1, st.2⟩
theorem Ly (raw : Sg) (f : List Piece) (b : List Batch) (ab vapour : Int) (i : Bounds) (sm : List Level) (l : Li) : Mj raw f b ab vapour i sm l = some true := by
 have : Ok (Mj raw f b ab vapour i sm l) fun x => x = true := by
  unfold Mj
  refine Bd (fun _ => .bind' (.eq Uw (.pure rfl))) fun hc => ?_
  have hraw : raw.Points.length ≤ 30 ∧ sm.length ≤ 300 := by simp at hc; omega
  refine .bind (eO l) fun d hd => .bind (Zt hd) ?_
  rintro ⟨s, g, c, p, d2⟩ ⟨Y, ah⟩
  dsimp only at Y ah ⊢
  have hpl := Y.seg.points.len
  have hcap := Y.seg.cap
  have hpp := Y.prods.len
  have hfl := Y.fill.len
  refine .bind' (.app (by simp; omega) ?_)
  simp only [List.nil_append]
  refine .bind (Jf ah (by omega) (by omega)) fun a ha => .bind (Dq ha.1 (by simp) (by simp)) fun w hw2 => .bind' (.ix' (by omega) (by omega) fun k x hk hx => ?_)
  dsimp only
  obtain ⟨ae, aj, hpe⟩ : ∃ ae, ae = s.Points.set k (⟨w.1, x.Height, x.Limit⟩ : Point) ∧ ae.length = s.Points.length := ⟨_, rfl, by simp⟩
  rw [← aj]
  unfold Mj.J1
  dsimp only
  refine .bind' (.app (by simp; omega) ?_)
  simp only [List.nil_append]
  refine .bind' (.ix' (by omega) (by omega) fun k' x' hk' hx' => .bind (eN (s := ⟨w.2.L_, w.2.At⟩) hw2.1 x') fun o ho => Ok.after (I := Ve) (H3 Ve ho fun m st hm ak => ?_) fun st ak => ?_)
  rotate_left
  ·simp only [Sum.elim_inl]
   unfold Mj.J2
   exact .bind' (.eq Uw (.pure rfl))
  unfold Mj.B3
  refine .bind' (.ix' (Int.natCast_nonneg _) (Int.ofNat_lt.2 hm) fun m' y hm' hy => ?_)
  have aa : y.Points.length ≤ 1000 := by
   have := mg hy
   simp only [List.mem_cons, List.not_mem_nil, or_false] at this
   rcases this with rfl | rfl | rfl
   ·omega
   ·omega
   ·dsimp only; omega
  refine .bind (Z8 (s := ⟨st.1, st.2⟩) (v := s.Capacity) ak ⟨by omega, by omega⟩) fun fl ai => Ok.after (I := Ve) (H3 Ve ai fun m2 M hm2 D => ?_) fun M D => ?_
  ·unfold Mj.B9
   refine .bind' (.ix' (Int.natCast_nonneg _) (Int.ofNat_lt.2 hm2) fun n' z hn' hz => ?_)
   obtain ⟨t, O, Z⟩ := V2 aa z
   refine .bind' (.eq O (.bind' (.eq Z (.bind' (.eq (Vw _) (Eh (fun h => by cases h) fun _ => ?_))))))
   unfold Mj.J11
   refine Eo (fun h => absurd rfl h) fun _ => .bind (Ep (s := ⟨M.1, M.2⟩) D (by decide) (by decide) (by decide)) fun r1 hr1 => .bind (Dq hr1.1 (by simp) (by simp)) fun r2 hr2 => Ok.after (I := Ve) (H3 Ve hr2.1 fun m3 af hm3 G => ?_) fun af G => ?_
   rotate_left
   ·simp only [Sum.elim_inl]
    unfold Mj.J10
    exact .pure G
   unfold Mj.B12
   refine .bind' (.ix' (Int.natCast_nonneg _) (Int.ofNat_lt.2 hm3) fun n3 rr hn3 hrr => .bind (Pk (d := ⟨af.1, af.2⟩) G) fun bd ac => Ok.after (I := fun _ => True) (H3 (fun _ => True) trivial fun m4 ag ad _ => ?_) fun ag _ => ?_)
   ·unfold Mj.B16
    refine .bind' (.ix' (Int.natCast_nonneg _) (Int.ofNat_lt.2 ad) fun n4 zz hn4 hzz => ?_)
    obtain ⟨t, O, Z⟩ := Nu aa z c p rr zz
    refine .bind' (.eq O (.bind' (.eq Z (.bind' (.eq (O7 _) (Eh (fun h => by cases h) fun _ => ?_))))))
    unfold Mj.J17
    exact Eo (fun h => absurd rfl h) fun _ => .pure trivial
   ·simp only [Sum.elim_inl]
    unfold Mj.J14
    obtain ⟨t, O, Z⟩ := Nu aa z b (p.set k' o.1) rr i
    refine .bind' (.eq O (.bind' (.eq Z (.bind' (.eq (O7 _) (Eh (fun h => by cases h) fun _ => ?_))))))
    unfold Mj.J15 Mj.J13
    exact Eo (fun h => absurd rfl h) fun _ => .pure ac.2
  ·simp only [Sum.elim_inl]
   unfold Mj.J5
   refine .bind (Pk (d := ⟨M.1, M.2⟩) D) fun bd ac => ?_
   obtain ⟨ll, hl1, hl2, hl3⟩ := eS Y.fill Y.bats
   obtain ⟨W, hW, hP, hA⟩ := aI Y.seg Y.fill Y.prods hl1 hl2 hl3
   obtain ⟨t, O, Z⟩ := Nu (s := s) (by omega) g c p 5 bd.1
   rw [hA 5 bd.1 (by decide) (by decide) (by decide) (by omega) (by omega) (by omega)] at O
   cases O
   have hlen : (Fi s g W 5 bd.1).length ≤ 1000 := by have := G3 s g; rw [Pl]; omega
   refine .bind' (.eq Z (.bind' (.app (by simp; omega) (.bind' (.app (by simp; omega) (Ok.after (I := fun _ => True) (H3 (fun _ => True) trivial fun m4 ag ad _ => ?_) fun ag _ => ?_))))))
   ·unfold Mj.B6
    refine .bind' (.ix' (Int.natCast_nonneg _) (Int.ofNat_lt.2 ad) fun n4 zz hn4 hzz => Ok.after (I := fun _ => True) (H3 (fun _ => True) trivial fun m5 st5 hm5 _ => ?_) fun st5 _ => ?_)
    ·unfold Mj.B8
     refine .bind' (.ix' (Int.natCast_nonneg _) (Int.ofNat_lt.2 hm5) fun n5 vv hn5 hvv => ?_)
     obtain ⟨r, O, Z⟩ := Z5 aa zz vv
     exact .bind' (.eq O (.bind' (.eq Z (Bd (fun h => by simp at h) fun _ => .pure trivial))))
    ·simp only [Sum.elim_inl]
     unfold Mj.J7
     exact .pure trivial
   ·simp only [Sum.elim_inl]
    unfold Mj.J4
    exact .pure ac.2
 obtain ⟨b, h1, rfl⟩ := this
 exact h1
end Go.Proofs.YtkhcdkioehdndaaGreatDoor
namespace Go.Aw
set_option linter.unusedVariables false
set_option linter.unusedSimpArgs false
open Go.ChangeShapes Go.WideShapes Go.ChangeAt Go.RowKit
section
variable {H : Type} {enc : TypeId × Value → H} {P : Program}
theorem Im (hl : laidOutB P = true) {W W' : World} (hb : Below W.heap.size W W') : ∀ {G : List TypeId} {vs : List Value} {ds : List (DataW H)} {D : List MemPlace},
  (∀ t, t ∈ G → P.readableRec t = true ∧ t < P.types.size) → (∀ x, x ∈ D → x.block < W.heap.size) → DataW.TrodAll enc P W 0 (fun _ => true) true G vs ds D →
  DataW.TrodAll enc P W' 0 (fun b => decide (b < W.heap.size)) true G vs ds D
 | [], vs, ds, D, _, _, h => by
  cases vs <;> cases ds <;> simp [DataW.TrodAll] at h ⊢
  exact h
 | t :: G, vs, ds, D, ht, hlt, h => by
  obtain ⟨v, vs', d, Z, p, q, rfl, rfl, rfl, h1, h2⟩ := trodAll_cons h
  have Y := ht t (by simp)
  exact ⟨p, q, Below.trod hl Y.1 Y.2 h1 hb (fun x O => hlt x (by simp [O])), Im hl hb (fun t M => ht t (by simp [M])) (fun x O => hlt x (by simp [O])) h2, rfl⟩
theorem Z3 {f : Func} {s : ChangeSpec} {W W' : World} {args : Array Value} {ds : List (DataW H)} {p : List MemPlace} {t : TypeId} (hW : DataW.Whole enc P f.params.toList s.vars false W args.toList ds [] (p ++ []))
  (hA : DataW.TrodAll enc P W 0 (fun _ => true) true f.params.toList args.toList ds p)
  (M : (s.fn H (ds ++ [])).results = [.lit (.bool true)]) (D : (s.fn H (ds ++ [])).args = ds) (hv : (s.fn H (ds ++ [])).vars = []) (Z : s.vars = [])
  (O : f.resultTypes.toList = [t]) (hu : P.underlying t = some .bool) (hl : laidOutB P = true) (G : ∀ t, t ∈ f.params.toList → P.readableRec t = true ∧ t < P.types.size)
  (hb : Below W.heap.size W W') : s.post enc P f false true false false W args (.bool true) W' := by
 have Y : ∀ x, x ∈ p → x.block < W.heap.size := fun x hx => hW.lt x (by simp [hx])
 have aa : f.resultTypes.size = 1 := by rw [← Array.length_toList, O]; rfl
 refine ⟨ds, [], p ++ [], [], p, [], hW, ?_, ?_, ?_, hb.frame _, fun h => by cases h⟩
 ·rw [M, O, aa]
  exact trodAll_mk1 (shut_bool hu true)
 ·rw [D]
  exact Im hl hb G Y hA
 ·rw [hv, Z]; rfl
end
theorem Zb {n : Int} (h : (Lit.int .i64 n).wf = true) : -9223372036854775808 ≤ n ∧ n ≤ 9223372036854775807 := by
 have D : IntKind.i64.min = -9223372036854775808 := rfl
 have G : IntKind.i64.max = 9223372036854775807 := rfl
 simp only [Lit.wf, Bool.and_eq_true, decide_eq_true_eq] at h
 omega
theorem Vv {E : Env} {f : FuncId} {O : List T} {W : World} {args : Array Value} (G : Vg fun b => W.heap[b]?) (hc : ACalls E f O [] fun x _ => x = .v (.bool true)) (hsz : args.size = O.length)
  (hv : ∀ (i : Nat) (x : T), O[i]? = some x → VR (fun b => W.heap[b]?) (args.getD i undef) x) : Calls E.P f args W fun e W' => e = .returned (.bool true) ∧ Below W.heap.size W W' := by
 refine (hc.2 (fun b => W.heap[b]?) W args hsz hv ⟨fun _ _ h => h, G⟩ (by simp) (by simp)).mono ?_
 rintro e w' ⟨v, x, fp', H', rfl, rfl, M, _, _, _, _, hs, ⟨Y, Z, e3⟩, D⟩
 refine ⟨by rw [M.v_eq], ⟨Y, Z, e3, hs, fun k hk => (D k hk (by simp)).1⟩⟩
section
variable {H : Type} {enc : TypeId × Value → H} {P : Program} {w : World} {base : Nat} {spare : Nat → Bool} {held : Bool} {fuel : Nat} {t e i : TypeId} {cs : List Value} {p : List MemPlace}
theorem G5 {M O : Field} (ht : P.underlying t = some (.struct #[M, O])) (o0 : M.offset = 0) (o1 : O.offset = 1) (y0 : M.type = i) (y1 : O.type = i) (hi : P.underlying i = some (.int .i64)) (hc : P.cellsOf i = 1) (Y : P.cellsOf t = 2)
  {x : DataW H × List MemPlace} {a b : Int} (Z : x.1 = .agg [.lit (.int .i64 a), .lit (.int .i64 b)]) (h : DataW.trod enc P w base spare held fuel t cs = some x) : cs = [.int .i64 a, .int .i64 b] := by
 obtain ⟨z0, z1, n, rfl, hl, h0, h1⟩ := trod_struct2 ht h
 rw [Y] at hl
 rw [y0] at h0
 rw [y1] at h1
 obtain ⟨m0, D, rfl, _⟩ := DataW.trod_int hi h0
 obtain ⟨m1, G, rfl, _⟩ := DataW.trod_int hi h1
 rw [hc, o0] at D
 rw [hc, o1] at G
 simp only [DataW.agg.injEq, List.cons.injEq, DataW.lit.injEq, Lit.int.injEq, true_and, and_true] at Z
 match cs, hl with
 | [c0, c1], _ =>
  simp at D G
  rw [D, G, Z.1, Z.2]
theorem Sr {f0 f1 : Field} (ht : P.underlying t = some (.array 4 e)) (he : P.underlying e = some (.struct #[f0, f1])) (M : f0.offset = 0) (O : f1.offset = 1) (Y : f0.type = i) (Z : f1.type = i) (hi : P.underlying i = some (.int .i64)) (hc : P.cellsOf i = 1) (D : P.cellsOf e = 2) (hca : P.cellsOf t = 8)
  {a0 a1 a2 a3 a4 a5 a6 a7 : Int}
  (h : DataW.trod enc P w base spare held fuel t cs = some (.agg [.agg [.lit (.int .i64 a0), .lit (.int .i64 a1)], .agg [.lit (.int .i64 a2), .lit (.int .i64 a3)], .agg [.lit (.int .i64 a4), .lit (.int .i64 a5)], .agg [.lit (.int .i64 a6), .lit (.int .i64 a7)]], p)) :
  cs = [a0, a1, a2, a3, a4, a5, a6, a7].map fun n => .int .i64 n := by
 obtain ⟨xs, m, _, hx, hl, hn, G⟩ := DataW.trod_array ht h
 rw [hca] at hl
 match xs, hn with
 | [x0, x1, x2, x3], _ =>
  simp only [Prod.mk.injEq, DataW.agg.injEq, List.map_cons, List.map_nil, List.cons.injEq, and_true] at hx
  obtain ⟨⟨g0, g1, g2, g3⟩, _⟩ := hx
  have k0 := G5 he M O Y Z hi hc D g0.symm (by simpa using G 0 (by decide))
  have k1 := G5 he M O Y Z hi hc D g1.symm (by simpa using G 1 (by decide))
  have k2 := G5 he M O Y Z hi hc D g2.symm (by simpa using G 2 (by decide))
  have k3 := G5 he M O Y Z hi hc D g3.symm (by simpa using G 3 (by decide))
  rw [D] at k0 k1 k2 k3
  match cs, hl with
  | [c0, c1, c2, c3, c4, c5, c6, c7], _ =>
   simp at k0 k1 k2 k3
   simp [k0, k1, k2, k3]
theorem cV {W : World} {n : String} {cs : Array Value} {l : Li} (hn : P.globalNamed n = some 0) (h : W.var? P n = some cs) (O : cs.toList = l.map fun n => .int .i64 n) (aa : gl = [(0, l.map fun n => .v (.int .i64 n))]) : Vg fun b => W.heap[b]? := by
 have Z : ∃ Y M, W.heap[0]? = some (.cells cs Y M) := by
  simp only [World.var?, hn, Option.bind_some] at h
  split at h
  ·rename_i c Y M hh; cases h; exact ⟨Y, M, hh⟩
  ·cases h
 obtain ⟨Y, M, Z⟩ := Z
 intro b m hm
 rw [aa] at hm
 simp only [List.mem_cons, List.not_mem_nil, or_false, Prod.mk.injEq] at hm
 obtain ⟨rfl, rfl⟩ := hm
 have D : ∀ (j : Nat) (x : T), (l.map fun n => T.v (.int .i64 n))[j]? = some x → ∃ n, x = .v (.int .i64 n) ∧ cs.getD (0 + j) undef = .int .i64 n := by
  intro j x G
  simp only [List.getElem?_map, Option.map_eq_some_iff] at G
  obtain ⟨n, hn, rfl⟩ := G
  refine ⟨n, rfl, ?_⟩
  have : cs.toList[j]? = some (.int .i64 n) := by rw [O]; simp [hn]
  rw [Array.getElem?_toList] at this
  rw [Nat.zero_add, Array.getD_eq_getD_getElem?, this]; rfl
 refine .eptr 0 0 _ cs Y M Z ?_ (fun j x G => ?_) fun j x G => ?_
 ·have := congrArg List.length O
  simp at this
  simp; omega
 ·obtain ⟨n, _, h⟩ := D j x G
  rw [h]; rfl
 ·obtain ⟨n, rfl, h⟩ := D j x G
  rw [h]; exact .v _
end
def Sees (G : GH) : List Value → List T → Prop
 | [], [] => True
 | v :: vs, x :: xs => CR G v x ∧ Sees G vs xs
 | _, _ => False
theorem Sees.app {G : GH} : ∀ {a : List Value} {r : List T} {b : List Value} {s : List T}, Sees G a r → Sees G b s → Sees G (a ++ b) (r ++ s)
 | [], [], _, _, _, h => h
 | _ :: _, _ :: _, _, _, h, h' => ⟨h.1, Sees.app h.2 h'⟩
 | [], _ :: _, _, _, h, _ => h.elim
 | _ :: _, [], _, _, h, _ => h.elim
theorem Sees.len {G : GH} : ∀ {a : List Value} {r : List T}, Sees G a r → a.length = r.length
 | [], [], _ => rfl
 | _ :: _, _ :: _, h => by simp [Sees.len h.2]
 | [], _ :: _, h => h.elim
 | _ :: _, [], h => h.elim
theorem Sees.get {G : GH} : ∀ {a : List Value} {r : List T}, Sees G a r → ∀ (j : Nat) (x : T), r[j]? = some x → ∃ v, a[j]? = some v ∧ CR G v x
 | v :: _, _ :: _, h, 0, x, hx => ⟨v, rfl, by simp at hx; subst hx; exact h.1⟩
 | _ :: _, _ :: _, h, j + 1, x, hx => by simpa using Sees.get h.2 j x (by simpa using hx)
 | [], [], _, j, x, hx => by simp at hx
 | [], _ :: _, h, _, _, _ => h.elim
 | _ :: _, [], h, _, _, _ => h.elim
theorem O9 {α : Type} {P : Nat → α → Prop} : ∀ {n : Nat}, (∀ i, i < n → ∃ a, P i a) → ∃ l : List α, l.length = n ∧ ∀ (i : Nat) (a : α), l[i]? = some a → P i a
 | 0, _ => ⟨[], rfl, by simp⟩
 | n + 1, h => by
  obtain ⟨l, G, O⟩ := O9 (n := n) fun i hi => h i (by omega)
  obtain ⟨a, M⟩ := h n (by omega)
  refine ⟨l ++ [a], by simp [G], fun i b D => ?_⟩
  rw [List.getElem?_append] at D
  split at D
  ·exact O i b D
  ·have := (gs D).1
   simp at this
   have e : i = n := by omega
   subst e
   simp [G] at D
   subst D; exact M
section
variable {H : Type} {enc : TypeId × Value → H} {P : Program} {W : World} {α β : Type} {t e : TypeId} {r : α → List T} {s : β → List T}
def Opn (enc : TypeId × Value → H) (P : Program) (W : World) (t : TypeId) (r : α → List T) : Prop :=
 ∀ (fuel : Nat) (cs : List Value) (y : DataW H × List MemPlace), DataW.trod enc P W 0 (fun _ => true) true fuel t cs = some y → (∀ n, n ∈ y.1.weights P t → n ≤ reachBytes) → ∃ a : α, Sees (fun b => W.heap[b]?) cs (r a)
theorem Opn.int {k : IntKind} (D : P.underlying t = some (.int k)) : Opn enc P W t fun n : Int => [.v (.int k n)] := fun fuel cs y h _ => by
 obtain ⟨n, rfl, _, _⟩ := DataW.trod_int D h
 exact ⟨n, ⟨rfl, .v _⟩, trivial⟩
theorem Opn.string (D : P.underlying t = some .string) : Opn enc P W t rS := fun fuel cs y h _ => by
 obtain ⟨n, rfl, _, _⟩ := DataW.trod_string D h
 exact ⟨n, ⟨rfl, .v _⟩, trivial⟩
theorem Opn.bool (D : P.underlying t = some .bool) : Opn enc P W t fun n : Bool => [.v (.bool n)] := fun fuel cs y h _ => by
 obtain ⟨n, rfl, _⟩ := DataW.trod_bool D h
 exact ⟨n, ⟨rfl, .v _⟩, trivial⟩
theorem Opn.map (h : Opn enc P W t r) (g : α → β) (he : ∀ a, s (g a) = r a) : Opn enc P W t s := fun fuel cs y M G => by
 obtain ⟨a, D⟩ := h fuel cs y M G
 exact ⟨g a, by rw [he]; exact D⟩
def OpnF (enc : TypeId × Value → H) (P : Program) (W : World) (N o : Nat) (fs : List Field) (r : α → List T) : Prop :=
 ∀ (fuel : Nat) (cs : List Value) (D : List (DataW H × List MemPlace)), cs.length = N → D.length = fs.length →
  (∀ (i : Nat) (f : Field), fs[i]? = some f → DataW.trod enc P W 0 (fun _ => true) true fuel f.type ((cs.drop f.offset).take (P.cellsOf f.type)) = D[i]?) →
  (∀ n, n ∈ DataW.weightsEach P (fs.map (·.type)) (D.map (·.1)) → n ≤ reachBytes) → ∃ a : α, Sees (fun b => W.heap[b]?) (cs.drop o) (r a)
theorem OpnF.nil {N : Nat} : OpnF enc P W N N [] fun _ : Unit => [] := fun fuel cs D h _ _ _ => ⟨(), by rw [← h, List.drop_length]; trivial⟩
theorem OpnF.cons {N o k : Nat} {f : Field} {fs : List Field} (hf : f.offset = o) (hk : P.cellsOf f.type = k) (h1 : Opn enc P W f.type r) (h2 : OpnF enc P W N (o + k) fs s) :
  OpnF enc P W N o (f :: fs) fun a : α × β => r a.1 ++ s a.2 := fun fuel cs M Z hl Y G => by
 cases M with
 | nil => cases hl
 | cons y M =>
  simp only [List.map_cons, DataW.weightsEach, List.mem_append] at G
  obtain ⟨a, O⟩ := h1 fuel _ y (Y 0 f rfl) fun n D => G n (.inl D)
  obtain ⟨b, hb⟩ := h2 fuel cs M Z (by simpa using hl) (fun i g hg => by have := Y (i + 1) g (by simpa using hg); simpa using this) fun n D => G n (.inr D)
  refine ⟨(a, b), ?_⟩
  rw [hf, hk] at O
  have := O.app hb
  rwa [← List.drop_drop, List.take_append_drop] at this
theorem Opn.struct {fs : Array Field} {N : Nat} (D : P.underlying t = some (.struct fs)) (G : P.cellsOf t = N) (h : OpnF enc P W N 0 fs.toList r) : Opn enc P W t r := fun fuel cs y Y O => by
 obtain ⟨Z, n, _, rfl, hl, hlen, hf⟩ := DataW.trod_struct D Y
 exact h n cs Z (hl.trans G) (by simpa using hlen) (fun i f hi => hf i f (by simpa using hi)) fun m M => O m (by simpa [DataW.weights, D] using M)
theorem Oh {ds : List (DataW H)} : ∀ {d : DataW H}, d ∈ ds → ∀ n, n ∈ d.weights P e → n ∈ DataW.weightsAll P e ds := by
 induction ds with
 | nil => intro d h; simp at h
 | cons d0 ds ih =>
  intro d h n D
  simp only [DataW.weightsAll, List.mem_append]
  rcases List.mem_cons.1 h with rfl | h
  ·exact .inl D
  ·exact .inr (ih h n D)
theorem Opn.list {k : Nat} (ht : P.underlying t = some (.slice e)) (hb : 1 ≤ P.bytesOf e) (hk : P.cellsOf e = k + 1) (hr : ∀ a, (r a).length = k + 1) (h : Opn enc P W e r) :
  Opn enc P W t fun l : List α => [.list (k + 1) (l.map r)] := fun fuel cs y hy hw => by
 rcases DataW.trod_slice ht hy with ⟨rfl, _⟩ | ⟨a, len, cap, D, rest, n, _, rfl, rfl, hb0, hl, hm, hlen, hel, hsp, hns⟩
 ·exact ⟨[], ⟨rfl, .empty _ _ _⟩, trivial⟩
 have hmax : len ≤ Gx := by
  have := hw ((D.length + rest.length) * P.bytesOf e) (by simp [DataW.weights, ht])
  have h1 : (D.length + rest.length) * 1 ≤ (D.length + rest.length) * P.bytesOf e := Nat.mul_le_mul_left _ hb
  simp only [reachBytes] at this
  unfold Gx
  omega
 have each : ∀ i, i < len → ∃ x : α, ∃ cs' : List Value, Sees (fun b => W.heap[b]?) cs' (r x) ∧ W.cells? 0 (a.add (i * (k + 1))) (k + 1) = some cs' := fun i hi => by
  obtain ⟨y', hy'⟩ : ∃ y', D[i]? = some y' := ⟨_, gq (by omega)⟩
  have := hel i hi
  rw [hk, hy', Option.bind_eq_some_iff] at this
  obtain ⟨cs', hc, ht'⟩ := this
  obtain ⟨x, hx⟩ := h n cs' y' ht' fun m hm => hw m (by
   simp only [DataW.weights, ht, List.mem_cons, List.mem_append]
   exact .inr (.inl (Oh (List.mem_map.2 ⟨y', mg hy', rfl⟩) m hm)))
  exact ⟨x, cs', hx, hc⟩
 obtain ⟨l, hll, hp⟩ := O9 each
 refine ⟨l, ⟨rfl, ?_⟩, trivial⟩
 by_cases hl0 : len = 0
 ·have : l = [] := List.eq_nil_of_length_eq_zero (by omega)
  subst this; subst hl0; exact .empty _ _ _
 have G : ∀ (i : Nat) (x : α), l[i]? = some x → ∀ (j : Nat) (z : T), (r x)[j]? = some z → ∃ v, W.cell? (a.add (i * (k + 1) + j)) = some v ∧ CR (fun b => W.heap[b]?) v z := fun i x hx j z hz => by
  obtain ⟨cs', hs, hc⟩ := hp i x hx
  obtain ⟨v, hv, hr'⟩ := hs.get j z hz
  have := (World.cells?_some hc).2.2 j (by have := (gs hz).1; rw [hr] at this; omega)
  rw [hv] at this
  exact ⟨v, by rw [← this, Addr.add_add], hr'⟩
 obtain ⟨x0, hx0⟩ : ∃ x, l[len - 1]? = some x := ⟨_, gq (by omega)⟩
 obtain ⟨z0, hz0⟩ : ∃ z, (r x0)[k]? = some z := ⟨_, gq (by rw [hr]; omega)⟩
 obtain ⟨v0, M, _⟩ := G _ x0 hx0 k z0 hz0
 obtain ⟨x1, hx1⟩ : ∃ x, l[0]? = some x := ⟨_, gq (by omega)⟩
 obtain ⟨z1, hz1⟩ : ∃ z, (r x1)[0]? = some z := ⟨_, gq (by rw [hr]; omega)⟩
 obtain ⟨v1, hv1, _⟩ := G _ x1 hx1 0 z1 hz1
 obtain ⟨b, Y, spot⟩ := a
 have hspot : spot = none := by simpa [Addr.add] using World.cell?_spot hv1
 subst hspot
 simp only [De] at G M
 have hcs : ∃ cs ty fr, W.heap[b]? = some (.cells cs ty fr) := by
  unfold World.cell? at M
  split at M
  ·rename_i c ty fr hh; exact ⟨_, _, _, hh⟩
  ·cases M
 obtain ⟨cs, ty, fr, hh⟩ := hcs
 have O : ∀ (i : Nat) (e' : List T), (l.map r)[i]? = some e' → ∀ (j : Nat) (z : T), e'[j]? = some z → CR (fun b => W.heap[b]?) (cs.getD (Y + i * (k + 1) + j) undef) z := fun i e' Z j z hz => by
  simp only [List.getElem?_map, Option.map_eq_some_iff] at Z
  obtain ⟨x, hx, rfl⟩ := Z
  obtain ⟨v, hv, hr'⟩ := G i x hx j z hz
  simp only [World.cell?, hh] at hv
  rw [Array.getD_eq_getD_getElem?, Nat.add_assoc]
  have : cs[Y + (i * (k + 1) + j)]? = some v := by simpa using hv
  rw [this]; exact hr'
 have hbig : Y + (len - 1) * (k + 1) + k < cs.size := by
  simp only [World.cell?, hh] at M
  have : cs[Y + ((len - 1) * (k + 1) + k)]? = some v0 := by simpa using M
  have := (Array.getElem?_eq_some_iff.1 this).1
  omega
 have aa : (l.map r).length = len := by rw [List.length_map, hll]
 have hmul : len * (k + 1) = (len - 1) * (k + 1) + (k + 1) := by
  obtain ⟨m, rfl⟩ : ∃ m, len = m + 1 := ⟨len - 1, by omega⟩
  rw [Nat.add_sub_cancel, Nat.succ_mul]
 have := VR.list (H := fun b => W.heap[b]?) b Y cap (k + 1) (l.map r) cs ty fr hh (by rw [aa]; exact hl) (by rw [aa]; exact hmax) (by rw [aa, hmul]; omega)
  (fun i e' Z => by simp only [List.getElem?_map, Option.map_eq_some_iff] at Z; obtain ⟨x, _, rfl⟩ := Z; exact hr x)
  (fun i e' Z j z hz => (O i e' Z j z hz).1) (fun i e' Z j z hz => (O i e' Z j z hz).2)
 rw [aa] at this
 exact this
theorem Opn.agg {O : List TypeId} {ds : List (DataW H)} {j : Nat} {base : Nat} {q : Reach} {v : Value} {d : DataW H} {ps : List MemPlace} {fs : Array Field} (h : Opn enc P W t r) (hsz : (DataW.weightsEach P O ds).all (· ≤ reachBytes) = true) (hj : O[j]? = some t) (Y : ds[j]? = some d)
  (ht : P.underlying t = some (.struct fs)) (D : Value.okWide P W q base t v) (hv : DataW.Trod enc P W 0 (fun _ => true) true t v d ps) : ∃ a, VR (fun b => W.heap[b]?) v (.agg (r a)) := by
 obtain ⟨cs, rfl, _⟩ := okWide_struct ht D
 obtain ⟨fuel, Z⟩ := hv
 obtain ⟨a, M⟩ := h fuel _ _ Z fun n hn => by simpa using List.all_eq_true.1 hsz _ (DataW.weights_mem_each hj Y n hn)
 have M : Sees (fun b => W.heap[b]?) cs.toList (r a) := M
 have g : ∀ (j : Nat) (x : T), (r a)[j]? = some x → CR (fun b => W.heap[b]?) (cs.getD j undef) x := fun j x G => by
  obtain ⟨v, hv, hr⟩ := M.get j x G
  rw [Array.getD_eq_getD_getElem?, show cs[j]? = some v by simpa using hv]; exact hr
 exact ⟨a, .agg cs (r a) (by simpa using M.len) (fun j x G => (g j x G).1) fun j x G => (g j x G).2⟩
theorem Opn.one {G : List TypeId} {ds : List (DataW H)} {j : Nat} {v : Value} {d : DataW H} {ps : List MemPlace} {x : α → T} (h : Opn enc P W t fun a => [x a]) (hsz : (DataW.weightsEach P G ds).all (· ≤ reachBytes) = true) (Y : G[j]? = some t) (M : ds[j]? = some d)
  (hc : v.cells = #[v]) (hv : DataW.Trod enc P W 0 (fun _ => true) true t v d ps) : ∃ a, VR (fun b => W.heap[b]?) v (x a) := by
 obtain ⟨fuel, O⟩ := hv
 obtain ⟨a, D⟩ := h fuel _ _ O fun n Z => by simpa using List.all_eq_true.1 hsz _ (DataW.weights_mem_each Y M n Z)
 rw [hc] at D
 exact ⟨a, D.1.2⟩
theorem Gf {base : Nat} {q : Reach} {v : Value} (M : P.underlying t = some (.slice e)) (D : Value.okWide P W q base t v) : v.cells = #[v] := by
 obtain ⟨a, O, G, rfl⟩ := okWide_slice M D; rfl
end
end Go.Aw
