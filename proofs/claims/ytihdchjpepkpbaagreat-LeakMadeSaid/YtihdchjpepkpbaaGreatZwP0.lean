/- Plain proofs. No condition. -/
import Derived.Test.YtihdchjpepkpbaaGreatZwD
import Derived.Lib.SlicesCompact
import Derived.Test.YtihdchjpepkpbaaGreatZwB2
set_option maxRecDepth 100000
namespace Go.Proofs.YtihdchjpepkpbaaGreat
set_option linter.unusedVariables false
set_option linter.unusedSimpArgs false
open Go.Aw
theorem Si {a b q r : Int} (hb : 0 < b) (h : b * q + r = a) (G : 0 ≤ r) (h1 : r < b) : a / b = q ∧ a % b = r :=
 (Int.ediv_emod_unique hb).2 ⟨by omega, G, h1⟩
theorem Qy {a b : Int} (hb : 0 < b) : (a.tmod b < 0 → a / b = a.tdiv b - 1 ∧ a % b = a.tmod b + b) ∧ (¬ a.tmod b < 0 → a / b = a.tdiv b ∧ a % b = a.tmod b) := by
 have h := Int.mul_tdiv_add_tmod a b
 have G : a.tmod b < b := Int.tmod_lt_of_pos a hb
 have O : -b < a.tmod b := by have := Int.lt_tmod_of_pos a hb; exact this
 refine ⟨fun M => Si hb ?_ (by omega) (by omega), fun M => Si hb h (by omega) G⟩
 rw [Int.mul_sub, Int.mul_one]; omega
def dn (a b : Int) : Int := a / b
def up (a b : Int) : Int := if 0 < a % b then a / b + 1 else a / b
theorem Jm {a b : Int} (hb : 0 < b) : -(a.natAbs : Int) ≤ dn a b ∧ dn a b ≤ (a.natAbs : Int) := by
 refine ⟨?_, ?_⟩
 ·have h : b * (-(a.natAbs : Int)) ≤ a := by
   have M : (1 : Int) * a.natAbs ≤ b * a.natAbs := Int.mul_le_mul_of_nonneg_right (by omega) (by omega)
   rw [Int.mul_neg]; omega
  unfold dn
  exact (Int.le_ediv_iff_mul_le hb).2 (by rw [Int.mul_comm]; exact h)
 ·unfold dn
  by_cases G : 0 ≤ a
  ·have := Int.ediv_le_self b G; omega
  ·have := Int.ediv_neg_of_neg_of_pos (by omega : a < 0) hb; omega
theorem Rj {l : Li} {x : Int} (h : x ∈ Lib.compact l) : x ∈ l := by
 simp only [Lib.compact, Lib.compactUpTo, List.mem_map, List.mem_filter, List.mem_range] at h
 obtain ⟨i, ⟨G, _⟩, rfl⟩ := h
 simp [G]
theorem Nr {l : Li} (h : l.Pairwise (· ≤ ·)) : ∀ (k : Nat) (x : Int), l[k]? = some x → ∃ j, j ≤ k ∧ l[j]? = some x ∧ Lib.keeps l.toArray j = true
 | 0, x, hx => ⟨0, Nat.le_refl _, hx, Lib.keeps_lt_one _ 0 (by omega)⟩
 | k + 1, x, hx => by
  have O := (gs hx).1
  have G : l[k]? = some l[k] := gq (by omega)
  by_cases M : x = l[k]
  ·obtain ⟨j, h1, Y, Z⟩ := Nr h k l[k] G
   exact ⟨j, by omega, by rw [M]; exact Y, Z⟩
  ·refine ⟨k + 1, Nat.le_refl _, hx, Lib.keeps_pos ?_⟩
   have W : l.toArray[k + 1]! = x := by simp [O, getElem!_pos l (k + 1) O]; exact (gs hx).2
   have X : l.toArray[k + 1 - 1]! = l[k] := by simp [show k < l.length by omega, getElem!_pos l k (by omega)]
   rw [W, X]; exact M
theorem S5 {l : Li} (h : l.Pairwise (· ≤ ·)) {x : Int} : x ∈ Lib.compact l ↔ x ∈ l := by
 refine ⟨Rj, fun X => ?_⟩
 obtain ⟨k, W⟩ := List.getElem?_of_mem X
 obtain ⟨j, _, M, O⟩ := Nr h k x W
 have G := (gs M).1
 simp only [Lib.compact, Lib.compactUpTo, List.mem_map, List.mem_filter, List.mem_range]
 refine ⟨j, ⟨G, O⟩, ?_⟩
 simp [G, getElem!_pos l j G]; exact (gs M).2
theorem T4 {l : Li} (h : l.Pairwise (· ≤ ·)) : (Lib.compact l).Pairwise (· < ·) := by
 unfold Lib.compact Lib.compactUpTo
 have hr : ((List.range l.length).filter (Lib.keeps l.toArray)).Pairwise (· < ·) := List.Pairwise.filter _ List.pairwise_lt_range
 rw [List.pairwise_map]
 refine List.Pairwise.imp_of_mem ?_ hr
 intro i j Z W hij
 simp only [List.mem_filter, List.mem_range] at Z W
 have M := Z.1; have G := W.1
 have e1 : l.toArray[i]! = l[i] := by simp [M, getElem!_pos l i M]
 have Y : l.toArray[j]! = l[j] := by simp [G, getElem!_pos l j G]
 rw [e1, Y]
 have hp := List.pairwise_iff_getElem.1 h
 have X : 0 < j := by omega
 have hne : l[j] ≠ l[j - 1] := by
  intro he
  have : Lib.keeps l.toArray j = false := Lib.keeps_neg X (by
   rw [Y, he]
   simp [show j - 1 < l.length by omega, getElem!_pos l (j - 1) (by omega)])
  rw [this] at W
  exact absurd W.2 (by simp)
 have h1 := hp (j - 1) j (by omega) G (by omega)
 by_cases O : i = j - 1
 ·subst O; omega
 ·have := hp i (j - 1) (by omega) (by omega) (by omega)
  omega
end Go.Proofs.YtihdchjpepkpbaaGreat
namespace Go.Aw
theorem Yx {S B C : Type} {f : S → Option (S ⊕ B)} {g : S → Option (S ⊕ C)} (I : S → Prop) (μ : S → Nat) (R : B → C → Prop)
  (h : ∀ G, I G → (∃ s', f G = some (.inl s') ∧ g G = some (.inl s') ∧ I s' ∧ μ s' < μ G) ∨ ∃ b c, f G = some (.inr b) ∧ g G = some (.inr c) ∧ R b c) :
  ∀ (n : Nat) (G : S), I G → μ G < n → ∃ b c, Bj f n G = some b ∧ Bj g n G = some c ∧ R b c
 | 0, G, _, hm => absurd hm (Nat.not_lt_zero _)
 | n + 1, G, hi, hm => by
  rcases h G hi with ⟨s', M, O, W, X⟩ | ⟨b, c, M, O, W⟩
  ·simp only [Bj, M, O]
   exact Yx I μ R h n s' W (by omega)
  ·simp only [Bj, M, O]
   exact ⟨b, c, rfl, rfl, W⟩
end Go.Aw
namespace Go.Proofs.YtihdchjpepkpbaaGreat
set_option linter.unusedVariables false
set_option linter.unusedSimpArgs false
open Go.Aw
theorem Uu {a b : Int} (hb : 1 ≤ b ∧ b ≤ 1099511627776) (X : -2305843009213693952 ≤ a ∧ a ≤ 2305843009213693952) : Il a b = some (a / b, a % b, true) := by
 have h := Qy (a := a) (b := b) (by omega)
 have hd := Jm (a := a) (b := b) (by omega)
 unfold dn at hd
 have O := Int.emod_nonneg a (by omega : b ≠ 0)
 have W := Int.emod_lt_of_pos a (by omega : 0 < b)
 have : Ok (Il a b) fun r => r = (a / b, a % b, true) := by
  unfold Il
  refine Av (fun h => ?_) fun _ => ?_
  ·simp at h; omega
  refine .bind' (.quo (by omega) (.bind' (.rem (by omega) (Au (fun M => ?_) fun M => ?_))))
  ·have G := h.1 M
   unfold Il.J1
   rw [As (x := a.tdiv b) (by omega), As (by omega), As (by omega)]
   exact .pure (by rw [G.1, G.2])
  ·have G := h.2 M
   unfold Il.J1
   rw [As (x := a.tdiv b) (by omega)]
   exact .pure (by rw [G.1, G.2])
 obtain ⟨r, h, rfl⟩ := this
 exact h
theorem cR {a b : Int} (hb : 1 ≤ b ∧ b ≤ 1099511627776) (G : -2305843009213693952 ≤ a ∧ a ≤ 2305843009213693952) : P7 a b = some (dn a b) := by
 unfold P7; rw [Uu hb G]; rfl
theorem dQ {a b : Int} (hb : 1 ≤ b ∧ b ≤ 1099511627776) (G : -2305843009213693952 ≤ a ∧ a ≤ 2305843009213693952) : L8 a b = some (up a b) := by
 have hd := Jm (a := a) (b := b) (by omega)
 unfold dn at hd
 unfold L8
 rw [Uu hb G]
 simp only [Option.bind_some, Bool.true_and, decide_eq_true_eq, gt_iff_lt, L8.J1]
 unfold up
 split
 ·rw [As (by omega)]
 ·rfl
theorem cC {a b : Int} (hb : 1 ≤ b ∧ b ≤ 1099511627776) (Z : -2305843009213693952 ≤ a ∧ a ≤ 2305843009213693952) : L4 a b = some (up a b) := by
 have h := Qy (a := a) (b := b) (by omega)
 have hd := Jm (a := a) (b := b) (by omega)
 unfold dn at hd
 have W := Int.emod_nonneg a (by omega : b ≠ 0)
 have X := Int.emod_lt_of_pos a (by omega : 0 < b)
 have : Ok (L4 a b) fun r => r = up a b := by
  unfold L4
  refine Fm (fun h => ?_) fun _ => ?_
  ·simp [Kn] at h; omega
  refine .bind' (.quo (by omega) (.bind' (.rem (by omega) ?_)))
  unfold up L4.J1
  by_cases M : a.tmod b < 0
  ·have O := h.1 M
   have Y := Int.lt_tmod_of_pos a (b := b) (by omega)
   refine Au (fun G => by omega) fun _ => .pure ?_
   rw [if_pos (by omega), As (by omega)]; omega
  ·have O := h.2 M
   refine Au (fun G => .pure ?_) fun G => .pure ?_
   ·rw [if_pos (by omega), As (x := a.tdiv b) (by omega), As (by omega)]; omega
   ·rw [if_neg (by omega), As (by omega)]; omega
 obtain ⟨r, h, rfl⟩ := this
 exact h
theorem Vs {a b : Int} (hb : 1 ≤ b ∧ b ≤ 1099511627776) (W : -2305843009213693952 ≤ a ∧ a ≤ 2305843009213693952) : Mr a b = some (dn a b) := by
 have h := Qy (a := a) (b := b) (by omega)
 have hd := Jm (a := a) (b := b) (by omega)
 unfold dn at hd
 have : Ok (Mr a b) fun r => r = dn a b := by
  unfold Mr
  refine Fm (fun h => ?_) fun _ => ?_
  ·simp [Kn] at h; omega
  refine .bind' (.quo (by omega) (.bind' (.rem (by omega) ?_)))
  unfold dn Mr.J1
  by_cases M : a.tmod b < 0
  ·have O := h.1 M
   refine Au (fun G => .pure ?_) fun G => by omega
   rw [As (x := a.tdiv b) (by omega), As (by omega)]; omega
  ·have O := h.2 M
   refine Au (fun G => by omega) fun G => .pure ?_
   rw [As (by omega)]; omega
 obtain ⟨r, h, rfl⟩ := this
 exact h
def Fv (g : Balance → Int) : List Balance → Int
 | [] => 0
 | x :: l => g x + Fv g l
theorem Hb (g : Balance → Int) : ∀ l m : List Balance, Fv g (l ++ m) = Fv g l + Fv g m
 | [], m => by simp [Fv]
 | x :: l, m => by simp only [List.cons_append, Fv, Hb g l m]; omega
theorem E4 {g : Balance → Int} {l : List Balance} {k : Nat} {x : Balance} (h : l[k]? = some x) : Fv g (l.take (k + 1)) = Fv g (l.take k) + g x := by
 rw [List.take_add_one, h, Option.toList_some, Hb]; simp [Fv]
def N1 (n : Int) : Prop := 0 ≤ n ∧ n ≤ 1099511627776
structure Right (b : Balance) : Prop where
 inn : N1 b.In
 out : N1 b.Out
 pack : N1 b.Pack
theorem Ur {n : Int} : Ea n = true ↔ N1 n := by unfold Ea N1; simp
theorem Vr {n : Int} : Ei n = true ↔ N1 n := by unfold Ei N1; simp
theorem bZ {g : Balance → Int} {l : List Balance} (h : ∀ x, x ∈ l → N1 (g x)) : 0 ≤ Fv g l ∧ Fv g l ≤ 1099511627776 * l.length := by
 induction l with
 | nil => simp [Fv]
 | cons x l ih =>
  have G := h x (by simp)
  have O := ih fun y M => h y (by simp [M])
  unfold N1 at G
  simp only [Fv, List.length_cons]
  rw [show ((l.length + 1 : Nat) : Int) = (l.length : Int) + 1 by omega]
  omega
structure Bals (l : List Balance) : Prop where
 len : l.length ≤ 400
 all : ∀ (k : Nat) (x : Balance), l[k]? = some x → Right x
theorem Bals.mem {l : List Balance} (h : Bals l) {x : Balance} (M : x ∈ l) : Right x := by
 obtain ⟨k, G⟩ := List.getElem?_of_mem M
 exact h.all k x G
theorem Hi {s : List Balance} {P : Balance → Bool} : Md s (fun x => some (P x)) = some (s.any P) := by
 have : Ok (Md s fun x => some (P x)) fun r => r = s.any P := by
  unfold Md Qk
  refine .bind (Q := fun r : Int => (r = -1 ∧ s.any P = false) ∨ (0 ≤ r ∧ s.any P = true)) (.bind' (.forL (fun k _ => ∀ (j : Nat) (y : Balance), j < k → s[j]? = some y → P y = false) (fun r => 0 ≤ r ∧ s.any P = true) (fun j y h => absurd h (Nat.not_lt_zero _)) ?_ ?_ ?_)) ?_
  ·intro k x _ G M
   unfold Qk.B2
   refine .bind' (.pure (Av (fun W => .pure ⟨by omega, List.any_eq_true.2 ⟨x, mg G, W⟩⟩) fun W => .pure fun j y O X => ?_))
   by_cases h : j < k
   ·exact M j y h X
   ·have : j = k := by omega
    subst this
    rw [G] at X; cases X; exact W
  ·intro _ M
   simp only [Sum.elim_inl]
   unfold Qk.J1
   refine .pure (.inl ⟨rfl, ?_⟩)
   rw [List.any_eq_false]
   intro x G
   obtain ⟨j, O⟩ := List.getElem?_of_mem G
   rw [M j x (gs O).1 O]; simp
  ·exact fun b Z => .pure (.inr Z)
  ·rintro r (⟨rfl, h⟩ | ⟨Y, h⟩)
   ·exact .pure (by rw [h]; rfl)
   ·exact .pure (by rw [h]; simpa using Y)
 obtain ⟨r, h, rfl⟩ := this
 exact h
def BalRes (l : List Balance) (r : Int) : Prop := (400 < l.length ∧ r = 4) ∨ (l.length ≤ 400 ∧ ((∃ (k : Nat) (x : Balance), l[k]? = some x ∧ ¬ Right x) ∧ r = 1)) ∨ (Bals l ∧ r = 0)
theorem BalRes.uniq {l : List Balance} {r r' : Int} (h : BalRes l r) (W : BalRes l r') : r = r' := by
 rcases h with ⟨a, rfl⟩ | ⟨a, ⟨k, x, X, b⟩, rfl⟩ | ⟨a, rfl⟩ <;> rcases W with ⟨G, rfl⟩ | ⟨G, ⟨Y, Z, M, O⟩, rfl⟩ | ⟨G, rfl⟩
 ·rfl
 ·omega
 ·have := G.len; omega
 ·omega
 ·rfl
 ·exact absurd (G.all k x X) b
 ·have := a.len; omega
 ·exact absurd (a.all Y Z M) O
 ·rfl
theorem Zg {l : List Balance} : Ok (Ia l) (BalRes l) := by
 unfold Ia
 refine Au (fun h => .pure (.inl ⟨by omega, rfl⟩)) fun h => .bind' (.eq Hi ?_)
 have e := Ho (l := l) (P := fun x => Km x) (Q := fun x => ¬ Right x) fun k x _ => by
  unfold Km
  simp only [Bool.or_eq_true, Bool.not_eq_true', ← Bool.not_eq_true, Ur]
  exact ⟨fun h M => h.elim (fun h => h M.inn) fun h => h.elim (fun h => h M.out) fun h => h M.pack, fun h => Classical.byContradiction fun G => h ⟨Classical.byContradiction fun h => G (.inl h), Classical.byContradiction fun h => G (.inr (.inl h)), Classical.byContradiction fun h => G (.inr (.inr h))⟩⟩
 exact Bu e (fun O => .pure (.inr (.inl ⟨by omega, O, rfl⟩))) fun G => .pure (.inr (.inr ⟨⟨by omega, fun k x O => Classical.not_not.1 fun M => G ⟨k, x, O, M⟩⟩, rfl⟩))
theorem Z8 {l : List Balance} (hl : l.length ≤ 1000) : Ok (G2 l) (BalRes l) := by
 unfold G2
 refine Au (fun h => .pure (.inl ⟨by omega, rfl⟩)) fun h => .bind (Ls (l := l) (k := l.length) (d := 1) (P := fun y => ¬ Right y) (Nat.le_refl _) (by omega) (fun i y hi M => ?_) ?_) ?_
 ·have O : ∀ b : Bool, (b = true ↔ ¬ Right y) → Ok (G2.J3 (i : Int) b) fun o => (¬ Right y ∧ o = .inr (.inl 1)) ∨ (¬ ¬ Right y ∧ o = .inl (wr ((i : Int) + 1))) := fun b hb => by
   unfold G2.J3
   exact Bu hb (fun h => .pure (.inl ⟨h, rfl⟩)) fun h => .pure (.inr ⟨h, rfl⟩)
  have W : ∀ n : Int, (!(Ei n)) = true ↔ ¬ N1 n := fun n => by rw [Bool.not_eq_true', ← Bool.not_eq_true, Vr]
  unfold G2.B2
  refine Au (fun _ => .bind' (.eq (Bb M) (Bu (W _) (fun h => O _ ⟨fun _ G => h G.inn, fun _ => rfl⟩) fun Y => Bu (W _) (fun h => O _ ⟨fun _ G => h G.out, fun _ => rfl⟩) fun Z => O _ ?_))) fun h => by omega
  rw [W]
  exact ⟨fun h G => h G.pack, fun h hv => h ⟨Classical.not_not.1 Y, Classical.not_not.1 Z, hv⟩⟩
 ·unfold G2.B2
  rw [if_neg (by simp)]
 ·rintro _ (⟨⟨j, y, hj, M, G⟩, rfl⟩ | ⟨hn, rfl⟩)
  ·exact .pure (.inr (.inl ⟨by omega, ⟨j, y, M, G⟩, rfl⟩))
  ·unfold G2.J1
   exact .pure (.inr (.inr ⟨⟨by omega, fun k x X => Classical.not_not.1 fun G => hn ⟨k, x, (gs X).1, X, G⟩⟩, rfl⟩))
theorem Tt {l : List Balance} (hl : l.length ≤ 1000) : ∃ r, Ia l = some r ∧ G2 l = some r ∧ (r = 0 → Bals l) := by
 obtain ⟨r, M, G⟩ := Zg (l := l)
 obtain ⟨Y, O, W⟩ := Z8 hl
 obtain rfl := G.uniq W
 refine ⟨r, M, O, fun h => ?_⟩
 rcases G with ⟨_, e⟩ | ⟨_, _, e⟩ | ⟨X, _⟩
 ·omega
 ·omega
 ·exact X
theorem Tu (a : Accuracy) : Db a = Ig a := rfl
theorem Ra {a : Accuracy} : Db a = true ↔ (0 ≤ a.Meter ∧ a.Meter ≤ 100000) ∧ N1 a.Pack := by
 unfold Db
 simp only [Bool.and_eq_true, decide_eq_true_eq, Ur]
 exact ⟨fun h => ⟨⟨h.1, h.2.1⟩, h.2.2⟩, fun h => ⟨h.1.1, h.1.2, h.2⟩⟩
theorem Ns {l : List Balance} (hl : l.length ≤ 1000) (a : Accuracy) (w t : Int) : ∃ r, Mm l a w t = some r ∧ Mn l a w t = some r ∧ (r = 0 → Bals l ∧ Db a = true ∧ (0 ≤ t ∧ t ≤ 1099511627776) ∧ 1 ≤ w ∧ w ≤ 400) := by
 obtain ⟨e, O, W, X⟩ := Tt hl
 unfold Mm Mn
 rw [O, W, ← Tu]
 simp only [Option.bind_some]
 by_cases M : e = 0
 case neg =>
  rw [if_pos (by simpa using M)]
  exact ⟨e, rfl, rfl, fun h => absurd h M⟩
 subst M
 rw [if_neg (by simp)]
 by_cases G : ((!(Db a)) || (decide (t < 0) || decide (t > 1099511627776))) = true
 ·rw [if_pos G]; exact ⟨1, rfl, rfl, fun h => by cases h⟩
 rw [if_neg G]
 by_cases hd : (decide (w < 1) || decide (w > 400)) = true
 ·rw [if_pos hd]; exact ⟨25, rfl, rfl, fun h => by cases h⟩
 rw [if_neg hd]
 refine ⟨0, rfl, rfl, fun _ => ⟨X rfl, ?_⟩⟩
 simp at G hd
 exact ⟨G.1, ⟨by omega, by omega⟩, by omega, by omega⟩
def H6 (l : List Balance) (i j : Nat) : Int := Fv (·.In) (l.take (j + 1)) - Fv (·.In) (l.take (i + 1))
def Dz (l : List Balance) (i j : Nat) : Int := Fv (·.Out) (l.take (j + 1)) - Fv (·.Out) (l.take (i + 1))
theorem R0 {g : Balance → Int} {l : List Balance} (h : ∀ x, x ∈ l → N1 (g x)) (hl : l.length ≤ 400) {i k : Nat} (G : i ≤ k) : 0 ≤ Fv g (l.take k) - Fv g (l.take i) ∧ Fv g (l.take k) - Fv g (l.take i) ≤ 439804651110400 := by
 have e : l.take k = l.take i ++ (l.take k).drop i := by
  have := List.take_append_drop i (l.take k)
  rw [List.take_take, Nat.min_eq_left G] at this
  exact this.symm
 have W := bZ (g := g) (l := (l.take k).drop i) fun x O => h x (List.mem_of_mem_take (List.mem_of_mem_drop O))
 have M : (((l.take k).drop i).length : Int) ≤ 400 := by simp; omega
 rw [e, Hb]
 omega
theorem Gy {l : List Balance} (h : Bals l) {i j : Nat} (G : i ≤ j) : 0 ≤ H6 l i j ∧ H6 l i j ≤ 439804651110400 := R0 (fun x M => (h.mem M).inn) h.len (by omega)
theorem Fl {l : List Balance} (h : Bals l) {i j : Nat} (G : i ≤ j) : 0 ≤ Dz l i j ∧ Dz l i j ≤ 439804651110400 := R0 (fun x M => (h.mem M).out) h.len (by omega)
theorem Nq {l : List Balance} (h : Bals l) {i j : Nat} (aa : i < j) (hj : j < l.length) : Ih l (i : Int) (j : Int) = some (H6 l i j, Dz l i j) := by
 have hl := h.len
 have : Ok (Ih l (i : Int) (j : Int)) fun r => r = (H6 l i j, Dz l i j) := by
  unfold Ih
  rw [As (x := (i : Int) + 1) (by omega), As (x := (j : Int) + 1) (by omega)]
  have hs : Ru l ((i : Int) + 1) ((j : Int) + 1) ((j : Int) + 1) = some ((l.drop (i + 1)).take (j - i)) := by
   unfold Ru
   rw [if_pos ⟨by omega, by omega, by omega, by omega⟩]
   congr 2 <;> omega
  refine .bind' (.eq hs (.bind (Q := fun G => G = (H6 l i j, Dz l i j)) (.forS (fun k G => G = (H6 l i (i + k), Dz l i (i + k)) ∧ i + k ≤ j) ⟨by simp [H6, Dz], by omega⟩ ?_ ?_) fun G W => ?_))
  ·rintro k x G M ⟨rfl, hk⟩
   have O := (gs M).1
   simp at O
   rw [List.getElem?_take_of_lt (by omega), List.getElem?_drop] at M
   have a1 := Gy h (i := i) (j := i + k) (by omega)
   have a2 := Fl h (i := i) (j := i + k) (by omega)
   have X := h.mem (mg M)
   have r1 := X.inn; have r2 := X.out
   unfold N1 at r1 r2
   have Y : H6 l i (i + (k + 1)) = H6 l i (i + k) + x.In := by
    unfold H6
    rw [show i + (k + 1) + 1 = (i + 1 + k) + 1 by omega, E4 M, show i + k + 1 = i + 1 + k by omega]; omega
   have Z : Dz l i (i + (k + 1)) = Dz l i (i + k) + x.Out := by
    unfold Dz
    rw [show i + (k + 1) + 1 = (i + 1 + k) + 1 by omega, E4 M, show i + k + 1 = i + 1 + k by omega]; omega
   unfold Ih.B2
   refine .pure ⟨?_, by omega⟩
   dsimp only
   rw [As (by omega), As (by omega), Y, Z]
  ·rintro G ⟨rfl, hk⟩
   have : ((l.drop (i + 1)).take (j - i)).length = j - i := by simp; omega
   rw [this, show i + (j - i) = j by omega]
  ·subst W
   unfold Ih.J1
   exact .pure rfl
 obtain ⟨r, h, rfl⟩ := this
 exact h
def H7 (l : List Balance) (i j : Nat) (x y : Balance) : Int := H6 l i j - Dz l i j - y.Pack + x.Pack
theorem T3 {l : List Balance} (h : Bals l) {i j : Nat} (G : i < j) {x y : Balance} (O : l[i]? = some x) (M : l[j]? = some y) : Qe l (i : Int) (j : Int) = some (H7 l i j x y) := by
 have Y := Gy h (i := i) (j := j) (by omega)
 have Z := Fl h (i := i) (j := j) (by omega)
 have W := (h.mem (mg O)).pack; have X := (h.mem (mg M)).pack
 unfold N1 at W X
 unfold Qe
 rw [Nq h G (gs M).1, Bb O, Bb M]
 simp only [Option.bind_some]
 rw [As (x := H6 l i j - Dz l i j) (by omega), As (x := H6 l i j - Dz l i j - y.Pack) (by omega), As (by omega)]
 rfl
theorem On {l : List Balance} (h : Bals l) {i j : Nat} (hij : i < j) {x y : Balance} (hx : l[i]? = some x) (W : l[j]? = some y) : Ko l (i : Int) (j : Int) = some (H7 l i j x y) := by
 have X := (h.mem (mg hx)).pack; have Y := (h.mem (mg W)).pack
 unfold N1 at X Y
 have hjl := (gs W).1
 have hl := h.len
 have : Ok (Ko l (i : Int) (j : Int)) fun r => r = H7 l i j x y := by
  unfold Ko
  rw [Bb hx, Bb W]
  simp only [Option.bind_some]
  rw [As (by omega), As (x := (i : Int) + 1) (by omega)]
  refine .bind (Q := fun r => r = H7 l i j x y) (.loop (fun Z : Int × Int => ∃ k : Nat, i ≤ k ∧ k ≤ j ∧ Z = (x.Pack - y.Pack + H6 l i k - Dz l i k, (k : Int) + 1)) (fun Z => (j + 2 - Z.2.toNat)) ⟨i, Nat.le_refl _, by omega, by simp [H6, Dz]⟩ (by dsimp only; omega) ?_) fun r G => by unfold Ko.J1; exact .pure G
  rintro _ ⟨k, hk1, hk2, rfl⟩
  have a1 := Gy h (i := i) (j := k) (by omega)
  have a2 := Fl h (i := i) (j := k) (by omega)
  unfold Ko.B2
  refine Au (fun O => ?_) fun O => .pure ?_
  ·dsimp only at O ⊢
   obtain ⟨z, M⟩ : ∃ z, l[k + 1]? = some z := ⟨_, gq (by omega)⟩
   have G := h.mem (mg M)
   have X := G.inn; have Y := G.out
   unfold N1 at X Y
   rw [show (k : Int) + 1 = ((k + 1 : Nat) : Int) by omega]
   refine .bind' (.eq (Bb M) (.pure ⟨⟨k + 1, by omega, by omega, ?_⟩, ?_⟩))
   ·have e1 : H6 l i (k + 1) = H6 l i k + z.In := by unfold H6; rw [E4 M]; omega
    have e2 : Dz l i (k + 1) = Dz l i k + z.Out := by unfold Dz; rw [E4 M]; omega
    dsimp only
    rw [As (x := x.Pack - y.Pack + H6 l i k - Dz l i k + z.In) (by omega), As (x := x.Pack - y.Pack + H6 l i k - Dz l i k + z.In - z.Out) (by omega), As (x := ((k + 1 : Nat) : Int) + 1) (by omega), e1, e2]
    congr 1; omega
   ·dsimp only
    rw [As (x := ((k + 1 : Nat) : Int) + 1) (by omega)]; omega
  ·dsimp only at O ⊢
   have : k = j := by omega
   subst this
   show x.Pack - y.Pack + H6 l i k - Dz l i k = H7 l i k x y
   unfold H7; omega
 obtain ⟨r, h, rfl⟩ := this
 exact h
theorem Hj {v m : Int} (hv : 0 ≤ v ∧ v ≤ 439804651110400) (G : 0 ≤ m ∧ m ≤ 100000) : Mk v m = some (D2 v m) ∧ 0 ≤ D2 v m ∧ D2 v m ≤ 43980465211040 + 100000 := by
 have O : v.tmod 1000000 = v % 1000000 := Int.tmod_eq_emod_of_nonneg hv.1
 have W : v.tdiv 1000000 = v / 1000000 := Int.tdiv_eq_ediv_of_nonneg hv.1
 have b1 : 0 ≤ v % 1000000 * m := Int.mul_nonneg (by omega) G.1
 have b2 : v % 1000000 * m ≤ 999999 * 100000 := Int.mul_le_mul (by omega) G.2 G.1 (by omega)
 have b3 : 0 ≤ v / 1000000 * m := Int.mul_nonneg (by omega) G.1
 have b4 : v / 1000000 * m ≤ 439804651 * 100000 := Int.mul_le_mul (by omega) G.2 G.1 (by omega)
 generalize X : v % 1000000 * m = p at *
 generalize Y : v / 1000000 * m = q at *
 have Z : D2 v m = q + (p + 999999) / 1000000 := by
  unfold D2
  rw [O, W, As (x := v / 1000000) (by omega), X, Y, As (x := p) (by omega), As (x := p + 999999) (by omega), Int.tdiv_eq_ediv_of_nonneg (by omega), As (x := q) (by omega), As (x := (p + 999999) / 1000000) (by omega), As (by omega)]
 refine ⟨?_, by omega, by omega⟩
 unfold Mk
 rw [O, W, As (x := v / 1000000) (by omega), X, Y, As (x := p) (by omega), dQ ⟨by decide, by decide⟩ ⟨by omega, by omega⟩, Z]
 have M : up p 1000000 = (p + 999999) / 1000000 := by
  unfold up
  split <;> omega
 simp only [Option.bind_some]
 rw [M, As (x := q) (by omega), As (by omega)]
def Td (l : List Balance) (a : Accuracy) (i j : Nat) : Int := D2 (H6 l i j) a.Meter + D2 (Dz l i j) a.Meter + 2 * a.Pack
theorem Tr {l : List Balance} (h : Bals l) {a : Accuracy} (O : Db a = true) {i j : Nat} (W : i < j) : 0 ≤ Td l a i j ∧ Td l a i j ≤ 3000000000000 + 100000000000000 := by
 obtain ⟨⟨G, M⟩, X⟩ := Ra.1 O
 unfold N1 at X
 have Y := Hj (Gy h (i := i) (j := j) (by omega)) ⟨G, M⟩
 have Z := Hj (Fl h (i := i) (j := j) (by omega)) ⟨G, M⟩
 unfold Td
 omega
theorem bU {l : List Balance} (h : Bals l) {a : Accuracy} (Y : Db a = true) {i j : Nat} (G : i < j) (Z : j < l.length) : Mg l a (i : Int) (j : Int) = some (Td l a i j) := by
 obtain ⟨⟨M, O⟩, hp⟩ := Ra.1 Y
 unfold N1 at hp
 have W := Hj (Gy h (i := i) (j := j) (by omega)) ⟨M, O⟩
 have X := Hj (Fl h (i := i) (j := j) (by omega)) ⟨M, O⟩
 unfold Mg
 rw [Nq h G Z]
 simp only [Option.bind_some]
 rw [W.1, X.1]
 simp only [Option.bind_some]
 rw [As (x := D2 (H6 l i j) a.Meter + D2 (Dz l i j) a.Meter) (by omega), As (x := 2 * a.Pack) (by omega), As (by omega)]
 rfl
theorem Uq {l : List Balance} (h : Bals l) {a : Accuracy} (ha : Db a = true) {i j : Nat} (hij : i < j) (hj : j < l.length) : Kp l a (i : Int) (j : Int) = some (Td l a i j) := by
 obtain ⟨⟨X, Y⟩, hp⟩ := Ra.1 ha
 unfold N1 at hp
 have Z := Hj (Gy h (i := i) (j := j) (by omega)) ⟨X, Y⟩
 have a2 := Hj (Fl h (i := i) (j := j) (by omega)) ⟨X, Y⟩
 have hl := h.len
 have : Ok (Kp l a (i : Int) (j : Int)) fun r => r = Td l a i j := by
  unfold Kp
  rw [As (x := (i : Int) + 1) (by omega)]
  refine .bind (Q := fun r => r = (H6 l i j, Dz l i j)) (.loop (fun W : Int × Int × Int => ∃ k : Nat, i ≤ k ∧ k ≤ j ∧ W = (H6 l i k, Dz l i k, (k : Int) + 1)) (fun W => (j + 2 - W.2.2.toNat)) ⟨i, Nat.le_refl _, by omega, by simp [H6, Dz]⟩ (by dsimp only; omega) ?_) fun r G => ?_
  ·rintro _ ⟨k, hk1, hk2, rfl⟩
   have Z := Gy h (i := i) (j := k) (by omega)
   have a2 := Fl h (i := i) (j := k) (by omega)
   unfold Kp.B2
   refine Au (fun O => ?_) fun O => .pure ?_
   ·dsimp only at O ⊢
    obtain ⟨z, M⟩ : ∃ z, l[k + 1]? = some z := ⟨_, gq (by omega)⟩
    have G := h.mem (mg M)
    have r1 := G.inn; have r2 := G.out
    unfold N1 at r1 r2
    rw [show (k : Int) + 1 = ((k + 1 : Nat) : Int) by omega]
    refine .bind' (.eq (Bb M) (.pure ⟨⟨k + 1, by omega, by omega, ?_⟩, ?_⟩))
    ·have e1 : H6 l i (k + 1) = H6 l i k + z.In := by unfold H6; rw [E4 M]; omega
     have e2 : Dz l i (k + 1) = Dz l i k + z.Out := by unfold Dz; rw [E4 M]; omega
     dsimp only
     rw [As (x := H6 l i k + z.In) (by omega), As (x := Dz l i k + z.Out) (by omega), As (x := ((k + 1 : Nat) : Int) + 1) (by omega), e1, e2]
    ·dsimp only
     rw [As (x := ((k + 1 : Nat) : Int) + 1) (by omega)]; omega
   ·dsimp only at O ⊢
    have : k = j := by omega
    subst this; rfl
  ·subst G
   unfold Kp.J1
   refine .pure ?_
   dsimp only
   rw [As (x := D2 (H6 l i j) a.Meter + D2 (Dz l i j) a.Meter) (by omega), As (x := 2 * a.Pack) (by omega), As (by omega)]
   rfl
 obtain ⟨r, h, rfl⟩ := this
 exact h
theorem Iy {l : List Balance} (h : Bals l) : Ia l = some 0 ∧ G2 l = some 0 := by
 have Y := h.len
 obtain ⟨r, G, O, _⟩ := Tt (l := l) (by omega)
 obtain ⟨X, M, W⟩ := Zg (l := l)
 have : X = 0 := W.uniq (.inr (.inr ⟨h, rfl⟩))
 subst this
 rw [G] at M
 cases M
 exact ⟨G, O⟩
theorem dX {l : List Balance} (hl : l.length ≤ 1000) (a : Accuracy) (f t : Int) : ∃ e, Kl l a f t = some e ∧ ((e ≠ 0 ∧ F9 l a f t = some (0, e)) ∨
  (e = 0 ∧ ∃ (i j : Nat) (x y : Balance), f = (i : Int) ∧ t = (j : Int) ∧ i < j ∧ l[i]? = some x ∧ l[j]? = some y ∧ Bals l ∧ Db a = true ∧ F9 l a f t = some (Td l a i j, 0))) := by
 obtain ⟨e, Z, h2, h3⟩ := Tt hl
 unfold Kl F9
 rw [Z, h2, ← Tu]
 simp only [Option.bind_some]
 by_cases O : e = 0
 case neg =>
  rw [if_pos (by simpa using O), if_pos (by simpa using O)]
  exact ⟨e, rfl, .inl ⟨O, rfl⟩⟩
 subst O
 have Y := h3 rfl
 have z : ¬ ((0 : Int) != 0) = true := by simp
 rw [if_neg z, if_neg z]
 by_cases G : Db a = true
 case neg =>
  have G : (!(Db a)) = true := by simpa using G
  rw [if_pos G, if_pos G]
  exact ⟨1, rfl, .inl ⟨by decide, rfl⟩⟩
 have M : ¬ (!(Db a)) = true := by simp [G]
 rw [if_neg M, if_neg M]
 by_cases hw : 0 ≤ f ∧ f < t ∧ t < (l.length : Int)
 case neg =>
  have W : (!(Ga l f t)) = true := by unfold Ga; simp; omega
  have X : D9 l f t = 25 := by unfold D9; rw [if_pos]; simp; omega
  rw [if_pos W, X]
  exact ⟨25, rfl, .inl ⟨by decide, rfl⟩⟩
 have W : ¬ (!(Ga l f t)) = true := by unfold Ga; simp; omega
 have X : D9 l f t = 0 := by unfold D9; rw [if_neg]; simp; omega
 obtain ⟨i, rfl⟩ := F8 hw.1
 obtain ⟨j, rfl⟩ := F8 (n := t) (by omega)
 rw [if_neg W, X, Uq Y G (i := i) (j := j) (by omega) (by omega)]
 exact ⟨0, rfl, .inr ⟨rfl, i, j, _, _, rfl, rfl, by omega, gq (by omega), gq (by omega), Y, G, rfl⟩⟩
theorem Qv {l : List Balance} (h : Bals l) {i j : Nat} (G : i < j) {x y : Balance} (M : l[i]? = some x) (O : l[j]? = some y) : -500000000000000 ≤ H7 l i j x y ∧ H7 l i j x y ≤ 500000000000000 := by
 have Y := Gy h (i := i) (j := j) (by omega)
 have Z := Fl h (i := i) (j := j) (by omega)
 have W := (h.mem (mg M)).pack; have X := (h.mem (mg O)).pack
 unfold N1 at W X
 unfold H7; omega
theorem Ng {l : List Balance} (h : Bals l) {a : Accuracy} (O : Db a = true) {i j : Nat} (G : i < j) {x y : Balance} (Z : l[i]? = some x) (Y : l[j]? = some y) :
  Kj l a (i : Int) (j : Int) = some (H7 l i j x y - Td l a i j, H7 l i j x y + Td l a i j, 0) ∧ Qb l a (i : Int) (j : Int) = some (Td l a i j, 0) := by
 have hl := h.len
 have X := (gs Y).1
 have b1 := Qv h G Z Y
 have b2 := Tr h O G
 obtain ⟨e, M, h2⟩ := dX (l := l) (by omega) a (i : Int) (j : Int)
 have h0 : e = 0 := by
  have w1 : ¬ (!(Ga l (i : Int) (j : Int))) = true := by unfold Ga; simp; omega
  have W : ¬ (!(Db a)) = true := by simp [O]
  unfold Kl at M
  rw [(Iy h).1, Option.bind_some, if_neg (by simp), if_neg W, if_neg w1] at M
  exact (Option.some.inj M).symm
 subst h0
 unfold Kj Qb
 rw [M, T3 h G Z Y, bU h O G X]
 simp only [Option.bind_some]
 rw [if_neg (by simp), if_neg (by simp), As (by omega), As (by omega)]
 exact ⟨rfl, rfl⟩
theorem fT {l : List Balance} (h : Bals l) {i j : Nat} (G : i < j) {x y : Balance} (W : l[i]? = some x) (M : l[j]? = some y) : Qa l (i : Int) (j : Int) = some (H7 l i j x y, 0) := by
 have O := (gs M).1
 have X : D9 l (i : Int) (j : Int) = 0 := by unfold D9; rw [if_neg]; simp; omega
 unfold Qa
 rw [(Iy h).2, X, On h G W M]
 rfl
theorem dW {l : List Balance} (h : Bals l) {a : Accuracy} (W : Db a = true) {i j : Nat} (M : i < j) {x y : Balance} (hx : l[i]? = some x) (X : l[j]? = some y) : F9 l a (i : Int) (j : Int) = some (Td l a i j, 0) := by
 have Z := h.len
 have O := (gs X).1
 have Y : D9 l (i : Int) (j : Int) = 0 := by unfold D9; rw [if_neg]; simp; omega
 have G : ¬ (!(Db a)) = true := by simp [W]
 unfold F9
 rw [(Iy h).2, ← Tu, Y, Uq h W M O]
 simp only [Option.bind_some]
 rw [if_neg (by simp), if_neg G, if_neg (by simp)]
theorem S4 {l : List Balance} (hl : l.length ≤ 1000) (a : Accuracy) (f t : Int) : ∃ r, Ms l a f t = some r ∧ L5 l a f t = some r := by
 obtain ⟨e, h1, ⟨O, X⟩ | ⟨rfl, i, j, x, y, rfl, rfl, G, Y, W, M, Z, X⟩⟩ := dX hl a f t
 ·refine ⟨(0, 0, e), ?_, ?_⟩
  ·unfold Ms Kj
   rw [h1, Option.bind_some, if_pos (by simpa using O), Option.bind_some, if_pos (by simpa using O)]
  ·unfold L5 Qj
   rw [X, Option.bind_some, if_pos (by simpa using O), Option.bind_some, if_pos (by simpa using O)]
 ·have hjl := (gs W).1
  have hll := M.len
  have b1 := Qv M G Y W
  have b2 := Tr M Z G
  unfold Ms L5 Qj
  rw [(Ng M Z G Y W).1, X, On M G Y W]
  simp only [Option.bind_some]
  rw [if_neg (by simp), if_neg (by simp), As (x := H7 l i j x y - Td l a i j) (by omega), As (x := H7 l i j x y + Td l a i j) (by omega)]
  simp only [Option.bind_some]
  rw [if_neg (by simp), As (x := (j : Int) - (i : Int)) (by omega), cR ⟨by omega, by omega⟩ ⟨by omega, by omega⟩, dQ ⟨by omega, by omega⟩ ⟨by omega, by omega⟩, Vs ⟨by omega, by omega⟩ ⟨by omega, by omega⟩, cC ⟨by omega, by omega⟩ ⟨by omega, by omega⟩]
  exact ⟨_, rfl, rfl⟩
theorem V2 {l : List Balance} (hl : l.length ≤ 1000) (a : Accuracy) (w t : Int) : ∃ r, Im l a w t = some r ∧ Mu l a w t = some r ∧ r.1.length ≤ 400 := by
 obtain ⟨e, h1, h2, h3⟩ := Ns hl a w t
 by_cases Y : e = 0
 case neg =>
  refine ⟨([], e), ?_, ?_, by simp⟩
  ·unfold Im
   rw [h1, Option.bind_some, if_pos (by simpa using Y)]
  ·unfold Mu
   rw [h2, Option.bind_some, if_pos (by simpa using Y)]
 subst Y
 obtain ⟨M, Z, ht, hw⟩ := h3 rfl
 have hll := M.len
 obtain ⟨b, c, g1, g2, g3, g4⟩ := Yx (f := Im.B2 l a w t) (g := Mu.B2 l a w t) (fun G : Li × Int => w ≤ G.2 ∧ G.2 ≤ 800 ∧ (G.1.length : Int) + w ≤ G.2 ∧ (G.2 ≤ l.length ∨ G.1 = [])) (fun G => 801 - G.2.toNat)
  (fun b c => b = .inr c ∧ c.length ≤ 400) (fun G aa => by
   obtain ⟨out, k⟩ := G
   obtain ⟨s1, s2, s3, s4⟩ := aa
   dsimp only at s1 s2 s3 s4 ⊢
   unfold Im.B2 Mu.B2
   dsimp only
   by_cases O : k < (l.length : Int)
   case neg =>
    right
    rw [if_neg (by simpa using O), if_neg (by simpa using O)]
    refine ⟨_, _, rfl, rfl, rfl, ?_⟩
    rcases s4 with h | h
    ·omega
    ·rw [h]; simp
   left
   rw [if_pos (by simpa using O), if_pos (by simpa using O), As (x := k - w) (by omega)]
   obtain ⟨j, rfl⟩ := F8 (n := k) (by omega)
   obtain ⟨i, hi⟩ := F8 (n := (j : Int) - w) (by omega)
   rw [hi]
   obtain ⟨x, W⟩ : ∃ x, l[i]? = some x := ⟨_, gq (by omega)⟩
   obtain ⟨y, X⟩ : ∃ y, l[j]? = some y := ⟨_, gq (by omega)⟩
   have b1 := Qv M (i := i) (j := j) (by omega) W X
   have b2 := Tr M Z (i := i) (j := j) (by omega)
   rw [(Ng M Z (by omega) W X).1, fT M (by omega) W X, dW M Z (by omega) W X]
   simp only [Option.bind_some]
   rw [if_neg (by simp), As (x := Td l a i j + t) (by omega)]
   unfold Im.J3 Mu.J3
   dsimp only
   rw [As (x := (j : Int) + 1) (by omega)]
   by_cases hc : H7 l i j x y - Td l a i j > t
   ·rw [if_pos (by simpa using hc), if_pos (by simp only [decide_eq_true_eq]; omega), Vg (by simp; omega)]
    exact ⟨_, rfl, rfl, ⟨by dsimp only; omega, by dsimp only; omega, by simp; omega, .inl (by dsimp only; omega)⟩, by dsimp only; omega⟩
   ·rw [if_neg (by simpa using hc), if_neg (by simp only [decide_eq_true_eq]; omega)]
    exact ⟨_, rfl, rfl, ⟨by dsimp only; omega, by dsimp only; omega, by dsimp only; omega, .inl (by dsimp only; omega)⟩, by dsimp only; omega⟩) Da ([], w) ⟨Int.le_refl _, by dsimp only; omega, by simp, .inr rfl⟩ (by unfold Da; dsimp only; omega)
 subst g3
 refine ⟨(c, 0), ?_, ?_, g4⟩
 ·unfold Im
  rw [h1, Option.bind_some, if_neg (by simp), g1]; rfl
 ·unfold Mu
  rw [h2, Option.bind_some, if_neg (by simp), g2]; rfl
theorem Zu {l : List Balance} (hl : l.length ≤ 1000) (a : Accuracy) (w t : Int) : ∃ r, Ku l a w t = some r ∧ L2 l a w t = some r := by
 obtain ⟨e, Y, Z, h3⟩ := Ns hl a w t
 by_cases O : e = 0
 case neg =>
  refine ⟨(0, e), ?_, ?_⟩
  ·unfold Ku
   rw [Y, Option.bind_some, if_pos (by simpa using O)]
  ·unfold L2
   rw [Z, Option.bind_some, if_pos (by simpa using O)]
 subst O
 obtain ⟨W, ha, ht, hw⟩ := h3 rfl
 have hll := W.len
 obtain ⟨b, c, g1, g2, g3⟩ := Yx (f := Ku.B2 l a w t) (g := L2.B2 l a w t) (fun G : Int × Int => w ≤ G.2 ∧ G.2 ≤ 800) (fun G => 801 - G.2.toNat)
  (fun b c => b = .inr c) (fun G X => by
   obtain ⟨out, k⟩ := G
   obtain ⟨s1, s2⟩ := X
   dsimp only at s1 s2 ⊢
   unfold Ku.B2 L2.B2
   dsimp only
   by_cases M : k < (l.length : Int)
   case neg =>
    right
    rw [if_neg (by simpa using M), if_neg (by simpa using M)]
    exact ⟨_, _, rfl, rfl, rfl⟩
   left
   rw [if_pos (by simpa using M), if_pos (by simpa using M), As (x := k - w) (by omega)]
   obtain ⟨j, rfl⟩ := F8 (n := k) (by omega)
   obtain ⟨i, hi⟩ := F8 (n := (j : Int) - w) (by omega)
   rw [hi]
   obtain ⟨x, hx⟩ : ∃ x, l[i]? = some x := ⟨_, gq (by omega)⟩
   obtain ⟨y, hy⟩ : ∃ y, l[j]? = some y := ⟨_, gq (by omega)⟩
   rw [(Ng W ha (by omega) hx hy).2, dW W ha (by omega) hx hy]
   simp only [Option.bind_some]
   rw [if_neg (by simp)]
   obtain ⟨q, hq, _⟩ : Ok (Pz (wr ((wr (2 * Td l a i j)) + t)) w) fun _ => True := .quo (by omega) trivial
   rw [hq]
   simp only [Option.bind_some]
   rw [As (x := (j : Int) + 1) (by omega)]
   exact ⟨_, rfl, rfl, ⟨by dsimp only; omega, by dsimp only; omega⟩, by dsimp only; omega⟩) Da (1, w) ⟨Int.le_refl _, by dsimp only; omega⟩ (by unfold Da; dsimp only; omega)
 subst g3
 refine ⟨(c, 0), ?_, ?_⟩
 ·unfold Ku
  rw [Y, Option.bind_some, if_neg (by simp), g1]; rfl
 ·unfold L2
  rw [Z, Option.bind_some, if_neg (by simp), g2]; rfl
def Named (c : UInt8) (l : List Bt) : Prop := l.length ≤ 26 ∧ ∀ (k : Nat) (x : Bt), l[k]? = some x → x = nm c k
theorem NetOk.named {n : Nw} (h : NetOk n) : ∀ l, l ∈ [n.Nodes, n.Segments.map (·.Name), n.Ports.map (·.Name), n.Stations.map (·.Name)] → ∃ c, (c = 110 ∨ c = 103 ∨ c = 113 ∨ c = 115) ∧ Named c l := by
 have W := h.nodes; have X := h.segs1; have Y := h.ports1; have Z := h.sts1
 intro l O
 simp only [List.mem_cons, List.not_mem_nil, or_false] at O
 rcases O with rfl | rfl | rfl | rfl
 ·exact ⟨110, by simp, by omega, h.names⟩
 ·refine ⟨103, by simp, by simp; omega, fun k x G => ?_⟩
  rw [List.getElem?_map] at G
  obtain ⟨s, M, rfl⟩ := Option.map_eq_some_iff.1 G
  exact (h.segs k s M).name
 ·refine ⟨113, by simp, by simp; omega, fun k x G => ?_⟩
  rw [List.getElem?_map] at G
  obtain ⟨s, M, rfl⟩ := Option.map_eq_some_iff.1 G
  exact (h.ports k s M).name
 ·refine ⟨115, by simp, by simp; omega, fun k x G => ?_⟩
  rw [List.getElem?_map] at G
  obtain ⟨s, M, rfl⟩ := Option.map_eq_some_iff.1 G
  exact (h.sts k s M).name
theorem cE {c : UInt8} (hc : 97 ≤ c.toNat ∧ c.toNat ≤ 122) {k : Nat} (Y : k < 26) : Gb (nm c k) = some true := by
 obtain ⟨b, W, X⟩ := M7 (x := nm c k)
 have M : ch (nm c k) 0 = (c.toNat : Int) := rfl
 have O : ch (nm c k) 1 = 97 + k := by
  show (((97 + UInt8.ofNat k).toNat : Nat) : Int) = _
  rw [UInt8.toNat_add, UInt8.toNat_ofNat', show (97 : UInt8).toNat = 97 from rfl]
  omega
 rw [W, X.2 ⟨⟨by show 1 ≤ 2; omega, by show 2 ≤ 12; omega, by rw [M]; unfold I6; omega⟩, fun j G => ?_⟩]
 have G : j < 2 := G
 refine .inl ?_
 unfold I6
 match j, G with
 | 0, _ => rw [M]; omega
 | 1, _ => rw [O]; omega
theorem eS {c : UInt8} (hc : c = 110 ∨ c = 103 ∨ c = 113 ∨ c = 115) {k : Nat} (G : k < 26) : Gb (nm c k) = some true := by
 refine cE ?_ G
 rcases hc with rfl | rfl | rfl | rfl <;> decide
theorem eO {c : UInt8} {i j : Nat} (hi : i < 26) (W : j < 26) (h : Rr (nm c i) (nm c j) = true) : i = j := by
 have O : (nm c i).toList = (nm c j).toList := by simpa [Rr] using h
 have G : [c, 97 + UInt8.ofNat i] = [c, 97 + UInt8.ofNat j] := by simpa [nm, ByteArray.toList, ByteArray.toList.loop, ByteArray.size, ByteArray.get!] using O
 simp only [List.cons.injEq, and_true, true_and] at G
 have M := congrArg UInt8.toNat G
 simp only [UInt8.toNat_add, UInt8.toNat_ofNat'] at M
 have : (97 : UInt8).toNat = 97 := rfl
 rw [this] at M
 omega
def gA (l : List Bt) : Prop := l.length ≤ 26 ∧ (∀ (k : Nat) (x : Bt), l[k]? = some x → Gb x = some true) ∧ ∀ (i j : Nat) (x y : Bt), l[i]? = some x → l[j]? = some y → Rr x y = true → i = j
theorem Named.nmd {c : UInt8} (hc : c = 110 ∨ c = 103 ∨ c = 113 ∨ c = 115) {l : List Bt} (h : Named c l) : gA l := by
 obtain ⟨X, G⟩ := h
 refine ⟨X, fun k x W => ?_, fun i j x y M O Y => ?_⟩
 ·have := (gs W).1
  rw [G k x W]; exact eS hc (by omega)
 ·have Z := (gs M).1
  have aa := (gs O).1
  have hx := G i x M; have hy := G j y O
  subst hx; subst hy
  exact eO (by omega) (by omega) Y
structure SegB (nodes : Nat) (s : Segment) : Prop where
 ends : 0 ≤ s.From ∧ s.From < (nodes : Int) ∧ 0 ≤ s.To ∧ s.To < (nodes : Int) ∧ s.From ≠ s.To
 cap : 1 ≤ s.Capacity ∧ s.Capacity ≤ 1000
 resist : 0 ≤ s.Resist ∧ s.Resist ≤ 1000
 wave : 0 ≤ s.Wave ∧ s.Wave ≤ 100000
 points : PointsOk s.Capacity s.Points
structure NetV (n : Network) : Prop where
 nodes : 1 ≤ n.Nodes.length ∧ n.Nodes.length ≤ 6
 segs1 : n.Segments.length ≤ 8
 segs : ∀ (k : Nat) (s : Sg), n.Segments[k]? = some s → ∃ j, SegOk n.Nodes.length j s
 ports1 : n.Ports.length ≤ 6
 ports : ∀ k s, n.Ports[k]? = some s → PortOk n.Nodes.length k s
 sts1 : n.Stations.length ≤ 6
 sts : ∀ k s, n.Stations[k]? = some s → StOk n.Nodes.length k s
 stsUp : ∀ (i j : Nat) (p q : Sn), i < j → n.Stations[i]? = some p → n.Stations[j]? = some q → p.Node < q.Node
 vapour : -100000 ≤ n.Vapour ∧ n.Vapour ≤ 50000
 settle : 0 ≤ n.Settle ∧ n.Settle ≤ 100
 named : ∀ l, l ∈ [n.Nodes, n.Segments.map (·.Name), n.Ports.map (·.Name), n.Stations.map (·.Name)] → gA l
theorem NetOk.v {n : Nw} (h : NetOk n) : NetV n :=
 ⟨by have := h.nodes; omega, h.segs1.2, fun k s M => ⟨k, h.segs k s M⟩, h.ports1.2, h.ports, h.sts1, h.sts, h.stsUp, h.vapour, h.settle, fun l G => let ⟨_, hc, hn⟩ := h.named l G; hn.nmd hc⟩
structure NetW (n : Network) : Prop where
 nodes : 1 ≤ n.Nodes.length ∧ n.Nodes.length ≤ 6
 segs1 : n.Segments.length ≤ 8
 segs : ∀ (k : Nat) (s : Sg), n.Segments[k]? = some s → SegB n.Nodes.length s
 ports1 : n.Ports.length ≤ 6
 ports : ∀ (k : Nat) s, n.Ports[k]? = some s → (0 ≤ s.Node ∧ s.Node < (n.Nodes.length : Int)) ∧ 0 ≤ s.Pressure ∧ s.Pressure ≤ 100000000
 sts1 : n.Stations.length ≤ 6
 sts : ∀ k s, n.Stations[k]? = some s → StOk n.Nodes.length k s
 stsUp : ∀ (i j : Nat) (p q : Sn), i < j → n.Stations[i]? = some p → n.Stations[j]? = some q → p.Node < q.Node
 vapour : -100000 ≤ n.Vapour ∧ n.Vapour ≤ 50000
 settle : 0 ≤ n.Settle ∧ n.Settle ≤ 100
 named : ∀ l, l ∈ [n.Nodes, n.Segments.map (·.Name), n.Ports.map (·.Name), n.Stations.map (·.Name)] → gA l
theorem NetW.sane {n : Nw} (h : NetW n) : Sane n := by
 have M := h.nodes; have O := h.segs1; have W := h.ports1; have X := h.sts1
 exact ⟨by omega, by omega, by omega, by omega, fun k s G => by have := (h.segs k s G).points.len; omega⟩
structure NetC (n : Network) : Prop where
 nodes : 1 ≤ n.Nodes.length ∧ n.Nodes.length ≤ 24
 segs1 : n.Segments.length ≤ 32
 segs : ∀ (k : Nat) (s : Sg), n.Segments[k]? = some s → (0 ≤ s.From ∧ s.From < (n.Nodes.length : Int) ∧ 0 ≤ s.To ∧ s.To < (n.Nodes.length : Int) ∧ s.From ≠ s.To) ∧ 1 ≤ s.Capacity ∧ s.Capacity ≤ 1000000
 ports1 : n.Ports.length ≤ 24
 ports : ∀ (k : Nat) s, n.Ports[k]? = some s → 0 ≤ s.Node ∧ s.Node < (n.Nodes.length : Int)
 sts1 : n.Stations.length ≤ 12
 check : G3 n = some 0
structure NetG (n : Network) : Prop where
 nodes : 1 ≤ n.Nodes.length ∧ n.Nodes.length ≤ 6
 segs1 : n.Nodes.length - 1 ≤ n.Segments.length ∧ n.Segments.length ≤ 8
 segs : ∀ (k : Nat) (s : Sg), n.Segments[k]? = some s → SegB n.Nodes.length s
 ports1 : 2 ≤ n.Ports.length ∧ n.Ports.length ≤ 6
 ports : ∀ (k : Nat) s, n.Ports[k]? = some s → 0 ≤ s.Node ∧ s.Node < (n.Nodes.length : Int)
 sts1 : n.Stations.length ≤ 6
 check : G3 n = some 0
theorem NetG.c {n : Nw} (h : NetG n) : NetC n := by
 have M := h.nodes; have O := h.segs1; have W := h.ports1; have X := h.sts1
 exact ⟨by omega, by omega, fun k s G => ⟨(h.segs k s G).ends, by have := (h.segs k s G).cap; omega⟩, by omega, h.ports, by omega, h.check⟩
theorem NetRes.c {n : Nw} (h : NetRes n 0) (Y : G3 n = some 0) : NetC n := by
 obtain ⟨a, b, c, d, e⟩ := h.good
 have := a.1
 refine ⟨by omega, by omega, fun k s G => ⟨?_, (e.segs k s G).cap⟩, by omega, d.2.1, by omega, Y⟩
 obtain ⟨⟨M, O⟩, W, X⟩ := d.1 k s G
 exact ⟨M, O, W, X, (e.segs k s G).ends⟩
theorem Ji {α : Type} (f : Nat → α) : ∀ (l : List Nat) (k : Nat), Cs (l.map fun (j : Nat) => ((j : Int), f j)) (k : Int) = if k ∈ l then some (f k) else none
 | [], k => by simp [Cs]
 | j :: l, k => by
  simp only [List.map_cons, Cs, Ji f l k, List.mem_cons]
  by_cases h : j = k
  ·subst h; simp
  ·have G : ¬ ((j : Int) = (k : Int)) := by omega
   have M : ¬ (k = j) := fun e => h e.symm
   simp [G, M]
def Oc (n : Nat) (ρ : Nat → Nat) : List (Int × Int) := (List.range n).map fun (k : Nat) => ((k : Int), (ρ k : Int))
theorem M8 {n k : Nat} {ρ : Nat → Nat} (h : k < n) : Cs (Oc n ρ) (k : Int) = some (ρ k : Int) := by
 unfold Oc; rw [Ji (fun k => (ρ k : Int))]; simp [h]
theorem S2 {n k : Nat} {ρ : Nat → Nat} (h : n ≤ k) : Cs (Oc n ρ) (k : Int) = none := by
 unfold Oc; rw [Ji (fun k => (ρ k : Int))]; simp; omega
theorem cQ (n : Nat) (ρ : Nat → Nat) : ((Oc n ρ).map Prod.fst).Nodup := by
 unfold Oc
 rw [List.map_map]
 exact List.Pairwise.map _ (fun a b h => by simp; omega) (List.nodup_range (n := n))
theorem Zs {n : Nat} {ρ : Nat → Nat} : Gu (Oc n ρ) (n : Int) (n : Int) = Oc (n + 1) (fun k => if k = n then n else ρ k) := by
 unfold Gu
 rw [S2 (Nat.le_refl _)]
 simp only [Option.isSome_none, Bool.false_eq_true, if_false]
 unfold Oc
 rw [List.range_succ, List.map_append]
 congr 1
 ·refine List.map_congr_left fun k G => ?_
  have : k ≠ n := by simp at G; omega
  simp [this]
 ·simp
def Ys (a b : Nat) (ρ : Nat → Nat) : Nat → Nat := fun k => if ρ k = a ∨ ρ k = b then min a b else ρ k
theorem Z4 {n a b : Nat} {ρ : Nat → Nat} : ((Oc n ρ).map fun G => (G.1, if (G.2 == (a : Int) || G.2 == (b : Int)) = true then min (a : Int) (b : Int) else G.2)) = Oc n (Ys a b ρ) := by
 unfold Oc Ys
 rw [List.map_map]
 refine List.map_congr_left fun k _ => ?_
 simp only [Function.comp, Bool.or_eq_true, beq_iff_eq, Prod.mk.injEq, true_and]
 by_cases M : ρ k = a
 ·simp [M]; omega
 ·by_cases O : ρ k = b
  ·simp [O]; omega
  ·have W : ¬ ((ρ k : Int) = (a : Int)) := by omega
   have X : ¬ ((ρ k : Int) = (b : Int)) := by omega
   simp [M, O, W, X]
theorem Zb {a b : Nat} {ρ : Nat → Nat} {x y : Nat} (h : ρ x = ρ y) : Ys a b ρ x = Ys a b ρ y := by unfold Ys; rw [h]
theorem eX {a b : Nat} {ρ : Nat → Nat} {x : Nat} : Ys a b ρ x ≤ ρ x := by
 unfold Ys
 split
 ·rename_i h; rcases h with h | h <;> omega
 ·exact Nat.le_refl _
theorem eY {ρ : Nat → Nat} {x y : Nat} : Ys (ρ x) (ρ y) ρ x = Ys (ρ x) (ρ y) ρ y := by unfold Ys; simp
def gr (ρ : Nat → Nat) (k r : Nat) : Li := ((List.range k).filter fun i => Nat.beq (ρ i) r).map fun (i : Nat) => (i : Int)
theorem Hl (ρ : Nat → Nat) (k r : Nat) : gr ρ (k + 1) r = gr ρ k r ++ (if ρ k = r then [(k : Int)] else []) := by
 unfold gr
 rw [List.range_succ, List.filter_append, List.map_append]
 congr 1
 by_cases G : ρ k = r
 ·simp [G]
 ·have : Nat.beq (ρ k) r = false := by rw [Bool.eq_false_iff]; exact fun h => G (nq h)
  simp [G, this]
theorem Y9 {ρ : Nat → Nat} {k r : Nat} {x : Int} : x ∈ gr ρ k r ↔ ∃ i : Nat, x = (i : Int) ∧ i < k ∧ ρ i = r := by
 unfold gr
 simp only [List.mem_map, List.mem_filter, List.mem_range]
 constructor
 ·rintro ⟨i, ⟨G, M⟩, rfl⟩
  exact ⟨i, rfl, G, nq M⟩
 ·rintro ⟨i, rfl, G, rfl⟩
  exact ⟨i, ⟨G, by simp⟩, rfl⟩
theorem Tp (ρ : Nat → Nat) (k r : Nat) : (gr ρ k r).length ≤ k := by
 unfold gr
 rw [List.length_map]
 exact Nat.le_trans (List.length_filter_le _ _) (by simp)
def Kc (l : List Nat) : List (Int × Int) := l.map fun (r : Nat) => ((r : Int), (l.idxOf r : Int))
theorem Sd {l : List Nat} {r : Nat} : Cs (Kc l) (r : Int) = if r ∈ l then some (l.idxOf r : Int) else none := Ji (fun r => (l.idxOf r : Int)) l r
theorem Zr {l : List Nat} {r : Nat} (h : r ∉ l) : Gu (Kc l) (r : Int) (l.length : Int) = Kc (l ++ [r]) := by
 unfold Gu
 rw [Sd, if_neg h]
 simp only [Option.isSome_none, Bool.false_eq_true, if_false]
 unfold Kc
 rw [List.map_append]
 congr 1
 ·exact List.map_congr_left fun k G => by rw [List.idxOf_append, if_pos G]
 ·simp [List.idxOf_append, h]
def sh1 (m : List Bool) (x : Int) (b : Sg) : Bool := (!(m.getD x.toNat true)) && (x == b.From || x == b.To)
def sh (m : List Bool) (a b : Sg) : Bool := sh1 m a.From b || sh1 m a.To b
theorem cO {m : List Bool} {i : Int} {k : Nat} {v : Bool} (hi : i = (k : Int)) (h : m[k]? = some v) : m.getD i.toNat true = v := by
 subst hi
 rw [List.getD_eq_getElem?_getD, show ((k : Int)).toNat = k from rfl, h]; rfl
theorem Vp {a b : Sg} {m : List Bool} (h1 : 0 ≤ a.From ∧ a.From < (m.length : Int)) (h2 : 0 ≤ a.To ∧ a.To < (m.length : Int)) : Ok (Mf a b m) fun r => r = sh m a b := by
 unfold Mf
 have G : ∀ x : Int, 0 ≤ x ∧ x < (m.length : Int) → ∀ k : Nat, ([a.From, a.To] : Li)[k]? = some x → ∀ (P : Unit ⊕ Bool → Prop), (sh1 m x b = true → P (.inr true)) → (sh1 m x b = false → P (.inl ())) → Ok (Mf.B2 a b m k ()) P := by
  intro x hx k O P p1 p2
  have j3 : ∀ c : Bool, (c = true → P (.inr true)) → (c = false → P (.inl ())) → Ok (Mf.J3 c) P := by
   intro c q1 q2
   unfold Mf.J3
   exact Av (fun h => .pure (q1 h)) fun h => .pure (q2 h)
  unfold Mf.B2
  refine .bind' (.eq (Bb O) (.bind' (.ix' hx.1 hx.2 fun i v hi hv => ?_)))
  dsimp only at hi ⊢
  have W := cO hi hv
  refine Fm (fun M => Ec (fun Y => j3 true (fun _ => p1 ?_) fun h => by cases h) fun Y => j3 _ (fun h => p1 ?_) fun h => p2 ?_) fun M => j3 false (fun h => by cases h) fun _ => p2 ?_
  ·unfold sh1; rw [W]; rw [M]; simp [Y]
  ·unfold sh1; rw [W]; rw [M]; simp at h; simp [h]
  ·unfold sh1; rw [W]; rw [M]; simp at h; simp [Y, h]
  ·unfold sh1; rw [W]; rw [M]; simp
 refine .bind' (.forI (fun k _ => (1 ≤ k → sh1 m a.From b = false) ∧ (2 ≤ k → sh1 m a.To b = false)) (fun r => r = true ∧ sh m a b = true) ⟨fun h => by omega, fun h => by omega⟩ ?_ ?_ ?_)
 ·intro k _ O ⟨X, Z⟩
  simp only [List.length_cons, List.length_nil] at O
  match k, O with
  | 0, _ => exact G a.From h1 0 rfl _ (fun h => ⟨rfl, by unfold sh; simp [h]⟩) fun h => ⟨fun _ => h, fun h => by omega⟩
  | 1, _ => exact G a.To h2 1 rfl _ (fun h => ⟨rfl, by unfold sh; simp [h]⟩) fun h => ⟨fun _ => X (by omega), fun _ => h⟩
  | k + 2, O => omega
 ·rintro _ ⟨X, Z⟩
  simp only [List.length_cons, List.length_nil] at X Z
  simp only [Sum.elim_inl]
  unfold Mf.J1
  exact .pure (by unfold sh; rw [X (by omega), Z (by omega)]; rfl)
 ·rintro r ⟨rfl, h⟩
  exact .pure h.symm
def Te (n : Nw) (m : List Bool) (x y : Nat) : Prop := ∃ s t, n.Segments[x]? = some s ∧ n.Segments[y]? = some t ∧ sh m s t = true
theorem Ti {m : List Bool} {a b : Sg} : sh m a b = true ↔ ∃ x : Int, (x = a.From ∨ x = a.To) ∧ (x = b.From ∨ x = b.To) ∧ m.getD x.toNat true = false := by
 unfold sh sh1
 simp only [Bool.or_eq_true, Bool.and_eq_true, Bool.not_eq_true', beq_iff_eq]
 exact ⟨fun h => h.elim (fun h => ⟨_, .inl rfl, h.2, h.1⟩) fun h => ⟨_, .inr rfl, h.2, h.1⟩, fun ⟨x, O, G, M⟩ => O.elim (fun h => .inl (by rw [← h]; exact ⟨M, G⟩)) fun h => .inr (by rw [← h]; exact ⟨M, G⟩)⟩
theorem Ut {m : List Bool} {a b : Sg} (h : sh m a b = true) : sh m b a = true := by
 obtain ⟨x, G, M, O⟩ := Ti.1 h
 exact Ti.2 ⟨x, M, G, O⟩
def fZ (n : Nw) (m : List Bool) (σ : Nat → Nat) : Prop := ∀ x y, Te n m x y → σ x = σ y
def Cn (n : Nw) (m : List Bool) (k : Nat) (ρ : Nat → Nat) : Prop := (∀ x, x < k → ρ x ≤ x) ∧ ∀ σ, fZ n m σ → ∀ x, x < k → σ (ρ x) = σ x
theorem Cn.put {n : Nw} {m : List Bool} {k : Nat} {ρ : Nat → Nat} (h : Cn n m k ρ) : Cn n m (k + 1) (fun x => if x = k then k else ρ x) := by
 refine ⟨fun x G => ?_, fun σ M x G => ?_⟩
 ·dsimp only
  split
  ·omega
  ·exact h.1 x (by omega)
 ·dsimp only
  split
  ·rename_i e; rw [e]
  ·exact h.2 σ M x (by omega)
theorem Cn.join {n : Nw} {m : List Bool} {k a b : Nat} {ρ : Nat → Nat} (h : Cn n m k ρ) (ha : a < k) (hb : b < k) (hs : Te n m b a) : Cn n m k (Ys (ρ a) (ρ b) ρ) := by
 refine ⟨fun x Y => Nat.le_trans eX (h.1 x Y), fun σ O x Y => ?_⟩
 have Z := h.2 σ O a ha; have e2 := h.2 σ O b hb; have e3 := O _ _ hs; have W := h.2 σ O x Y
 unfold Ys
 split
 ·rename_i G
  have M : σ x = σ a := by
   rcases G with G | G
   ·rw [← W, G, Z]
   ·rw [← W, G, e2, e3]
  have : min (ρ a) (ρ b) = ρ a ∨ min (ρ a) (ρ b) = ρ b := by omega
  rcases this with X | X
  ·rw [X, Z, M]
  ·rw [X, e2, e3, M]
 ·exact W
structure Reps (n : Network) (m : List Bool) (ρ : Nat → Nat) : Prop where
 rsp : fZ n m ρ
 cn : Cn n m n.Segments.length ρ
theorem Reps.idem {n : Nw} {m : List Bool} {ρ : Nat → Nat} (h : Reps n m ρ) {x : Nat} (G : x < n.Segments.length) : ρ (ρ x) = ρ x := h.cn.2 ρ h.rsp x G
theorem Reps.uniq {n : Nw} {m : List Bool} {ρ ρ' : Nat → Nat} (h : Reps n m ρ) (G : Reps n m ρ') {x : Nat} (M : x < n.Segments.length) : ρ x = ρ' x := by
 have a : ∀ {ρ ρ' : Nat → Nat}, Reps n m ρ → Reps n m ρ' → ρ' x ≤ ρ x := fun {ρ ρ'} h G => by
  have O := h.cn.1 x M
  have W := h.cn.2 ρ' G.rsp x M
  have X := G.cn.1 (ρ x) (by omega)
  omega
 exact Nat.le_antisymm (a G h) (a h G)
def hd (ρ : Nat → Nat) (k : Nat) : List Nat := (List.range k).filter fun r => Nat.beq (ρ r) r
theorem Qx {ρ : Nat → Nat} {k : Nat} : hd ρ (k + 1) = hd ρ k ++ if ρ k = k then [k] else [] := by
 unfold hd
 rw [List.range_succ, List.filter_append]
 congr 1
 by_cases h : ρ k = k
 ·rw [if_pos h]; simp [h]
 ·rw [if_neg h]; simp [h]
theorem Y8 {ρ : Nat → Nat} {k r : Nat} : r ∈ hd ρ k ↔ r < k ∧ ρ r = r := by
 unfold hd
 rw [List.mem_filter, List.mem_range]
 exact and_congr_right fun _ => ⟨nq, fun h => by rw [h]; simp⟩
theorem Z1 (ρ : Nat → Nat) (k : Nat) : (hd ρ k).Nodup := List.Pairwise.filter _ List.nodup_range
theorem Tn (ρ : Nat → Nat) (k : Nat) : (hd ρ k).length ≤ k := Nat.le_trans (List.length_filter_le _ _) (by simp)
theorem Vq {n : Nw} (hn : NetC n) {m : List Bool} (hm : m.length = n.Nodes.length) : Ok (Ik n m) fun r => r.2 = 0 ∧ ∃ ρ, Reps n m ρ ∧ r.1 = (hd ρ n.Segments.length).map (gr ρ n.Segments.length) := by
 have hl := hn.segs1
 unfold Ik
 refine .bind' (.eq hn.check (C3 (fun h => absurd rfl h) fun _ => C3 (fun h => absurd (by omega) h) fun _ => ?_))
 refine .bind (Q := fun G : List (Int × Int) => ∃ ρ : Nat → Nat, G = Oc n.Segments.length ρ ∧ (∀ x y, y < x → x < n.Segments.length → Te n m x y → ρ x = ρ y) ∧ Cn n m (n.Segments.length) ρ) ?_ ?_
 ·refine .forS (fun k (G : List (Int × Int)) => ∃ ρ : Nat → Nat, G = Oc k ρ ∧ (∀ x y, y < x → x < k → Te n m x y → ρ x = ρ y) ∧ Cn n m (k) ρ)
   ⟨fun x => x, rfl, fun x y _ h => absurd h (Nat.not_lt_zero _), ⟨fun x h => absurd h (Nat.not_lt_zero _), fun _ _ x h => absurd h (Nat.not_lt_zero _)⟩⟩ ?_ fun G h => h
  rintro k s G O ⟨ρ, rfl, i1, i2⟩
  have ab := (gs O).1
  have he := (hn.segs k s O).1
  unfold Ik.B5
  refine .bind' (.chk (by omega) ?_)
  rw [show ((k : Int)).toNat = k from rfl, Zs]
  refine .bind (.forJ (fun j (G : List (Int × Int)) => ∃ ρ : Nat → Nat, G = Oc (k + 1) ρ ∧ (∀ x y, y < x → x < k → Te n m x y → ρ x = ρ y) ∧ (∀ y, y < j → Te n m k y → ρ k = ρ y) ∧ Cn n m (k + 1) ρ)
   ⟨_, rfl, fun x y X hx O => ?_, fun y h => absurd h (Nat.not_lt_zero _), i2.put⟩ ?_ fun G h => h) ?_
  ·have Y : x ≠ k := by omega
   have Z : y ≠ k := by omega
   simp only [Y, Z, if_false]
   exact i1 x y X hx O
  ·rintro j G hj ⟨ρ, rfl, j1, j2, j3⟩
   have ht : n.Segments[j]? = some (n.Segments[j]'(by omega)) := gq _
   have e1 : (Cs (Oc (k + 1) ρ) (j : Int)).getD 0 = (ρ j : Int) := by rw [M8 (by omega)]; rfl
   have e2 : (Cs (Oc (k + 1) ρ) (k : Int)).getD 0 = (ρ k : Int) := by rw [M8 (by omega)]; rfl
   unfold Ik.B7
   refine .bind' (.eq (Bb ht) (.bind (Vp (by omega) (by omega)) ?_))
   rintro _ rfl
   dsimp only
   rw [e1, e2]
   have ac : (Te n m k j → ρ k = ρ j) → Ok (Ik.J8 (Oc (k + 1) ρ)) fun G => ∃ ρ : Nat → Nat, G = Oc (k + 1) ρ ∧ (∀ x y, y < x → x < k → Te n m x y → ρ x = ρ y) ∧ (∀ y, y < j + 1 → Te n m k y → ρ k = ρ y) ∧ Cn n m (k + 1) ρ := by
    intro hkj
    unfold Ik.J8
    refine .pure ⟨ρ, rfl, j1, fun y X O => ?_, j3⟩
    by_cases ag : y = j
    ·subst ag; exact hkj O
    ·exact j2 y (by omega) O
   refine Av (fun W => ?_) fun W => ?_
   ·have hshr : Te n m k j := ⟨s, _, O, ht, W⟩
    unfold Ik.J9
    refine C3 (fun hne => ?_) fun heq => ac fun _ => by omega
    rw [e1, e2]
    unfold Qf
    rw [if_pos (cQ _ _), Z4]
    refine .bind' (.pure ?_)
    unfold Ik.J8
    refine .pure ⟨_, rfl, fun x y X hx O => Zb (j1 x y X hx O), fun y X O => ?_, j3.join (by omega) (by omega) hshr⟩
    by_cases ag : y = j
    ·subst ag; exact eY.symm
    ·exact Zb (j2 y (by omega) O)
   ·unfold Ik.J9
    refine Av (fun h => by cases h) fun _ => ac fun ⟨s', t', Y, Z, h3⟩ => ?_
    rw [O] at Y; rw [ht] at Z
    cases Y; cases Z
    rw [W] at h3; cases h3
  ·rintro G ⟨ρ, rfl, j1, j2, j3⟩
   unfold Ik.J6
   refine .pure ⟨ρ, rfl, fun x y X hx af => ?_, j3⟩
   by_cases hxk : x = k
   ·rw [hxk] at af X ⊢; exact j2 y X af
   ·exact j1 x y X (by omega) af
 rintro _ ⟨ρ, rfl, W, ad⟩
 have hR : fZ n m ρ := fun x y h => by
  obtain ⟨s, t, Y, Z, h3⟩ := h
  have hx := (gs Y).1
  have X := (gs Z).1
  rcases Nat.lt_trichotomy x y with h | h | h
  ·exact (W y x h X ⟨t, s, Z, Y, Ut h3⟩).symm
  ·rw [h]
  ·exact W x y h hx ⟨s, t, Y, Z, h3⟩
 have hC : Reps n m ρ := ⟨hR, ad⟩
 unfold Ik.J1
 refine .bind (Q := fun G : List (Int × Int) × List Li => G.2 = (hd ρ n.Segments.length).map (gr ρ n.Segments.length)) ?_ ?_
 ·refine .forS (fun k (G : List (Int × Int) × List Li) => G.2 = (hd ρ k).map (gr ρ k) ∧ G.1 = Kc (hd ρ k))
   ⟨rfl, rfl⟩ ?_ fun G h => h.1
  rintro k s ⟨_, _⟩ O ⟨rfl, rfl⟩
  have ab := (gs O).1
  have i1 := Tn ρ k
  have i2 := Z1 ρ k
  have hkk := ad.1 k ab
  have hrr := hC.idem ab
  have e1 : (Cs (Oc n.Segments.length ρ) (k : Int)).getD 0 = (ρ k : Int) := by rw [M8 ab]; rfl
  unfold Ik.B3
  dsimp only
  rw [e1, Sd, Qx]
  by_cases M : ρ k ∈ hd ρ k
  ·simp only [M, if_true, Option.isSome_some, Bool.not_true, Bool.false_eq_true, if_false, Option.getD_some]
   have hlt := (Y8.1 M).1
   rw [if_neg (by omega), List.append_nil]
   have aa := List.idxOf_lt_length_of_mem M
   obtain ⟨j, hj⟩ : ∃ j, j = (hd ρ k).idxOf (ρ k) := ⟨_, rfl⟩
   rw [← hj] at aa ⊢
   have hr : (hd ρ k)[j]? = some (ρ k) := by rw [gq aa]; subst hj; rw [List.getElem_idxOf]
   unfold Ik.J4
   dsimp only
   have hg : ((hd ρ k).map (gr ρ k))[j]? = some (gr ρ k (ρ k)) := by rw [List.getElem?_map, hr]; rfl
   have hgl := Tp ρ k (ρ k)
   have hl := hn.segs1
   refine .bind' (.eq (Bb hg) (.bind' (.app (by simp; omega) (.pure ⟨?_, rfl⟩))))
   dsimp only
   refine List.ext_getElem? fun i => ?_
   rw [Vb, List.getElem?_map, List.getElem?_map]
   by_cases ae : j = i
   ·subst ae
    rw [if_pos ⟨rfl, by simpa using aa⟩, hr]
    simp only [Option.map_some, Option.some.injEq]
    rw [Hl, if_pos rfl]
   ·rw [if_neg (fun h => ae h.1)]
    cases hi : (hd ρ k)[i]? with
    | none => rfl
    | some r =>
     simp only [Option.map_some, Option.some.injEq]
     rw [Hl, if_neg, List.append_nil]
     rintro rfl
     exact ae ((List.getElem?_inj aa i2).1 (hr.trans hi.symm))
  ·simp only [M, if_false, Option.isSome_none, Bool.not_false, if_true, List.length_map]
   have hk : ρ k = k := Nat.le_antisymm hkk (Nat.le_of_not_lt fun h => M (Y8.2 ⟨h, hrr⟩))
   rw [if_pos hk]
   have hl := hn.segs1
   refine .bind' (.app (by simp; omega) ?_)
   rw [Zr M]
   unfold Ik.J4
   dsimp only
   refine .bind' (.ix (hd ρ k).length rfl (by simp) ?_)
   have e5 : ((hd ρ k).map (gr ρ k) ++ [[]])[(hd ρ k).length]'(by simp) = ([] : Li) := by simp
   dsimp only
   rw [e5]
   refine .bind' (.app (by simp) (.pure ⟨?_, by rw [hk]⟩))
   have e6 : gr ρ k (ρ k) = [] := by
    unfold gr
    rw [List.map_eq_nil_iff, List.filter_eq_nil_iff]
    intro i hi hh
    simp only [List.mem_range] at hi
    have Y : ρ i = ρ k := nq hh
    have Z := ad.1 i (by omega)
    omega
   dsimp only
   rw [List.set_append_right _ _ (by simp), List.map_append]
   simp only [List.length_map, Nat.sub_self, List.set_cons_zero, List.map_cons, List.map_nil, List.nil_append]
   congr 1
   ·refine List.map_congr_left fun r hr => ?_
    rw [Hl, if_neg, List.append_nil]
    rintro rfl; exact M hr
   ·have e7 : gr ρ (k + 1) k = [(k : Int)] := by
     rw [hk] at e6
     rw [Hl, if_pos hk, e6]; rfl
    rw [e7]
 ·rintro G hst
  unfold Ik.J2
  exact .pure ⟨rfl, ρ, hC, hst⟩
theorem Zz {a b c : Int} : Bf a b c = true ↔ b ≤ a ∧ a ≤ c := by simp [Bf]
theorem Cx {a b c : Int} : (!(Bf a b c)) = true ↔ ¬ (b ≤ a ∧ a ≤ c) := by rw [← Zz]; simp
theorem Vw {x : Bt} : Ok (Mp x) fun r => r = true ↔ It x := by
 have X : ¬ (1 ≤ x.size ∧ x.size ≤ 12 ∧ I6 (ch x 0)) → Ok (Mp.J1 x true) fun r => r = true ↔ It x := fun h => by
  unfold Mp.J1
  exact .pure ⟨fun h => (by cases h), fun hn => absurd hn.1 h⟩
 unfold Mp
 refine Au (fun h => X (by omega)) fun h1 => Au (fun h => X (by omega)) fun h2 => ?_
 refine .bind' (.eq (Lr (k := 0) (by omega)) (Au (fun h => X (fun hl => by have := hl.2.2; unfold I6 at this; dsimp only at h; omega)) fun M => ?_))
 dsimp only at M ⊢
 by_cases h4 : ch x 0 > 122
 ·rw [decide_eq_true h4]; exact X (fun hl => by have := hl.2.2; unfold I6 at this; omega)
 rw [decide_eq_false h4]
 unfold Mp.J1
 refine Av (fun h => by cases h) fun _ => ?_
 refine .bind (Q := fun o : Bool ⊕ Unit => (o = .inl false ∧ ∃ k, k < x.size ∧ ¬ (I6 (ch x k) ∨ (48 ≤ ch x k ∧ ch x k ≤ 57) ∨ ch x k = 45)) ∨ (o = .inr () ∧ ∀ k, k < x.size → I6 (ch x k) ∨ (48 ≤ ch x k ∧ ch x k ≤ 57) ∨ ch x k = 45)) ?_ ?_
 ·refine .loop (fun i : Int => 0 ≤ i ∧ i ≤ (x.size : Int) ∧ ∀ k : Nat, (k : Int) < i → I6 (ch x k) ∨ (48 ≤ ch x k ∧ ch x k ≤ 57) ∨ ch x k = 45) (fun i => x.size - i.toNat) ⟨by omega, by omega, fun k h => by omega⟩ (by omega) ?_
  rintro i ⟨i0, i1, i2⟩
  obtain ⟨i, rfl⟩ := F8 i0
  unfold Mp.B3
  refine Au (fun hlt => .bind' (.eq (Lr (by omega)) ?_)) fun h => .pure (.inr ⟨rfl, fun k hk => i2 k (by omega)⟩)
  have W : I6 (ch x i) ∨ (48 ≤ ch x i ∧ ch x i ≤ 57) ∨ ch x i = 45 → Ok (Mp.J4 i false) (Sum.elim (fun j : Int => (0 ≤ j ∧ j ≤ (x.size : Int) ∧ ∀ k : Nat, (k : Int) < j → I6 (ch x k) ∨ (48 ≤ ch x k ∧ ch x k ≤ 57) ∨ ch x k = 45) ∧ x.size - j.toNat < x.size - (i : Int).toNat) fun o : Bool ⊕ Unit => (o = .inl false ∧ ∃ k, k < x.size ∧ ¬ (I6 (ch x k) ∨ (48 ≤ ch x k ∧ ch x k ≤ 57) ∨ ch x k = 45)) ∨ (o = .inr () ∧ ∀ k, k < x.size → I6 (ch x k) ∨ (48 ≤ ch x k ∧ ch x k ≤ 57) ∨ ch x k = 45)) := fun hg => by
   unfold Mp.J4
   refine Av (fun h => by cases h) fun _ => .pure ?_
   rw [As (by omega)]
   refine ⟨⟨by omega, by omega, fun k hk => ?_⟩, by omega⟩
   by_cases hki : k = i
   ·subst hki; exact hg
   ·exact i2 k (by omega)
  have O : ¬ (I6 (ch x i) ∨ (48 ≤ ch x i ∧ ch x i ≤ 57) ∨ ch x i = 45) → Ok (Mp.J4 i true) (Sum.elim (fun j : Int => (0 ≤ j ∧ j ≤ (x.size : Int) ∧ ∀ k : Nat, (k : Int) < j → I6 (ch x k) ∨ (48 ≤ ch x k ∧ ch x k ≤ 57) ∨ ch x k = 45) ∧ x.size - j.toNat < x.size - (i : Int).toNat) fun o : Bool ⊕ Unit => (o = .inl false ∧ ∃ k, k < x.size ∧ ¬ (I6 (ch x k) ∨ (48 ≤ ch x k ∧ ch x k ≤ 57) ∨ ch x k = 45)) ∨ (o = .inr () ∧ ∀ k, k < x.size → I6 (ch x k) ∨ (48 ≤ ch x k ∧ ch x k ≤ 57) ∨ ch x k = 45)) := fun hg => by
   unfold Mp.J4
   exact Av (fun _ => .pure (.inl ⟨rfl, i, by omega, hg⟩)) fun h => by cases h
  have G : (ch x i < 48 ∨ 57 < ch x i) → ¬ I6 (ch x i) → Ok (Mp.J4 i (ch x i != 45)) _ := fun h1 h2 => by
   by_cases M : ch x i = 45
   ·rw [M]; exact W (.inr (.inr M))
   ·rw [show (ch x i != 45) = true by simpa using M]; exact O (fun h => h.elim h2 fun h => h.elim (fun h => by omega) M)
  dsimp only
  refine Au (fun h5 => Au (fun Y => G (by omega) (by unfold I6; omega)) fun Y => Au (fun Z => G (by omega) (by unfold I6; omega)) fun Z => W (by omega)) fun h5 => Au (fun Y => Au (fun Z => G (by omega) (by unfold I6; omega)) fun Z => Au (fun h8 => G (by omega) (by unfold I6; omega)) fun h8 => W (by omega)) fun Y => W (by unfold I6; omega)
 ·rintro _ (⟨rfl, k, hk, h⟩ | ⟨rfl, h⟩)
  ·exact .pure ⟨fun h => (by cases h), fun hn => absurd (hn.2 k hk) h⟩
  ·unfold Mp.J2
   exact .pure ⟨fun _ => ⟨⟨by omega, by omega, by unfold I6; omega⟩, h⟩, fun _ => rfl⟩
theorem bY {l : List Bt} (hl : l.length ≤ 1000000) : Ok (Mz l) fun r => r = true ↔ fJ l := by
 unfold Mz
 refine .bind (Ok.any (d := true) (P := Y3 l) fun k x G => ?_) ?_
 ·have X := (gs G).1
  unfold Mz.B2
  refine .bind (Ls (k := k) (d := true) (P := fun y => x.toList = y.toList) (by omega) hl (fun i y W O => ?_) ?_) ?_
  ·unfold Mz.B4
   refine Au (fun _ => .bind' (.eq (Bb O) (Av (fun h => .pure (.inl ⟨Lo.1 h, rfl⟩)) fun h => .pure (.inr ⟨fun M => ?_, rfl⟩)))) fun h => by omega
   rw [Lo.2 M] at h; cases h
  ·unfold Mz.B4
   rw [if_neg (by simp)]
  ·rintro _ (⟨h, rfl⟩ | ⟨h, rfl⟩)
   ·exact .pure (.inl ⟨h, rfl⟩)
   ·exact .pure (.inr ⟨h, rfl⟩)
 ·rintro _ (⟨h, rfl⟩ | ⟨h, rfl⟩)
  ·exact .pure ⟨fun _ => h, fun _ => rfl⟩
  ·exact .pure ⟨fun h => (by cases h), fun ⟨k, x, G, hd⟩ => absurd hd (h k x G)⟩
theorem eL {s : Sg} (h2 : 2 ≤ s.Points.length ∧ s.Points.length ≤ 1000) : Ok (Mo s) fun r => r = true ↔ PipeOk s := by
 obtain ⟨p0, pl, e0, el, i0, il⟩ := Vd h2
 have W : (PipeOk s → False) → Ok (Mo.J1 s true) fun r => r = true ↔ PipeOk s := fun h => by
  unfold Mo.J1; exact .pure ⟨fun h => (by cases h), fun G => absurd G h⟩
 unfold Mo
 refine Bu (Q := s.From = s.To) (by simp) (fun h => W fun G => G.ends h) fun a1 => Bu Cx (fun h => W fun G => h G.cap) fun a2 => Bu Cx (fun h => W fun G => h G.resist) fun a3 => Bu Cx (fun h => W fun G => h G.wave) fun a4 => ?_
 rw [i0, il]
 refine .bind' (.pure (Bu (Q := p0.At ≠ 0) (by simp) (fun h => W fun G => h (G.first _ e0)) fun Z => .bind' (.pure ?_)))
 dsimp only
 by_cases Y : pl.At = s.Capacity
 ·rw [show (pl.At != s.Capacity) = false by simpa using Y]
  unfold Mo.J1
  refine Av (fun h => by cases h) fun _ => .bind (Ok.any (d := false) (P := Hx s) fun k p G => ?_) ?_
  ·have X : ∀ b : Bool, (b = true ↔ Hx s k p) → Ok (Mo.J4 b) fun o => (Hx s k p ∧ o = .inr false) ∨ (¬ Hx s k p ∧ o = .inl ()) := fun b h => by unfold Mo.J4; exact .test h
   unfold Mo.B3
   refine Au (fun Z => ?_) fun Z => Bu Cx (fun h => X _ ⟨fun _ => .inl fun O => h O.1, fun _ => rfl⟩) fun h1 => X _ ?_
   ·obtain ⟨q, hq, hi⟩ := Uv h2.2 G (by omega)
    refine .bind' (.eq hi (Au (fun h => X _ ⟨fun _ => .inr ⟨q, by omega, hq, h⟩, fun _ => rfl⟩) fun h => Bu Cx (fun h => X _ ⟨fun _ => .inl fun O => h O.1, fun _ => rfl⟩) fun h1 => X _ ?_))
    rw [Cx]
    refine ⟨fun h => .inl fun O => h O.2, fun M h3 => ?_⟩
    have := (Ve ⟨Classical.not_not.1 h1, h3⟩ (by omega) hq).1 M
    dsimp only at h; omega
   ·rw [Cx]
    refine ⟨fun h => .inl fun O => h O.2, fun M h3 => ?_⟩
    rcases M with M | ⟨q, hk, _⟩
    ·exact M ⟨Classical.not_not.1 h1, h3⟩
    ·omega
  ·rintro _ (⟨⟨k, p, G, M⟩, rfl⟩ | ⟨h, rfl⟩)
   ·exact .pure ⟨fun h => (by cases h), fun h => absurd M (h.pts k p G)⟩
   ·refine .pure ⟨fun _ => ⟨a1, Classical.not_not.1 a2, Classical.not_not.1 a3, Classical.not_not.1 a4, fun p G => ?_, fun p G => ?_, h⟩, fun _ => rfl⟩
    ·rw [e0] at G; cases G; exact Classical.not_not.1 Z
    ·rw [el] at G; cases G; exact Y
 ·rw [show (pl.At != s.Capacity) = true by simpa using Y]
  exact W fun G => Y (G.last _ el)
theorem T2 {n : Nw} (h1 : n.Segments.length ≤ 1000) (h2 : n.Ports.length ≤ 1000) (G : n.Stations.length ≤ 1000) : Ok (Mq n) fun r => r.l = Yt n := by
 unfold Mq
 refine .bind (Hk (g := (·.Name)) (fun _ _ _ => rfl) h1) ?_
 rintro _ rfl
 unfold Mq.J1
 refine .bind (Hk (g := (·.Name)) (fun _ _ _ => rfl) h2) ?_
 rintro _ rfl
 unfold Mq.J2
 refine .bind (Hk (g := (·.Name)) (fun _ _ _ => rfl) G) ?_
 rintro _ rfl
 unfold Mq.J3
 exact .pure rfl
theorem Zq {n : Nw} (hn : Sane n) : Ok (Ip n) (NetRes n) := by
 unfold Ip
 refine Bu (Q := ¬ (1 ≤ n.Nodes.length ∧ n.Nodes.length ≤ 24 ∧ n.Segments.length ≤ 32 ∧ n.Ports.length ≤ 24 ∧ n.Stations.length ≤ 12)) (by simp only [Bool.or_eq_true, Cx, decide_eq_true_eq]; omega) (fun h => .pure (.inl ⟨fun W => h W.1, rfl⟩)) fun h0 => ?_
 refine .bind (Ok.any (d := 4) (P := fun _ s => ¬ Oi s) fun k s G => ?_) ?_
 ·unfold Ip.B24 Oi
  exact .test (by rw [Cx]; omega)
 rintro _ (⟨⟨k, s, G, h⟩, rfl⟩ | ⟨h1, rfl⟩)
 ·exact .pure (.inl ⟨fun W => h (W.2 k s G), rfl⟩)
 have W : Lim n := ⟨Classical.not_not.1 h0, fun k s G => Classical.not_not.1 (h1 k s G)⟩
 have hnl := W.1
 simp only [Sum.elim_inl]
 unfold Ip.J1
 refine .bind (T2 hn.segs hn.ports hn.sts) fun r hr => .bind (Je (d := 3) (P := fun k => ∃ l, (Yt n)[k]? = some l ∧ Tw l) fun k O => ?_) ?_
 ·obtain ⟨l, g1, g2⟩ := Uo hr O
  unfold Ip.B21
  refine .bind' (.eq (Bb g1) (.bind (Ok.any (d := 3) (P := fun _ x => ¬ It x) fun j x hx => ?_) ?_))
  ·unfold Ip.B23
   exact .bind Vw fun b hb => .test (by rw [← hb]; simp)
  ·rintro _ (⟨h, rfl⟩ | ⟨h, rfl⟩)
   ·exact .pure (.inl ⟨⟨l, g2, h⟩, rfl⟩)
   ·refine .pure (.inr ⟨fun ⟨m, g3, j, x, hx, hm⟩ => ?_, rfl⟩)
    rw [g2] at g3; cases g3; exact h j x hx hm
 rintro _ (⟨h, rfl⟩ | ⟨h, rfl⟩)
 ·exact .pure (.inr ⟨W, .inl ⟨h, rfl⟩⟩)
 have hf : ¬ G8 n := fun ⟨k, O, h'⟩ => h k O h'
 simp only [Sum.elim_inl]
 unfold Ip.J2
 refine .bind (Je (d := 7) (P := fun k => ∃ l, (Yt n)[k]? = some l ∧ fJ l) fun k O => ?_) ?_
 ·obtain ⟨l, g1, g2⟩ := Uo hr O
  unfold Ip.B20
  have hll : l.length ≤ 1000000 := by
   have := mg g2
   simp only [Yt, List.mem_cons, List.not_mem_nil, or_false] at this
   rcases this with rfl | rfl | rfl | rfl <;> simp <;> omega
  refine .bind' (.eq (Bb g1) (.bind (bY hll) fun b hb => .test ?_))
  rw [hb]
  exact ⟨fun h => ⟨l, g2, h⟩, fun ⟨m, g3, h⟩ => by rw [g2] at g3; cases g3; exact h⟩
 rintro _ (⟨h, rfl⟩ | ⟨h2, rfl⟩)
 ·exact .pure (.inr ⟨W, .inr ⟨hf, .inl ⟨.inl h, rfl⟩⟩⟩)
 simp only [Sum.elim_inl]
 unfold Ip.J3
 refine .bind (Ok.any (d := 7) (P := Tv n.Stations) fun k x hx => ?_) ?_
 ·have O := (gs hx).1
  unfold Ip.B17
  refine .bind (Ls (l := n.Stations) (k := k) (d := 7) (P := fun y => x.Node = y.Node) (by omega) (by omega) (fun i y hi hy => ?_) ?_) ?_
  ·unfold Ip.B19
   exact Au (fun _ => .bind' (.eq (Bb hy) (Ec (fun h => .pure (.inl ⟨h, rfl⟩)) fun h => .pure (.inr ⟨h, rfl⟩)))) fun h => by omega
  ·unfold Ip.B19
   rw [if_neg (by simp)]
  ·rintro _ (⟨h, rfl⟩ | ⟨h, rfl⟩)
   ·exact .pure (.inl ⟨h, rfl⟩)
   ·exact .pure (.inr ⟨h, rfl⟩)
 rintro _ (⟨h, rfl⟩ | ⟨h3, rfl⟩)
 ·exact .pure (.inr ⟨W, .inr ⟨hf, .inl ⟨.inr h, rfl⟩⟩⟩)
 have ht : ¬ (Lz n ∨ Ly n) := by
  rintro (⟨k, O, h⟩ | ⟨k, x, hx, h⟩)
  ·exact h2 k O h
  ·exact h3 k x hx h
 have Z : ¬ Lw n → NetRes n 8 := fun h => .inr ⟨W, .inr ⟨hf, .inr ⟨ht, .inl ⟨h, rfl⟩⟩⟩⟩
 have e : wr ((n.Nodes.length : Int) - 1) = (n.Nodes.length : Int) - 1 := As (by omega)
 have M : ∀ k : Int, (!(Bf k 0 ((n.Nodes.length : Int) - 1))) = true ↔ ¬ At n k := fun k => by rw [Cx]; unfold At; omega
 simp only [Sum.elim_inl]
 unfold Ip.J4
 refine .bind (Ok.any (d := 8) (P := fun _ s => ¬ (At n s.From ∧ At n s.To)) fun k s G => ?_) ?_
 ·unfold Ip.B16
  refine .test ?_
  rw [e, Bool.or_eq_true, M, M]
  exact ⟨fun h hc => h.elim (fun h => h hc.1) fun h => h hc.2, fun h => Classical.byContradiction fun hc => h ⟨Classical.byContradiction fun h => hc (.inl h), Classical.byContradiction fun h => hc (.inr h)⟩⟩
 rintro _ (⟨⟨k, s, G, h⟩, rfl⟩ | ⟨k1, rfl⟩)
 ·exact .pure (Z fun O => h (O.1 k s G))
 simp only [Sum.elim_inl]
 unfold Ip.J5
 refine .bind (Ok.any (d := 8) (P := fun _ s => ¬ At n s.Node) fun k s G => ?_) ?_
 ·unfold Ip.B15
  exact .test (by rw [e]; exact M _)
 rintro _ (⟨⟨k, s, G, h⟩, rfl⟩ | ⟨k2, rfl⟩)
 ·exact .pure (Z fun O => h (O.2.1 k s G))
 simp only [Sum.elim_inl]
 unfold Ip.J6
 refine .bind (Ok.any (d := 8) (P := fun _ s => ¬ At n s.Node) fun k s G => ?_) ?_
 ·unfold Ip.B14
  exact .test (by rw [e]; exact M _)
 rintro _ (⟨⟨k, s, G, h⟩, rfl⟩ | ⟨k3, rfl⟩)
 ·exact .pure (Z fun O => h (O.2.2 k s G))
 have O : Lw n := ⟨fun k s G => Classical.not_not.1 (k1 k s G), fun k s G => Classical.not_not.1 (k2 k s G), fun k s G => Classical.not_not.1 (k3 k s G)⟩
 have X : ¬ Proper n → NetRes n 9 := fun h => .inr ⟨W, .inr ⟨hf, .inr ⟨ht, .inr ⟨O, .inl ⟨h, rfl⟩⟩⟩⟩⟩
 simp only [Sum.elim_inl]
 unfold Ip.J7
 refine .bind (Ok.any (d := 9) (P := fun _ s => ¬ PipeOk s) fun k s G => ?_) ?_
 ·unfold Ip.B13
  exact .bind (eL (W.pts G)) fun b hb => .test (by rw [← hb]; simp)
 rintro _ (⟨⟨k, s, G, h⟩, rfl⟩ | ⟨p1, rfl⟩)
 ·exact .pure (X fun Y => h (Y.segs k s G))
 simp only [Sum.elim_inl]
 unfold Ip.J8
 refine .bind (Ok.any (d := 9) (P := fun _ s => ¬ (0 ≤ s.Pressure ∧ s.Pressure ≤ 100000000)) fun k s G => ?_) ?_
 ·unfold Ip.B12
  exact .test Cx
 rintro _ (⟨⟨k, s, G, h⟩, rfl⟩ | ⟨p2, rfl⟩)
 ·exact .pure (X fun Y => h (Y.ports k s G))
 simp only [Sum.elim_inl]
 unfold Ip.J9
 refine .bind (Ok.any (d := 9) (P := fun _ s => ¬ StnOk s) fun k s G => ?_) ?_
 ·unfold Ip.B11
  refine .test ?_
  simp only [Bool.or_eq_true, Cx]
  exact ⟨fun h G => h.elim (fun h => h G.head) fun h => h.elim (fun h => h G.fall) fun h => h G.suction, fun h => Classical.byContradiction fun hn => h ⟨by omega, by omega, by omega⟩⟩
 rintro _ (⟨⟨k, s, G, h⟩, rfl⟩ | ⟨p3, rfl⟩)
 ·exact .pure (X fun Y => h (Y.sts k s G))
 simp only [Sum.elim_inl]
 unfold Ip.J10
 refine Bu (Q := ¬ ((-100000 ≤ n.Vapour ∧ n.Vapour ≤ 100000000) ∧ 0 ≤ n.Settle ∧ n.Settle ≤ 100)) (by rw [Bool.or_eq_true, Cx, Cx]; omega) (fun h => .pure (X fun Y => h ⟨Y.vapour, Y.settle⟩)) fun h => ?_
 have h := Classical.not_not.1 h
 exact .pure (.inr ⟨W, .inr ⟨hf, .inr ⟨ht, .inr ⟨O, .inr ⟨⟨fun k s G => Classical.not_not.1 (p1 k s G), fun k s G => Classical.not_not.1 (p2 k s G), fun k s G => Classical.not_not.1 (p3 k s G), h.1, h.2⟩, rfl⟩⟩⟩⟩⟩)
theorem Z6 {n : Nw} (M : Sane n) : ∃ r, G3 n = some r ∧ Ip n = some r ∧ NetRes n r := by
 obtain ⟨r, O, G⟩ := eR M
 obtain ⟨Y, W, X⟩ := Zq M
 obtain rfl := G.uniq X
 exact ⟨r, O, W, G⟩
theorem Zy {n : Nw} {m : List Bool} {i k : Nat} {a b : Sg} (ha : n.Segments[i]? = some a) (hb : n.Segments[k]? = some b) (hm : m.length ≤ 1000) (h1 : 0 ≤ a.From ∧ a.From < (m.length : Int)) (h2 : 0 ≤ a.To ∧ a.To < (m.length : Int)) :
  Ok (Mi n m (i : Int) (k : Int)) fun r => r = sh m a b := by
 let Hit : Nat → Prop := fun y => m[y]? = some false ∧ (a.From = (y : Int) ∨ a.To = (y : Int)) ∧ (b.From = (y : Int) ∨ b.To = (y : Int))
 have aa : sh m a b = true ↔ ∃ y, y < m.length ∧ Hit y := by
  rw [Ti]
  constructor
  ·rintro ⟨x, O, M, W⟩
   have hx : 0 ≤ x ∧ x < (m.length : Int) := by rcases O with rfl | rfl <;> assumption
   obtain ⟨y, rfl⟩ := F8 hx.1
   have X : y < m.length := by omega
   refine ⟨y, X, ?_, O.imp Eq.symm Eq.symm, M.imp Eq.symm Eq.symm⟩
   rw [gq X]
   simp [List.getD, gq X] at W
   rw [W]
  ·rintro ⟨y, X, O, M, W⟩
   exact ⟨(y : Int), M.imp Eq.symm Eq.symm, W.imp Eq.symm Eq.symm, by simp [List.getD, O]⟩
 unfold Mi
 refine .bind' (.eq (Bb ha) (.bind' (.eq (Bb hb) ?_)))
 unfold Mi.J1
 refine .bind (Q := fun o : Bool ⊕ Unit => (o = .inl true ∧ ∃ y, y < m.length ∧ Hit y) ∨ (o = .inr () ∧ ¬ ∃ y, y < m.length ∧ Hit y)) (.loop (fun Z : Int => ∃ x : Nat, Z = (x : Int) ∧ x ≤ m.length ∧ ∀ y, y < x → ¬ Hit y) (fun Z => m.length + 1 - Z.toNat) ⟨0, rfl, Nat.zero_le _, fun y h => absurd h (Nat.not_lt_zero _)⟩ (by omega) ?_) ?_
 ·rintro _ ⟨x, rfl, hx, hI⟩
  unfold Mi.B3
  refine Au (fun hc => ?_) fun hc => .pure (.inr ⟨rfl, fun ⟨y, X, hh⟩ => hI y (by omega) hh⟩)
  have ab : x < m.length := by omega
  have G : m[x]? = some (m[x]'ab) := gq _
  have Y : ∀ c : Bool, (c = true ↔ Hit x) → Ok (Mi.J4 (x : Int) c) (Sum.elim (fun Z : Int => (∃ x : Nat, Z = (x : Int) ∧ x ≤ m.length ∧ ∀ y, y < x → ¬ Hit y) ∧ m.length + 1 - Z.toNat < m.length + 1 - (x : Int).toNat) fun o => (o = .inl true ∧ ∃ y, y < m.length ∧ Hit y) ∨ (o = .inr () ∧ ¬ ∃ y, y < m.length ∧ Hit y)) := by
   intro c ac
   unfold Mi.J4
   refine Bu ac (fun h => .pure (.inl ⟨rfl, x, ab, h⟩)) fun h => .pure ⟨⟨x + 1, ?_, by omega, fun y X => ?_⟩, ?_⟩
   ·rw [As (by omega)]; omega
   ·by_cases hyx : y = x
    ·subst hyx; exact h
    ·exact hI y (by omega)
   ·rw [As (by omega)]; omega
  refine .bind' (.eq (Bb G) ?_)
  dsimp only
  refine Fm (fun hf => ?_) fun hf => Y _ ⟨fun h => (by cases h), fun h => by have := h.1; rw [G, hf] at this; cases this⟩
  rw [hf] at G
  refine Ec (fun O => Ec (fun M => Y _ ⟨fun _ => ⟨G, .inl O, .inl M⟩, fun _ => rfl⟩) fun M => Y _ ?_) fun O => Ec (fun W => Ec (fun M => Y _ ⟨fun _ => ⟨G, .inr W, .inl M⟩, fun _ => rfl⟩) fun M => Y _ ?_) fun W => Y _ ⟨fun h => (by cases h), fun h => absurd h.2.1 fun h => h.elim O W⟩
  ·rw [beq_iff_eq]
   exact ⟨fun h => ⟨G, .inl O, .inr h⟩, fun h => h.2.2.resolve_left M⟩
  ·rw [beq_iff_eq]
   exact ⟨fun h => ⟨G, .inr W, .inr h⟩, fun h => h.2.2.resolve_left M⟩
 ·rintro _ (⟨rfl, h⟩ | ⟨rfl, h⟩)
  ·exact .pure (aa.2 h).symm
  ·unfold Mi.J2
   refine .pure ?_
   cases hs : sh m a b with
   | false => rfl
   | true => exact absurd (aa.1 hs) h
def Lk (N : Nat) (ρ : Nat → Nat) : Li := (List.range N).map fun k => (ρ k : Int)
theorem Fj (N : Nat) (ρ : Nat → Nat) : (Lk N ρ).length = N := by simp [Lk]
theorem Fk {N k : Nat} {ρ : Nat → Nat} (h : k < N) : (Lk N ρ)[k]? = some (ρ k : Int) := by simp [Lk, h]
def bM (ρ : Nat → Nat) (i v : Nat) : Nat → Nat := fun x => if x = i then v else ρ x
theorem U9 {N i v : Nat} {ρ : Nat → Nat} : (Lk N ρ).set i (v : Int) = Lk N (bM ρ i v) := by
 refine List.ext_getElem? fun x => ?_
 rw [Vb, Fj]
 by_cases M : x < N
 ·rw [Fk M, Fk M]
  unfold bM
  by_cases h : i = x
  ·rw [if_pos ⟨h, by omega⟩, if_pos h.symm]
  ·rw [if_neg (fun G => h G.1), if_neg (fun G => h G.symm)]
 ·rw [if_neg (fun h => M (by omega)), List.getElem?_eq_none (by rw [Fj]; omega), List.getElem?_eq_none (by rw [Fj]; omega)]
def sm (ρ : Nat → Nat) : Nat → Nat
 | 0 => 0
 | k + 1 => sm ρ k + ρ k
theorem dT {ρ : Nat → Nat} : ∀ {k : Nat}, (∀ x, x < k → ρ x ≤ x) → sm ρ k ≤ k * k
 | 0, _ => by simp [sm]
 | k + 1, h => by
  have G := dT (k := k) fun x O => h x (by omega)
  have M := h k (by omega)
  simp only [sm]
  have : (k + 1) * (k + 1) = k * k + 2 * k + 1 := by rw [Nat.add_mul, Nat.mul_add]; omega
  omega
theorem dR {ρ : Nat → Nat} {i v : Nat} : ∀ {k : Nat}, sm (bM ρ i v) k + (if i < k then ρ i else 0) = sm ρ k + if i < k then v else 0
 | 0 => by simp [sm]
 | k + 1 => by
  have O := dR (ρ := ρ) (i := i) (v := v) (k := k)
  simp only [sm, bM]
  by_cases G : i = k
  ·subst G
   simp only [Nat.lt_irrefl, if_false] at O
   simp only [if_true, Nat.lt_succ_self]
   omega
  ·by_cases M : i < k
   ·simp only [M, if_true] at O
    rw [if_neg (fun h => G h.symm), if_pos (by omega), if_pos (by omega)]
    omega
   ·simp only [M, if_false] at O
    rw [if_neg (fun h => G h.symm), if_neg (by omega), if_neg (by omega)]
    omega
theorem Cn.up {n : Nw} {m : List Bool} {N i k : Nat} {ρ : Nat → Nat} (h : Cn n m N ρ) (hi : i < N) (O : k < N) (X : Te n m i k) (W : ρ k < ρ i) : Cn n m N (bM ρ i (ρ k)) := by
 have Y := h.1 i hi
 refine ⟨fun x G => ?_, fun σ M x G => ?_⟩
 ·unfold bM
  split
  ·omega
  ·exact h.1 x G
 ·unfold bM
  split
  ·rename_i e
   rw [e, h.2 σ M k O]; exact (M _ _ X).symm
  ·exact h.2 σ M x G
structure Pass (n : Network) (m : List Bool) (N : Nat) (ρ0 ρ : Nat → Nat) (again : Bool) (Seen : Nat → Nat → Prop) : Prop where
 cn : Cn n m N ρ
 yes : again = true → sm ρ N < sm ρ0 N
 no : again = false → ρ = ρ0 ∧ ∀ i k, i < N → k < N → Seen i k → ¬ (ρ0 k < ρ0 i ∧ Te n m i k)
theorem Pass.le {n : Nw} {m : List Bool} {N : Nat} {ρ0 ρ : Nat → Nat} {G : Bool} {S : Nat → Nat → Prop} (h : Pass n m N ρ0 ρ G S) : sm ρ N ≤ sm ρ0 N := by
 cases G with
 | true => exact Nat.le_of_lt (h.yes rfl)
 | false => rw [(h.no rfl).1]; exact Nat.le_refl _
theorem Pass.next {n : Nw} {m : List Bool} {N i k : Nat} {ρ0 ρ : Nat → Nat} {W : Bool} {S S' : Nat → Nat → Prop} (h : Pass n m N ρ0 ρ W S) (hs : ∀ G M, S' G M → S G M ∨ (G = i ∧ M = k)) (hn : ¬ (ρ k < ρ i ∧ Te n m i k)) : Pass n m N ρ0 ρ W S' := by
 refine ⟨h.cn, h.yes, fun O => ⟨(h.no O).1, fun G M Z hk Y => ?_⟩⟩
 rcases hs G M Y with X | ⟨rfl, rfl⟩
 ·exact (h.no O).2 G M Z hk X
 ·rw [← (h.no O).1]; exact hn
theorem Pass.upd {n : Nw} {m : List Bool} {N i k : Nat} {ρ0 ρ : Nat → Nat} {M : Bool} {S S' : Nat → Nat → Prop} (h : Pass n m N ρ0 ρ M S) (hi : i < N) (W : k < N) (X : Te n m i k) (G : ρ k < ρ i) : Pass n m N ρ0 (bM ρ i (ρ k)) true S' := by
 refine ⟨h.cn.up hi W X G, fun _ => ?_, fun h => by cases h⟩
 have O := dR (ρ := ρ) (i := i) (v := ρ k) (k := N)
 rw [if_pos hi, if_pos hi] at O
 have := h.le
 omega
theorem eM {n : Nw} (hn : NetC n) {m : List Bool} (hm : m.length = n.Nodes.length) {N : Nat} (hN : N = n.Segments.length) {ρ0 : Nat → Nat} {i : Nat} (hi : i < N) {ρ : Nat → Nat} {M : Bool} {x1 : Li} {x2 : Bool} (h : Pass n m N ρ0 ρ M fun G _ => G < i) :
  Ok (Bj (Ic.B12 n m (x1, x2, (i : Int))) Da (Lk N ρ, M, 0)) fun d => ∃ ρ' ag', d = (Lk N ρ', ag') ∧ Pass n m N ρ0 ρ' ag' fun G _ => G < i + 1 := by
 have hl := hn.segs1
 have hno := hn.nodes
 refine .loop (fun st : Li × Bool × Int => ∃ (ρ : Nat → Nat) (M : Bool) (k : Nat), st = (Lk N ρ, M, (k : Int)) ∧ k ≤ N ∧ Pass n m N ρ0 ρ M fun G Y => G < i ∨ (G = i ∧ Y < k)) (fun st => N + 1 - st.2.2.toNat)
  ⟨ρ, M, 0, rfl, Nat.zero_le _, h.cn, h.yes, fun W => ⟨(h.no W).1, fun G Y X h2 h3 => (h.no W).2 G Y X h2 (h3.resolve_right fun h => absurd h.2 (Nat.not_lt_zero _))⟩⟩ (by dsimp only; omega) ?_
 rintro _ ⟨ρ, M, k, rfl, hk, hP⟩
 unfold Ic.B12
 dsimp only
 rw [Fj]
 refine Au (fun hc => ?_) fun hc => .pure ?_
 ·have hkN : k < N := by omega
  obtain ⟨a, W⟩ : ∃ a, n.Segments[i]? = some a := ⟨_, gq (by omega)⟩
  obtain ⟨b, hb⟩ : ∃ b, n.Segments[k]? = some b := ⟨_, gq (by omega)⟩
  have hea := (hn.segs i a W).1
  have Z : ¬ (ρ k < ρ i ∧ Te n m i k) → Ok (Ic.J14 (x1, x2, (i : Int)) (Lk N ρ, M, (k : Int)) false) (Sum.elim (fun st : Li × Bool × Int => (∃ (ρ : Nat → Nat) (M : Bool) (k : Nat), st = (Lk N ρ, M, (k : Int)) ∧ k ≤ N ∧ Pass n m N ρ0 ρ M fun G Y => G < i ∨ (G = i ∧ Y < k)) ∧ N + 1 - st.2.2.toNat < N + 1 - (k : Int).toNat) fun d => ∃ ρ' ag', d = (Lk N ρ', ag') ∧ Pass n m N ρ0 ρ' ag' fun G _ => G < i + 1) := by
   intro hno
   unfold Ic.J14 Ic.J13
   refine Av (fun h => by cases h) fun _ => .pure ⟨⟨ρ, M, k + 1, ?_, by omega, hP.next (fun G Y h => ?_) hno⟩, ?_⟩
   ·dsimp only; rw [As (by omega)]; rfl
   ·rcases h with h | ⟨X, h2⟩
    ·exact .inl (.inl h)
    ·by_cases e : Y = k
     ·exact .inr ⟨X, e⟩
     ·exact .inl (.inr ⟨X, by omega⟩)
   ·dsimp only; rw [As (by omega)]; omega
  refine .bind' (.eq (Bb (Fk hkN)) (.bind' (.eq (Bb (Fk hi)) (Au (fun O => ?_) fun O => Z fun h => O (by dsimp only; omega)))))
  dsimp only at O
  have O : ρ k < ρ i := by omega
  refine .bind (Zy W hb (by omega) (by omega) (by omega)) ?_
  rintro _ rfl
  cases hs : sh m a b with
  | false =>
   refine Z fun h => ?_
   obtain ⟨s, t, X, h2, h3⟩ := h.2
   rw [W] at X; rw [hb] at h2
   cases X; cases h2
   rw [hs] at h3; cases h3
  | true =>
   unfold Ic.J14 Ic.J13
   refine Av (fun _ => .bind' (.eq (Bb (Fk hkN)) (.bind' (.eq (Bb (Fk hi)) (.pure ⟨⟨bM ρ i (ρ k), true, k + 1, ?_, by omega, hP.upd hi hkN ⟨a, b, W, hb, hs⟩ O⟩, ?_⟩))))) fun h => by cases h
   ·dsimp only; rw [U9, As (by omega)]; rfl
   ·dsimp only; rw [As (by omega)]; omega
 ·refine ⟨ρ, M, rfl, hP.cn, hP.yes, fun W => ⟨(hP.no W).1, fun G Y X h2 h3 => (hP.no W).2 G Y X h2 ?_⟩⟩
  by_cases e : G = i
  ·exact .inr ⟨e, by omega⟩
  ·exact .inl (by omega)
theorem eN {n : Nw} (Z : NetC n) {m : List Bool} (hm : m.length = n.Nodes.length) {N : Nat} (hN : N = n.Segments.length) {ρ0 : Nat → Nat} (h0 : Cn n m N ρ0) :
  Ok (Bj (Ic.B10 n m) Da (Lk N ρ0, false, 0)) fun d => ∃ ρ' G, d = (Lk N ρ', G) ∧ Pass n m N ρ0 ρ' G fun O _ => O < N := by
 have hl := Z.segs1
 refine .loop (fun X : Li × Bool × Int => ∃ (ρ : Nat → Nat) (M : Bool) (i : Nat), X = (Lk N ρ, M, (i : Int)) ∧ i ≤ N ∧ Pass n m N ρ0 ρ M fun O _ => O < i) (fun X => N + 1 - X.2.2.toNat)
  ⟨ρ0, false, 0, rfl, Nat.zero_le _, h0, fun h => (by cases h), fun _ => ⟨rfl, fun O k' _ _ h => absurd h (Nat.not_lt_zero _)⟩⟩ (by dsimp only; omega) ?_
 rintro _ ⟨ρ, M, i, rfl, hi, Y⟩
 unfold Ic.B10
 dsimp only
 rw [Fj]
 refine Au (fun hc => .bind (eM Z hm hN (by omega) Y) ?_) fun hc => .pure ?_
 ·rintro _ ⟨ρ', G, rfl, W⟩
  unfold Ic.J11
  refine .pure ⟨⟨ρ', G, i + 1, ?_, by omega, W⟩, ?_⟩
  ·dsimp only; rw [As (by omega)]; rfl
  ·dsimp only; rw [As (by omega)]; omega
 ·have : i = N := by omega
  subst this
  exact ⟨ρ, M, rfl, Y⟩
theorem S1 {n : Nw} (hn : NetC n) (h12 : Ip n = some 0) {m : List Bool} (hm : m.length = n.Nodes.length) : Ok (Ic n m) fun r => r.2 = 0 ∧ ∃ ρ, Reps n m ρ ∧ r.1 = (hd ρ n.Segments.length).map (gr ρ n.Segments.length) := by
 have hl := hn.segs1
 have O := hn.nodes
 obtain ⟨N, hN⟩ : ∃ N, N = n.Segments.length := ⟨_, rfl⟩
 unfold Ic
 refine .bind' (.eq h12 (C3 (fun h => absurd rfl h) fun _ => C3 (fun h => absurd (by omega) h) fun _ => ?_))
 refine .bind (Q := fun l : Li => l = List.replicate N 0) (by
  unfold dO
  exact ⟨_, if_pos (by unfold Yu; omega), by rw [← hN]; simp⟩) ?_
 rintro _ rfl
 refine .bind (Q := fun d : Li => d = Lk N fun x => x) (.loop (fun G : Li × Int => ∃ k : Nat, k ≤ N ∧ G = (Lk N (fun x => if x < k then x else 0), (k : Int))) (fun G => N + 1 - G.2.toNat) ⟨0, Nat.zero_le _, by simp [Lk, List.map_const']⟩ (by dsimp only; omega) ?_) ?_
 ·rintro _ ⟨k, hk, rfl⟩
  unfold Ic.B15
  dsimp only
  rw [Fj]
  refine Au (fun Y => ?_) fun Y => .pure ?_
  ·refine .bind' (.eq (Bb (Fk (by omega))) (.pure ⟨⟨k + 1, by omega, ?_⟩, ?_⟩))
   ·dsimp only
    rw [As (by omega), U9]
    congr 1
    unfold bM Lk
    refine List.map_congr_left fun x _ => ?_
    by_cases h : x = k
    ·subst h; simp
    ·by_cases h' : x < k
     ·simp [h, h', Nat.lt_succ_of_lt h']
     ·have : ¬ x < k + 1 := by omega
      simp [h, h', this]
   ·dsimp only; rw [As (by omega)]; omega
  ·have : k = N := by omega
   subst this
   show Lk k _ = Lk k _
   unfold Lk
   refine List.map_congr_left fun x Z => ?_
   rw [List.mem_range] at Z
   simp [Z]
 rintro _ rfl
 unfold Ic.J1
 have X : Ok (Bj (Ic.B9 n m) Da (Lk N (fun x => x), true)) fun d => ∃ ρ, Reps n m ρ ∧ d = Lk N ρ := by
  refine .loopE (m := 2 * sm (fun x => x) N + 1) (fun μ (G : Li × Bool) => ∃ ρ, G.1 = Lk N ρ ∧ Cn n m N ρ ∧ (G.2 = false → Reps n m ρ) ∧ μ = 2 * sm ρ N + if G.2 = true then 1 else 0) ⟨fun x => x, rfl, ⟨fun x _ => Nat.le_refl _, fun _ _ _ _ => rfl⟩, fun h => (by cases h), rfl⟩ ?_ ?_
  ·have h1 := dT (ρ := fun x => x) (k := N) fun x _ => Nat.le_refl _
   have h2 : N * N ≤ 32 * 32 := Nat.mul_le_mul (by omega) (by omega)
   omega
  ·rintro μ ⟨of, ag⟩ ⟨ρ, h1, hC, hR, rfl⟩
   dsimp only at h1
   subst h1
   unfold Ic.B9
   cases ag with
   | false => exact Av (fun h => by cases h) fun _ => .pure ⟨ρ, hR rfl, rfl⟩
   | true =>
    refine Av (fun _ => .bind (eN hn hm hN hC) ?_) fun h => by cases h
    rintro _ ⟨ρ', ag', rfl, W⟩
    refine .pure ⟨_, ?_, ρ', rfl, W.cn, fun ha => ?_, rfl⟩
    ·cases ag' with
     | true => have := W.yes rfl; simp only [if_true]; omega
     | false => rw [(W.no rfl).1]; simp
    ·dsimp only at ha
     have O := (W.no ha).2
     rw [← (W.no ha).1] at O
     refine ⟨fun x y hxy => ?_, hN ▸ W.cn⟩
     obtain ⟨s, t, e1, e2, e3⟩ := hxy
     have Z := (gs e1).1
     have hy := (gs e2).1
     have a1 := O x y (by omega) (by omega) (by omega)
     have a2 := O y x (by omega) (by omega) (by omega)
     have b1 : ¬ ρ' y < ρ' x := fun h => a1 ⟨h, s, t, e1, e2, e3⟩
     have b2 : ¬ ρ' x < ρ' y := fun h => a2 ⟨h, t, s, e2, e1, Ut e3⟩
     omega
 refine .bind X ?_
 rintro _ ⟨ρ, hR, rfl⟩
 unfold Ic.J2
 refine .bind (Q := fun d : List Li => d = (hd ρ N).map (gr ρ N)) (.loop (fun G : List Li × Int => ∃ i : Nat, i ≤ N ∧ G = ((hd ρ i).map (gr ρ N), (i : Int))) (fun G => N + 1 - G.2.toNat) ⟨0, Nat.zero_le _, rfl⟩ (by dsimp only; omega) ?_) ?_
 ·rintro _ ⟨i, hi, rfl⟩
  unfold Ic.B4
  dsimp only
  rw [Fj]
  refine Au (fun Y => ?_) fun Y => .pure (by have : i = N := (by omega); subst this; rfl)
  have hiN : i < N := by omega
  refine .bind (Q := fun d : Li => d = gr ρ N i) (.loop (fun G : Li × Int => ∃ k : Nat, k ≤ N ∧ G = (gr ρ k i, (k : Int))) (fun G => N + 1 - G.2.toNat) ⟨0, Nat.zero_le _, rfl⟩ (by dsimp only; omega) ?_) ?_
  ·rintro _ ⟨k, hk, rfl⟩
   have hgl := Tp ρ k i
   unfold Ic.B7
   dsimp only
   rw [Fj]
   refine Au (fun Y => .bind' (.eq (Bb (Fk (by omega))) (Ec (fun M => .bind' (.app (by simp; omega) ?_)) fun M => ?_))) fun Y => .pure (by have : k = N := (by omega); subst this; rfl)
   ·dsimp only at M
    unfold Ic.J8
    refine .pure ⟨⟨k + 1, by omega, ?_⟩, ?_⟩
    ·dsimp only; rw [Hl, if_pos (by omega), As (by omega)]; rfl
    ·dsimp only; rw [As (by omega)]; omega
   ·dsimp only at M
    unfold Ic.J8
    refine .pure ⟨⟨k + 1, by omega, ?_⟩, ?_⟩
    ·dsimp only; rw [Hl, if_neg (by omega), As (by omega), List.append_nil]; rfl
    ·dsimp only; rw [As (by omega)]; omega
  rintro _ rfl
  have hdl := Tn ρ i
  have ne : (0 < (gr ρ N i).length) ↔ ρ i = i := by
   constructor
   ·intro h
    obtain ⟨x, Z⟩ : ∃ x, (gr ρ N i)[0]? = some x := ⟨_, gq h⟩
    obtain ⟨y, rfl, hy, M⟩ := Y9.1 (mg Z)
    rw [← M]; exact hR.idem (by omega)
   ·intro h
    have : (i : Int) ∈ gr ρ N i := Y9.2 ⟨i, rfl, hiN, h⟩
    exact List.length_pos_of_mem this
  unfold Ic.J6
  refine Au (fun hp => .bind' (.app (by simp; omega) ?_)) fun hp => ?_
  ·have M := ne.1 (by omega)
   unfold Ic.J5
   refine .pure ⟨⟨i + 1, by omega, ?_⟩, ?_⟩
   ·dsimp only; rw [Qx, if_pos M, List.map_append, As (by omega)]; rfl
   ·dsimp only; rw [As (by omega)]; omega
  ·have M : ρ i ≠ i := fun h => hp (by have := ne.2 h; omega)
   unfold Ic.J5
   refine .pure ⟨⟨i + 1, by omega, ?_⟩, ?_⟩
   ·dsimp only; rw [Qx, if_neg M, List.append_nil, As (by omega)]; rfl
   ·dsimp only; rw [As (by omega)]; omega
 rintro _ rfl
 unfold Ic.J3
 exact .pure ⟨rfl, ρ, hR, by rw [hN]⟩
theorem Z3 {ρ ρ' : Nat → Nat} {k r : Nat} (h : ∀ x, x < k → ρ x = ρ' x) : gr ρ k r = gr ρ' k r := by
 unfold gr
 congr 1
 exact List.filter_congr fun x G => by rw [h x (List.mem_range.1 G)]
theorem Z2 {ρ ρ' : Nat → Nat} {k : Nat} (h : ∀ x, x < k → ρ x = ρ' x) : hd ρ k = hd ρ' k := by
 unfold hd
 exact List.filter_congr fun x G => by rw [h x (List.mem_range.1 G)]
theorem Sz {n : Nw} (hn : Sane n) (m : List Bool) : ∃ r, Ik n m = some r ∧ Ic n m = some r ∧ r.1.length ≤ 32 ∧ ∀ l, l ∈ r.1 → l.length ≤ 32 := by
 obtain ⟨e, X, Y, h3⟩ := Z6 hn
 by_cases W : e = 0
 case neg =>
  refine ⟨([], e), ?_, ?_, by simp, by simp⟩
  ·unfold Ik
   rw [X, Option.bind_some, if_pos (by simpa using W)]
  ·unfold Ic
   rw [Y, Option.bind_some, if_pos (by simpa using W)]
 subst W
 have hc := h3.c X
 by_cases hm : m.length = n.Nodes.length
 case neg =>
  have M : ((m.length : Int) != (n.Nodes.length : Int)) = true := by simpa using fun h => hm (by omega)
  refine ⟨([], 9), ?_, ?_, by simp, by simp⟩
  ·unfold Ik
   rw [X, Option.bind_some, if_neg (by simp), if_pos M]
  ·unfold Ic
   rw [Y, Option.bind_some, if_neg (by simp), if_pos M]
 obtain ⟨⟨a, x⟩, g1, e1, ρ, hR, O⟩ := Vq hc hm
 obtain ⟨⟨b, y⟩, g2, e3, ρ', Z, e4⟩ := S1 hc Y hm
 dsimp only at e1 O e3 e4
 subst e1; subst e3
 have hu : ∀ x, x < n.Segments.length → ρ x = ρ' x := fun x hx => hR.uniq Z hx
 have : a = b := by
  rw [O, e4, Z2 hu]
  exact List.map_congr_left fun r _ => Z3 hu
 subst this
 have hl := hc.segs1
 refine ⟨_, g1, g2, ?_, fun l G => ?_⟩
 ·dsimp only; rw [O, List.length_map]; exact Nat.le_trans (Tn _ _) hl
 ·dsimp only at G; rw [O] at G
  obtain ⟨r, _, rfl⟩ := List.mem_map.1 G
  exact Nat.le_trans (Tp _ _ _) hl
theorem Vf : ∀ {a b : Li}, a.Pairwise (· < ·) → b.Pairwise (· < ·) → (∀ x, x ∈ a ↔ x ∈ b) → a = b
 | [], [], _, _, _ => rfl
 | [], y :: b, _, _, h => by have := (h y).2 (by simp); simp at this
 | x :: a, [], _, _, h => by have := (h x).1 (by simp); simp at this
 | x :: a, y :: b, ha, hb, h => by
  rw [List.pairwise_cons] at ha hb
  have e : x = y := by
   have G := (h x).1 (by simp)
   have M := (h y).2 (by simp)
   rcases List.mem_cons.1 G with G | G
   ·exact G
   ·rcases List.mem_cons.1 M with M | M
    ·exact M.symm
    ·have := ha.1 y M; have := hb.1 x G; omega
  subst e
  rw [Vf ha.2 hb.2 fun z => ⟨fun O => ?_, fun O => ?_⟩]
  ·rcases List.mem_cons.1 ((h z).1 (List.mem_cons_of_mem _ O)) with e | e
   ·have := ha.1 z O; omega
   ·exact e
  ·rcases List.mem_cons.1 ((h z).2 (List.mem_cons_of_mem _ O)) with e | e
   ·have := hb.1 z O; omega
   ·exact e
theorem Ri {s : Li} {v : Int} : L7 s v = some (decide (v ∈ s)) := by
 have : Ok (L7 s v) fun r => r = decide (v ∈ s) := by
  unfold L7 Qd
  refine .bind (Q := fun r : Int => (r = -1 ∧ v ∉ s) ∨ (0 ≤ r ∧ v ∈ s)) (.bind' (.forL (fun k _ => ∀ (j : Nat) (y : Int), j < k → s[j]? = some y → v ≠ y) (fun r => 0 ≤ r ∧ v ∈ s) (fun j y h => absurd h (Nat.not_lt_zero _)) ?_ ?_ ?_)) ?_
  ·intro k x _ X G
   unfold Qd.B2
   refine Ec (fun h => .pure ⟨by omega, h ▸ mg X⟩) fun h => .pure fun j y M W => ?_
   by_cases O : j < k
   ·exact G j y O W
   ·have : j = k := by omega
    subst this
    rw [X] at W; cases W; exact h
  ·intro _ G
   simp only [Sum.elim_inl]
   unfold Qd.J1
   refine .pure (.inl ⟨rfl, fun hm => ?_⟩)
   obtain ⟨j, M⟩ := List.getElem?_of_mem hm
   exact G j v (gs M).1 M rfl
  ·exact fun b Z => .pure (.inr Z)
  ·rintro r (⟨rfl, h⟩ | ⟨Y, h⟩)
   ·exact .pure (by simp [h])
   ·exact .pure (by simp [h, Y])
 obtain ⟨r, h, rfl⟩ := this
 exact h
theorem Gq {s : List Li} {P : Li → Bool} : Me s (fun x => some (P x)) = some (s.any P) := by
 have : Ok (Me s fun x => some (P x)) fun r => r = s.any P := by
  unfold Me Qh
  refine .bind (Q := fun r : Int => (r = -1 ∧ s.any P = false) ∨ (0 ≤ r ∧ s.any P = true)) (.bind' (.forL (fun k _ => ∀ (j : Nat) (y : Li), j < k → s[j]? = some y → P y = false) (fun r => 0 ≤ r ∧ s.any P = true) (fun j y h => absurd h (Nat.not_lt_zero _)) ?_ ?_ ?_)) ?_
  ·intro k x _ G M
   unfold Qh.B2
   refine .bind' (.pure (Av (fun W => .pure ⟨by omega, List.any_eq_true.2 ⟨x, mg G, W⟩⟩) fun W => .pure fun j y O X => ?_))
   by_cases h : j < k
   ·exact M j y h X
   ·have : j = k := by omega
    subst this
    rw [G] at X; cases X; exact W
  ·intro _ M
   simp only [Sum.elim_inl]
   unfold Qh.J1
   refine .pure (.inl ⟨rfl, ?_⟩)
   rw [List.any_eq_false]
   intro x G
   obtain ⟨j, O⟩ := List.getElem?_of_mem G
   rw [M j x (gs O).1 O]; simp
  ·exact fun b Z => .pure (.inr Z)
  ·rintro r (⟨rfl, h⟩ | ⟨Y, h⟩)
   ·exact .pure (by rw [h]; rfl)
   ·exact .pure (by rw [h]; simpa using Y)
 obtain ⟨r, h, rfl⟩ := this
 exact h
theorem cS {s : Li} {g : Int → Option Bool} {P : Int → Bool} (hs : s.length ≤ 1000) (hg : ∀ x, g x = some (P x)) : L3 s g = some (s.filter fun x => !P x) := by
 have : Ok (L3 s g) fun r => r = s.filter fun x => !P x := by
  unfold L3 Is
  refine .bind (Q := fun r : Int => (r = -1 ∧ ∀ x, x ∈ s → P x = false) ∨ ∃ k : Nat, r = (k : Int) ∧ k < s.length ∧ (∀ x, s[k]? = some x → P x = true) ∧ ∀ (j : Nat) (y : Int), j < k → s[j]? = some y → P y = false) (.bind' (.forL (fun k _ => ∀ (j : Nat) (y : Int), j < k → s[j]? = some y → P y = false) (fun r => ∃ k : Nat, r = (k : Int) ∧ k < s.length ∧ (∀ x, s[k]? = some x → P x = true) ∧ ∀ (j : Nat) (y : Int), j < k → s[j]? = some y → P y = false) (fun j y h => absurd h (Nat.not_lt_zero _)) ?_ ?_ ?_)) ?_
  ·intro k x _ G Z
   unfold Is.B2
   refine .bind' (.eq (hg x) (Av (fun X => .pure ⟨k, rfl, (gs G).1, fun y M => by rw [G] at M; cases M; exact X, Z⟩) fun X => .pure fun j y O M => ?_))
   by_cases h : j < k
   ·exact Z j y h M
   ·have : j = k := by omega
    subst this
    rw [G] at M; cases M; exact X
  ·intro _ Z
   simp only [Sum.elim_inl]
   unfold Is.J1
   refine .pure (.inl ⟨rfl, fun x G => ?_⟩)
   obtain ⟨j, O⟩ := List.getElem?_of_mem G
   exact Z j x (gs O).1 O
  ·exact fun b hb => .pure (.inr hb)
  rintro r (⟨rfl, h⟩ | ⟨k, rfl, hk, hPk, hlt⟩)
  ·refine Av (fun _ => .pure ?_) fun h => by simp at h
   exact (List.filter_eq_self.2 fun x G => by simp [h x G]).symm
  refine Av (fun h => by rw [beq_iff_eq] at h; omega) fun _ => ?_
  rw [As (x := (k : Int) + 1) (by omega)]
  have st0 : (s.take (k + 1)).filter (fun x => !P x) = s.take k := by
   have G : s[k]? = some (s[k]'hk) := gq _
   rw [List.take_add_one, G, Option.toList_some, List.filter_append, List.filter_eq_self.2]
   ·simp [hPk _ G]
   ·intro y M
    obtain ⟨j, O⟩ := List.getElem?_of_mem M
    have hj' := (gs O).1
    simp at hj'
    rw [List.getElem?_take_of_lt (by omega)] at O
    simp [hlt j y (by omega) O]
  refine .bind (Q := fun d : Li × Int => ∃ i : Nat, d.2 = (i : Int) ∧ i ≤ d.1.length ∧ d.1.take i = s.filter fun x => !P x) (.loop (fun Y : Li × Int × Int => ∃ i j : Nat, Y.2.1 = (i : Int) ∧ Y.2.2 = (j : Int) ∧ i < j ∧ j ≤ s.length ∧ Y.1.length = s.length ∧ Y.1.take i = (s.take j).filter (fun x => !P x) ∧ ∀ x, j ≤ x → Y.1[x]? = s[x]?) (fun Y => s.length + 1 - Y.2.2.toNat)
   ⟨k, k + 1, rfl, rfl, by omega, by omega, rfl, st0.symm, fun _ _ => rfl⟩ (by dsimp only; omega) ?_) ?_
  ·rintro ⟨l, _, _⟩ ⟨i, j, rfl, rfl, hij, O, W, ht, he⟩
   dsimp only at W ht he
   unfold L3.B2
   dsimp only
   refine Au (fun hc => ?_) fun hc => .pure ⟨i, rfl, by dsimp only; omega, ?_⟩
   ·have G : s[j]? = some (s[j]'(by omega)) := gq _
    have hx' : l[j]? = some (s[j]'(by omega)) := (he j (Nat.le_refl _)).trans G
    have hsj : s.take (j + 1) = s.take j ++ [s[j]'(by omega)] := by rw [List.take_add_one, G]; rfl
    refine .bind' (.eq (Bb hx') (.bind' (.eq (hg _) (Fm (fun X => ?_) fun X => ?_))))
    ·refine .bind' (.ix' (by omega) (by omega) fun q y hq M => ?_)
     have : q = i := by omega
     subst this
     unfold L3.J3
     refine .pure ⟨⟨q + 1, j + 1, ?_, ?_, by omega, by omega, by simp [W], ?_, fun x hxj => ?_⟩, ?_⟩
     ·dsimp only; rw [As (by omega)]; rfl
     ·dsimp only; rw [As (by omega)]; rfl
     ·dsimp only
      rw [hsj, List.filter_append, ← ht, List.take_add_one, List.getElem?_set_self (by omega), List.take_set_of_le (Nat.le_refl _)]
      simp [X]
     ·dsimp only
      rw [List.getElem?_set_ne (by omega)]; exact he x (by omega)
     ·dsimp only; rw [As (by omega)]; omega
    ·unfold L3.J3
     refine .pure ⟨⟨i, j + 1, rfl, ?_, by omega, by omega, W, ?_, fun x hxj => he x (by omega)⟩, ?_⟩
     ·dsimp only; rw [As (by omega)]; rfl
     ·dsimp only
      rw [hsj, List.filter_append, ← ht]; simp [X]
     ·dsimp only; rw [As (by omega)]; omega
   ·have : j = s.length := by omega
    subst this
    rw [ht, List.take_length]
  ·rintro ⟨l, _⟩ ⟨i, rfl, Z, ht⟩
   unfold L3.J1
   refine .bind' (.sub 0 i rfl rfl (Nat.zero_le _) Z (.pure ?_))
   rw [List.drop_zero, Nat.sub_zero]; exact ht
 obtain ⟨r, h, rfl⟩ := this
 exact h
theorem dV {l : Li} {v : Int} (hl : l.length ≤ 1000) : Ii l v = some (decide (v ∈ l)) := by
 have : Ok (Ii l v) fun r => r = decide (v ∈ l) := by
  unfold Ii
  refine .bind (Ls (l := l) (k := l.length) (d := true) (P := fun y => y = v) (Nat.le_refl _) (by omega) (fun i y X M => ?_) ?_) ?_
  ·unfold Ii.B2
   exact Au (fun _ => .bind' (.eq (Bb M) (Bu beq_iff_eq (fun h => .pure (.inl ⟨h, rfl⟩)) fun h => .pure (.inr ⟨h, rfl⟩)))) fun h => by omega
  ·unfold Ii.B2
   rw [if_neg (by simp)]
  ·rintro _ (⟨⟨j, y, G, M, rfl⟩, rfl⟩ | ⟨W, rfl⟩)
   ·exact .pure (by simp [mg M])
   ·unfold Ii.J1
    refine .pure ?_
    have : v ∉ l := fun O => by
     obtain ⟨j, G⟩ := List.getElem?_of_mem O
     exact W ⟨j, v, (gs G).1, G, rfl⟩
    simp [this]
 obtain ⟨r, h, rfl⟩ := this
 exact h
theorem fR {l : Li} {v : Int} (hl : l.length ≤ 1000) (Z : l.Pairwise (· < ·)) (hv : v ∉ l) : Ok (Mb l v) fun r => r.Pairwise (· < ·) ∧ (∀ y, y ∈ r ↔ y = v ∨ y ∈ l) ∧ r.length = l.length + 1 := by
 unfold Mb
 refine .bind (Q := fun d : Int => ∃ k : Nat, d = (k : Int) ∧ k ≤ l.length ∧ (∀ (x : Nat) (y : Int), k ≤ x → l[x]? = some y → v < y) ∧ ∀ y, k ≠ 0 → l[k - 1]? = some y → y < v) (.loop (fun st : Int => ∃ k : Nat, st = (k : Int) ∧ k ≤ l.length ∧ ∀ (x : Nat) (y : Int), k ≤ x → l[x]? = some y → v < y) (fun st => st.toNat) ⟨l.length, rfl, Nat.le_refl _, fun x y h G => by have := (gs G).1; omega⟩ (by omega) ?_) ?_
 ·rintro _ ⟨k, rfl, W, Y⟩
  unfold Mb.B2
  refine Au (fun hc => ?_) fun hc => ?_
  ·rw [As (x := (k : Int) - 1) (by omega), show (k : Int) - 1 = ((k - 1 : Nat) : Int) by omega]
   have O : l[k - 1]? = some (l[k - 1]'(by omega)) := gq _
   refine .bind' (.eq (Bb O) ?_)
   unfold Mb.J3
   refine Au (fun hg => .pure ⟨⟨k - 1, ?_, by omega, fun x y hxk G => ?_⟩, ?_⟩) fun hg => .pure ⟨k, rfl, W, Y, fun y _ G => ?_⟩
   ·rw [As (by omega)]; omega
   ·by_cases e : x = k - 1
    ·subst e; rw [O] at G; cases G; exact hg
    ·exact Y x y (by omega) G
   ·rw [As (by omega)]; omega
   ·rw [O] at G; cases G
    have : l[k - 1]'(by omega) ≠ v := fun e => hv (e ▸ List.getElem_mem _)
    dsimp only at hg
    omega
  ·unfold Mb.J3
   exact Av (fun h => by cases h) fun _ => .pure ⟨k, rfl, W, Y, fun y h => by omega⟩
 ·rintro _ ⟨k, rfl, W, h1, h2⟩
  unfold Mb.J1
  refine .bind' (.sub 0 k rfl rfl (Nat.zero_le _) W (.bind' (.app (by simp; omega) (.bind' (.app (by simp; omega) (.bind' (.sub k l.length rfl rfl W (Nat.le_refl _) (.bind' (.app (by simp; omega) (.pure ?_))))))))))
  have e1 : (l.drop 0).take (k - 0) = l.take k := by simp
  have e2 : (l.drop k).take (l.length - k) = l.drop k := List.take_of_length_le (by simp)
  rw [e1, e2, List.nil_append]
  refine ⟨?_, fun y => ?_, ?_⟩
  ·rw [List.append_assoc, List.pairwise_append]
   refine ⟨Z.sublist (List.take_sublist _ _), ?_, ?_⟩
   ·rw [List.singleton_append, List.pairwise_cons]
    refine ⟨fun y G => ?_, Z.sublist (List.drop_sublist _ _)⟩
    obtain ⟨j, M⟩ := List.getElem?_of_mem G
    rw [List.getElem?_drop] at M
    exact h1 _ y (by omega) M
   ·have lt : ∀ x, x ∈ l.take k → x < v := fun x O => by
     obtain ⟨j, M⟩ := List.getElem?_of_mem O
     have hj' := (gs M).1
     simp at hj'
     rw [List.getElem?_take_of_lt (by omega)] at M
     have X : l[k - 1]? = some (l[k - 1]'(by omega)) := gq _
     have h3 := h2 _ (by omega) X
     by_cases e : j = k - 1
     ·subst e; rw [X] at M; cases M; exact h3
     ·have := List.pairwise_iff_getElem.1 Z j (k - 1) (by omega) (by omega) (by omega)
      rw [gq (by omega)] at M
      cases M
      omega
    intro x O y G
    rcases List.mem_append.1 G with G | G
    ·simp at G; subst G; exact lt x O
    ·obtain ⟨j, M⟩ := List.getElem?_of_mem G
     rw [List.getElem?_drop] at M
     have := h1 _ y (by omega) M
     have := lt x O
     omega
  ·have : y ∈ l ↔ y ∈ l.take k ∨ y ∈ l.drop k := by rw [← List.mem_append, List.take_append_drop]
   simp only [List.mem_append, List.mem_singleton, this]
   exact ⟨fun h => h.elim (fun h => h.elim (fun h => .inr (.inl h)) .inl) fun h => .inr (.inr h), fun h => h.elim (fun h => .inl (.inr h)) fun h => h.elim (fun h => .inl (.inl h)) .inr⟩
  ·simp; omega
end Go.Proofs.YtihdchjpepkpbaaGreat
