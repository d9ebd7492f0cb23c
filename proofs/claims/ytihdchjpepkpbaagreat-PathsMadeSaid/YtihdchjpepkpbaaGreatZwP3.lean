/- Plain proofs. No condition. -/
import Derived.Test.YtihdchjpepkpbaaGreatZwP2
import Derived.Test.YtihdchjpepkpbaaGreatZwP1
import Derived.Test.YtihdchjpepkpbaaGreatZwD
import Derived.Test.YtihdchjpepkpbaaGreatZwP0
import Derived.Test.YtihdchjpepkpbaaGreatZwB1
import Derived.ProofKit
import Derived.SizedLaws
import Derived.Carry
set_option maxRecDepth 100000
namespace Go.Proofs.YtihdchjpepkpbaaGreat
set_option linter.unusedVariables false
set_option linter.unusedSimpArgs false
open Go.Aw
theorem Y7 {s : Li} {v : Int} : Ok (Hu s v) fun r => r = true ↔ v ∈ s := by
 unfold Hu
 refine .bind Ix ?_
 rintro r (⟨rfl, h⟩ | ⟨k, y, rfl, W, G, _⟩)
 ·refine .pure ?_
  simp only [show decide ((-1 : Int) ≥ 0) = false from rfl, Bool.false_eq_true, false_iff]
  intro O
  obtain ⟨j, M⟩ := List.getElem?_of_mem O
  have := h j v M
  simp at this
 ·refine .pure ?_
  have := Int.natCast_nonneg k
  simp only [ge_iff_le, this, decide_true, true_iff]
  have : v = y := by simpa using G
  subst this; exact mg W
structure Ps (l : List Path) : Prop where
 len : l.length ≤ 1000
 hops : ∀ x, x ∈ l → x.Hops.length ≤ 1000
theorem Ok.fold {α β : Type} {f : Nat → α → List β → Option (List β)} {l : List α} (g : List β → α → List β) (hl : l.length ≤ 1000) (hg : ∀ st x, (g st x).length ≤ st.length + 1)
  (hf : ∀ k x st, l[k]? = some x → st.length ≤ 1000 → Ok (f k x st) fun r => r = g st x) : Ok (forS f 0 l []) fun r => r = l.foldl g [] := by
 refine .forS (fun k st => st = (l.take k).foldl g [] ∧ st.length ≤ k) ⟨rfl, by simp⟩ ?_ fun st h => by rw [h.1]; simp
 rintro k x st G ⟨M, O⟩
 have W := (gs G).1
 refine (hf k x st G (by omega)).mono ?_
 rintro r rfl
 refine ⟨?_, by have := hg st x; omega⟩
 rw [List.take_add_one, G, List.foldl_append, ← M]; rfl
theorem Pv {α β B : Type} {f : List β × Int → Option ((List β × Int) ⊕ B)} {l : List α} {d : List β → B} (g : List β → α → List β) (hl : l.length ≤ 1000) (hg : ∀ st x, (g st x).length ≤ st.length + 1)
  (hf : ∀ (k : Nat) x st, l[k]? = some x → st.length ≤ 1000 → Ok (f (st, (k : Int))) fun r => r = .inl (g st x, wr ((k : Int) + 1))) (he : ∀ st, f (st, (l.length : Int)) = some (.inr (d st))) :
  Ok (Cl f Du ([], 0)) fun r => r = d (l.foldl g []) := by
 refine .loop (fun st => ∃ k : Nat, st.2 = (k : Int) ∧ k ≤ l.length ∧ st.1 = (l.take k).foldl g [] ∧ st.1.length ≤ k) (fun st => l.length - st.2.toNat) ⟨0, rfl, by omega, rfl, by simp⟩ (by dsimp only; omega) ?_
 rintro ⟨st, i⟩ ⟨k, O, Y, M, X⟩
 dsimp only at O M X
 subst O
 by_cases G : k = l.length
 ·subst G
  rw [he]
  refine .pure ?_
  simp only [Sum.elim_inr]
  rw [M]; simp
 have W : l[k]? = some (l[k]'(by omega)) := gq _
 refine (hf k _ st W (by omega)).mono ?_
 rintro r rfl
 simp only [Sum.elim_inl]
 rw [Bn (by omega)]
 refine ⟨⟨k + 1, by omega, by omega, ?_, by have := hg st (l[k]'(by omega)); omega⟩, by omega⟩
 rw [List.take_add_one, W, List.foldl_append, ← M]; rfl
def Fo : List Path → Path → Option (Nat × Path)
 | [], _ => none
 | x :: l, p => if Alike x p then some (0, x) else (Fo l p).map fun r => (r.1 + 1, r.2)
theorem Pr {p : Path} : ∀ {l : List Path}, (∀ y, y ∈ l → ¬ Alike y p) → Fo l p = none
 | [], _ => rfl
 | x :: l, h => by unfold Fo; rw [if_neg (h x (by simp)), Pr fun y G => h y (by simp [G])]; rfl
theorem Kj {p : Path} : ∀ {l : List Path} {k : Nat} {y : Path}, Pe l p k y → Fo l p = some (k, y)
 | [], k, y, h => by simp [Pe] at h
 | x :: l, 0, y, h => by
  obtain ⟨G, M, _⟩ := h
  simp at G; subst G
  unfold Fo; rw [if_pos M]
 | x :: l, k + 1, y, h => by
  obtain ⟨G, M, O⟩ := h
  unfold Fo
  rw [if_neg (O 0 x (by omega) rfl), Kj (k := k) (y := y) ⟨by simpa using G, M, fun i z X W => O (i + 1) z (by omega) (by simpa using W)⟩]; rfl
def fI : Option (Nat × Path) → Int
 | none => -1
 | some r => r.1
theorem I4 {l : List Path} {p : Path} {r : Nat × Path} (h : Fo l p = some r) : l[r.1]? = some r.2 ∧ Alike r.2 p ∧ r.2 ∈ l := by
 induction l generalizing r with
 | nil => cases h
 | cons x l ih =>
  unfold Fo at h
  split at h
  ·rename_i G; cases h; exact ⟨rfl, G, by simp⟩
  ·cases hf : Fo l p with
   | none => rw [hf] at h; cases h
   | some q => rw [hf] at h; cases h; obtain ⟨a, b, c⟩ := ih hf; exact ⟨by simpa using a, b, by simp [c]⟩
theorem Tm (l : List Path) (p : Path) : L3 l p = some (fI (Fo l p)) := by
 refine So ?_
 unfold L3
 refine .bind (Q := fun r => r = fI (Fo l p)) ?_ fun r G => .pure G
 unfold Ly
 refine .bind' (.forL (fun k _ => ∀ (j : Nat) (y : Path), j < k → l[j]? = some y → ¬ Alike y p) (fun r => ∃ (m : Nat) (y : Path), r = (m : Int) ∧ Pe l p m y) (fun j y h => absurd h (Nat.not_lt_zero _)) ?_ ?_ ?_)
 ·intro k x _ Y O
  unfold Ly.B2 S8
  refine .bind (.bind Yw fun r G => .pure G) fun r G => A7 (fun h => .pure ⟨k, x, rfl, Y, G.1 h, O⟩) fun h => .pure fun j y W M => ?_
  by_cases X : j = k
  ·subst X
   rw [Y] at M; simp at M; subst M
   intro Z
   have := G.2 Z
   rw [h] at this; cases this
  ·exact O j y (by omega) M
 ·intro _ O
  simp only [Sum.elim_inl]
  unfold Ly.J1
  refine .pure ?_
  rw [Pr fun y M => ?_]
  ·rfl
  obtain ⟨j, W⟩ := List.getElem?_of_mem M
  exact O j y (gs W).1 W
 ·rintro b ⟨m, y, rfl, hf⟩
  refine .pure ?_
  rw [Kj hf]; rfl
theorem Pu {l : List Path} (h : Ps l) (p : Path) : Hx l p = some (fI (Fo l p)) := by
 refine So ((gZ h.hops h.len).mono ?_)
 rintro r (⟨rfl, h⟩ | ⟨k, y, rfl, h⟩)
 ·rw [Pr h]; rfl
 ·rw [Kj h]; rfl
def Yk (b : List Path) (st : List Path) (x : Path) : List Path := match Fo b x with
 | none => st
 | some r => st ++ [cE x (min x.Rate r.2.Rate)]
def cm (a b : List Path) : List Path := a.foldl (Yk b) []
theorem Tr (b st : List Path) (x : Path) : (Yk b st x).length ≤ st.length + 1 := by unfold Yk; split <;> simp
theorem hR {a b : List Path} (G : Ps a) : Of a b = some (cm a b) := by
 refine So ?_
 unfold Of
 refine .bind (Ok.fold (Yk b) G.len (Tr b) ?_) fun r O => .pure O
 intro k x st X W
 unfold Of.B2
 refine .bind' (.eq (Tm b x) ?_)
 unfold Yk
 cases hf : Fo b x with
 | none => exact Ax (fun h => by simp [fI] at h) fun _ => .pure rfl
 | some r =>
  obtain ⟨M, Y, Z⟩ := I4 hf
  refine Ax (fun _ => ?_) fun h => absurd (show (0 : Int) ≤ _ from Int.natCast_nonneg r.1) h
  refine .bind' (.eq (A8 M) (.bind' (.eq (Te (G.hops x (mg X)) _) (.bind' (.app (by simp; omega) (.pure rfl))))))
theorem Ye {a b : List Path} (O : Ps a) (hb : Ps b) : Jd a b = some (cm a b) := by
 refine So ?_
 unfold Jd
 refine .bind (Pv (d := fun M => M) (Yk b) O.len (Tr b) ?_ ?_) fun r X => .pure X
 ·intro k x M G Y
  have hk := (gs G).1
  unfold Jd.B2
  refine Ax (fun _ => ?_) fun h => absurd (by omega) h
  refine .bind' (.eq (A8 G) (.bind' (.eq (Pu hb x) ?_)))
  unfold Yk
  cases hf : Fo b x with
  | none => exact Ax (fun h => by simp [fI] at h) fun _ => .pure rfl
  | some r =>
   obtain ⟨W, Z, h3⟩ := I4 hf
   refine Ax (fun _ => ?_) fun h => absurd (show (0 : Int) ≤ _ from Int.natCast_nonneg r.1) h
   refine .bind' (.eq (Tp (O.hops x (mg G))) (.bind' (.eq (A8 W) (.bind' (.app (by simp; omega) (.pure rfl))))))
 ·intro M
  unfold Jd.B2
  rw [if_neg (by simp)]
theorem jB {a b : List Path} (Z : Ps a) : Ps (cm a b) := by
 have X : ∀ (m : List Path) (M : List Path), (∀ x, x ∈ m → x.Hops.length ≤ 1000) → (∀ x, x ∈ M → x.Hops.length ≤ 1000) → (m.foldl (Yk b) M).length ≤ M.length + m.length ∧ ∀ x, x ∈ m.foldl (Yk b) M → x.Hops.length ≤ 1000 := by
  intro m
  induction m with
  | nil => intro M _ h; exact ⟨by simp, h⟩
  | cons y m ih =>
   intro M hm O
   rw [List.foldl_cons]
   obtain ⟨Y, W⟩ := ih (Yk b M y) (fun x G => hm x (by simp [G])) (fun x G => by
    unfold Yk at G
    split at G
    ·exact O x G
    ·rcases List.mem_append.1 G with G | G
     ·exact O x G
     ·simp at G; subst G; exact hm y (by simp))
   have := Tr b M y
   exact ⟨by simp; omega, W⟩
 obtain ⟨Y, W⟩ := X a [] Z.hops (by simp)
 exact ⟨by have := Z.len; unfold cm; simp at Y; omega, W⟩
def T7 (a : List Path) (x : Path) : Prop := match Fo a x with
 | none => True
 | some r => r.2.Rate < x.Rate
def kO (b : List Path) (x : Path) : Int := match Fo b x with
 | none => x.Rate
 | some r => wr (x.Rate - r.2.Rate)
def Yj (b : List Path) (st : List Path) (x : Path) : List Path := if kO b x = 0 then st else st ++ [cE x (kO b x)]
theorem Tj (b st : List Path) (x : Path) : (Yj b st x).length ≤ st.length + 1 := by unfold Yj; split <;> simp
def LessR (a b : List Path) (r : List Path × Bool) : Prop := ((∃ (k : Nat) (x : Path), b[k]? = some x ∧ T7 a x) ∧ r = ([], false)) ∨ ((∀ (k : Nat) (x : Path), b[k]? = some x → ¬ T7 a x) ∧ r = (a.foldl (Yj b) [], true))
theorem LessR.one {a b : List Path} {r r' : List Path × Bool} (h : LessR a b r) (W : LessR a b r') : r = r' := by
 rcases h with ⟨⟨k, x, M, X⟩, rfl⟩ | ⟨M, rfl⟩ <;> rcases W with ⟨⟨Y, Z, G, O⟩, rfl⟩ | ⟨G, rfl⟩
 ·rfl
 ·exact absurd X (G k x M)
 ·exact absurd O (M Y Z G)
 ·rfl
theorem iZ {a b : List Path} (O : Ps a) : Ok (Lg a b) (LessR a b) := by
 unfold Lg
 refine .bind (Ok.any (d := (([] : List Path), false)) (fun _ x => T7 a x) ?_) ?_
 ·intro k x W
  unfold Lg.B6
  refine .bind' (.eq (Tm a x) ?_)
  unfold T7
  cases hf : Fo a x with
  | none => exact Ax (fun _ => .pure (.inl ⟨trivial, rfl⟩)) fun h => by simp [fI] at h
  | some r =>
   obtain ⟨M, Y, Z⟩ := I4 hf
   refine Ax (fun h => absurd h (Int.not_lt.2 (Int.natCast_nonneg r.1))) fun _ => ?_
   refine .bind' (.eq (A8 M) ?_)
   unfold Lg.J7
   exact Ok.test (by simp)
 ·rintro _ (⟨h, rfl⟩ | ⟨h, rfl⟩)
  ·exact .pure (.inl ⟨h, rfl⟩)
  ·simp only [Sum.elim_inl]
   unfold Lg.J1
   refine .bind (Ok.fold (Yj b) O.len (Tj b) ?_) fun r hr => .pure (.inr ⟨h, by rw [hr]⟩)
   intro k x X W hst
   unfold Lg.B3
   refine .bind' (.eq (Tm b x) ?_)
   have G : ∀ v, v = kO b x → Ok (Lg.J5 x X v) fun r => r = Yj b X x := by
    rintro v rfl
    unfold Lg.J5 Yj
    refine A7 (fun h => ?_) fun h => ?_
    ·rw [if_neg (by simpa using h)]
     exact .bind' (.eq (Te (O.hops x (mg W)) _) (.bind' (.app (by simp; omega) (.pure rfl))))
    ·rw [if_pos (by simpa using h)]; exact .pure rfl
   unfold kO at G
   cases hf : Fo b x with
   | none => rw [hf] at G; exact Ax (fun h => by simp [fI] at h) fun _ => G _ rfl
   | some r =>
    rw [hf] at G
    obtain ⟨M, Y, Z⟩ := I4 hf
    refine Ax (fun _ => ?_) fun h => absurd (show (0 : Int) ≤ _ from Int.natCast_nonneg r.1) h
    exact .bind' (.eq (A8 M) (G _ rfl))
theorem Alike.symm {x y : Path} (h : Alike x y) : Alike y x := ⟨h.1.symm, h.2.1.symm, h.2.2.symm⟩
theorem Alike.trans {x y z : Path} (h : Alike x y) (k : Alike y z) : Alike x z := ⟨h.1.trans k.1, h.2.1.trans k.2.1, h.2.2.trans k.2.2⟩
def cQ (l : List Path) : Prop := ∀ (i j : Nat) (x y : Path), i < j → l[i]? = some x → l[j]? = some y → ¬ Alike x y
theorem Ri {x y : Path} (h : Alike x y) : ∀ l : List Path, Fo l x = Fo l y
 | [] => rfl
 | z :: l => by
  unfold Fo
  rw [Ri h l]
  by_cases G : Alike z x
  ·rw [if_pos G, if_pos (G.trans h)]
  ·rw [if_neg G, if_neg fun M => G (M.trans h.symm)]
theorem eF {l : List Path} (hl : cQ l) {x : Path} (hx : x ∈ l) : ∃ k, Fo l x = some (k, x) := by
 obtain ⟨k, G⟩ := List.getElem?_of_mem hx
 exact ⟨k, Kj ⟨G, ⟨rfl, rfl, rfl⟩, fun i z O W M => hl i k z x O W G M⟩⟩
theorem iY {a b : List Path} (Z : Ps a) (hb : Ps b) (aa : cQ a) (h0 : ∀ x, x ∈ a → 1 ≤ x.Rate ∧ x.Rate ≤ 1000) (h1 : ∀ x, x ∈ b → 1 ≤ x.Rate ∧ x.Rate ≤ 1000) : Ok (Lr a b) (LessR a b) := by
 unfold Lr
 refine .bind (Ig (l := b) (k := b.length) (d := (([] : List Path), false)) (fun x => T7 a x) (Nat.le_refl _) (by have := hb.len; omega) ?_ ?_) ?_
 ·intro k x hk M
  unfold Lr.B6
  refine Ax (fun _ => ?_) fun h => absurd (by omega) h
  refine .bind' (.eq (A8 M) (.bind' (.eq (Pu Z x) ?_)))
  unfold T7
  cases hf : Fo a x with
  | none => exact Ax (fun _ => .pure (.inl ⟨trivial, rfl⟩)) fun h => by simp [fI] at h
  | some r =>
   obtain ⟨h1, h2, h3⟩ := I4 hf
   refine Ax (fun h => absurd h (Int.not_lt.2 (Int.natCast_nonneg r.1))) fun _ => ?_
   refine .bind' (.eq (A8 h1) ?_)
   unfold Lr.J7
   by_cases Y : r.2.Rate < x.Rate
   ·rw [decide_eq_true Y]; exact .pure (.inl ⟨Y, rfl⟩)
   ·rw [decide_eq_false Y]; exact .pure (.inr ⟨Y, rfl⟩)
 ·unfold Lr.B6
  rw [if_neg (by simp)]
 ·rintro _ (⟨⟨k, x, hk, M, h⟩, rfl⟩ | ⟨h, rfl⟩)
  ·exact .pure (.inl ⟨⟨k, x, M, h⟩, rfl⟩)
  ·simp only [Sum.elim_inr]
   have W : ∀ (k : Nat) (x : Path), b[k]? = some x → ¬ T7 a x := fun k x M hl => h ⟨k, x, (gs M).1, M, hl⟩
   unfold Lr.J1
   refine .bind (Pv (d := fun X => X) (Yj b) Z.len (Tj b) ?_ ?_) fun r hr => .pure (.inr ⟨W, by rw [hr]⟩)
   ·intro k x X M hst
    have hk := (gs M).1
    have O := mg M
    unfold Lr.B3
    refine Ax (fun _ => ?_) fun h => absurd (by omega) h
    refine .bind' (.eq (A8 M) (.bind' (.eq (Tp (Z.hops x O)) (.bind' (.eq (Pu hb x) ?_)))))
    have hx0 := h0 x O
    have G : ∀ v, v = kO b x → 0 ≤ v → Ok (Lr.J5 (X, (k : Int)) x v) fun r => r = .inl (Yj b X x, wr ((k : Int) + 1)) := by
     rintro v rfl hv
     unfold Lr.J5 Yj
     refine Ax (fun h => ?_) fun h => ?_
     ·rw [if_neg (by omega)]
      exact .bind' (.app (by simp; omega) (.pure rfl))
     ·rw [if_pos (by omega)]; exact .pure rfl
    unfold kO at G
    cases hf : Fo b x with
    | none => rw [hf] at G; exact Ax (fun h => by simp [fI] at h) fun _ => G _ rfl (by dsimp only; omega)
    | some r =>
     rw [hf] at G
     obtain ⟨g1, g2, g3⟩ := I4 hf
     refine Ax (fun _ => ?_) fun h => absurd (show (0 : Int) ≤ _ from Int.natCast_nonneg r.1) h
     refine .bind' (.eq (A8 g1) (G _ rfl ?_))
     obtain ⟨q, hq⟩ := eF aa O
     have := W r.1 r.2 g1
     unfold T7 at this
     rw [Ri g2 a, hq] at this
     have hr0 := h1 _ g3
     dsimp only at this
     dsimp only
     rw [Bn (by omega)]; omega
   ·intro X
    unfold Lr.B3
    rw [if_neg (by simp)]
theorem X6 {a b : List Path} (Z : Ps a) {r : List Path × Bool} (h : LessR a b r) : Ps r.1 := by
 rcases h with ⟨_, rfl⟩ | ⟨_, rfl⟩
 ·exact ⟨by simp, by simp⟩
 have X : ∀ (m : List Path) (M : List Path), (∀ x, x ∈ m → x.Hops.length ≤ 1000) → (∀ x, x ∈ M → x.Hops.length ≤ 1000) → (m.foldl (Yj b) M).length ≤ M.length + m.length ∧ ∀ x, x ∈ m.foldl (Yj b) M → x.Hops.length ≤ 1000 := by
  intro m
  induction m with
  | nil => intro M _ h; exact ⟨by simp, h⟩
  | cons y m ih =>
   intro M hm O
   rw [List.foldl_cons]
   obtain ⟨Y, W⟩ := ih (Yj b M y) (fun x G => hm x (by simp [G])) (fun x G => by
    unfold Yj at G
    split at G
    ·exact O x G
    ·rcases List.mem_append.1 G with G | G
     ·exact O x G
     ·simp at G; subst G; exact hm y (by simp))
   have := Tj b M y
   exact ⟨by simp; omega, W⟩
 obtain ⟨Y, W⟩ := X a [] Z.hops (by simp)
 exact ⟨by have := Z.len; simp at Y; dsimp only; omega, W⟩
theorem gS {x : Path} (h : x.Hops.length ≤ 1000) (k : Int) : Ot x k = some (x.Hops.any fun h => h.Segment == k) := by
 refine So ?_
 unfold Ot
 refine .bind (Ig (l := x.Hops) (k := x.Hops.length) (d := true) (fun h => h.Segment = k) (Nat.le_refl _) (by omega) ?_ ?_) ?_
 ·intro i y X G
  unfold Ot.B2
  refine Ax (fun _ => ?_) fun h => absurd (by omega) h
  refine .bind' (.eq (A8 G) (Dk (fun h => .pure (.inl ⟨h, rfl⟩)) fun h => .pure (.inr ⟨h, rfl⟩)))
 ·unfold Ot.B2
  rw [if_neg (by simp)]
 ·rintro _ (⟨⟨j, y, M, G, h⟩, rfl⟩ | ⟨h, rfl⟩)
  ·refine .pure ?_
   symm; rw [List.any_eq_true]
   exact ⟨y, mg G, by simpa using h⟩
  ·simp only [Sum.elim_inr]
   unfold Ot.J1
   refine .pure ?_
   symm; rw [Bool.eq_false_iff]
   intro O
   obtain ⟨y, G, W⟩ := List.any_eq_true.1 O
   obtain ⟨j, M⟩ := List.getElem?_of_mem G
   exact h ⟨j, y, (gs M).1, M, by simpa using W⟩
theorem My {α : Type} (q : α → Bool) : ∀ (l st : List α), l.foldl (fun st x => if q x = true then st ++ [x] else st) st = st ++ l.filter q
 | [], st => by simp
 | x :: l, st => by
  rw [List.foldl_cons, My q l, List.filter_cons]
  split <;> simp
theorem dR {n : Nw} (O : Eg n = some 0) {l : List Path} (hl : Ps l) {k : Nat} (hk : k < n.Segments.length) : Jb n l (k : Int) = some (l.filter (Qk k), 0) := by
 refine So ?_
 unfold Jb
 rw [O]
 refine .bind' (.pure (Cx (fun h => absurd rfl h) fun _ => A7 (fun h => by simp at h; omega) fun _ => ?_))
 refine .bind (Pv (d := fun G => G) (fun G x => if Qk k x = true then G ++ [x] else G) hl.len (fun G x => by split <;> simp) ?_ ?_) ?_
 ·intro i x G W Y
  have Z := (gs W).1
  have X := hl.hops x (mg W)
  unfold Jb.B2
  refine Ax (fun _ => ?_) fun h => absurd (by omega) h
  refine .bind' (.eq (A8 W) (.bind' (.eq (gS X _) ?_)))
  show Ok (if Qk k x = true then _ else _) _
  by_cases M : Qk k x = true
  ·rw [if_pos M, if_pos M]
   exact .bind' (.eq (Tp X) (.bind' (.app (by simp; omega) (.pure rfl))))
  ·rw [if_neg M, if_neg M]; exact .pure rfl
 ·intro G
  unfold Jb.B2
  rw [if_neg (by simp)]
 ·rintro _ rfl
  rw [My]
  exact .pure rfl
def F0 (s : Sg) (h : Hop) : Int × Int := if h.Back = true then (s.To, s.From) else (s.From, s.To)
def Qi (n : Nw) : List Hop → Int → Li → Option Int
 | [], v, _ => some v
 | h :: t, v, seen => if h.Segment < 0 then none else match n.Segments[h.Segment.toNat]? with
  | none => none
  | some s => if (F0 s h).1 ≠ v then none else if (F0 s h).2 ∈ seen then none else Qi n t (F0 s h).2 (seen ++ [(F0 s h).2])
structure Vp (n : Network) (p : Path) : Prop where
 in_ : 0 ≤ p.In ∧ p.In < (n.Ports.length : Int)
 out : 0 ≤ p.Out ∧ p.Out < (n.Ports.length : Int)
 ne : p.In ≠ p.Out
 rate : 1 ≤ p.Rate ∧ p.Rate ≤ 1000
 hops : p.Hops.length ≤ 32
 way : ∀ (a b : Port), n.Ports[p.In.toNat]? = some a → n.Ports[p.Out.toNat]? = some b → Qi n p.Hops a.Node [a.Node] = some b.Node
theorem Rl {α : Type} {l : List α} {k : Nat} {x : α} (h : l[k]? = some x) : l.drop k = x :: l.drop (k + 1) := by
 obtain ⟨G, rfl⟩ := gs h
 exact List.drop_eq_getElem_cons G
theorem Wg {n : Nw} {h : Hop} {t : List Hop} {v : Int} {G : Li} (O : h.Segment < 0 ∨ (n.Segments.length : Int) ≤ h.Segment) : Qi n (h :: t) v G = none := by
 unfold Qi
 by_cases M : h.Segment < 0
 ·rw [if_pos M]
 ·rw [if_neg M, List.getElem?_eq_none (by omega)]
theorem Wf {n : Nw} {h : Hop} {t : List Hop} {v : Int} {G : Li} {k : Nat} {s : Sg} (M : h.Segment = (k : Int)) (hs : n.Segments[k]? = some s) :
  Qi n (h :: t) v G = if (F0 s h).1 ≠ v then none else if (F0 s h).2 ∈ G then none else Qi n t (F0 s h).2 (G ++ [(F0 s h).2]) := by
 rw [Qi, if_neg (by omega), show h.Segment.toNat = k by omega, hs]
theorem jK {n : Nw} {p : Path} (c : ¬ (p.In < 0 ∨ (n.Ports.length : Int) ≤ p.In ∨ p.Out < 0 ∨ (n.Ports.length : Int) ≤ p.Out ∨ p.In = p.Out ∨ p.Rate < 1 ∨ 1000 < p.Rate ∨ 32 < (p.Hops.length : Int))) :
  ∃ a b, n.Ports[p.In.toNat]? = some a ∧ n.Ports[p.Out.toNat]? = some b ∧ (Vp n p ↔ Qi n p.Hops a.Node [a.Node] = some b.Node) := by
 refine ⟨n.Ports[p.In.toNat]'(by omega), n.Ports[p.Out.toNat]'(by omega), gq _, gq _, fun h => h.way _ _ (gq _) (gq _), fun h => ⟨by omega, by omega, by omega, by omega, by omega, fun a b G M => ?_⟩⟩
 rw [gq (by omega)] at G M
 rw [← Option.some.inj G, ← Option.some.inj M]
 exact h
theorem cW (n : Nw) (p : Path) : Ok (Ji n p) fun r => r = true ↔ Vp n p := by
 unfold Ji G8
 refine A7 (fun h => .pure ?_) fun h => ?_
 ·simp only [Bool.false_eq_true, false_iff]
  intro v
  have v1 := v.in_; have v2 := v.out; have v3 := v.ne; have v4 := v.rate; have v5 := v.hops
  simp at h
  omega
 have c : ¬ (p.In < 0 ∨ (n.Ports.length : Int) ≤ p.In ∨ p.Out < 0 ∨ (n.Ports.length : Int) ≤ p.Out ∨ p.In = p.Out ∨ p.Rate < 1 ∨ 1000 < p.Rate ∨ 32 < (p.Hops.length : Int)) := by
  simp at h
  omega
 obtain ⟨a, b, ha, hb, hv⟩ := jK c
 have hi : p.In = (p.In.toNat : Int) := by omega
 have ho : p.Out = (p.Out.toNat : Int) := by omega
 refine .bind' (.eq (by rw [hi]; exact A8 ha) ?_)
 dsimp only
 refine .bind' (.forL (fun k st => Qi n p.Hops a.Node [a.Node] = Qi n (p.Hops.drop k) st.1 st.2 ∧ st.2.length = k + 1) (fun r => r = false ∧ Qi n p.Hops a.Node [a.Node] = none) ⟨rfl, rfl⟩ ?_ ?_ ?_)
 ·rintro k x ⟨v, G⟩ hx ⟨M, X⟩
  dsimp only at M X
  rw [Rl hx] at M
  have hk := (gs hx).1
  unfold Ji.B2
  refine A7 (fun h => .pure ⟨rfl, ?_⟩) fun h => ?_
  ·rw [M, Wg]; simp at h; omega
  simp at h
  have Z : n.Segments[x.Segment.toNat]? = some (n.Segments[x.Segment.toNat]'(by omega)) := gq _
  generalize n.Segments[x.Segment.toNat]'(by omega) = s at Z
  rw [Wf (k := x.Segment.toNat) (by omega) Z] at M
  have he : Tb n x = some (F0 s x) := by
   unfold Tb F0
   rw [show x.Segment = (x.Segment.toNat : Int) by omega, A8 Z, Option.bind_some]
   cases x.Back <;> rfl
  refine .bind' (.eq he ?_)
  refine Gq (fun O => ?_) fun Y => ?_
  ·unfold Ji.J3
   rw [if_pos rfl]
   exact .pure ⟨rfl, by rw [M, if_pos (by simpa using O)]⟩
  ·rw [if_neg (fun O => O (by simpa using Y))] at M
   by_cases W : (F0 s x).2 ∈ G
   ·rw [if_pos W] at M
    have : Hu G (F0 s x).2 = some true := by
     obtain ⟨r, hr, hq⟩ := Y7 (s := G) (v := (F0 s x).2)
     rw [hr]; exact congrArg some (hq.2 W)
    refine .bind' (.eq this ?_)
    unfold Ji.J3
    rw [if_pos rfl]
    exact .pure ⟨rfl, M⟩
   ·rw [if_neg W] at M
    refine .bind' (.eq (V1 W) ?_)
    unfold Ji.J3
    rw [if_neg (by simp)]
    exact .bind' (.app (by simp; omega) (.pure ⟨M, by simp [X]⟩))
 ·rintro ⟨v, G⟩ ⟨M, X⟩
  simp only [Sum.elim_inl]
  unfold Ji.J1
  refine .bind' (.eq (by rw [ho]; exact A8 hb) (.pure ?_))
  rw [hv, M]
  simp [Qi]
 ·rintro r ⟨rfl, h⟩
  refine .pure ?_
  rw [hv, h]; simp
theorem cV (n : Nw) (p : Path) : Ok (I6 n p) fun r => r = true ↔ Vp n p := by
 unfold I6
 refine A7 (fun h => .pure ?_) fun h => ?_
 ·simp only [Bool.false_eq_true, false_iff]
  intro v
  have v1 := v.in_; have v2 := v.out; have v3 := v.ne; have v4 := v.rate; have v5 := v.hops
  simp at h
  omega
 have c : ¬ (p.In < 0 ∨ (n.Ports.length : Int) ≤ p.In ∨ p.Out < 0 ∨ (n.Ports.length : Int) ≤ p.Out ∨ p.In = p.Out ∨ p.Rate < 1 ∨ 1000 < p.Rate ∨ 32 < (p.Hops.length : Int)) := by
  simp at h
  omega
 obtain ⟨a, b, ha, O, hv⟩ := jK c
 have hi : p.In = (p.In.toNat : Int) := by omega
 have ho : p.Out = (p.Out.toNat : Int) := by omega
 refine .bind' (.eq (by rw [hi]; exact A8 ha) ?_)
 dsimp only
 refine .bind (Q := fun d : Bool ⊕ Int => (d = .inl false ∧ Qi n p.Hops a.Node [a.Node] = none) ∨ ∃ v, d = .inr v ∧ Qi n p.Hops a.Node [a.Node] = some v) ?_ ?_
 ·refine .loop (fun X : Int × Li × Int => ∃ k : Nat, X.2.2 = (k : Int) ∧ k ≤ p.Hops.length ∧ Qi n p.Hops a.Node [a.Node] = Qi n (p.Hops.drop k) X.1 X.2.1 ∧ X.2.1.length = k + 1) (fun X => p.Hops.length - X.2.2.toNat) ⟨0, rfl, by omega, rfl, rfl⟩ (by dsimp only; omega) ?_
  rintro ⟨v, M, i⟩ ⟨k, hk, hkl, G, h2⟩
  dsimp only at hk G h2
  subst hk
  unfold I6.B2
  refine Ax (fun hlt => ?_) fun aa => ?_
  rotate_left
  ·dsimp only at aa
   rw [List.drop_eq_nil_of_le (by omega)] at G
   exact .pure (.inr ⟨v, rfl, G⟩)
  dsimp only at hlt
  obtain ⟨x, hx⟩ : ∃ ζ, p.Hops[k]? = some ζ := ⟨_, gq (by omega)⟩
  rw [Rl hx] at G
  refine .bind' (.eq (A8 hx) ?_)
  dsimp only
  have Y : (x.Segment < 0 ∨ (n.Segments.length : Int) ≤ x.Segment) → Ok (I6.J4 n p (v, M, (k : Int)) true) (Sum.elim (fun s => (∃ j : Nat, s.2.2 = (j : Int) ∧ j ≤ p.Hops.length ∧ Qi n p.Hops a.Node [a.Node] = Qi n (p.Hops.drop j) s.1 s.2.1 ∧ s.2.1.length = j + 1) ∧ p.Hops.length - s.2.2.toNat < p.Hops.length - (k : Int).toNat) fun d => (d = .inl false ∧ Qi n p.Hops a.Node [a.Node] = none) ∨ ∃ v, d = .inr v ∧ Qi n p.Hops a.Node [a.Node] = some v) := fun O => by
   unfold I6.J4
   rw [if_pos rfl]
   exact .pure (.inl ⟨rfl, by rw [G, Wg O]⟩)
  refine Ax (fun h0 => Y (.inl h0)) fun h0 => ?_
  by_cases O : (n.Segments.length : Int) ≤ x.Segment
  ·rw [show decide (x.Segment ≥ (n.Segments.length : Int)) = true from decide_eq_true O]; exact Y (.inr O)
  rw [show decide (x.Segment ≥ (n.Segments.length : Int)) = false from decide_eq_false O]
  unfold I6.J4
  rw [if_neg (by simp)]
  refine .bind' (.eq (A8 hx) ?_)
  dsimp only
  have hs : n.Segments[x.Segment.toNat]? = some (n.Segments[x.Segment.toNat]'(by omega)) := gq _
  generalize n.Segments[x.Segment.toNat]'(by omega) = s at hs
  rw [Wf (k := x.Segment.toNat) (by omega) hs] at G
  have he : Lm n x = some (F0 s x) := by
   unfold Lm F0
   rw [show x.Segment = (x.Segment.toNat : Int) by omega, A8 hs, Option.bind_some]
   cases x.Back <;> rfl
  refine .bind' (.eq he ?_)
  refine Gq (fun W => .pure (.inl ⟨rfl, by rw [G, if_pos (by simpa using W)]⟩)) fun Z => ?_
  rw [if_neg (fun W => W (by simpa using Z))] at G
  refine .bind (Ig (l := M) (k := M.length) (d := false) (fun y => y = (F0 s x).2) (Nat.le_refl _) (by omega) ?_ ?_) ?_
  ·intro i y hi hy
   unfold I6.B6
   refine Ax (fun _ => ?_) fun h => absurd (by dsimp only; omega) h
   exact .bind' (.eq (A8 hy) (Dk (fun h => .pure (.inl ⟨h, rfl⟩)) fun h => .pure (.inr ⟨h, rfl⟩)))
  ·unfold I6.B6
   rw [if_neg (by simp)]
  ·rintro _ (⟨⟨j, y, hj, hy, rfl⟩, rfl⟩ | ⟨hno, rfl⟩)
   ·rw [if_pos (mg hy)] at G
    exact .pure (.inl ⟨rfl, G⟩)
   ·rw [if_neg (fun hm => by
     obtain ⟨j, hj⟩ := List.getElem?_of_mem hm
     exact hno ⟨j, _, (gs hj).1, hj, rfl⟩)] at G
    simp only [Sum.elim_inr]
    unfold I6.J5 I6.J3
    refine .bind' (.app (by simp; omega) (.pure ?_))
    dsimp only [Sum.elim_inl]
    rw [Bn (by omega)]
    exact ⟨⟨k + 1, by omega, by omega, G, by simp [h2]⟩, by omega⟩
 ·rintro _ (⟨rfl, h⟩ | ⟨v, rfl, h⟩)
  ·refine .pure ?_
   rw [hv, h]; simp
  ·simp only [Sum.elim_inr]
   unfold I6.J1
   refine .bind' (.eq (by rw [ho]; exact A8 O) (.pure ?_))
   rw [hv, h]
   simp
theorem dO (n : Nw) (p : Path) : ∃ r, Ji n p = some r ∧ I6 n p = some r ∧ (r = true ↔ Vp n p) := by
 obtain ⟨r, G, M⟩ := cW n p
 obtain ⟨q, O, W⟩ := cV n p
 have : r = q := by
  cases r <;> cases q <;> simp_all
 subst this
 exact ⟨r, G, O, M⟩
def Er : List Path → List Hop
 | [] => []
 | x :: l => x.Hops ++ Er l
theorem X8 : ∀ l m : List Path, Er (l ++ m) = Er l ++ Er m
 | [], m => rfl
 | x :: l, m => by simp [Er, X8 l m]
theorem Vd {l : List Path} {k : Nat} {x : Path} (h : l[k]? = some x) : Er (l.take (k + 1)) = Er (l.take k) ++ x.Hops := by
 rw [List.take_add_one, h, X8]; simp [Er]
theorem Ti {h : Hop} : ∀ {l : List Path}, h ∈ Er l ↔ ∃ x, x ∈ l ∧ h ∈ x.Hops
 | [] => by simp [Er]
 | x :: l => by simp [Er, Ti (l := l)]
def Opp (d : List Hop) : Prop := ∃ g h, g ∈ d ∧ h ∈ d ∧ g.Segment = h.Segment ∧ g.Back = true ∧ h.Back = false
theorem Opp.mono {d e : List Hop} (h : Opp d) (hs : ∀ x, x ∈ d → x ∈ e) : Opp e := let ⟨g, k, a, b, c⟩ := h; ⟨g, k, hs _ a, hs _ b, c⟩
theorem X7 {l : List Path} {k j : Nat} {x : Path} {h : Hop} (hx : l[k]? = some x) (M : x.Hops[j]? = some h) : ∀ y, y ∈ (Er (l.take k) ++ x.Hops.take j) ++ [h] → y ∈ Er l := by
 intro y G
 rw [Ti]
 rcases List.mem_append.1 G with G | G
 ·rcases List.mem_append.1 G with G | G
  ·obtain ⟨z, W, O⟩ := Ti.1 G; exact ⟨z, List.mem_of_mem_take W, O⟩
  ·exact ⟨x, mg hx, List.mem_of_mem_take G⟩
 ·rw [List.mem_singleton] at G; subst G; exact ⟨x, mg hx, mg M⟩
theorem Uh {x : Path} {j : Nat} {h : Hop} (G : x.Hops[j]? = some h) (d : List Hop) : (d ++ x.Hops.take j) ++ [h] = d ++ x.Hops.take (j + 1) := by
 rw [List.take_add_one, G]; simp
theorem dY {α : Type} {i : Int} {y : α} : ∀ (l : List (Int × α)), Ds (Nf l i y) i = some y := by
 have M : ∀ (l : List (Int × α)), (Ds l i).isSome = true → Ds (Jq l i y) i = some y := by
  intro l
  induction l with
  | nil => intro h; simp [Ds] at h
  | cons p l ih =>
   intro h
   simp only [Jq]
   split
   ·rename_i G; simp [Ds, G]
   ·rename_i G; simp only [Ds] at h ⊢; rw [if_neg G] at h ⊢; exact ih h
 have O : ∀ (l : List (Int × α)), ¬ (Ds l i).isSome = true → Ds (l ++ [(i, y)]) i = some y := by
  intro l
  induction l with
  | nil => intro h; simp [Ds]
  | cons p l ih =>
   intro h
   simp only [List.cons_append, Ds] at h ⊢
   split
   ·rename_i G; rw [if_pos G] at h; simp at h
   ·rename_i G; rw [if_neg G] at h; exact ih h
 intro l
 unfold Nf
 split
 ·rename_i h; exact M l h
 ·rename_i h; exact O l h
theorem jU {α : Type} {i k : Int} {y : α} (O : k ≠ i) : ∀ (l : List (Int × α)), Ds (Nf l i y) k = Ds l k := by
 have G : ∀ (l : List (Int × α)), Ds (Jq l i y) k = Ds l k := by
  intro l
  induction l with
  | nil => rfl
  | cons p l ih =>
   simp only [Jq]
   split
   ·rename_i h; simp only [Ds]; rw [if_neg (by omega), if_neg (by omega)]
   ·simp only [Ds]; rw [ih]
 have M : ∀ (l : List (Int × α)), Ds (l ++ [(i, y)]) k = Ds l k := by
  intro l
  induction l with
  | nil => simp only [List.nil_append, Ds]; rw [if_neg (fun h => O h.symm)]
  | cons p l ih => simp only [List.cons_append, Ds]; rw [ih]
 intro l
 unfold Nf
 split
 ·exact G l
 ·exact M l
structure MI (st : List (Int × Bool)) (d : List Hop) : Prop where
 at_ : ∀ (s : Int) (b : Bool), Ds st s = some b ↔ ∃ h, h ∈ d ∧ h.Segment = s ∧ h.Back = b
 no : ¬ Opp d
theorem dZ (l : List Path) : Ok (Nt l) fun r => r = true ↔ Opp (Er l) := by
 unfold Nt
 refine .bind' (.forL (fun k X => MI X (Er (l.take k))) (fun b => b = true ∧ Opp (Er l)) ⟨fun s b => by simp [Ds, Er], by simp [Opp, Er]⟩ ?_ ?_ ?_)
 ·intro k x X hx hi
  unfold Nt.B2
  refine .bind' (.forL (fun j X => MI X (Er (l.take k) ++ x.Hops.take j)) (fun b => b = true ∧ Opp (Er l)) (by simpa using hi) ?_ ?_ ?_)
  ·intro j h X hj W
   unfold Nt.B4
   have hs := X7 hx hj
   have ht := Uh hj (Er (l.take k))
   generalize hd : Er (l.take k) ++ x.Hops.take j = d at *
   refine A7 (fun M => .pure ⟨rfl, Opp.mono ?_ hs⟩) fun M => .pure ?_
   ·cases hg : Ds X h.Segment with
    | none => rw [hg] at M; simp at M
    | some b =>
     rw [hg] at M
     obtain ⟨g, G, O, Z⟩ := (W.at_ _ _).1 hg
     simp at M
     cases Y : h.Back with
     | true => exact ⟨h, g, by simp, by simp [G], O.symm, Y, by rw [Z]; rw [Y] at M; cases b <;> simp_all⟩
     | false => exact ⟨g, h, by simp [G], by simp, O, by rw [Z]; rw [Y] at M; cases b <;> simp_all, Y⟩
   ·simp only [Sum.elim_inl]
    rw [← ht]
    have aa : ∀ b, Ds X h.Segment = some b → b = h.Back := fun b hg => by
     rw [hg] at M
     simp at M; exact M
    refine ⟨fun s b => ?_, ?_⟩
    ·by_cases he : s = h.Segment
     ·subst he
      rw [dY]
      constructor
      ·intro Y; cases Y; exact ⟨h, by simp, rfl, rfl⟩
      ·rintro ⟨g, G, O, Z⟩
       rcases List.mem_append.1 G with G | G
       ·rw [aa b ((W.at_ _ _).2 ⟨g, G, O, Z⟩)]
       ·rw [List.mem_singleton] at G; subst G; rw [Z]
     ·rw [jU he, W.at_]
      constructor
      ·rintro ⟨g, G, O⟩; exact ⟨g, by simp [G], O⟩
      ·rintro ⟨g, G, O, Z⟩
       rcases List.mem_append.1 G with G | G
       ·exact ⟨g, G, O, Z⟩
       ·rw [List.mem_singleton] at G; subst G; exact absurd O.symm he
    ·rintro ⟨g, g', h1, h2, h3, h4, h5⟩
     rcases List.mem_append.1 h1 with k1 | k1 <;> rcases List.mem_append.1 h2 with k2 | k2
     ·exact W.no ⟨g, g', k1, k2, h3, h4, h5⟩
     ·have e := List.mem_singleton.1 k2
      have := aa _ ((W.at_ _ _).2 ⟨g, k1, by rw [h3, e], h4⟩)
      rw [← e, h5] at this; cases this
     ·have e := List.mem_singleton.1 k1
      have := aa _ ((W.at_ _ _).2 ⟨g', k2, by rw [← h3, e], h5⟩)
      rw [← e, h4] at this; cases this
     ·rw [List.mem_singleton.1 k1] at h4; rw [List.mem_singleton.1 k2, h4] at h5; cases h5
  ·intro X W
   simp only [Sum.elim_inl]
   unfold Nt.J3
   refine .pure ?_
   rw [List.take_length] at W
   simp only [Sum.elim_inl]
   rw [Vd hx]; exact W
  ·rintro b Y
   exact .pure Y
 ·intro X hi
  simp only [Sum.elim_inl]
  unfold Nt.J1
  rw [List.take_length] at hi
  exact .pure ⟨fun h => (by cases h), fun h => absurd h hi.no⟩
 ·rintro b ⟨rfl, h⟩
  exact .pure ⟨fun _ => h, fun _ => rfl⟩
theorem cT {n : Nw} : ∀ {l : List Hop} {v : Int} {G : Li} {t : Int}, Qi n l v G = some t → ∀ h, h ∈ l → 0 ≤ h.Segment ∧ h.Segment < (n.Segments.length : Int)
 | [], _, _, _, _, h, M => by cases M
 | x :: l, v, G, t, hw, h, M => by
  by_cases W : x.Segment < 0 ∨ (n.Segments.length : Int) ≤ x.Segment
  ·rw [Wg W] at hw; cases hw
  have O : n.Segments[x.Segment.toNat]? = some (n.Segments[x.Segment.toNat]'(by omega)) := gq _
  rw [Wf (k := x.Segment.toNat) (by omega) O] at hw
  split at hw
  ·cases hw
  split at hw
  ·cases hw
  rcases List.mem_cons.1 M with rfl | M
  ·omega
  ·exact cT hw h M
theorem Vp.segs {n : Nw} {p : Path} (h : Vp n p) : ∀ g, g ∈ p.Hops → 0 ≤ g.Segment ∧ g.Segment < (n.Segments.length : Int) := by
 have G := h.in_; have M := h.out
 exact cT (h.way _ _ (gq (show p.In.toNat < n.Ports.length by omega)) (gq (show p.Out.toNat < n.Ports.length by omega)))
structure Fn (m : Nat) (f : Nat → Int) (l : List Int) : Prop where
 len : l.length = m
 at_ : ∀ (s : Nat) (r : Int), l[s]? = some r → r = f s
theorem Fn.eq {m : Nat} {f : Nat → Int} {l k : Li} (h : Fn m f l) (G : Fn m f k) : l = k := by
 refine List.ext_getElem? fun i => ?_
 by_cases W : i < m
 ·have M : l[i]? = some (l[i]'(by have := h.len; omega)) := gq _
  have O : k[i]? = some (k[i]'(by have := G.len; omega)) := gq _
  rw [M, O, h.at_ _ _ M, G.at_ _ _ O]
 ·rw [List.getElem?_eq_none (by have := h.len; omega), List.getElem?_eq_none (by have := G.len; omega)]
theorem Fn.get {m : Nat} {f : Nat → Int} {l : Li} (h : Fn m f l) {s : Nat} (hs : s < m) : l[s]? = some (f s) := by
 have G : l[s]? = some (l[s]'(by have := h.len; omega)) := gq _
 rw [G, h.at_ _ _ G]
theorem Fn.zero (m : Nat) {f : Nat → Int} (hf : ∀ s, f s = 0) : Fn m f (List.replicate m 0) := ⟨by simp, fun s r h => by
 rw [List.getElem?_replicate] at h
 split at h
 ·cases h; exact (hf s).symm
 ·cases h⟩
theorem Fn.set {m : Nat} {f g : Nat → Int} {l : Li} (h : Fn m f l) {s : Nat} {v : Int} (hs : s < m) (hv : v = g s) (hg : ∀ i, i ≠ s → g i = f i) : Fn m g (l.set s v) := ⟨by simp [h.len], fun i r G => by
 rw [Ee] at G
 split at G
 ·rename_i hi; cases G; rw [hv, hi.1]
 ·rename_i hi
  have M := (gs G).1
  have := h.len
  rw [hg i fun he => hi ⟨he.symm, by omega⟩]
  exact h.at_ i r G⟩
theorem Mv (k : Nat) : ∀ {l : List Path}, (∀ x, x ∈ l → x.Hops.length ≤ 32 ∧ 1 ≤ x.Rate ∧ x.Rate ≤ 1000) → -(32000 * (l.length : Int)) ≤ Ct k l ∧ Ct k l ≤ 32000 * (l.length : Int)
 | [], _ => by simp [Ct]
 | x :: l, h => by
  have M := Mv k (l := l) fun y G => h y (by simp [G])
  obtain ⟨a, b, c⟩ := h x (by simp)
  have O := H3 (rate := x.Rate) (by omega) k x.Hops
  simp only [Ct, List.length_cons]
  omega
theorem Hf (k : Nat) : ∀ {l : List Path}, (∀ x, x ∈ l → x.Hops.length ≤ 32 ∧ 1 ≤ x.Rate ∧ x.Rate ≤ 1000) → -(2000 * (l.length : Int)) ≤ Cq k l ∧ Cq k l ≤ 2000 * (l.length : Int)
 | [], _ => by simp [Cq]
 | x :: l, h => by
  have M := Hf k (l := l) fun y G => h y (by simp [G])
  obtain ⟨a, b, c⟩ := h x (by simp)
  simp only [Cq, List.length_cons]
  unfold Lc
  split <;> split <;> omega
theorem P3 {n : Nw} {G : List Path} {x : Path} {ports : Li} (hl : G.length ≤ 64) (W : ∀ y, y ∈ G → y.Hops.length ≤ 32 ∧ 1 ≤ y.Rate ∧ y.Rate ≤ 1000) (hx : Vp n x) (O : Fn n.Ports.length (fun i => Cq i G) ports) :
  ∃ a b, ix ports x.In = some (x.In.toNat, a) ∧ ix (ports.set x.In.toNat (wr (a + x.Rate))) x.Out = some (x.Out.toNat, b) ∧ Fn n.Ports.length (fun i => Cq i (G ++ [x])) ((ports.set x.In.toNat (wr (a + x.Rate))).set x.Out.toNat (wr (b - x.Rate))) := by
 have h1 := hx.in_; have h2 := hx.out; have h3 := hx.ne; have h4 := hx.rate
 have M : x.In = (x.In.toNat : Int) := by omega
 have ho : x.Out = (x.Out.toNat : Int) := by omega
 have bi := Hf x.In.toNat W
 have bo := Hf x.Out.toNat W
 have Y := O.get (s := x.In.toNat) (by omega)
 have Z := O.get (s := x.Out.toNat) (by omega)
 refine ⟨_, _, by rw [M]; exact A8 Y, by rw [ho]; exact A8 (show _ = some (Cq x.Out.toNat G) by rw [List.getElem?_set_ne (by omega)]; exact Z), ?_⟩
 have e : ∀ i, Cq i (G ++ [x]) = Cq i G + Lc i x := fun i => by rw [Gk]; simp [Cq]
 refine Fn.set (f := fun i => if i = x.In.toNat then Cq i G + x.Rate else Cq i G) (Fn.set O (by omega) ?_ fun i M => ?_) (by omega) ?_ fun i M => ?_
 ·rw [if_pos rfl, Bn (by omega)]
 ·rw [if_neg M]
 ·rw [e, Bn (by omega)]
  unfold Lc
  rw [if_neg (by omega), if_pos (by omega)]; omega
 ·rw [e]
  unfold Lc
  by_cases X : i = x.In.toNat
  ·rw [if_pos X, if_pos (by omega), if_neg (by omega)]; omega
  ·rw [if_neg X, if_neg (by omega), if_neg (by omega)]; omega
theorem P2 {n : Nw} {G : List Path} {x : Path} {rates : Li} {j : Nat} {h : Hop} (hl : G.length ≤ 64) (Y : ∀ y, y ∈ G → y.Hops.length ≤ 32 ∧ 1 ≤ y.Rate ∧ y.Rate ≤ 1000) (hx : Vp n x) (M : x.Hops[j]? = some h)
  (W : Fn n.Segments.length (fun s => Ct s G + Do x.Rate s (x.Hops.take j)) rates) :
  ∃ v, ix rates h.Segment = some (h.Segment.toNat, v) ∧ rates[h.Segment.toNat]? = some v ∧ (-100000000 ≤ v ∧ v ≤ 100000000) ∧ Fn n.Segments.length (fun s => Ct s G + Do x.Rate s (x.Hops.take (j + 1))) (rates.set h.Segment.toNat (wr (v + Iq x.Rate h))) := by
 have hs := hx.segs h (mg M)
 have h4 := hx.rate; have h5 := hx.hops
 have Z := Mv h.Segment.toNat Y
 have X := H3 (rate := x.Rate) (by omega) h.Segment.toNat (x.Hops.take j)
 rw [List.length_take] at X
 have g := W.get (s := h.Segment.toNat) (by omega)
 have sg : -1000 ≤ Iq x.Rate h ∧ Iq x.Rate h ≤ 1000 := by unfold Iq; split <;> omega
 have O : h.Segment = (h.Segment.toNat : Int) := by omega
 refine ⟨_, by rw [O]; exact A8 g, g, by omega, W.set (by omega) ?_ fun i O => ?_⟩
 ·rw [Bn (by omega), Ii M, if_pos (by omega)]; omega
 ·rw [Ii M, if_neg (by omega)]; omega
theorem lC {n : Nw} {M : List Path} {x : Path} {rates ports : Li} {pumps : List Bool} (hl : M.length ≤ 64) (W : ∀ y, y ∈ M → y.Hops.length ≤ 32 ∧ 1 ≤ y.Rate ∧ y.Rate ≤ 1000) (hx : Vp n x)
  (X : Fn n.Segments.length (fun s => Ct s M) rates) (hp : Fn n.Ports.length (fun i => Cq i M) ports) :
  Ok (Sz ⟨rates, ports, pumps⟩ x x.Rate) fun q => Fn n.Segments.length (fun s => Ct s (M ++ [x])) q.Rates ∧ Fn n.Ports.length (fun i => Cq i (M ++ [x])) q.Ports ∧ q.Pumps = pumps := by
 obtain ⟨a, b, Y, Z, g3⟩ := P3 hl W hx hp
 unfold Sz
 refine .bind' (.eq Y (.bind' (.eq Z ?_)))
 refine .bind (Q := fun O => Fn n.Segments.length (fun s => Ct s (M ++ [x])) O) ?_ fun O G => .pure ⟨G, g3, rfl⟩
 refine .forS (fun j O => Fn n.Segments.length (fun s => Ct s M + Do x.Rate s (x.Hops.take j)) O) ⟨X.len, fun s r h => by rw [X.at_ s r h]; simp [Do]⟩ ?_ fun O G => ⟨G.len, fun s r h => by rw [G.at_ s r h, List.take_length, Fl]; simp [Ct]⟩
 intro j h O hj G
 unfold Sz.B1
 obtain ⟨v, q1, q2, q3, q4⟩ := P2 hl W hx hj G
 have h4 := hx.rate
 refine .bind' (.eq q1 (.pure ?_))
 rw [Q9 (by omega)]; exact q4
def S_ (rates : Li) (d : List Hop) : Prop := ∀ (s : Nat) (r : Int), rates[s]? = some r → (0 < r ↔ ∃ h, h ∈ d ∧ h.Segment = (s : Int) ∧ h.Back = false) ∧ (r < 0 ↔ ∃ h, h ∈ d ∧ h.Segment = (s : Int) ∧ h.Back = true)
theorem S_.step {rates : Li} {d : List Hop} {x : Path} {h : Hop} {m : Nat} {v : Int} (hd : ¬ Opp d) (hs : S_ rates d) (Z : h.Segment = (m : Int)) (hv : rates[m]? = some v) (hb : -100000000 ≤ v ∧ v ≤ 100000000) (hx : 1 ≤ x.Rate ∧ x.Rate ≤ 1000) (W : ¬ (h.Back = false ∧ v < 0) ∧ ¬ (h.Back = true ∧ 0 < v)) :
  S_ (rates.set m (wr (v + Iq x.Rate h))) (d ++ [h]) ∧ ¬ Opp (d ++ [h]) := by
 obtain ⟨s1, s2⟩ := hs m v hv
 have sg : Iq x.Rate h = if h.Back = true then -x.Rate else x.Rate := rfl
 have sb : -1000 ≤ Iq x.Rate h ∧ Iq x.Rate h ≤ 1000 := by rw [sg]; split <;> omega
 refine ⟨fun s r hr => ?_, ?_⟩
 ·rw [Ee] at hr
  split at hr
  ·rename_i hi
   obtain ⟨rfl, _⟩ := hi
   cases hr
   rw [Bn (by omega)]
   cases hbk : h.Back with
   | true =>
    rw [hbk] at sg W; simp at sg W
    refine ⟨⟨fun h => by omega, ?_⟩, ⟨fun _ => ⟨h, by simp, Z, hbk⟩, fun _ => by omega⟩⟩
    rintro ⟨g, G, M, O⟩
    rcases List.mem_append.1 G with G | G
    ·have := s1.2 ⟨g, G, M, O⟩; omega
    ·rw [List.mem_singleton] at G; subst G; rw [hbk] at O; cases O
   | false =>
    rw [hbk] at sg W; simp at sg W
    refine ⟨⟨fun _ => ⟨h, by simp, Z, hbk⟩, fun _ => by omega⟩, ⟨fun h => by omega, ?_⟩⟩
    rintro ⟨g, G, M, O⟩
    rcases List.mem_append.1 G with G | G
    ·have := s2.2 ⟨g, G, M, O⟩; omega
    ·rw [List.mem_singleton] at G; subst G; rw [hbk] at O; cases O
  ·rename_i hi
   have hsl := (gs hr).1
   have hne : s ≠ m := fun he => hi ⟨he.symm, hsl⟩
   obtain ⟨t1, t2⟩ := hs s r hr
   have ext : ∀ b, (∃ g, g ∈ d ++ [h] ∧ g.Segment = (s : Int) ∧ g.Back = b) ↔ ∃ g, g ∈ d ∧ g.Segment = (s : Int) ∧ g.Back = b := fun b => by
    constructor
    ·rintro ⟨g, G, M, O⟩
     rcases List.mem_append.1 G with G | G
     ·exact ⟨g, G, M, O⟩
     ·rw [List.mem_singleton.1 G] at M; exact absurd (Int.ofNat_inj.1 (M.symm.trans Z)) hne
    ·rintro ⟨g, G, M⟩; exact ⟨g, by simp [G], M⟩
   rw [ext, ext]
   exact ⟨t1, t2⟩
 ·rintro ⟨g, g', h1, h2, h3, X, Y⟩
  rcases List.mem_append.1 h1 with k1 | k1 <;> rcases List.mem_append.1 h2 with k2 | k2
  ·exact hd ⟨g, g', k1, k2, h3, X, Y⟩
  ·have e := List.mem_singleton.1 k2
   exact W.1 ⟨by rw [← e]; exact Y, s2.2 ⟨g, k1, by rw [h3, e]; exact Z, X⟩⟩
  ·have e := List.mem_singleton.1 k1
   exact W.2 ⟨by rw [← e]; exact X, s1.2 ⟨g', k2, by rw [← h3, e]; exact Z, Y⟩⟩
  ·rw [List.mem_singleton.1 k1] at X; rw [List.mem_singleton.1 k2, X] at Y; cases Y
theorem dK {rates : Li} {d : List Hop} {h : Hop} {m : Nat} {v : Int} (hs : S_ rates d) (hm : h.Segment = (m : Int)) (hv : rates[m]? = some v) (Y : (h.Back = false ∧ v < 0) ∨ (h.Back = true ∧ 0 < v)) : Opp (d ++ [h]) := by
 obtain ⟨Z, s2⟩ := hs m v hv
 rcases Y with ⟨O, W⟩ | ⟨O, W⟩
 ·obtain ⟨g, G, X, M⟩ := s2.1 W
  exact ⟨g, h, by simp [G], by simp, by omega, M, O⟩
 ·obtain ⟨g, G, X, M⟩ := Z.1 W
  exact ⟨h, g, by simp, by simp [G], by omega, O, M⟩
theorem Y8 {s : List Path} {g : Path → Option Bool} {P : Path → Prop} (hg : ∀ (k : Nat) (x : Path), s[k]? = some x → Ok (g x) fun b => b = true ↔ P x) :
  Ok (S0 s g) fun r => r = true ↔ ∃ (k : Nat) (x : Path), s[k]? = some x ∧ P x := by
 unfold S0
 refine .bind (Q := fun r => (r = -1 ∧ ∀ (k : Nat) (x : Path), s[k]? = some x → ¬ P x) ∨ ∃ (k : Nat) (x : Path), r = (k : Int) ∧ s[k]? = some x ∧ P x) ?_ ?_
 ·unfold Ly
  refine .bind' (.forL (fun k _ => ∀ (j : Nat) (x : Path), j < k → s[j]? = some x → ¬ P x) (fun r => ∃ (k : Nat) (x : Path), r = (k : Int) ∧ s[k]? = some x ∧ P x) (fun j x h => absurd h (Nat.not_lt_zero _)) ?_ ?_ ?_)
  ·intro k x _ G O
   unfold Ly.B2
   refine .bind (hg k x G) fun r Y => A7 (fun h => .pure ⟨k, x, rfl, G, Y.1 h⟩) fun h => .pure fun j y hj X => ?_
   by_cases W : j = k
   ·subst W
    rw [G] at X; cases X
    intro M
    rw [Y.2 M] at h; cases h
   ·exact O j y (by omega) X
  ·intro _ O
   simp only [Sum.elim_inl]
   unfold Ly.J1
   exact .pure (.inl ⟨rfl, fun k x G => O k x (gs G).1 G⟩)
  ·rintro b Z
   exact .pure (.inr Z)
 ·rintro r (⟨rfl, h⟩ | ⟨k, x, rfl, G, M⟩)
  ·refine .pure ?_
   simp only [show decide ((-1 : Int) ≥ 0) = false from rfl, Bool.false_eq_true, false_iff]
   rintro ⟨k, x, G, M⟩; exact h k x G M
  ·refine .pure ?_
   have := Int.natCast_nonneg k
   simp only [ge_iff_le, this, decide_true, true_iff]
   exact ⟨k, x, G, M⟩
def Qz (n : Nw) (l : List Path) : Prop := 64 < l.length ∨ (∃ (k : Nat) (x : Path), l[k]? = some x ∧ ¬ Vp n x) ∨ Opp (Er l)
def SumRes (n : Nw) (l : List Path) (G : List Bool) (r : Plan × Int) : Prop :=
 (Qz n l ∧ r = (⟨[], [], []⟩, 23)) ∨ (¬ Qz n l ∧ G.length ≠ n.Stations.length ∧ r = (⟨[], [], []⟩, 9)) ∨
  (¬ Qz n l ∧ G.length = n.Stations.length ∧ ∃ R P e, Fn n.Segments.length (fun s => Ct s l) R ∧ Fn n.Ports.length (fun i => Cq i l) P ∧ Ga n ⟨R, P, G⟩ = some e ∧ ((e ≠ 0 ∧ r = (⟨[], [], []⟩, e)) ∨ (e = 0 ∧ r = (⟨R, P, G⟩, 0))))
theorem SumRes.one {n : Nw} {l : List Path} {G : List Bool} {r r' : Plan × Int} (h : SumRes n l G r) (h' : SumRes n l G r') : r = r' := by
 rcases h with ⟨a, rfl⟩ | ⟨a, b, rfl⟩ | ⟨a, b, R, P, e, f1, f2, f3, f4⟩ <;> rcases h' with ⟨M, rfl⟩ | ⟨M, W, rfl⟩ | ⟨M, W, R', P', e', X, Y, O, Z⟩
 ·rfl
 ·exact absurd a M
 ·exact absurd a M
 ·exact absurd M a
 ·rfl
 ·exact absurd W b
 ·exact absurd M a
 ·exact absurd b W
 ·obtain rfl := f1.eq X
  obtain rfl := f2.eq Y
  rw [f3] at O; cases O
  rcases f4 with ⟨h1, rfl⟩ | ⟨h1, rfl⟩ <;> rcases Z with ⟨h2, rfl⟩ | ⟨h2, rfl⟩
  ·rfl
  ·exact absurd h2 h1
  ·exact absurd h1 h2
  ·rfl
theorem Vp.small {n : Nw} {x : Path} (h : Vp n x) : x.Hops.length ≤ 32 ∧ 1 ≤ x.Rate ∧ x.Rate ≤ 1000 := ⟨h.hops, h.rate⟩
theorem sumP {n : Nw} (hc : NetC n) {l : List Path} {pumps : List Bool} (hm : pumps.length ≤ 1000) : Ok (Lp n l pumps) (SumRes n l pumps) := by
 have z1 := hc.segs1; have z2 := hc.ports1; have z3 := hc.sts1
 have W : Qz n l → Ok (Lp.J1 n l pumps true) (SumRes n l pumps) := fun h => by
  unfold Lp.J1
  rw [if_pos rfl]
  exact .pure (.inl ⟨h, rfl⟩)
 unfold Lp
 refine .bind' (.eq hc.check (Cx (fun h => absurd rfl h) fun _ => ?_))
 refine Ax (fun h => W (.inl (by omega))) fun hlen => ?_
 refine .bind (Y8 (P := fun x => ¬ Vp n x) fun k x M => ?_) fun r hr => ?_
 ·unfold N0
  refine .bind (cW n x) fun r hr => .pure ?_
  rw [← hr]; simp
 refine A7 (fun h => W (.inr (.inl (hr.1 h)))) fun h => ?_
 have hv : ∀ (k : Nat) (x : Path), l[k]? = some x → Vp n x := fun k x M => Classical.byContradiction fun hn => by rw [hr.2 ⟨k, x, M, hn⟩] at h; cases h
 have hsm : ∀ k, ∀ y, y ∈ l.take k → y.Hops.length ≤ 32 ∧ 1 ≤ y.Rate ∧ y.Rate ≤ 1000 := fun k y hy => by
  obtain ⟨j, hj⟩ := List.getElem?_of_mem (List.mem_of_mem_take hy)
  exact (hv j y hj).small
 refine .bind (dZ l) fun o ho => ?_
 cases o with
 | true => exact W (.inr (.inr (ho.1 rfl)))
 | false =>
  have X : ¬ Qz n l := by
   rintro (G | ⟨k, x, M, G⟩ | G)
   ·omega
   ·exact G (hv k x M)
   ·have := ho.2 G; cases this
  unfold Lp.J1
  rw [if_neg (by simp)]
  refine Cx (fun hne => .pure (.inr (.inl ⟨X, by omega, rfl⟩))) fun heq => ?_
  refine .bind' (.mk n.Segments.length rfl (by omega) (.bind' (.mk n.Ports.length rfl (by omega) ?_)))
  have hcl : On pumps = some pumps := by unfold On; rw [Jy (by simp; omega)]; rfl
  refine .bind' (.eq hcl ?_)
  unfold Lp.J2
  dsimp only
  refine .bind (Q := fun O => Fn n.Segments.length (fun s => Ct s l) O.1 ∧ Fn n.Ports.length (fun i => Cq i l) O.2.1 ∧ O.2.2 = pumps) ?_ ?_
  ·refine .forS (fun k O => Fn n.Segments.length (fun s => Ct s (l.take k)) O.1 ∧ Fn n.Ports.length (fun i => Cq i (l.take k)) O.2.1 ∧ O.2.2 = pumps) ⟨Fn.zero _ fun s => rfl, Fn.zero _ fun s => rfl, rfl⟩ ?_ fun O h => by rw [List.take_length] at h; exact h
   rintro k x ⟨R, P, m⟩ M ⟨G, Y, Z⟩
   dsimp only at G Y Z
   have hk := (gs M).1
   unfold Lp.B4
   refine .bind (lC (by rw [List.length_take]; omega) (hsm k) (hv k x M) G Y) fun q hq => .pure ?_
   rw [List.take_add_one, M]
   exact ⟨hq.1, hq.2.1, hq.2.2.trans Z⟩
  ·rintro ⟨R, P, m⟩ ⟨G, Y, Z⟩
   dsimp only at G Y Z
   subst Z
   unfold Lp.J3
   dsimp only
   obtain ⟨e, e1, _⟩ := Pt n ⟨R, P, m⟩
   refine .bind' (.eq e1 (Cx (fun he => .pure ?_) fun he => .pure ?_))
   ·exact .inr (.inr ⟨X, by omega, R, P, e, G, Y, e1, .inl ⟨he, rfl⟩⟩)
   ·exact .inr (.inr ⟨X, by omega, R, P, e, G, Y, e1, .inr ⟨he, rfl⟩⟩)
theorem sumR {n : Nw} (hc : NetC n) (h12 : Eg n = some 0) {l : List Path} (hl : Ps l) {O : List Bool} (hm : O.length ≤ 1000) : Ok (Lq n l O) (SumRes n l O) := by
 have z1 := hc.segs1; have z2 := hc.ports1; have z3 := hc.sts1
 unfold Lq
 refine .bind' (.eq h12 (Cx (fun h => absurd rfl h) fun _ => ?_))
 refine Ax (fun h => .pure (.inl ⟨.inl (by omega), rfl⟩)) fun hlen => ?_
 refine .bind' (.mk n.Segments.length rfl (by omega) (.bind' (.mk n.Ports.length rfl (by omega) (.bind' (.app (by simp; omega) ?_)))))
 rw [List.nil_append]
 unfold Lq.J1
 refine .bind (Ig (l := l) (k := l.length) (d := ((⟨[], [], []⟩ : Plan), (23 : Int))) (fun x => ¬ Vp n x) (Nat.le_refl _) (by omega) ?_ ?_) ?_
 ·intro i y hi hy
  unfold Lq.B9
  refine Ax (fun _ => ?_) fun h => absurd (by omega) h
  refine .bind' (.eq (A8 hy) (.bind (cV n y) fun r hr => ?_))
  refine Gq (fun h => .pure (.inl ⟨(fun hv => by rw [hr.2 hv] at h; cases h), rfl⟩)) fun h => .pure (.inr ⟨fun hn => hn (hr.1 h), rfl⟩)
 ·unfold Lq.B9
  rw [if_neg (by simp)]
 ·rintro _ (⟨⟨j, y, hj, hy, hv⟩, rfl⟩ | ⟨hnb, rfl⟩)
  ·exact .pure (.inl ⟨.inr (.inl ⟨j, y, hy, hv⟩), rfl⟩)
  simp only [Sum.elim_inr]
  have hv : ∀ (k : Nat) (x : Path), l[k]? = some x → Vp n x := fun k x Z => Classical.byContradiction fun hn => hnb ⟨k, x, (gs Z).1, Z, hn⟩
  have hsm : ∀ k, ∀ y, y ∈ l.take k → y.Hops.length ≤ 32 ∧ 1 ≤ y.Rate ∧ y.Rate ≤ 1000 := fun k y hy => by
   obtain ⟨j, hj⟩ := List.getElem?_of_mem (List.mem_of_mem_take hy)
   exact (hv j y hj).small
  unfold Lq.J2
  dsimp only
  refine .bind (Q := fun d : (Plan × Int) ⊕ (Li × Li) => (d = .inl (⟨[], [], []⟩, 23) ∧ Opp (Er l)) ∨ ∃ R P, d = .inr (R, P) ∧ ¬ Opp (Er l) ∧ Fn n.Segments.length (fun s => Ct s l) R ∧ Fn n.Ports.length (fun i => Cq i l) P) ?_ ?_
  ·refine .loop (fun G : Li × Li × Int => ∃ k : Nat, G.2.2 = (k : Int) ∧ k ≤ l.length ∧ Fn n.Segments.length (fun s => Ct s (l.take k)) G.1 ∧ Fn n.Ports.length (fun i => Cq i (l.take k)) G.2.1 ∧ S_ G.1 (Er (l.take k)) ∧ ¬ Opp (Er (l.take k))) (fun G => l.length - G.2.2.toNat)
    ⟨0, rfl, by omega, Fn.zero _ fun s => rfl, Fn.zero _ fun s => rfl, (fun s r h => by
     rw [List.getElem?_replicate] at h
     split at h
     ·cases h; simp [Er]
     ·cases h), by simp [Opp, Er]⟩ (by dsimp only; omega) ?_
   rintro ⟨rates, M, i⟩ ⟨k, hk, hkl, h1, h2, h3, h4⟩
   dsimp only at hk h1 h2 h3
   subst hk
   unfold Lq.B4
   refine Ax (fun hlt => ?_) fun hge => ?_
   rotate_left
   ·dsimp only at hge
    have : k = l.length := by omega
    subst this
    rw [List.take_length] at h1 h2 h4
    exact .pure (.inr ⟨rates, M, rfl, h4, h1, h2⟩)
   dsimp only at hlt
   obtain ⟨x, Z⟩ : ∃ ζ, l[k]? = some ζ := ⟨_, gq (by omega)⟩
   have X := hv k x Z
   have hl0 : (l.take k).length ≤ 64 := by rw [List.length_take]; omega
   obtain ⟨a, b, g1, g2, g3⟩ := P3 hl0 (hsm k) X h2
   have htk : l.take (k + 1) = l.take k ++ [x] := by rw [List.take_add_one, Z]; rfl
   have hxr := X.rate; have hxh := X.hops
   refine .bind' (.eq (A8 Z) (.bind' (.eq g1 (.bind' (.eq g2 ?_)))))
   dsimp only
   refine .bind (Q := fun o : (Plan × Int) ⊕ (Li × Li) => (o = .inl (⟨[], [], []⟩, 23) ∧ Opp (Er l)) ∨ ∃ R, o = .inr (R, (M.set x.In.toNat (wr (a + x.Rate))).set x.Out.toNat (wr (b - x.Rate))) ∧ Fn n.Segments.length (fun s => Ct s (l.take (k + 1))) R ∧ S_ R (Er (l.take (k + 1))) ∧ ¬ Opp (Er (l.take (k + 1)))) ?_ ?_
   ·refine .loop (fun G : Li × Int => ∃ j : Nat, G.2 = (j : Int) ∧ j ≤ x.Hops.length ∧ Fn n.Segments.length (fun s => Ct s (l.take k) + Do x.Rate s (x.Hops.take j)) G.1 ∧ S_ G.1 (Er (l.take k) ++ x.Hops.take j) ∧ ¬ Opp (Er (l.take k) ++ x.Hops.take j)) (fun G => x.Hops.length - G.2.toNat)
     ⟨0, rfl, by omega, ⟨h1.len, fun s r h => by rw [h1.at_ s r h]; simp [Do]⟩, by simpa using h3, by simpa using h4⟩ (by dsimp only; omega) ?_
    rintro ⟨R, i⟩ ⟨j, hj, hjl, q1, q2, q3⟩
    dsimp only at hj q1 q2
    subst hj
    unfold Lq.B6
    refine Ax (fun hlt => ?_) fun hge => ?_
    rotate_left
    ·dsimp only at hge
     have : j = x.Hops.length := by omega
     subst this
     rw [List.take_length] at q1 q2 q3
     rw [Vd Z]
     exact .pure (.inr ⟨R, rfl, ⟨q1.len, fun s r h => by rw [q1.at_ s r h, htk, Fl]; simp [Ct]⟩, q2, q3⟩)
    dsimp only at hlt
    obtain ⟨h, hh⟩ : ∃ ζ, x.Hops[j]? = some ζ := ⟨_, gq (by omega)⟩
    have hsub := X7 Z hh
    have htj := Uh hh (Er (l.take k))
    obtain ⟨v, w1, w2, w3, w4⟩ := P2 hl0 (hsm k) X hh q1
    have hseg := X.segs h (mg hh)
    have hm : h.Segment = (h.Segment.toNat : Int) := by omega
    refine .bind' (.eq (A8 hh) ?_)
    dsimp only
    have bad : Opp ((Er (l.take k) ++ x.Hops.take j) ++ [h]) → ∀ z, Ok (Lq.J8 (R, (j : Int)) (j, h) z true) (Sum.elim (fun G : Li × Int => (∃ j : Nat, G.2 = (j : Int) ∧ j ≤ x.Hops.length ∧ Fn n.Segments.length (fun s => Ct s (l.take k) + Do x.Rate s (x.Hops.take j)) G.1 ∧ S_ G.1 (Er (l.take k) ++ x.Hops.take j) ∧ ¬ Opp (Er (l.take k) ++ x.Hops.take j)) ∧ x.Hops.length - G.2.toNat < x.Hops.length - (j : Int).toNat) fun o => (o = .inl (⟨[], [], []⟩, 23) ∧ Opp (Er l)) ∨ ∃ R, o = .inr (R, (M.set x.In.toNat (wr (a + x.Rate))).set x.Out.toNat (wr (b - x.Rate))) ∧ Fn n.Segments.length (fun s => Ct s (l.take (k + 1))) R ∧ S_ R (Er (l.take (k + 1))) ∧ ¬ Opp (Er (l.take (k + 1)))) := fun ho z => by
     unfold Lq.J8
     rw [if_pos rfl]
     exact .pure (.inl ⟨rfl, ho.mono hsub⟩)
    have aa : (¬ (h.Back = false ∧ v < 0) ∧ ¬ (h.Back = true ∧ 0 < v)) → ∀ z, z = Iq x.Rate h → Ok (Lq.J8 (R, (j : Int)) (j, h) z false) (Sum.elim (fun G : Li × Int => (∃ j : Nat, G.2 = (j : Int) ∧ j ≤ x.Hops.length ∧ Fn n.Segments.length (fun s => Ct s (l.take k) + Do x.Rate s (x.Hops.take j)) G.1 ∧ S_ G.1 (Er (l.take k) ++ x.Hops.take j) ∧ ¬ Opp (Er (l.take k) ++ x.Hops.take j)) ∧ x.Hops.length - G.2.toNat < x.Hops.length - (j : Int).toNat) fun o => (o = .inl (⟨[], [], []⟩, 23) ∧ Opp (Er l)) ∨ ∃ R, o = .inr (R, (M.set x.In.toNat (wr (a + x.Rate))).set x.Out.toNat (wr (b - x.Rate))) ∧ Fn n.Segments.length (fun s => Ct s (l.take (k + 1))) R ∧ S_ R (Er (l.take (k + 1))) ∧ ¬ Opp (Er (l.take (k + 1)))) := fun hg z hz => by
     subst hz
     unfold Lq.J8
     rw [if_neg (by simp)]
     refine .bind' (.eq w1 (.pure ?_))
     simp only [Sum.elim_inl]
     rw [Bn (x := (j : Int) + 1) (by omega)]
     obtain ⟨s1, s2⟩ := S_.step q3 q2 hm w2 w3 hxr hg
     rw [htj] at s1 s2
     exact ⟨⟨j + 1, by omega, by omega, w4, s1, s2⟩, by omega⟩
    have j7 : ∀ z, z = Iq x.Rate h → Ok (Lq.J7 (R, (j : Int)) (j, h) z) (Sum.elim (fun G : Li × Int => (∃ j : Nat, G.2 = (j : Int) ∧ j ≤ x.Hops.length ∧ Fn n.Segments.length (fun s => Ct s (l.take k) + Do x.Rate s (x.Hops.take j)) G.1 ∧ S_ G.1 (Er (l.take k) ++ x.Hops.take j) ∧ ¬ Opp (Er (l.take k) ++ x.Hops.take j)) ∧ x.Hops.length - G.2.toNat < x.Hops.length - (j : Int).toNat) fun o => (o = .inl (⟨[], [], []⟩, 23) ∧ Opp (Er l)) ∨ ∃ R, o = .inr (R, (M.set x.In.toNat (wr (a + x.Rate))).set x.Out.toNat (wr (b - x.Rate))) ∧ Fn n.Segments.length (fun s => Ct s (l.take (k + 1))) R ∧ S_ R (Er (l.take (k + 1))) ∧ ¬ Opp (Er (l.take (k + 1)))) := fun z hz => by
     unfold Lq.J7
     cases Y : h.Back with
     | false =>
      have hz' : z = x.Rate := by rw [hz]; unfold Iq; rw [Y]; rfl
      refine Ax (fun _ => .bind' (.eq w1 ?_)) fun hn => by omega
      refine Ax (fun W => bad (dK q2 hm w2 (.inl ⟨Y, W⟩)) z) fun W => ?_
      refine Ax (fun hn => by omega) fun _ => aa ⟨fun h => W h.2, fun h => by rw [Y] at h; cases h.1⟩ z hz
     | true =>
      have hz' : z = -x.Rate := by rw [hz]; unfold Iq; rw [Y]; rfl
      refine Ax (fun hn => by omega) fun _ => ?_
      refine Ax (fun _ => .bind' (.eq w1 ?_)) fun hn => by omega
      dsimp only
      by_cases W : v > 0
      ·rw [decide_eq_true W]; exact bad (dK q2 hm w2 (.inr ⟨Y, W⟩)) z
      ·rw [decide_eq_false W]; exact aa ⟨(fun h => by rw [Y] at h; cases h.1), fun h => W h.2⟩ z hz
    refine A7 (fun Y => j7 _ ?_) fun Y => j7 _ ?_
    ·rw [Bn (by omega)]; unfold Iq; rw [if_pos Y]; omega
    ·unfold Iq; rw [if_neg (by rw [Y]; simp)]
   ·rintro _ (⟨rfl, ho⟩ | ⟨R, rfl, r1, r2, r3⟩)
    ·exact .pure (.inl ⟨rfl, ho⟩)
    ·simp only [Sum.elim_inr]
     unfold Lq.J5
     refine .pure ?_
     dsimp only [Sum.elim_inl]
     rw [Bn (by omega)]
     exact ⟨⟨k + 1, by omega, by omega, r1, by rw [htk]; exact g3, r2, r3⟩, by omega⟩
  ·rintro _ (⟨rfl, ho⟩ | ⟨R, P, rfl, h1, h2, h3⟩)
   ·exact .pure (.inl ⟨.inr (.inr ho), rfl⟩)
   ·have hno : ¬ Qz n l := by
     rintro (h | ⟨k, x, Z, h⟩ | h)
     ·omega
     ·exact h (hv k x Z)
     ·exact h1 h
    simp only [Sum.elim_inr]
    unfold Lq.J3
    dsimp only
    refine Cx (fun hne => .pure (.inr (.inl ⟨hno, by omega, rfl⟩))) fun heq => ?_
    obtain ⟨e, e1, e2, _⟩ := Pt n ⟨R, P, O⟩
    refine .bind' (.eq e2 (Cx (fun he => .pure ?_) fun he => .pure ?_))
    ·exact .inr (.inr ⟨hno, by omega, R, P, e, h2, h3, e1, .inl ⟨he, rfl⟩⟩)
    ·exact .inr (.inr ⟨hno, by omega, R, P, e, h2, h3, e1, .inr ⟨he, rfl⟩⟩)
theorem SumRes.small {n : Nw} (hc : NetC n) {l : List Path} {G : List Bool} (W : G.length ≤ 1000) {r : Plan × Int} (h : SumRes n l G r) : r.1.Rates.length ≤ 1000 ∧ r.1.Ports.length ≤ 1000 ∧ r.1.Pumps.length ≤ 1000 := by
 have X := hc.segs1; have Y := hc.ports1
 rcases h with ⟨_, rfl⟩ | ⟨_, _, rfl⟩ | ⟨_, _, R, P, e, M, O, _, ⟨_, rfl⟩ | ⟨_, rfl⟩⟩
 ·simp
 ·simp
 ·simp
 ·have := M.len; have := O.len
  dsimp only; omega
theorem Pg {s : V9} (h : SrcOk s) {l : List Bt} (h1 : 1 ≤ l.length) (h2 : l.length ≤ 1000) : Ok (L0 s l) fun r => SrcOk r.2 := by
 unfold L0
 exact .bind (E1 h (by omega) (by omega)) fun r G => .bind' (.ix' (by omega) (by omega) fun _ _ _ _ => .pure G.1)
theorem Uy {f : Bt} (hf : f.size ≤ 100) (n : Int) : Ok (Gb f n) fun r => r.size ≤ 200 := by
 have O : 0 ≤ IntKind.u8.wrap (wr (97 + n.tmod 26)) ∧ IntKind.u8.wrap (wr (97 + n.tmod 26)) ≤ 255 := by
  generalize wr (97 + n.tmod 26) = z
  have G : IntKind.u8.bits = 8 := rfl
  have : IntKind.u8.wrap z = z % 256 := rfl
  omega
 unfold Gb
 refine .bind (Q := fun r : Bt => r.size ≤ 100) ?_ fun r M => .bind' (.cat (by omega) (.pure (by rw [ByteArray.size_append]; omega)))
 unfold Su
 rw [if_pos (by simp only [List.all_cons, List.all_nil, Bool.and_true, decide_eq_true_eq]; omega)]
 exact ⟨_, rfl, by simp [ByteArray.size]⟩
structure Odd12 (n m : Network) : Prop where
 nodes : 1 ≤ m.Nodes.length ∧ m.Nodes.length ≤ 100
 segs : m.Segments.length = n.Segments.length
 ports : m.Ports.length = n.Ports.length
 sts : m.Stations.length ≤ n.Stations.length + 1
 pts : ∀ (k : Nat) (s : Sg), m.Segments[k]? = some s → s.Points.length ≤ 100
structure Few12 (n : Network) : Prop where
 nodes : 1 ≤ n.Nodes.length ∧ n.Nodes.length ≤ 20
 segs : 1 ≤ n.Segments.length ∧ n.Segments.length ≤ 100
 ports : n.Ports.length ≤ 100
 sts : n.Stations.length ≤ 100
 pts : ∀ (k : Nat) (s : Sg), n.Segments[k]? = some s → s.Points.length ≤ 100
theorem Odd12.sane {n m : Nw} (h : Odd12 n m) (G : Few12 n) : Sane m := by
 have O := h.nodes; have W := h.segs; have X := h.ports; have Y := h.sts; have Z := G.segs; have h6 := G.ports; have h7 := G.sts
 exact ⟨by omega, by omega, by omega, by omega, fun k s M => by have := h.pts k s M; omega⟩
theorem Few12.sane {n : Nw} (G : Few12 n) : Sane n := by
 have O := G.nodes; have W := G.segs; have X := G.ports; have Y := G.sts
 exact ⟨by omega, by omega, by omega, by omega, fun k s M => by have := G.pts k s M; omega⟩
structure WrongR (n m : Network) : Prop where
 odd : Odd12 n m
 seg : ∃ (i : Nat) (x y : Sg), n.Segments[i]? = some x ∧ m.Segments = n.Segments.set i y ∧ y.To = x.To ∧ (y.From = x.From ∨ m.Ports = n.Ports) ∧ (m.Nodes.length = n.Nodes.length ∨ (y.From = x.From ∧ m.Ports = n.Ports ∧ m.Stations = n.Stations))
theorem Yq {s : V9} (hs : SrcOk s) {n : Nw} (hn : Few12 n) : Ok (Tc s n) fun r => WrongR n r.1 ∧ SrcOk r.2 := by
 have X := hn.nodes; have hn2 := hn.segs; have hn3 := hn.ports; have hn4 := hn.sts
 unfold Tc
 refine .bind' (.app (by simp; omega) (.bind' (.app (by simp; omega) (.bind' (.app (by simp; omega) (.bind' (.app (by simp; omega) ?_)))))))
 simp only [List.nil_append]
 refine .bind (E1 hs (by omega) (by omega)) fun k hk => .bind' (.ix' (by omega) (by omega) fun i x hi hx => ?_)
 have hil := (gs hx).1
 have Z := hn.pts i x hx
 refine .bind' (.app (by simp; omega) ?_)
 simp only [List.nil_append]
 refine .bind (E1 hk.1 (by decide) (by decide)) fun c W => ?_
 have O : ∀ (a : Li) (b : Int) (no : List Bt) (po : List Port) (st : List Sn) (va se f ca re wa : Int) (pt : List Point), SrcOk ⟨a, b⟩ → (1 ≤ no.length ∧ no.length ≤ 100) → po.length = n.Ports.length → st.length ≤ n.Stations.length + 1 → pt.length ≤ 100 → (f = x.From ∨ po = n.Ports) → (no.length = n.Nodes.length ∨ (f = x.From ∧ po = n.Ports ∧ st = n.Stations)) →
   Ok (Tc.J1 n.Segments (i, x) (a, b, no, po, st, va, se, f, ca, re, wa, pt)) fun r => WrongR n r.1 ∧ SrcOk r.2 := by
  intro a b no po st va se f ca re wa pt h1 h2 h3 h4 h5 h6 h7
  unfold Tc.J1
  refine .pure ⟨⟨⟨h2, by simp, h3, h4, fun q z hz => ?_⟩, i, x, _, hx, rfl, rfl, h6, h7⟩, h1⟩
  dsimp only at hz
  rw [List.getElem?_set] at hz
  split at hz
  ·cases hz; exact h5
  ·exact hn.pts q z hz
 have G := fun (a : V9) (M : SrcOk a) (va se f ca re wa : Int) => O a.L_ a.At n.Nodes n.Ports n.Stations va se f ca re wa x.Points M ⟨X.1, by omega⟩ rfl (by omega) Z (.inr rfl) (.inl rfl)
 refine A7 (fun _ => ?_) fun _ => A7 (fun _ => ?_) fun _ => A7 (fun _ => ?_) fun _ => A7 (fun _ => ?_) fun _ => A7 (fun _ => ?_) fun _ => A7 (fun _ => ?_) fun _ => A7 (fun _ => ?_) fun _ => A7 (fun _ => ?_) fun _ => A7 (fun _ => ?_) fun _ => A7 (fun _ => ?_) fun _ => A7 (fun _ => ?_) fun _ => ?_
 ·exact .bind (E1 W.1 (by omega) (by omega)) fun a M => .bind (Pg M.1 (by simp) (by simp)) fun b Y => .bind' (.ix' (by omega) (by omega) fun _ _ _ _ => O _ _ _ _ _ _ _ _ _ _ _ _ Y ⟨by simp; omega, by simp; omega⟩ rfl (by omega) Z (.inl rfl) (.inl (by simp)))
 ·exact .bind (Cs W.1 (by simp) (by simp)) fun a M => G a.2 M.1 _ _ _ _ _ _
 ·exact .bind (Cs W.1 (by simp) (by simp)) fun a M => G a.2 M.1 _ _ _ _ _ _
 ·exact .bind (Cs W.1 (by simp) (by simp)) fun a M => G a.2 M.1 _ _ _ _ _ _
 ·exact .bind (Cs W.1 (by simp) (by simp)) fun a M => G a.2 M.1 _ _ _ _ _ _
 ·exact Ax (fun hp => .bind (E1 W.1 (by omega) (by omega)) fun a M => .bind (Cs M.1 (by simp) (by simp)) fun b Y => .bind' (.ix' (by omega) (by omega) fun _ _ _ _ => O _ _ _ _ _ _ _ _ _ _ _ _ Y.1 ⟨X.1, by omega⟩ rfl (by omega) (by simp; omega) (.inl rfl) (.inl rfl))) fun _ => G c.2 W.1 _ _ _ _ _ _
 ·have hw : wr ((x.Points.length : Int) + 1) = (x.Points.length : Int) + 1 := Bn (by omega)
  rw [hw]
  refine .bind (E1 W.1 (by omega) (by omega)) fun a M => ?_
  obtain ⟨j, hj⟩ := Ed M.2.1
  exact .bind' (.sub 0 j rfl hj (Nat.zero_le _) (by omega) (O _ _ _ _ _ _ _ _ _ _ _ _ M.1 ⟨X.1, by omega⟩ rfl (by omega) (by simp; omega) (.inl rfl) (.inl rfl)))
 ·exact Ax (fun hp => .bind (E1 W.1 (by omega) (by omega)) fun a M => .bind (Cs M.1 (by simp) (by simp)) fun b Y => .bind' (.ix' (by omega) (by omega) fun _ _ _ _ => O _ _ _ _ _ _ _ _ _ _ _ _ Y.1 ⟨X.1, by omega⟩ rfl (by omega) (by simp; omega) (.inl rfl) (.inl rfl))) fun _ => G c.2 W.1 _ _ _ _ _ _
 ·exact Ax (fun hp => .bind (E1 W.1 (by omega) (by omega)) fun a M => .bind (Pg M.1 (by simp) (by simp)) fun b Y => .bind (Cs Y (by simp) (by simp)) fun d hd => .bind (Cs hd.1 (by simp) (by simp)) fun e he => .bind' (.ix' (by omega) (by omega) fun _ _ _ _ => O _ _ _ _ _ _ _ _ _ _ _ _ he.1 ⟨X.1, by omega⟩ (by simp) (by omega) Z (.inl rfl) (.inl rfl))) fun _ => G c.2 W.1 _ _ _ _ _ _
 ·exact .bind (Pg W.1 (by simp) (by simp)) fun b Y => .bind (Cs Y (by simp) (by simp)) fun d hd => .bind (Cs hd.1 (by simp) (by simp)) fun e he => .bind (Cs he.1 (by simp) (by simp)) fun g hg => .bind (Cs hg.1 (by simp) (by simp)) fun z hz => .bind' (.app (by simp; omega) (O _ _ _ _ _ _ _ _ _ _ _ _ hz.1 ⟨X.1, by omega⟩ rfl (by simp) Z (.inl rfl) (.inl rfl)))
 ·exact .bind (Cs W.1 (by simp) (by simp)) fun a M => .bind (Cs M.1 (by simp) (by simp)) fun b Y => G b.2 Y.1 _ _ _ _ _ _
 ·refine .bind (Q := fun d : Li × Int × (List Bt) × (List Port) × (List Sn) × Int × Int × Int × Int × Int × Int × (List Point) => ∃ (a : Li) (b : Int) (no : List Bt) (va se ca re wa : Int), d = (a, b, no, n.Ports, n.Stations, va, se, x.From, ca, re, wa, x.Points) ∧ SrcOk ⟨a, b⟩ ∧ 1 ≤ no.length ∧ no.length ≤ 100) ?_ ?_
  ·refine .loop (fun st : Li × Int × List Bt => SrcOk ⟨st.1, st.2.1⟩ ∧ 1 ≤ st.2.2.length ∧ st.2.2.length ≤ 25) (fun st => 100 - st.2.2.length) ⟨W.1, X.1, by dsimp only; omega⟩ (by dsimp only; omega) ?_
   rintro ⟨a, b, no⟩ ⟨h1, h2, h3⟩
   dsimp only at h1 h2 h3
   unfold Tc.B2
   dsimp only
   refine .bind (E1 (s := ⟨a, b⟩) h1 (by decide) (by decide)) fun e he => ?_
   rw [Bn (x := 23 + e.1) (by omega)]
   refine Ax (fun hh => .bind (Uy (by decide) _) fun y hy => .bind (Uy (by decide) _) fun z hz => .bind' (.cat (by omega) (.bind' (.app (by simp; omega) (.pure ⟨⟨he.1, by simp, by simp; omega⟩, by simp; omega⟩))))) fun hh => .pure ⟨_, _, _, _, _, _, _, _, rfl, he.1, h2, by omega⟩
  ·rintro _ ⟨a, b, no, va, se, ca, re, wa, rfl, h1, h2, h3⟩
   exact O _ _ _ _ _ _ _ _ _ _ _ _ h1 ⟨h2, h3⟩ rfl (by omega) Z (.inl rfl) (.inr ⟨rfl, rfl, rfl⟩)
theorem NetOk.few {n : Nw} (h : NetOk n) : Few12 n := by
 have M := h.nodes; have O := h.segs1; have W := h.ports1; have X := h.sts1
 refine ⟨by omega, by omega, by omega, by omega, fun k s G => ?_⟩
 have := h.v.w.sane.pts k s G
 have := (h.segs k s G).points.len
 omega
theorem WrongR.netF {n m : Nw} (O : NetOk n) (h : WrongR n m) (hc : Dw m = some 0) : NetF m := by
 have h1 := O.nodes; have h2 := O.segs1; have h3 := O.ports1; have h4 := O.sts1
 have o2 := h.odd.segs; have o3 := h.odd.ports; have o4 := h.odd.sts
 obtain ⟨e, c1, c2, c3⟩ := eM (h.odd.sane O.few)
 rw [hc] at c1; cases c1
 have W := c3.c hc
 obtain ⟨a, b, c, d, f⟩ := c3.good
 obtain ⟨i, x, y, hx, hs, hto, hfr, M⟩ := h.seg
 have hxo := (O.segs i x hx).ends
 have Y : ∀ (k : Nat) (s : Sg), m.Segments[k]? = some s → s.From < 6 ∧ s.To < 6 := fun k s G => by
  have he := (W.segs k s G).1
  rcases M with M | ⟨hf, _, _⟩
  ·omega
  ·rw [hs, List.getElem?_set] at G
   split at G
   ·split at G
    ·cases G; omega
    ·cases G
   ·have := (O.segs k s G).ends; omega
 have X : ∀ (k : Nat) (s : Port), m.Ports[k]? = some s → s.Node < 6 := fun k s G => by
  have he := W.ports k s G
  rcases M with M | ⟨_, hp, _⟩
  ·omega
  ·rw [hp] at G; have := (O.ports k s G).node; omega
 have Z : ∀ (k : Nat) (s : Sn), m.Stations[k]? = some s → s.Node < 6 := fun k s G => by
  have he := d.2.2 k s G
  unfold At at he
  rcases M with M | ⟨_, _, hp⟩
  ·omega
  ·rw [hp] at G; have := (O.sts k s G).node; omega
 exact ⟨W, by omega, fun k s G => ⟨(W.segs k s G).1, Y k s G⟩, by omega, fun k s G => ⟨W.ports k s G, X k s G⟩, by omega, fun k s G => ⟨d.2.2 k s G, Z k s G⟩, c2⟩
theorem Vj : ∀ {w l : Li} {k : Nat} {a b x : Int}, w[k]? = some a → l[k]? = some x → Ep (w.set k b) l = Ep w l + (b - a) * x
 | [], _, _, _, _, _, h, _ => by simp at h
 | _ :: _, [], _, _, _, _, _, h => by simp at h
 | c :: w, z :: l, 0, a, b, x, h1, h2 => by
  simp at h1 h2; subst h1 h2
  simp only [List.set_cons_zero, Ep]
  rw [Int.sub_mul]; omega
 | c :: w, z :: l, k + 1, a, b, x, h1, h2 => by
  simp only [List.set_cons_succ, Ep]
  rw [Vj (w := w) (by simpa using h1) (by simpa using h2)]; omega
theorem FlowOk.bal' {n : Nw} (M : NetC n) {p : Plan} (h : FlowOk n p) (v : Int) : Ep (wt n v) p.Rates + Ep (wp n v) p.Ports = 0 := by
 by_cases X : 0 ≤ v
 ·obtain ⟨k, rfl⟩ := Ed X
  have Y : Bal n p := fun v X => h.bal v (by have := M.nodes; omega)
  exact Y.all M k
 ·rw [Gi, Gi]; rfl
  ·intro x W
   obtain ⟨k, G⟩ := List.getElem?_of_mem W
   unfold wp at G
   rw [List.getElem?_map] at G
   obtain ⟨s, O, rfl⟩ := Option.map_eq_some_iff.1 G
   have := M.ports k s O
   exact D9 (by omega)
  ·intro x W
   obtain ⟨k, G⟩ := List.getElem?_of_mem W
   unfold wt at G
   rw [List.getElem?_map] at G
   obtain ⟨s, O, rfl⟩ := Option.map_eq_some_iff.1 G
   have := (M.segs k s O).1
   rw [D9 (a := s.To) (by omega), D9 (a := s.From) (by omega)]; rfl
theorem WrongR.plan {n m : Nw} (hn : NetOk n) (h : WrongR n m) {p : Plan} (hp : PlanOk n p) (hm : NetC m) (hf : FlowOk m p) : PlanOk m p := by
 obtain ⟨i, x, y, W, hs, M, Y, hno⟩ := h.seg
 have hxo := (hn.segs i x W).ends
 have hil := (gs W).1
 obtain ⟨r0, hr⟩ : ∃ ζ, p.Rates[i]? = some ζ := ⟨_, gq (by have := hp.rl; omega)⟩
 have key : y.From = x.From ∨ r0 = 0 := by
  by_cases hy : y.From = x.From
  ·exact .inl hy
  ·have hpo := Y.resolve_left hy
   have b1 := hp.bal x.From
   have b2 := hf.bal' hm x.From
   have e : wt m x.From = (wt n x.From).set i (ind y.To x.From - ind y.From x.From) := by
    unfold wt; rw [hs, List.map_set]
   have ep : wp m x.From = wp n x.From := by unfold wp; rw [hpo]
   rw [e, ep, Vj (T9 _ W) hr, M, D9 (a := x.To) (by omega), D9 (a := y.From) hy, Eh] at b2
   right; omega
 refine ⟨hf.rl, hf.pl, hf.ml, hf.rng, hf.prt, hf.bal' hm, hp.dir.imp (fun X k r s O G => ?_) (fun X k r s O G => ?_)⟩
 all_goals
  rw [hs, List.getElem?_set] at G
  split at G
  ·rename_i Z
   subst Z
   cases G
   rw [hr] at O; cases O
   rcases key with e | e
   ·have := X i r0 x hr W
    rw [M, e]; exact this
   ·exact ⟨fun h => by omega, fun h => by omega⟩
  ·exact X k r s O G
structure OffR (p q : Plan) : Prop where
 len : q.Rates.length ≤ p.Rates.length ∧ q.Ports.length ≤ p.Ports.length ∧ q.Pumps.length ≤ p.Pumps.length + 1
 is : (q.Pumps.length = p.Pumps.length + 1) ∨ (q.Rates = p.Rates ∧ q.Pumps = p.Pumps ∧ ∃ k, q.Ports = p.Ports.take k) ∨
  (q.Rates = p.Rates ∧ ∃ (i : Nat) (x y : Int), p.Ports[i]? = some x ∧ q.Ports = p.Ports.set i y ∧ x ≠ y) ∨
  (q.Ports = p.Ports ∧ ∃ (i : Nat) (x y : Int), p.Rates[i]? = some x ∧ q.Rates = p.Rates.set i y ∧ x ≠ y) ∨ q = p
theorem OffR.plan {n : Nw} (hn : NetOk n) {p q : Plan} (h : OffR p q) (M : PlanOk n p) (hf : FlowOk n q) : PlanOk n q := by
 have hc := hn.g.c
 rcases h.is with h | ⟨O, G, k, W⟩ | ⟨O, i, x, y, G, W, h4⟩ | ⟨O, i, x, y, G, W, h4⟩ | rfl
 ·have := hf.ml; have := M.ml; omega
 ·have e : q.Ports = p.Ports := by
   have := hf.pl; have := M.pl
   rw [W, List.length_take] at *
   exact List.take_of_length_le (by omega)
  obtain ⟨a, b, c⟩ := q
  obtain ⟨a', b', c'⟩ := p
  simp only at O G e
  subst O G e
  exact M
 ·exfalso
  have Z := (gs G).1
  obtain ⟨s, X⟩ : ∃ ζ, n.Ports[i]? = some ζ := ⟨_, gq (by have := M.pl; omega)⟩
  have b1 := M.bal s.Node
  have Y := hf.bal' hc s.Node
  rw [O, W, Gp (Ua _ X) G, Eh] at Y
  omega
 ·exfalso
  have Z := (gs G).1
  obtain ⟨s, X⟩ : ∃ ζ, n.Segments[i]? = some ζ := ⟨_, gq (by have := M.rl; omega)⟩
  have he := (hn.segs i s X).ends
  have b1 := M.bal s.To
  have Y := hf.bal' hc s.To
  rw [O, W, Gp (T9 _ X) G, Eh, D9 (a := s.From) (by omega)] at Y
  omega
 ·exact M
theorem gU {s : V9} (hs : SrcOk s) {p : Plan} (h1 : p.Rates.length ≤ 1000) (h2 : p.Ports.length ≤ 1000) (h3 : p.Pumps.length ≤ 1000) (hr : ∀ (k : Nat) (r : Int), p.Rates[k]? = some r → -1000 ≤ r ∧ r ≤ 1000) (hp : ∀ (k : Nat) (r : Int), p.Ports[k]? = some r → -1000 ≤ r ∧ r ≤ 1000) :
  Ok (Oo s p) fun r => OffR p r.1 ∧ SrcOk r.2 := by
 unfold Oo
 refine .bind' (.app (by simp; omega) (.bind' (.app (by simp; omega) (.bind' (.app (by simp; omega) ?_)))))
 simp only [List.nil_append]
 unfold Oo.J1 Oo.J2
 dsimp only
 refine .bind (E1 hs (by decide) (by decide)) fun c W => ?_
 have G : OffR p ⟨p.Rates, p.Ports, p.Pumps⟩ := ⟨by simp, .inr (.inr (.inr (.inr rfl)))⟩
 refine A7 (fun _ => ?_) fun _ => A7 (fun _ => ?_) fun _ => A7 (fun _ => ?_) fun _ => ?_
 ·exact .bind' (.app (by simp; omega) (.pure ⟨⟨by simp, .inl (by simp)⟩, W.1⟩))
 ·rw [Bn (by omega)]
  refine .bind (E1 W.1 (by omega) (by omega)) fun a O => ?_
  obtain ⟨j, hj⟩ := Ed O.2.1
  exact .bind' (.sub 0 j rfl hj (Nat.zero_le _) (by omega) (.pure ⟨⟨by simp; omega, .inr (.inl ⟨rfl, rfl, j, by simp⟩)⟩, O.1⟩))
 ·refine Ax (fun hl => .bind (E1 W.1 (by omega) (by omega)) fun a O => .bind' (.ix' (by omega) (by omega) fun i x hi Y => .bind (Cs O.1 (by simp) (by simp)) fun b X => .pure ⟨⟨by simp, .inr (.inr (.inl ⟨rfl, i, x, _, Y, rfl, ?_⟩))⟩, X.1⟩)) fun _ => .pure ⟨G, W.1⟩
  have M := X.2
  have Z := hp i x Y
  simp at M
  rw [Bn (by omega)]; omega
 ·refine Ax (fun hl => .bind (E1 W.1 (by omega) (by omega)) fun a O => .bind' (.ix' (by omega) (by omega) fun i x hi Y => .bind (Cs O.1 (by simp) (by simp)) fun b X => .pure ⟨⟨by simp, .inr (.inr (.inr (.inl ⟨rfl, i, x, _, Y, rfl, ?_⟩)))⟩, X.1⟩)) fun _ => .pure ⟨G, W.1⟩
  have M := X.2
  have Z := hr i x Y
  simp at M
  rw [Bn (by omega)]; omega
theorem Y6 {n : Nw} (hf : Dw n = some 0 → NetF n) {p : Plan} (Hp : NetF n → FlowOk n p → PlanOk n p) : ∃ r, F9 n p = some r ∧ Fb n p = some r ∧ Ps r.1 := by
 obtain ⟨e, G, e2, _⟩ := F7 n
 obtain ⟨f, M, Z, f3⟩ := Pt n p
 by_cases O : e = 0
 ·subst O
  by_cases W : f = 0
  ·subst W
   have Y := hf G
   have hp := Hp Y (f3 rfl).2
   obtain ⟨⟨a, e⟩, h1, h2, up, X⟩ := Rn Y hp
   dsimp only at h2 X
   subst h2
   exact ⟨_, h1, Vk Y hp h1, by have := X.count; dsimp only; omega, fun x hx => by have := (X.paths x hx).small; omega⟩
  ·refine ⟨([], f), ?_, ?_, by simp, by simp⟩
   ·unfold F9
    rw [G, Option.bind_some, if_neg (by simp), M, Option.bind_some, if_pos (by simpa using W)]
   ·unfold Fb
    rw [Z, Option.bind_some, if_pos (by simpa using W)]
 ·have : f = e := by
   unfold Ga at M
   rw [G, Option.bind_some, if_pos (by simpa using O)] at M
   exact (Option.some.inj M).symm
  subst this
  refine ⟨([], f), ?_, ?_, by simp, by simp⟩
  ·unfold F9
   rw [G, Option.bind_some, if_pos (by simpa using O)]
  ·unfold Fb
   rw [Z, Option.bind_some, if_pos (by simpa using O)]
theorem jR (n : Nw) {l : List Path} (hl : Ps l) {m : List Bool} (O : m.length ≤ 1000) : ∃ r, Lp n l m = some r ∧ Lq n l m = some r ∧ r.1.Rates.length ≤ 1000 ∧ r.1.Ports.length ≤ 1000 ∧ r.1.Pumps.length ≤ 1000 := by
 obtain ⟨e, W, X, Z⟩ := F7 n
 by_cases M : e = 0
 ·subst M
  have G := Z.c W
  obtain ⟨r, h1, Y⟩ := sumP G (l := l) O
  obtain ⟨q, h3, h4⟩ := sumR G X hl O
  obtain rfl := Y.one h4
  exact ⟨r, h1, h3, Y.small G O⟩
 ·refine ⟨(⟨[], [], []⟩, e), ?_, ?_, by simp⟩
  ·unfold Lp
   rw [W, Option.bind_some, if_pos (by simpa using M)]
  ·unfold Lq
   rw [X, Option.bind_some, if_pos (by simpa using M)]
theorem Wv {n : Nw} (hf : Dw n = some 0 → NetF n) {l : List Path} (hl : Ps l) (g : Int) : ∃ r, Hy n l g = some r ∧ Jb n l g = some r ∧ Ps r.1 := by
 obtain ⟨e, G, M, _⟩ := F7 n
 by_cases O : e = 0
 ·subst O
  by_cases W : g < 0 ∨ g ≥ (n.Segments.length : Int)
  ·refine ⟨([], 8), ?_, ?_, by simp, by simp⟩
   ·unfold Hy
    rw [G, Option.bind_some, if_neg (by simp), if_pos (by simpa using W)]
   ·unfold Jb
    rw [M, Option.bind_some, if_neg (by simp), if_pos (by simpa using W)]
  ·obtain ⟨k, rfl⟩ := Ed (show 0 ≤ g by omega)
   have X : k < n.Segments.length := by omega
   exact ⟨_, Wu (hf G) X hl.len hl.hops, dR M hl X, Nat.le_trans (List.length_filter_le _ _) hl.len, fun x Y => hl.hops x (List.mem_filter.1 Y).1⟩
 ·refine ⟨([], e), ?_, ?_, by simp, by simp⟩
  ·unfold Hy
   rw [G, Option.bind_some, if_pos (by simpa using O)]
  ·unfold Jb
   rw [M, Option.bind_some, if_pos (by simpa using O)]
theorem jQ (n : Nw) (p : Path) : ∃ r, Ou n p = some r ∧ Oh n p = some r := by
 obtain ⟨e, G, M, _⟩ := F7 n
 obtain ⟨r, O, W, _⟩ := dO n p
 unfold Ou Oh
 rw [G, M, O, W]
 simp only [Option.bind_some]
 split
 ·exact ⟨r, rfl, rfl⟩
 ·exact ⟨false, rfl, rfl⟩
theorem lD {n : Nw} (hf : Dw n = some 0 → NetF n) {p : Plan} (Hp : NetF n → FlowOk n p → PlanOk n p) {l : List Path} (hl : Ps l) {m : List Bool} (hm : m.length ≤ 1000) (g : Int) : S5 n p l m g = some true := by
 refine So ?_
 obtain ⟨a, O, W, G⟩ := Y6 hf Hp
 obtain ⟨b, X, Y, Z, b4, b5⟩ := jR n hl hm
 obtain ⟨c, c1, c2, M⟩ := Wv hf hl g
 unfold S5
 refine .bind' (.eq O (.bind' (.eq W (.bind' (.eq X (.bind' (.eq Y (.bind' (.eq c1 (.bind' (.eq c2 ?_)))))))))))
 rw [if_neg (by simp), if_neg (by simp), if_neg (by simp)]
 refine .bind' (.eq (Jt G.hops G.len) ?_)
 rw [if_neg (by simp)]
 refine .bind' (.eq (Vz Z b4 b5 rfl) ?_)
 rw [if_neg (by simp)]
 refine .bind' (.eq (Jt M.hops M.len) ?_)
 unfold S5.J1
 rw [if_neg (by simp)]
 have hll := hl.len
 refine .bind (Q := fun d : Bool ⊕ Unit => d = .inr ()) ?_ ?_
 ·refine .loop (fun i : Int => 0 ≤ i ∧ i ≤ (l.length : Int)) (fun i => l.length - i.toNat) ⟨by omega, by omega⟩ (by omega) ?_
  rintro i ⟨i0, i1⟩
  obtain ⟨k, rfl⟩ := Ed i0
  unfold S5.B3
  refine Ax (fun hlt => ?_) fun _ => .pure rfl
  have hx : l[k]? = some (l[k]'(by omega)) := gq _
  obtain ⟨r, h1, h2⟩ := jQ n (l[k]'(by omega))
  refine .bind' (.eq (A8 hx) (.bind' (.eq h1 (.bind' (.eq h2 ?_)))))
  rw [if_neg (by simp)]
  refine .pure ?_
  simp only [Sum.elim_inl]
  rw [Bn (by omega)]
  exact ⟨⟨by omega, by omega⟩, by omega⟩
 ·rintro _ rfl
  exact .pure rfl
theorem hZ {a b : List Path} (Y : ∀ x, x ∈ a → 1 ≤ x.Rate ∧ x.Rate ≤ 1000) (hb : ∀ x, x ∈ b → 1 ≤ x.Rate ∧ x.Rate ≤ 1000) : ∀ x, x ∈ cm a b → 1 ≤ x.Rate ∧ x.Rate ≤ 1000 := by
 have W : ∀ (m O : List Path), (∀ x, x ∈ m → 1 ≤ x.Rate ∧ x.Rate ≤ 1000) → (∀ x, x ∈ O → 1 ≤ x.Rate ∧ x.Rate ≤ 1000) → ∀ x, x ∈ m.foldl (Yk b) O → 1 ≤ x.Rate ∧ x.Rate ≤ 1000 := by
  intro m
  induction m with
  | nil => intro O _ h; exact h
  | cons y m ih =>
   intro O X M
   rw [List.foldl_cons]
   refine ih _ (fun x G => X x (by simp [G])) fun x G => ?_
   unfold Yk at G
   cases hf : Fo b y with
   | none => rw [hf] at G; exact M x G
   | some r =>
    rw [hf] at G
    rcases List.mem_append.1 G with G | G
    ·exact M x G
    ·have Z := X y (by simp); have h2 := hb _ (I4 hf).2.2
     simp at G; subst G
     unfold cE; dsimp only; omega
 exact W a [] Y (by simp)
theorem Ps.set {x : List Path} (h : Ps x) {k : Nat} {q : Path} (M : q.Hops.length ≤ 1000) : Ps (x.set k q) :=
 ⟨by rw [List.length_set]; exact h.len, fun y G => by rcases List.mem_or_eq_of_mem_set G with G | rfl; exact h.hops y G; exact M⟩
theorem T6 (x : Int) {k : Int} (h1 : 1 ≤ k) (h2 : k ≤ 9223372036854775807) : Ok (Fy x k) fun r => 0 ≤ r ∧ r < k := by
 unfold Fy; exact .bind (dB _ h1 h2) fun r G => .pure G
theorem kZ (odd G : Int) {n : Nw} (hs : 1 ≤ n.Segments.length ∧ n.Segments.length ≤ 1000) (hp : n.Ports.length ≤ 1000) {x y : List Path} (hx : x.length ≤ 14 ∧ ∀ z, z ∈ x → z.Hops.length ≤ 5) (hy : y.length ≤ 14 ∧ ∀ z, z ∈ y → z.Hops.length ≤ 5) {m : List Bool} (hm : m.length ≤ 100) :
  Ok (Sy.Sw odd G n x y m) fun w => Ps w.1 ∧ w.2.length ≤ 1000 := by
 have X : Ps x := ⟨by omega, fun z O => by have := hx.2 z O; omega⟩
 have M : Ps x ∧ m.length ≤ 1000 := ⟨X, by omega⟩
 unfold Sy.Sw
 refine Ax (fun hl => ?_) fun _ => .pure M
 refine .bind (T6 G (by omega) (by omega)) fun k hk => .bind' (.ix' hk.1 hk.2 fun i e _ hi => ?_)
 have he := hx.2 e (mg hi)
 have W : ∀ {a b c : Int} {hs : List Hop}, hs.length ≤ 1000 → Ps (x.set i ⟨a, b, hs, c⟩) ∧ m.length ≤ 1000 := fun h => ⟨X.set h, by omega⟩
 have Y : wr ((n.Ports.length : Int) + 2) = (n.Ports.length : Int) + 2 := Bn (by omega)
 have Z : wr ((n.Segments.length : Int) + 2) = (n.Segments.length : Int) + 2 := Bn (by omega)
 rw [Y, Z]
 refine .bind (T6 odd (by decide) (by decide)) fun c _ => ?_
 dsimp only
 refine A7 (fun _ => .bind (T6 G (by decide) (by decide)) fun u _ => .pure (W (by omega))) fun _ => ?_
 refine A7 (fun _ => .bind (T6 G (by omega) (by omega)) fun u _ => .pure (W (by omega))) fun _ => ?_
 refine A7 (fun _ => .bind (T6 G (by omega) (by omega)) fun u _ => .pure (W (by omega))) fun _ => ?_
 refine A7 (fun _ => Ax (fun hh => .bind' (.ix' (Int.le_refl 0) (by omega) fun j q _ hj => .pure (W (by simp; omega)))) fun _ => .pure M) fun _ => ?_
 refine A7 (fun _ => Ax (fun hh => .bind (T6 G (by omega) (by omega)) fun u _ => .bind' (.ix' (Int.le_refl 0) (by omega) fun j q _ hj => .pure (W (by simp; omega)))) fun _ => .pure M) fun _ => ?_
 refine A7 (fun _ => .bind (T6 G (by omega) (by omega)) fun u _ => .bind' (.app (by simp; omega) (.pure (W (by simp; omega))))) fun _ => ?_
 refine A7 (fun _ => .bind' (.app (by omega) (.pure ⟨⟨by rw [List.length_append]; omega, fun z O => ?_⟩, by dsimp only; omega⟩))) fun _ => ?_
 ·rcases List.mem_append.1 O with O | O
  ·exact X.hops z O
  ·have := hy.2 z O; omega
 exact A7 (fun _ => .bind' (.app (by simp; omega) (.pure ⟨X, by simp; omega⟩))) fun _ => .pure M
theorem Yu (l : Li) (odd by_ : Int) : Sy l odd by_ = some true := by
 refine So ?_
 unfold Sy
 refine Gq (fun _ => jP) fun _ => .bind (jY l) fun s X => .bind (jZ X) ?_
 rintro ⟨n, s1⟩ ⟨G, X⟩
 dsimp only at G X
 have z1 := G.segs1; have z2 := G.ports1; have z3 := G.sts1
 refine .bind (X2 G X) ?_
 rintro ⟨p, s2⟩ ⟨O, X⟩
 dsimp only at O X ⊢
 refine .bind (X2 G X) ?_
 rintro ⟨q, s3⟩ ⟨hq, X⟩
 dsimp only at hq X ⊢
 unfold Sy.J1
 dsimp only
 have dv : ∀ {p : Plan}, PlanOk n p → ∃ a up, Fb n p = some (a, 0) ∧ Divided n up p a := fun {p} O => by
  obtain ⟨⟨a, e⟩, h1, h2, up, h3⟩ := Rn G.f O
  dsimp only at h2 h3
  subst h2
  exact ⟨a, up, Vk G.f O h1, h3⟩
 obtain ⟨x, ux, x1, x2⟩ := dv O
 obtain ⟨y, uy, y1, y2⟩ := dv hq
 have xs : ∀ z, z ∈ x → z.Hops.length ≤ 5 ∧ 1 ≤ z.Rate ∧ z.Rate ≤ 1000 := fun z M => (x2.paths z M).small
 have ys : ∀ z, z ∈ y → z.Hops.length ≤ 5 ∧ 1 ≤ z.Rate ∧ z.Rate ≤ 1000 := fun z M => (y2.paths z M).small
 have xc := x2.count; have yc := y2.count
 have Y : Ps x := ⟨by omega, fun z M => by have := xs z M; omega⟩
 have py : Ps y := ⟨by omega, fun z M => by have := ys z M; omega⟩
 have pl := O.ml
 refine .bind' (.eq x1 (.bind' (.eq y1 (.bind' (.app (by simp; omega) ?_)))))
 rw [List.nil_append, Bn (x := (n.Segments.length : Int) + 1) (by omega)]
 refine .bind (E1 X (by omega) (by omega)) fun g hg => ?_
 dsimp only
 refine .bind' (.eq (hR Y) (.bind' (.eq (Ye Y py) ?_)))
 have pc := jB (b := y) Y
 refine .bind' (.eq (Jt pc.hops pc.len) ?_)
 rw [if_neg (by simp)]
 have pd := jB (b := x) py
 have rx : ∀ z, z ∈ x → 1 ≤ z.Rate ∧ z.Rate ≤ 1000 := fun z M => (xs z M).2
 have ry : ∀ z, z ∈ y → 1 ≤ z.Rate ∧ z.Rate ≤ 1000 := fun z M => (ys z M).2
 have rc := hZ ry rx
 have ap : cQ x := fun i j u v hij hu hv ha => x2.apart i j u v hij hu hv ha
 obtain ⟨r1, h1, h2⟩ := iZ (b := cm y x) Y
 obtain ⟨r2, h3, h4⟩ := iY Y pd ap rx rc
 obtain rfl := h2.one h4
 obtain ⟨r3, k1, k2⟩ := iZ (b := y) Y
 obtain ⟨r4, k3, k4⟩ := iY Y py ap rx ry
 obtain rfl := k2.one k4
 have e1 := Ye py Y
 refine .bind' (.eq e1 (.bind' (.eq h1 (.bind' (.eq e1 (.bind' (.eq h3 (.bind' (.eq k1 (.bind' (.eq k3 ?_)))))))))))
 rw [if_neg (by simp), if_neg (by simp)]
 have p1 := X6 Y h2; have p2 := X6 Y k2
 refine .bind' (.eq (Jt p1.hops p1.len) ?_)
 rw [if_neg (by simp)]
 refine .bind' (.eq (Jt p2.hops p2.len) ?_)
 unfold Sy.J2
 rw [if_neg (by simp)]
 refine .bind (kZ odd by_ (n := n) (by have := G.nodes; omega) (by omega) ⟨xc, fun z M => (xs z M).1⟩ ⟨yc, fun z M => (ys z M).1⟩ (by omega)) ?_
 rintro ⟨w, m⟩ ⟨pw, hm⟩
 dsimp only at pw hm ⊢
 have Z : ∀ (W : Nw) (p' : Plan), (Dw W = some 0 → NetF W) → (NetF W → FlowOk W p' → PlanOk W p') → Ok (Sy.J3 w m g (W.Nodes, W.Segments, W.Ports, W.Stations, W.Vapour, W.Settle, p'.Rates, p'.Ports, p'.Pumps)) fun r => r = true := fun W p' hf Hp => by
  unfold Sy.J3
  refine .bind' (.eq (lD (n := W) (p := p') hf Hp pw hm g.1) ?_)
  rw [if_pos rfl, Yg]
  exact .pure rfl
 unfold Sy.J5
 refine .bind (T6 odd (by decide) (by decide)) fun o _ => A7 (fun _ => ?_) fun _ => A7 (fun _ => ?_) fun _ => Z n p (fun _ => G.f) fun _ _ => O
 ·refine .bind (Yq hg.1 G.few) fun k hk => ?_
  exact Z k.1 p (hk.1.netF G) fun hf hfl => hk.1.plan G O hf.c hfl
 ·have e1 := O.rl; have e2 := O.pl; have e3 := O.ml
  refine .bind (gU hg.1 (by dsimp only; omega) (by dsimp only; omega) (by dsimp only; omega) (fun k r hk => ?_) O.prt) fun k hk => Z n k.1 (fun _ => G.f) fun _ hf => hk.1.plan G O hf
  have X : n.Segments[k]? = some (n.Segments[k]'(by have := (gs hk).1; dsimp only at this; omega)) := gq _
  have := O.rng k r _ hk X
  omega
end Go.Proofs.YtihdchjpepkpbaaGreat
namespace Go.Aw
set_option linter.unusedVariables false
set_option linter.unusedSimpArgs false
open Go.ChangeShapes Go.WideShapes Go.ChangeAt Go.RowKit
section
variable {H : Type} {enc : TypeId × Value → H} {P : Program}
theorem Iu (hl : laidOutB P = true) {W W' : World} (hb : Below W.heap.size W W') : ∀ {M : List TypeId} {vs : List Value} {ds : List (DataW H)} {G : List MemPlace},
  (∀ t, t ∈ M → P.readableRec t = true ∧ t < P.types.size) → (∀ x, x ∈ G → x.block < W.heap.size) → DataW.TrodAll enc P W 0 (fun _ => true) true M vs ds G →
  DataW.TrodAll enc P W' 0 (fun b => decide (b < W.heap.size)) true M vs ds G
 | [], vs, ds, G, _, _, h => by
  cases vs <;> cases ds <;> simp [DataW.TrodAll] at h ⊢
  exact h
 | t :: M, vs, ds, G, ht, hlt, h => by
  obtain ⟨v, vs', d, Z, p, q, rfl, rfl, rfl, h1, h2⟩ := trodAll_cons h
  have Y := ht t (by simp)
  exact ⟨p, q, Below.trod hl Y.1 Y.2 h1 hb (fun x X => hlt x (by simp [X])), Iu hl hb (fun t O => ht t (by simp [O])) (fun x X => hlt x (by simp [X])) h2, rfl⟩
theorem eC {f : Func} {s : ChangeSpec} {W W' : World} {args : Array Value} {ds : List (DataW H)} {p : List MemPlace} {t : TypeId} (hW : DataW.Whole enc P f.params.toList s.vars false W args.toList ds [] (p ++ []))
  (hA : DataW.TrodAll enc P W 0 (fun _ => true) true f.params.toList args.toList ds p)
  (O : (s.fn H (ds ++ [])).results = [.lit (.bool true)]) (G : (s.fn H (ds ++ [])).args = ds) (hv : (s.fn H (ds ++ [])).vars = []) (Z : s.vars = [])
  (X : f.resultTypes.toList = [t]) (hu : P.underlying t = some .bool) (hl : laidOutB P = true) (M : ∀ t, t ∈ f.params.toList → P.readableRec t = true ∧ t < P.types.size)
  (hb : Below W.heap.size W W') : s.post enc P f false true false false W args (.bool true) W' := by
 have Y : ∀ x, x ∈ p → x.block < W.heap.size := fun x hx => hW.lt x (by simp [hx])
 have aa : f.resultTypes.size = 1 := by rw [← Array.length_toList, X]; rfl
 refine ⟨ds, [], p ++ [], [], p, [], hW, ?_, ?_, ?_, hb.frame _, fun h => by cases h⟩
 ·rw [O, X, aa]
  exact trodAll_mk1 (shut_bool hu true)
 ·rw [G]
  exact Iu hl hb M Y hA
 ·rw [hv, Z]; rfl
def kW (k : IntKind) (l : Li) : T := .list 1 (l.map fun n => [.v (.int k n)])
theorem Yy {t e : TypeId} {k : IntKind} {W : World} {base : Nat} {r : Reach} {v : Value} {d : DataW H} {ps : List MemPlace} (ht : P.underlying t = some (.slice e)) (he : P.underlying e = some (.int k)) (hc : P.cellsOf e = 1)
  (hval : Value.okWide P W r base t v) (h : DataW.Trod enc P W 0 (fun _ => true) true t v d ps) :
  ∃ l : Li, (l.length ≤ Iy → VR (fun b => W.heap[b]?) v (kW k l)) ∧ (∀ n, n ∈ l → (Lit.int k n).wf = true) ∧ (l = [] ∨ ∃ Z ag, d = .slice Z ag ∧ l.length = Z.length) := by
 obtain ⟨a0, len, cap, rfl⟩ := okWide_slice ht hval
 obtain ⟨fuel, hf⟩ := h
 rcases open_ints ht he hc hf with ⟨G, X⟩ | ⟨a, len', cap', Y, G, _, hl, hm, hz, X, aa, hwz⟩
 ·simp [Value.cells] at G
  obtain ⟨rfl, rfl, rfl⟩ := G
  exact ⟨[], fun _ => .empty _ _ _, by simp, .inl rfl⟩
 ·simp [Value.cells] at G
  obtain ⟨rfl, rfl, rfl⟩ := G
  simp only [Prod.mk.injEq] at X
  obtain ⟨rfl, rfl⟩ := X
  simp only [if_true] at hz
  have hlt : (Y.take len).length = len := by simp; omega
  refine ⟨Y.take len, fun hmax => ?_, fun n hn => hwz n (List.mem_of_mem_take hn), .inr ⟨_, _, rfl, by simp [lits]⟩⟩
  by_cases hl0 : len = 0
  ·subst hl0; simp only [List.take_zero, kW, List.map_nil]; exact .empty _ _ _
  ·obtain ⟨b, M, spot⟩ := a
   have af : spot = none := by simpa [Addr.add] using World.cell?_spot (aa 0 (by omega))
   subst af
   have O : ∀ i, i < Y.length → W.cell? ⟨b, M + i, none⟩ = some (.int k (Y.getD i 0)) := fun i hi => by rw [← Di]; exact aa i hi
   have ad := O 0 (by omega)
   have G : ∃ cs ty fr, W.heap[b]? = some (.cells cs ty fr) := by
    unfold World.cell? at ad
    split at ad
    ·rename_i c ty fr hh; exact ⟨_, _, _, hh⟩
    ·cases ad
   obtain ⟨cs, ty, fr, hh⟩ := G
   have ac : ∀ i, i < Y.length → cs[M + i]? = some (.int k (Y.getD i 0)) := fun i hi => by
    have := O i hi
    simpa [World.cell?, hh] using this
   have ab : ((Y.take len).map fun n => [T.v (.int k n)]).length = len := by rw [List.length_map, hlt]
   have hbig : M + len ≤ cs.size := by
    have := (Array.getElem?_eq_some_iff.1 (ac (len - 1) (by omega))).1
    omega
   have ae : ∀ i e, ((Y.take len).map fun n => [T.v (.int k n)])[i]? = some e → ∀ (j : Nat) (x : T), e[j]? = some x → j = 0 ∧ x = .v (.int k (Y.getD i 0)) ∧ cs.getD (M + i * 1 + j) undef = .int k (Y.getD i 0) := by
    intro i e he j x X
    simp only [List.getElem?_map, Option.map_eq_some_iff] at he
    obtain ⟨n, hn, rfl⟩ := he
    have hil := (gs hn).1
    rw [hlt] at hil
    rw [List.getElem?_take_of_lt hil] at hn
    have hj : j = 0 := by have := (gs X).1; simp at this; exact this
    subst hj
    simp at X
    have hzi : Y.getD i 0 = n := by simp [List.getD, hn]
    refine ⟨rfl, by rw [hzi]; exact X.symm, ?_⟩
    rw [Array.getD_eq_getD_getElem?, show M + i * 1 + 0 = M + i by omega, ac i (by omega)]; rfl
   have := VR.list (H := fun b => W.heap[b]?) b M cap 1 ((Y.take len).map fun n => [T.v (.int k n)]) cs ty fr hh (by rw [ab]; exact hl) (by rw [List.length_map]; exact hmax) (by rw [ab]; omega)
    (fun i e he => by simp only [List.getElem?_map, Option.map_eq_some_iff] at he; obtain ⟨n, _, rfl⟩ := he; rfl)
    (fun i e he j x X => by rw [(ae i e he j x X).2.2]; rfl) (fun i e he j x X => by rw [(ae i e he j x X).2.2, (ae i e he j x X).2.1]; exact .v _)
   rw [ab] at this
   exact this
end
theorem cU {n : Int} (h : (Lit.int .i64 n).wf = true) : -9223372036854775808 ≤ n ∧ n ≤ 9223372036854775807 := by
 have G : IntKind.i64.min = -9223372036854775808 := rfl
 have M : IntKind.i64.max = 9223372036854775807 := rfl
 simp only [Lit.wf, Bool.and_eq_true, decide_eq_true_eq] at h
 omega
theorem Y1 {E : Env} {f : FuncId} {X : List T} {W : World} {args : Array Value} (M : gK fun b => W.heap[b]?) (hc : ACalls E f X [] fun x _ => x = .v (.bool true)) (hsz : args.size = X.length)
  (hv : ∀ (i : Nat) (x : T), X[i]? = some x → VR (fun b => W.heap[b]?) (args.getD i undef) x) : Calls E.P f args W fun e W' => e = .returned (.bool true) ∧ Below W.heap.size W W' := by
 refine (hc.2 (fun b => W.heap[b]?) W args hsz hv ⟨fun _ _ h => h, M⟩ (by simp) (by simp)).mono ?_
 rintro e w' ⟨v, x, fp', H', rfl, rfl, O, _, _, _, _, hs, ⟨Y, Z, e3⟩, G⟩
 refine ⟨by rw [O.v_eq], ⟨Y, Z, e3, hs, fun k hk => (G k hk (by simp)).1⟩⟩
end Go.Aw
