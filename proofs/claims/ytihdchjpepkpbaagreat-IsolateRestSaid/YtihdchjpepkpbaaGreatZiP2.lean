/- Plain proofs. No condition. -/
import Derived.Test.YtihdchjpepkpbaaGreatZiP1
import Derived.Test.YtihdchjpepkpbaaGreatZiD
import Derived.KernelRfl
import Derived.Test.YtihdchjpepkpbaaGreatZiB1
import Derived.ProofKit
import Derived.SizedLaws
import Derived.Carry
set_option maxRecDepth 100000
namespace Go.Proofs.YtihdchjpepkpbaaGreat
set_option linter.unusedVariables false
set_option linter.unusedSimpArgs false
open Go.Aw
theorem Ph {s : List Hop} {g : Hop → Option Bool} {P : Hop → Bool} (hg : ∀ (k : Nat) (x : Hop), s[k]? = some x → g x = some (P x)) :
  Ok (M3 s g) fun r => (r = -1 ∧ ∀ (j : Nat) (y : Hop), s[j]? = some y → P y = false) ∨ ∃ (k : Nat) (x : Hop), r = (k : Int) ∧ s[k]? = some x ∧ P x = true ∧ ∀ (j : Nat) (y : Hop), j < k → s[j]? = some y → P y = false := by
 unfold M3
 refine .bind' (.forL (fun k _ => ∀ (j : Nat) (y : Hop), j < k → s[j]? = some y → P y = false) (fun r => ∃ (k : Nat) (x : Hop), r = (k : Int) ∧ s[k]? = some x ∧ P x = true ∧ ∀ (j : Nat) (y : Hop), j < k → s[j]? = some y → P y = false) (fun j y h => absurd h (Nat.not_lt_zero _)) ?_ ?_ ?_)
 ·intro k x _ W M
  unfold M3.B2
  refine .bind' (.eq (hg k x W) (A9 (fun O => .pure ⟨k, x, rfl, W, O, M⟩) fun O => .pure fun j y Y G => ?_))
  by_cases h : j < k
  ·exact M j y h G
  ·have : j = k := by omega
   subst this
   rw [W] at G; simp at G; subst G; exact O
 ·intro _ M
  simp only [Sum.elim_inl]
  unfold M3.J1
  exact .pure (.inl ⟨rfl, fun j y G => M j y (gs G).1 G⟩)
 ·intro b X
  exact .pure (.inr X)
theorem Ls {s : List Hop} {g : Hop → Option Bool} {P : Hop → Bool} (hg : ∀ (k : Nat) (x : Hop), s[k]? = some x → g x = some (P x)) :
  Nk s g = some (s.any P) := by
 have : Ok (Nk s g) fun r => r = s.any P := by
  unfold Nk
  refine .bind (Ph hg) fun r M => .pure ?_
  rcases M with ⟨rfl, h⟩ | ⟨k, x, rfl, O, G, _⟩
  ·rw [Xk h]; rfl
  ·have : s.any P = true := List.any_eq_true.2 ⟨x, mg O, G⟩
   rw [this]; simp
 obtain ⟨r, h, rfl⟩ := this
 exact h
def fZ (k : Nat) (x : Path) : Bool := x.Hops.any fun h => h.Segment == (k : Int)
def Sk (k : Nat) : List Hop → Int
 | [] => 0
 | h :: t => (if h.Segment = (k : Int) then 1 else 0) + Sk k t
theorem P3 {k : Nat} : ∀ {l : List Hop}, (∀ h, h ∈ l → h.Segment ≠ (k : Int)) → Sk k l = 0
 | [], _ => rfl
 | h :: l, hh => by
  simp only [Sk]
  rw [if_neg (hh h (by simp)), P3 fun x G => hh x (by simp [G])]; rfl
theorem Te {k : Nat} : ∀ {l : List Hop} {i : Nat} {h : Hop}, l[i]? = some h → h.Segment = (k : Int) → (∀ (j : Nat) (x : Hop), j ≠ i → l[j]? = some x → x.Segment ≠ (k : Int)) → Sk k l = 1
 | [], i, h, hi, _, _ => by simp at hi
 | x :: l, 0, h, hi, hk, ho => by
  simp at hi; subst hi
  simp only [Sk]
  rw [if_pos hk, P3 fun y G => ?_]; omega
  obtain ⟨j, M⟩ := List.getElem?_of_mem G
  exact ho (j + 1) y (by omega) (by simpa using M)
 | x :: l, i + 1, h, hi, hk, ho => by
  simp only [Sk]
  rw [if_neg (ho 0 x (by omega) rfl), Te (i := i) (by simpa using hi) hk fun j y M G => ho (j + 1) y (by omega) (by simpa using G)]; omega
theorem PathOk.over {n : Nw} {up : Bool} {p : Plan} (hr : Res n up p.Rates p.Ports) {x : Path} (hx : PathOk n p x) {k : Nat} {r : Int} (hk : p.Rates[k]? = some r) :
  (fZ k x = false ∧ C8 x.Rate k x.Hops = 0) ∨ (fZ k x = true ∧ Sk k x.Hops = 1 ∧ (0 < r ∧ C8 x.Rate k x.Hops = x.Rate ∨ r < 0 ∧ C8 x.Rate k x.Hops = -x.Rate)) := by
 obtain ⟨i, o, p0, po, y0, y1, nd, e1, e2, e3, e4, e5, e6, e7, e8, w, e9, e10, e11, e12, e13⟩ := hx
 by_cases W : ∃ (i : Nat) (h : Hop), x.Hops[i]? = some h ∧ h.Segment = (k : Int)
 ·obtain ⟨j, h, M, O⟩ := W
  have G : ∀ (j' : Nat) (y : Hop), j' ≠ j → x.Hops[j']? = some y → y.Segment ≠ (k : Int) := fun j' y Y hy he => Y (w.once hr hy M (he.trans O.symm))
  obtain ⟨k', s, r', q1, q2, q3, q4⟩ := w.hop j h M
  have : k = k' := by omega
  subst this
  rw [hk] at q3; simp at q3; subst q3
  refine .inr ⟨List.any_eq_true.2 ⟨h, mg M, by simp [O]⟩, Te M O G, ?_⟩
  rw [Jp M O G]
  unfold Mg
  rcases q4 with ⟨b, q, _⟩ | ⟨b, q, _⟩
  ·exact .inl ⟨q, by rw [b]; rfl⟩
  ·exact .inr ⟨q, by rw [b]; rfl⟩
 ·have X : ∀ h, h ∈ x.Hops → h.Segment ≠ (k : Int) := fun h Z O => by
   obtain ⟨j, M⟩ := List.getElem?_of_mem Z
   exact W ⟨j, h, M, O⟩
  refine .inl ⟨?_, Gg X⟩
  unfold fZ
  rw [List.any_eq_false]
  intro h Z
  have := X h Z
  simpa using this
theorem T1 {s : Li} {v : Int} (h : v ∉ s) : Fo s v = some false := by
 have : Ok (Fo s v) fun r => r = false := by
  unfold Fo
  refine .bind Ii fun r O => .pure ?_
  rcases O with ⟨rfl, _⟩ | ⟨k, y, rfl, M, G, _⟩
  ·rfl
  ·have : v = y := by simpa using G
   subst this
   exact absurd (mg M) h
 obtain ⟨r, h, rfl⟩ := this
 exact h
theorem aX {n : Nw} {up : Bool} {p : Plan} (hr : Res n up p.Rates p.Ports) {x : Path} (hx : PathOk n p x) : K0 n x = some true := by
 have : Ok (K0 n x) fun r => r = true := by
  obtain ⟨i, o, p0, po, y0, y1, nd, X, Y, Z, e4, e5, e6, e7, e8, w, e9, W, e11, e12, e13⟩ := hx
  have hil := (gs Z).1
  have hol := (gs e4).1
  have hne : i ≠ o := by rintro rfl; rw [e5] at e7; simp at e7; omega
  unfold K0
  refine A9 (fun G => ?_) fun _ => ?_
  ·simp [Gs, X, Y] at G; omega
  rw [X]
  refine .bind' (.eq (Bg Z) (.bind' (.forL (fun j (st : Int × Li) => st.1 = nd j ∧ st.2 = (List.range (j + 1)).map nd) (fun _ => False) ⟨e9.symm, by simp [e9]⟩ ?_ ?_ fun _ h => h.elim)))
  ·rintro j h ⟨a, l⟩ hj ⟨rfl, rfl⟩
   obtain ⟨k, s, r, q1, q2, q3, q4⟩ := w.hop j h hj
   have hkl := (gs q2).1
   have hjl := (gs hj).1
   unfold K0.B2
   refine A9 (fun G => ?_) fun _ => ?_
   ·rw [q1] at G; simp at G; omega
   refine .bind (Q := fun r : Int × Int => r = (nd j, nd (j + 1))) ?_ ?_
   ·unfold Uq
    rw [q1]
    refine .bind' (.eq (Bg q2) ?_)
    rcases q4 with ⟨b, _, M, O⟩ | ⟨b, _, M, O⟩
    ·rw [b]; exact A9 (fun h => by cases h) fun _ => .pure (by dsimp only; rw [M, O])
    ·rw [b]; exact A9 (fun _ => .pure (by dsimp only; rw [M, O])) fun h => by cases h
   rintro _ rfl
   refine Cl (fun h => absurd rfl h) fun _ => ?_
   dsimp only
   rw [T1 (v := nd (j + 1)) (s := (List.range (j + 1)).map nd)]
   ·refine .bind' (.pure ?_)
    unfold K0.J3
    refine A9 (fun h => by cases h) fun _ => .bind' (.app (by simp; omega) (.pure ⟨rfl, ?_⟩))
    dsimp only
    rw [List.range_succ (n := j + 1), List.map_append]; rfl
   ·simp only [List.mem_map, List.mem_range, not_exists, not_and]
    intro i' hi' he
    exact (w.mono hr (j + 1) i' (by omega) (by omega)).ne he
  ·rintro ⟨a, l⟩ ⟨ha, _⟩
   simp only [Sum.elim_inl]
   unfold K0.J1
   rw [Y]
   refine .bind' (.eq (Bg e4) (.pure ?_))
   dsimp only at ha ⊢
   rw [ha, W]; simp
 obtain ⟨r, h, rfl⟩ := this
 exact h
theorem Px {α : Type} {i : Int} {y : α} : ∀ {l : List (Int × α)} {k : Int} {b : α}, Df (Kn l i y) k = some b → (k = i ∧ b = y) ∨ Df l k = some b
 | [], k, b, h => by simp [Kn, Df] at h
 | (k', x) :: l, k, b, h => by
  simp only [Kn] at h
  split at h
  ·rename_i M
   simp only [Df] at h ⊢
   split at h
   ·rename_i G; simp at h; exact .inl ⟨by omega, h.symm⟩
   ·rename_i G; rw [if_neg G]; exact .inr h
  ·rename_i M
   simp only [Df] at h ⊢
   split at h
   ·rename_i G; rw [if_pos G]; exact .inr h
   ·rename_i G; rw [if_neg G]; exact Px h
theorem Lz {α : Type} {i : Int} {y : α} : ∀ {l : List (Int × α)} {k : Int} {b : α}, Df (l ++ [(i, y)]) k = some b → (k = i ∧ b = y) ∨ Df l k = some b
 | [], k, b, h => by
  simp only [List.nil_append, Df] at h
  split at h
  ·simp at h; exact .inl ⟨by omega, h.symm⟩
  ·cases h
 | (k', x) :: l, k, b, h => by
  simp only [List.cons_append, Df] at h ⊢
  split at h
  ·rename_i G; rw [if_pos G]; exact .inr h
  ·rename_i G; rw [if_neg G]; exact Lz h
theorem W8 {α : Type} {i : Int} {y : α} {l : List (Int × α)} {k : Int} {b : α} (h : Df (Il l i y) k = some b) : (k = i ∧ b = y) ∨ Df l k = some b := by
 unfold Il at h
 split at h
 ·exact Px h
 ·exact Lz h
theorem Uy {n : Nw} {p : Plan} {l : List Path} (hl : ∀ x, x ∈ l → PathOk n p x) : Kp l = some false := by
 have : Ok (Kp l) fun r => r = false := by
  unfold Kp
  let Inv : List (Int × Bool) → Prop := fun M => ∀ (k : Int) (b : Bool), Df M k = some b → ∃ (X : Nat) (r : Int), k = (X : Int) ∧ p.Rates[X]? = some r ∧ b = decide (r < 0)
  refine .bind' (.forL (fun _ M => Inv M) (fun _ => False) (fun k b h => by simp [Df] at h) ?_ ?_ fun _ h => h.elim)
  ·intro j x M hx G
   obtain ⟨i, o, p0, po, y0, y1, nd, e1, e2, e3, e4, e5, e6, e7, e8, w, e9, e10, e11, e12, e13⟩ := hl x (mg hx)
   unfold Kp.B2
   refine .bind' (.forL (fun _ M => Inv M) (fun _ => False) G ?_ ?_ fun _ h => h.elim)
   ·intro t h M hh G
    obtain ⟨k, s, r, q1, q2, q3, q4⟩ := w.hop t h hh
    have Z : h.Back = decide (r < 0) := by
     rcases q4 with ⟨b, q, _⟩ | ⟨b, q, _⟩
     ·rw [b]; symm; simpa using (by omega : 0 ≤ r)
     ·rw [b]; symm; simpa using q
    unfold Kp.B4
    refine A9 (fun W => ?_) fun _ => .pure fun k' b' O => ?_
    ·exfalso
     cases hm : Df M h.Segment with
     | none => rw [hm] at W; simp at W
     | some b =>
      obtain ⟨X, r', a1, Y, a3⟩ := G _ _ hm
      have : X = k := by omega
      subst this
      rw [q3] at Y; simp at Y; subst Y
      rw [hm, Z, a3] at W; simp at W
    ·rcases W8 O with ⟨rfl, rfl⟩ | O
     ·exact ⟨k, r, q1, q3, Z⟩
     ·exact G k' b' O
   ·intro M G
    simp only [Sum.elim_inl]
    unfold Kp.J3
    exact .pure G
  ·intro M _
   exact .pure rfl
 obtain ⟨r, h, rfl⟩ := this
 exact h
theorem eI {n : Nw} {up : Bool} {p : Plan} (hr : Res n up p.Rates p.Ports) {x : Path} (hx : PathOk n p x) {rates ports : Li} {pumps : List Bool} (hrl : rates.length = n.Segments.length) (hpl : ports.length = n.Ports.length)
  (hrb : ∀ (k : Nat) (r : Int), rates[k]? = some r → -1000000 ≤ r ∧ r ≤ 1000000) (hpb : ∀ (k : Nat) (r : Int), ports[k]? = some r → -1000000 ≤ r ∧ r ≤ 1000000) :
  Ok (Rh ⟨rates, ports, pumps⟩ x x.Rate) fun q => q.Rates.length = rates.length ∧ q.Ports.length = ports.length ∧ q.Pumps = pumps ∧ (∀ (k : Nat) (r : Int), rates[k]? = some r → q.Rates[k]? = some (r + C8 x.Rate k x.Hops)) ∧
   (∀ (k : Nat) (r : Int), ports[k]? = some r → q.Ports[k]? = some (r + F6 k x)) ∧ ∀ v, D5 (wt n v) q.Rates + D5 (wp n v) q.Ports = D5 (wt n v) rates + D5 (wp n v) ports := by
 obtain ⟨i, o, p0, po, y0, y1, nd, e1, e2, e3, e4, e5, e6, e7, e8, w, e9, e10, e11, e12, e13⟩ := hx
 have hil := (gs e3).1
 have hol := (gs e4).1
 have hne : i ≠ o := by rintro rfl; rw [e5] at e7; simp at e7; omega
 have G : ports[i]? = some (ports[i]'(by omega)) := gq _
 have O : ports[o]? = some (ports[o]'(by omega)) := gq _
 generalize ports[i]'(by omega) = X at G
 generalize ports[o]'(by omega) = zo at O
 have hzi := hpb i X G
 have hzo := hpb o zo O
 have w1 : wr (X + x.Rate) = X + x.Rate := Bc (by omega)
 have w2 : wr (zo - x.Rate) = zo - x.Rate := Bc (by omega)
 have W : (ports.set i (X + x.Rate))[o]? = some zo := by rw [List.getElem?_set_ne hne]; exact O
 unfold Rh
 rw [e1, e2]
 refine .bind' (.eq (Bg G) ?_)
 dsimp only
 rw [w1]
 refine .bind' (.eq (Bg W) ?_)
 dsimp only
 rw [w2]
 refine .bind (.forS (fun j st => st.length = rates.length ∧ (∀ (k : Nat) (r : Int), rates[k]? = some r → st[k]? = some (r + C8 x.Rate k (x.Hops.take j))) ∧ ∀ v, D5 (wt n v) st = D5 (wt n v) rates + (x.Rate * ind (nd j) v - x.Rate * ind (nd 0) v)) ⟨rfl, fun k r hr => by simp [C8, hr], fun v => by omega⟩ ?_ fun st h => h) ?_
 ·rintro j h st hj ⟨i1, i2, i3⟩
  have hjl := (gs hj).1
  obtain ⟨k, s, r0, q1, q2, q3, q4⟩ := w.hop j h hj
  have hkl := (gs q2).1
  obtain ⟨r, M⟩ : ∃ ζ, rates[k]? = some ζ := ⟨_, gq (by omega)⟩
  have Z := i2 k r M
  have hrr := hrb k r M
  have hb := Jq (rate := x.Rate) (by omega) k (x.Hops.take j)
  rw [List.length_take] at hb
  unfold Rh.B1
  rw [q1]
  refine .bind' (.eq (Bg Z) (.pure ?_))
  dsimp only
  rw [Pu (by omega)]
  have hsg : -1000 ≤ Mg x.Rate h ∧ Mg x.Rate h ≤ 1000 := by unfold Mg; split <;> omega
  rw [Bc (by omega)]
  refine ⟨by simp [i1], fun k' r' hr' => ?_, fun v => ?_⟩
  ·rw [P2 hj, Du]
   have hkl := (gs Z).1
   by_cases hkk : k = k'
   ·subst hkk
    rw [hr'] at M; simp at M; subst M
    rw [if_pos ⟨rfl, hkl⟩, if_pos q1]; congr 1; omega
   ·rw [if_neg (fun h => hkk h.1), if_neg (by omega), i2 k' r' hr']; simp
  ·rw [Fe (Vt v q2) Z, i3 v]
   have : (ind s.To v - ind s.From v) * (r + C8 x.Rate k (x.Hops.take j) + Mg x.Rate h - (r + C8 x.Rate k (x.Hops.take j))) = x.Rate * ind (nd (j + 1)) v - x.Rate * ind (nd j) v := by
    rw [show r + C8 x.Rate k (x.Hops.take j) + Mg x.Rate h - (r + C8 x.Rate k (x.Hops.take j)) = Mg x.Rate h by omega]
    unfold Mg
    rcases q4 with ⟨b, _, a1, a2⟩ | ⟨b, _, a1, a2⟩
    ·rw [b, a1, a2, if_neg (by simp), Int.sub_mul, Int.mul_comm, Int.mul_comm (ind (nd j) v)]
    ·rw [b, a1, a2, if_pos rfl, Int.sub_mul, Int.mul_neg, Int.mul_neg, Int.mul_comm, Int.mul_comm (ind (nd (j + 1)) v)]; omega
   rw [this]; omega
 rintro st ⟨i1, i2, i3⟩
 rw [List.take_length] at i2
 refine .pure ⟨i1, by simp, rfl, i2, fun k z Y => ?_, fun v => ?_⟩
 ·dsimp only
  unfold F6
  rw [e1, e2, Du, Du]
  by_cases hko : o = k
  ·subst hko
   rw [O] at Y; simp at Y; subst Y
   rw [if_pos ⟨rfl, by simp; omega⟩, if_neg (by omega), if_pos rfl]; congr 1; omega
  ·rw [if_neg (fun h => hko h.1)]
   by_cases hki : i = k
   ·subst hki
    rw [G] at Y; simp at Y; subst Y
    rw [if_pos ⟨rfl, by omega⟩, if_pos rfl, if_neg (by omega)]; congr 1; omega
   ·rw [if_neg (fun h => hki h.1), if_neg (by omega), if_neg (by omega), Y]; simp
 ·dsimp only
  rw [i3 v, Fe (Pm v e4) W, Fe (Pm v e3) G, e9, e10]
  have a1 : ind p0.Node v * (X + x.Rate - X) = x.Rate * ind p0.Node v := by rw [show X + x.Rate - X = x.Rate by omega, Int.mul_comm]
  have a2 : ind po.Node v * (zo - x.Rate - zo) = -(x.Rate * ind po.Node v) := by rw [show zo - x.Rate - zo = -x.Rate by omega, Int.mul_neg, Int.mul_comm]
  rw [a1, a2]; omega
theorem Kj {s : List Path} {g : Path → Option Bool} (hg : ∀ (k : Nat) (x : Path), s[k]? = some x → g x = some false) : M1 s g = some false := by
 have : Ok (M1 s g) fun r => r = false := by
  unfold M1
  refine .bind (Q := fun r => r = -1) ?_ ?_
  ·unfold Ky
   refine .bind' (.forL (fun k _ => True) (fun r => False) trivial ?_ ?_ fun _ h => h.elim)
   ·intro k x _ G _
    unfold Ky.B2
    exact .bind' (.eq (hg k x G) (A9 (fun h => by cases h) fun _ => .pure trivial))
   ·intro _ _
    exact .pure rfl
  ·rintro _ rfl
   exact .pure rfl
 obtain ⟨r, h, rfl⟩ := this
 exact h
theorem Tx {l : List Path} {k j : Nat} {x : Path} (h : l[j]? = some x) : Bz k (l.take (j + 1)) = Bz k (l.take j) + C8 x.Rate k x.Hops := by
 rw [List.take_add_one, h, Ga]; simp [Bz]
theorem R9 {l : List Path} {k j : Nat} {x : Path} (h : l[j]? = some x) : Bj k (l.take (j + 1)) = Bj k (l.take j) + F6 k x := by
 rw [List.take_add_one, h, Fw]; simp [Bj]
theorem Oj {n : Nw} {p : Plan} (k : Nat) : ∀ {l : List Path}, (∀ x, x ∈ l → PathOk n p x) → -(5000 * (l.length : Int)) ≤ Bz k l ∧ Bz k l ≤ 5000 * (l.length : Int)
 | [], _ => by simp [Bz]
 | x :: l, h => by
  have ih := Oj k (l := l) fun y X => h y (by simp [X])
  obtain ⟨i, o, p0, po, y0, y1, nd, Y, Z, e3, e4, e5, e6, e7, e8, w, e9, G, M, O, W⟩ := h x (by simp)
  have := Jq (rate := x.Rate) (by omega) k x.Hops
  simp only [Bz, List.length_cons]; omega
theorem Ly {n : Nw} {p : Plan} (k : Nat) : ∀ {l : List Path}, (∀ x, x ∈ l → PathOk n p x) → -(5000 * (l.length : Int)) ≤ Bj k l ∧ Bj k l ≤ 5000 * (l.length : Int)
 | [], _ => by simp [Bj]
 | x :: l, h => by
  have ih := Ly k (l := l) fun y X => h y (by simp [X])
  obtain ⟨i, o, p0, po, y0, y1, nd, Y, Z, e3, e4, e5, e6, e7, e8, w, e9, G, M, O, W⟩ := h x (by simp)
  simp only [Bj, F6, List.length_cons]
  split <;> split <;> omega
theorem gD {n : Nw} (hn : NetF n) {up : Bool} {p : Plan} (hp : PlanOk n p) (hr : Res n up p.Rates p.Ports) {l : List Path} (hl : ∀ x, x ∈ l → PathOk n p x) (hlen : l.length ≤ 64)
  (hsr : ∀ (k : Nat) (r : Int), p.Rates[k]? = some r → (0 ≤ r → 0 ≤ Bz k l ∧ Bz k l ≤ r) ∧ (r ≤ 0 → r ≤ Bz k l ∧ Bz k l ≤ 0))
  (hsp : ∀ (k : Nat) (r : Int), p.Ports[k]? = some r → (0 ≤ r → 0 ≤ Bj k l ∧ Bj k l ≤ r) ∧ (r ≤ 0 → r ≤ Bj k l ∧ Bj k l ≤ 0)) {pumps : List Bool} (hpu : pumps.length = n.Stations.length) :
  Ok (Rk n l pumps) fun q => q.2 = 0 ∧ PlanOk n q.1 ∧ q.1.Pumps = pumps ∧ (∀ (k : Nat) (r : Int), q.1.Rates[k]? = some r → r = Bz k l) ∧ ∀ (k : Nat) (r : Int), q.1.Ports[k]? = some r → r = Bj k l := by
 have h1 := hn.segs1; have h2 := hn.ports1; have h3 := hn.sts1; have h4 := hp.rl; have h5 := hp.pl
 unfold Rk
 rw [hn.check]
 refine .bind' (.pure (Cl (fun h => absurd rfl h) fun _ => A0 (fun h => by omega) fun _ => ?_))
 rw [Kj fun k x Y => by unfold M2; rw [aX hr (hl x (mg Y))]; rfl]
 refine .bind' (.pure (A9 (fun h => by cases h) fun _ => ?_))
 rw [Uy hl]
 refine .bind' (.pure ?_)
 unfold Rk.J1
 refine A9 (fun h => by cases h) fun _ => Cl (fun h => by omega) fun _ => .bind' (.mk n.Segments.length rfl (by omega) (.bind' (.mk n.Ports.length rfl (by omega) ?_)))
 have hcl : Nd pumps = some pumps := by unfold Nd; rw [Fy (by simp; omega)]; rfl
 rw [hcl]
 refine .bind' (.pure ?_)
 unfold Rk.J2
 refine .bind (.forS (fun j (st : Li × Li × List Bool) => st.1.length = n.Segments.length ∧ st.2.1.length = n.Ports.length ∧ st.2.2 = pumps ∧ (∀ (k : Nat) (r : Int), st.1[k]? = some r → r = Bz k (l.take j)) ∧ (∀ (k : Nat) (r : Int), st.2.1[k]? = some r → r = Bj k (l.take j)) ∧ ∀ v, D5 (wt n v) st.1 + D5 (wp n v) st.2.1 = 0)
  ⟨by simp, by simp, rfl, fun k r G => ?_, fun k r G => ?_, fun v => by rw [Jt, Jt]; rfl⟩ ?_ fun st h => h) ?_
 ·have := mg G; simp at this; simp [Bz]; omega
 ·have := mg G; simp at this; simp [Bj]; omega
 ·rintro j x ⟨M, O, pu⟩ Y ⟨i1, i2, i3, Z, i5, i6⟩
  dsimp only at i1 i2 i3 Z i5 i6
  have hjl := (gs Y).1
  have ht : ∀ x, x ∈ l.take j → PathOk n p x := fun x Y => hl x (List.mem_of_mem_take Y)
  have htl : (l.take j).length ≤ 64 := by rw [List.length_take]; omega
  unfold Rk.B4
  refine .bind (eI hr (hl x (mg Y)) i1 i2 (fun k r G => by have := Z k r G; have := Oj k ht; omega) fun k r G => by have := i5 k r G; have := Ly k ht; omega) ?_
  rintro q ⟨g1, g2, g3, g4, g5, g6⟩
  dsimp only at g1 g2 g3 g4 g5 g6
  refine .pure ⟨by dsimp only; omega, by dsimp only; omega, by dsimp only; rw [g3, i3], fun k r G => ?_, fun k r G => ?_, fun v => by have := g6 v; have := i6 v; dsimp only; omega⟩
  ·dsimp only at G
   have hkl := (gs G).1
   have W : M[k]? = some (M[k]'(by omega)) := gq _
   have ha := g4 k _ W
   have hb := Z k _ W
   rw [G] at ha; simp at ha
   rw [Tx Y]; omega
  ·dsimp only at G
   have hkl := (gs G).1
   have W : O[k]? = some (O[k]'(by omega)) := gq _
   have ha := g5 k _ W
   have hb := i5 k _ W
   rw [G] at ha; simp at ha
   rw [R9 Y]; omega
 rintro ⟨M, O, pu⟩ ⟨i1, i2, i3, Z, i5, i6⟩
 rw [List.take_length] at Z i5
 dsimp only at i1 i2 i3 Z i5 i6
 have old : ∀ (k : Nat) (r : Int), M[k]? = some r → ∃ X, p.Rates[k]? = some X ∧ ((0 ≤ X → 0 ≤ r ∧ r ≤ X) ∧ (X ≤ 0 → X ≤ r ∧ r ≤ 0)) := fun k r G => by
  have hkl := (gs G).1
  have W : p.Rates[k]? = some (p.Rates[k]'(by omega)) := gq _
  refine ⟨_, W, ?_⟩
  have := hsr k _ W
  have := Z k r G
  omega
 have ok : PlanOk n ⟨M, O, pu⟩ := by
  refine ⟨i1, i2, by dsimp only; rw [i3]; exact hpu, fun k r s G hs => ?_, fun k r G => ?_, i6, ?_⟩
  ·obtain ⟨X, a1, a2⟩ := old k r G
   have := hp.rng k X s a1 hs
   omega
  ·dsimp only at G
   have hkl := (gs G).1
   have W : p.Ports[k]? = some (p.Ports[k]'(by omega)) := gq _
   have := hsp k _ W
   have := i5 k r G
   have := hp.prt k _ W
   omega
  ·rcases hp.dir with hd | hd
   ·refine .inl fun k r s G hs => ?_
    obtain ⟨X, a1, a2⟩ := old k r G
    have := hd k X s a1 hs
    exact ⟨fun h => this.1 (by omega), fun h => this.2 (by omega)⟩
   ·refine .inr fun k r s G hs => ?_
    obtain ⟨X, a1, a2⟩ := old k r G
    have := hd k X s a1 hs
    exact ⟨fun h => this.1 (by omega), fun h => this.2 (by omega)⟩
 unfold Rk.J3
 dsimp only
 rw [Z9 hn ok.flow]
 exact .bind' (.pure (Cl (fun h => absurd rfl h) fun _ => .pure ⟨rfl, ok, i3, Z, i5⟩))
theorem Lx {a b : Li} (hl : a.length ≤ 1000) : Kx a b = some (a == b) := by
 have : Ok (Kx a b) fun r => r = (a == b) := by
  unfold Kx
  refine Cl (fun h => .pure ?_) fun h => ?_
  ·symm; rw [beq_eq_false_iff_ne]; rintro rfl; exact h rfl
  have hl2 : a.length = b.length := by omega
  refine .bind (Q := fun d : Bool ⊕ Unit => (d = .inl false ∧ a ≠ b) ∨ (d = .inr () ∧ a = b)) ?_ ?_
  ·refine .loop (fun M : Int => 0 ≤ M ∧ M ≤ (a.length : Int) ∧ ∀ j : Nat, (j : Int) < M → a[j]? = b[j]?) (fun M => a.length - M.toNat) ⟨by omega, by omega, fun j hj => by omega⟩ (by omega) ?_
   rintro M ⟨h0, h1, h2⟩
   obtain ⟨k, rfl⟩ := Ep h0
   unfold Kx.B2
   refine A0 (fun hlt => ?_) fun hge => .pure (.inr ⟨rfl, ?_⟩)
   ·have G : a[k]? = some (a[k]'(by omega)) := gq _
    have O : b[k]? = some (b[k]'(by omega)) := gq _
    generalize a[k]'(by omega) = x at G
    generalize b[k]'(by omega) = y at O
    refine .bind' (.eq (Bg G) (.bind' (.eq (Bg O) (Cl (fun Y => .pure (.inl ⟨rfl, ?_⟩)) fun W => .pure ?_))))
    ·intro he; rw [he, O] at G; simp at G; exact Y G.symm
    ·rw [Bc (by omega)]
     have Z : x = y := W
     refine ⟨⟨by omega, by omega, fun j hj => ?_⟩, by omega⟩
     by_cases X : j = k
     ·subst X; rw [G, O, Z]
     ·exact h2 j (by omega)
   ·refine List.ext_getElem? fun j => ?_
    by_cases hj : j < a.length
    ·exact h2 j (by omega)
    ·rw [List.getElem?_eq_none (by omega), List.getElem?_eq_none (by omega)]
  ·rintro _ (⟨rfl, h⟩ | ⟨rfl, h⟩)
   ·exact .pure (by symm; rw [beq_eq_false_iff_ne]; exact h)
   ·exact .pure (by symm; rw [beq_iff_eq]; exact h)
 obtain ⟨r, h, rfl⟩ := this
 exact h
theorem R7 {a b : List Bool} (hl : a.length ≤ 1000) : Mx a b = some (a == b) := by
 have : Ok (Mx a b) fun r => r = (a == b) := by
  unfold Mx
  refine Cl (fun h => .pure ?_) fun h => ?_
  ·symm; rw [beq_eq_false_iff_ne]; rintro rfl; exact h rfl
  have hl2 : a.length = b.length := by omega
  refine .bind (Q := fun d : Bool ⊕ Unit => (d = .inl false ∧ a ≠ b) ∨ (d = .inr () ∧ a = b)) ?_ ?_
  ·refine .loop (fun M : Int => 0 ≤ M ∧ M ≤ (a.length : Int) ∧ ∀ j : Nat, (j : Int) < M → a[j]? = b[j]?) (fun M => a.length - M.toNat) ⟨by omega, by omega, fun j hj => by omega⟩ (by omega) ?_
   rintro M ⟨h0, h1, h2⟩
   obtain ⟨k, rfl⟩ := Ep h0
   unfold Mx.B2
   refine A0 (fun hlt => ?_) fun hge => .pure (.inr ⟨rfl, ?_⟩)
   ·have G : a[k]? = some (a[k]'(by omega)) := gq _
    have O : b[k]? = some (b[k]'(by omega)) := gq _
    generalize a[k]'(by omega) = x at G
    generalize b[k]'(by omega) = y at O
    refine .bind' (.eq (Bg G) (.bind' (.eq (Bg O) (A9 (fun Y => .pure (.inl ⟨rfl, ?_⟩)) fun W => .pure ?_))))
    ·intro he; rw [he, O] at G; simp at G; subst G; simp at Y
    ·rw [Bc (by omega)]
     have Z : x = y := by simpa using W
     refine ⟨⟨by omega, by omega, fun j hj => ?_⟩, by omega⟩
     by_cases X : j = k
     ·subst X; rw [G, O, Z]
     ·exact h2 j (by omega)
   ·refine List.ext_getElem? fun j => ?_
    by_cases hj : j < a.length
    ·exact h2 j (by omega)
    ·rw [List.getElem?_eq_none (by omega), List.getElem?_eq_none (by omega)]
  ·rintro _ (⟨rfl, h⟩ | ⟨rfl, h⟩)
   ·exact .pure (by symm; rw [beq_eq_false_iff_ne]; exact h)
   ·exact .pure (by symm; rw [beq_iff_eq]; exact h)
 obtain ⟨r, h, rfl⟩ := this
 exact h
theorem Ty {a b : Plan} (h1 : a.Rates.length ≤ 1000) (h2 : a.Ports.length ≤ 1000) (G : a.Pumps.length ≤ 1000) (h : a = b) : M0 a b = some true := by
 subst h
 unfold M0 M0.J1
 rw [Lx h1, Lx h2, R7 G]
 simp
theorem Divided.all {n : Nw} {up : Bool} {p : Plan} {l : List Path} (h : Divided n up p l) : (∀ (k : Nat) (r : Int), p.Rates[k]? = some r → (0 ≤ r → 0 ≤ Bz k l ∧ Bz k l ≤ r) ∧ (r ≤ 0 → r ≤ Bz k l ∧ Bz k l ≤ 0)) ∧
  ∀ (k : Nat) (r : Int), p.Ports[k]? = some r → (0 ≤ r → 0 ≤ Bj k l ∧ Bj k l ≤ r) ∧ (r ≤ 0 → r ≤ Bj k l ∧ Bj k l ≤ 0) :=
 ⟨fun k r G => by have := h.sumR k r G; omega, fun k r G => by have := h.sumP k r G; omega⟩
theorem PathOk.small {n : Nw} {p : Plan} {x : Path} (h : PathOk n p x) : x.Hops.length ≤ 5 ∧ 1 ≤ x.Rate ∧ x.Rate ≤ 1000 := by
 obtain ⟨i, o, p0, po, y0, y1, nd, X, Y, Z, e4, e5, e6, e7, e8, w, e9, W, G, M, O⟩ := h
 exact ⟨G, M, O⟩
theorem PathOk.sign {n : Nw} {up : Bool} {p : Plan} (W : Res n up p.Rates p.Ports) {x : Path} (G : PathOk n p x) {k : Nat} {r : Int} (O : p.Rates[k]? = some r) : (0 ≤ r → 0 ≤ C8 x.Rate k x.Hops) ∧ (r ≤ 0 → C8 x.Rate k x.Hops ≤ 0) := by
 have := G.small
 rcases G.over W O with ⟨_, e⟩ | ⟨_, _, ⟨M, e⟩ | ⟨M, e⟩⟩ <;> omega
theorem PathOk.psign {n : Nw} {p : Plan} {x : Path} (hx : PathOk n p x) {k : Nat} {r : Int} (G : p.Ports[k]? = some r) : (0 ≤ r → 0 ≤ F6 k x) ∧ (r ≤ 0 → F6 k x ≤ 0) := by
 obtain ⟨i, o, p0, po, y0, y1, nd, W, e2, e3, e4, O, e6, M, e8, w, e9, X, Y, Z, aa⟩ := hx
 unfold F6
 rw [W, e2]
 by_cases hi : i = k
 ·subst hi
  rw [O] at G; simp at G; subst G
  have : o ≠ i := by rintro rfl; rw [O] at M; simp at M; omega
  rw [if_pos rfl, if_neg (by omega)]; omega
 ·rw [if_neg (by omega)]
  by_cases ho : o = k
  ·subst ho
   rw [M] at G; simp at G; subst G
   rw [if_pos rfl]; omega
  ·rw [if_neg (by omega)]; omega
theorem Le {n : Nw} {up : Bool} {p : Plan} (M : Res n up p.Rates p.Ports) {k : Nat} {r : Int} (G : p.Rates[k]? = some r) : ∀ {l : List Path}, (∀ x, x ∈ l → PathOk n p x) → (0 ≤ r → 0 ≤ Bz k l) ∧ (r ≤ 0 → Bz k l ≤ 0)
 | [], _ => by simp [Bz]
 | x :: l, h => by
  have := Le M G (l := l) fun y O => h y (by simp [O])
  have := (h x (by simp)).sign M G
  simp only [Bz]; omega
theorem Ix {n : Nw} {p : Plan} {k : Nat} {r : Int} (G : p.Ports[k]? = some r) : ∀ {l : List Path}, (∀ x, x ∈ l → PathOk n p x) → (0 ≤ r → 0 ≤ Bj k l) ∧ (r ≤ 0 → Bj k l ≤ 0)
 | [], _ => by simp [Bj]
 | x :: l, h => by
  have := Ix G (l := l) fun y M => h y (by simp [M])
  have := (h x (by simp)).psign G
  simp only [Bj]; omega
def CS (n : Nw) (rates : Li) (k : Nat) (v : Int) : Prop := ∃ (i : Nat) (s : Sg) (r : Int), i < k ∧ n.Segments[i]? = some s ∧ rates[i]? = some r ∧ (0 < r ∧ s.To = v ∨ r < 0 ∧ s.From = v)
def CP (n : Nw) (ports : Li) (k : Nat) (v : Int) : Prop := ∃ (i : Nat) (p : Port) (x : Int), i < k ∧ n.Ports[i]? = some p ∧ p.Node = v ∧ ports[i]? = some x ∧ 0 < x
theorem Wh {n : Nw} {rates : Li} {k : Nat} {v : Int} {s : Sg} {r : Int} (Z : n.Segments[k]? = some s) (Y : rates[k]? = some r) : CS n rates (k + 1) v ↔ CS n rates k v ∨ (0 < r ∧ s.To = v ∨ r < 0 ∧ s.From = v) := by
 constructor
 ·rintro ⟨i, X, W, h1, G, M, O⟩
  by_cases h : i = k
  ·subst h; rw [Z] at G; rw [Y] at M; simp at G M; subst G; subst M; exact .inr O
  ·exact .inl ⟨i, X, W, by omega, G, M, O⟩
 ·rintro (⟨i, X, W, h1, G, M, O⟩ | h)
  ·exact ⟨i, X, W, by omega, G, M, O⟩
  ·exact ⟨k, s, r, by omega, Z, Y, h⟩
theorem Wi {n : Nw} {ports : Li} {k : Nat} {v : Int} {p : Port} {x : Int} (hs : n.Ports[k]? = some p) (Z : ports[k]? = some x) : CP n ports (k + 1) v ↔ CP n ports k v ∨ (p.Node = v ∧ 0 < x) := by
 constructor
 ·rintro ⟨i, Y, X, h1, G, O, M, W⟩
  by_cases h : i = k
  ·subst h; rw [hs] at G; rw [Z] at M; simp at G M; subst G; subst M; exact .inr ⟨O, W⟩
  ·exact .inl ⟨i, Y, X, by omega, G, O, M, W⟩
 ·rintro (⟨i, Y, X, h1, G, O, M, W⟩ | h)
  ·exact ⟨i, Y, X, by omega, G, O, M, W⟩
  ·exact ⟨k, p, x, by omega, hs, h.1, Z, h.2⟩
theorem P7 {n : Nw} (X : NetF n) {rates ports : Li} (v : Int) : D8 n rates ports v ↔ CS n rates n.Segments.length v ∨ CP n ports n.Ports.length v := by
 constructor
 ·rintro (⟨i, p, x, G, M, W, O⟩ | ⟨i, s, r, G, M, _, O⟩)
  ·exact .inr ⟨i, p, x, (gs G).1, G, M, W, O⟩
  ·exact .inl ⟨i, s, r, (gs G).1, G, M, O⟩
 ·rintro (⟨i, s, r, _, G, M, O⟩ | ⟨i, p, x, _, G, M, W, O⟩)
  ·exact .inr ⟨i, s, r, G, M, (X.segs i s G).ends.2.2.2.2, O⟩
  ·exact .inl ⟨i, p, x, G, M, W, O⟩
theorem Tw {n : Nw} (hn : NetF n) {p : Plan} (h : FlowOk n p) (v : Int) : Ok (Hi n p v) fun r => 0 ≤ r.1 ∧ (r.1 ≠ 0 ↔ D8 n p.Rates p.Ports v) := by
 have h1 := hn.segs1; have h2 := hn.ports1; have h4 := h.rl; have h5 := h.pl
 unfold Hi
 refine .bind (.forS (fun k G => 0 ≤ G.1 ∧ G.1 ≤ 1000 * (k : Int) ∧ (G.1 ≠ 0 ↔ CS n p.Rates k v)) ⟨by simp, by simp, by simp [CS]⟩ ?_ fun G h => h) ?_
 ·rintro k s ⟨a, b⟩ Y ⟨W, Z, M⟩
  dsimp only at W Z M
  have hkl := (gs Y).1
  have O : p.Rates[k]? = some p.Rates[k] := gq (by omega)
  have X := h.rng k _ s O Y
  generalize p.Rates[k] = r at O X
  rw [Wh Y O, ← M]
  unfold Hi.B5
  refine .bind' (.eq (Bg O) (C7 (fun h0 => ?_) fun h0 => ?_))
  ·dsimp only at h0
   refine .pure ⟨W, by dsimp only; omega, ?_⟩
   dsimp only; constructor
   ·exact .inl
   ·rintro (h | h) <;> first | exact h | omega
  ·dsimp only at h0
   have j7 : ∀ c, Ok (Hi.J7 v s (a, b) (k, r) c) fun G => 0 ≤ G.1 ∧ G.1 ≤ 1000 * ((k + 1 : Nat) : Int) ∧ (G.1 ≠ 0 ↔ a ≠ 0 ∨ (0 < r ∧ s.To = v ∨ r < 0 ∧ s.From = v)) := by
    intro c
    unfold Hi.J7
    dsimp only
    rw [fM (by omega)]
    rcases Rb (s := s) h0 with ⟨he, hr1⟩ | ⟨he, hr1⟩ <;> rw [show Hj s r = B0 s r from rfl, he] <;> dsimp only <;>
     refine C7 (fun hv => .pure ?_) fun hv => .pure ?_ <;> dsimp only <;> first
     | (rw [Bc (by omega)]; exact ⟨by omega, by omega, by constructor <;> intro hh <;> omega⟩)
     | exact ⟨by omega, by omega, by constructor <;> intro hh <;> omega⟩
   exact C7 (fun _ => j7 _) fun _ => j7 _
 rintro ⟨a, b⟩ ⟨W, Z, M⟩
 dsimp only at W Z M
 unfold Hi.J1
 refine .bind (.forS (fun k G => 0 ≤ G.1 ∧ G.1 ≤ 1000 * (n.Segments.length : Int) + 1000 * (k : Int) ∧ (G.1 ≠ 0 ↔ CS n p.Rates n.Segments.length v ∨ CP n p.Ports k v)) ⟨W, by dsimp only; omega, by dsimp only; rw [M]; simp [CP]⟩ ?_ fun G h => h) ?_
 ·rintro k s ⟨a, b⟩ Y ⟨W, Z, M⟩
  dsimp only at W Z M
  have hkl := (gs Y).1
  have O : p.Ports[k]? = some p.Ports[k] := gq (by omega)
  have X := h.prt k _ O
  generalize p.Ports[k] = r at O X
  rw [Wi Y O, ← or_assoc, ← M]
  unfold Hi.B3
  refine C7 (fun hv => .bind' (.eq (Bg O) (.pure ?_))) fun hv => .pure ?_
  ·dsimp only
   rw [Bc (x := a + max 0 r) (by omega)]
   exact ⟨by omega, by omega, by constructor <;> intro hh <;> omega⟩
  ·dsimp only
   exact ⟨by omega, by omega, by constructor <;> intro hh <;> omega⟩
 rintro ⟨a, b⟩ ⟨W, Z, M⟩
 exact .pure ⟨W, by rw [P7 hn]; exact M⟩
theorem Ws {n : Nw} (G : NetF n) {p : Plan} (h : FlowOk n p) {v : Int} (hv : 0 ≤ v ∧ v < (n.Nodes.length : Int)) : Ok (Rw n p v) fun r => r.2 = 0 ∧ 0 ≤ r.1 ∧ (r.1 ≠ 0 ↔ D8 n p.Rates p.Ports v) := by
 unfold Rw
 rw [Wb G h]
 refine .bind' (.pure (Cl (fun h => absurd rfl h) fun _ => A9 (fun M => ?_) fun _ => .bind (Tw G h v) fun r O => .pure ⟨rfl, O⟩))
 simp at M; omega
def hO (G M rate : Int) (v : Int) : Int := if rate < 0 then ind G v * (-rate) else ind M v * rate
theorem Tm {s : flow_streams} {b : Int} {f : Nat → Int} (h : Strm b s f) (hb : 0 ≤ b ∧ b ≤ 1000000) {G M rate : Int} (hf : G < 24) (ht : M < 24) (W : -1 ≤ G ∧ -1 ≤ M)
  (Z : -1000 ≤ rate ∧ rate ≤ 1000) : Ok (Hd s G M rate) fun r => ∀ v : Nat, v < 24 → val r.come v = val s.come v + hO G M rate v := by
 have X : ∀ (G M rate : Int), G < 24 → M < 24 → -1 ≤ G ∧ -1 ≤ M → 0 ≤ rate ∧ rate ≤ 1000 → Ok (Hd.J1 s (G, M, rate)) fun r => ∀ v : Nat, v < 24 → val r.come v = val s.come v + ind M v * rate := by
  intro G M rate hf ht W Z
  have j2 : ∀ (lv : Arr Int 24), Ok (Hd.J2 s (G, M, rate) lv) fun r => ∀ v : Nat, v < 24 → val r.come v = val s.come v + ind M v * rate := by
   intro lv
   unfold Hd.J2
   refine A0 (fun O => ?_) fun O => .pure fun v Y => ?_
   ·dsimp only at O
    obtain ⟨t, rfl⟩ := Ep O
    have hl := s.come.h
    refine .bind' (.ix t rfl (by omega) ?_)
    have hx : s.come.l[t]? = some s.come.l[t] := gq (by omega)
    have hvx := Hx hx
    have hcx := h.come t (by omega)
    dsimp only
    rw [Bc (by omega)]
    refine .pure fun v Y => ?_
    dsimp only
    rw [L8 Y]
    by_cases aa : t = v
    ·subst aa; rw [if_pos rfl, Et]; omega
    ·rw [if_neg aa, Eb (a := (t : Int)) (by omega)]; omega
   ·dsimp only at O ⊢
    rw [Eb (a := M) (by omega)]; omega
  unfold Hd.J1
  refine A0 (fun O => ?_) fun O => j2 _
  dsimp only at O
  obtain ⟨t, rfl⟩ := Ep O
  have hl := s.leave.h
  exact .bind' (.ix t rfl (by omega) (j2 _))
 unfold Hd hO
 refine A0 (fun O => ?_) fun O => ?_
 ·rw [Bc (by omega)]
  refine (X M G (0 - rate) ht hf ⟨W.2, W.1⟩ (by omega)).mono fun r Z v Y => ?_
  rw [Z v Y, if_pos O, show 0 - rate = -rate by omega]
 ·refine (X _ _ _ hf ht W (by omega)).mono fun r Z v Y => ?_
  rw [Z v Y, if_neg O]
theorem V9 {a b r v : Int} : 0 ≤ hO a b r v ∧ (hO a b r v ≠ 0 ↔ (0 < r ∧ b = v ∨ r < 0 ∧ a = v)) := by
 unfold hO ind
 split <;> split <;> (constructor; omega; constructor <;> intro h <;> omega)
theorem Uu {n : Nw} (Z : NetF n) {p : Plan} (h : FlowOk n p) : Ok (Hb n p) fun r => ∀ v : Nat, v < 24 → 0 ≤ val r.come v ∧ (val r.come v ≠ 0 ↔ D8 n p.Rates p.Ports v) := by
 have h1 := Z.nodes; have h2 := Z.segs1; have h3 := Z.ports1; have h4 := h.rl; have h5 := h.pl
 unfold Hb
 refine .bind (.forS (fun k O => (∃ f, Strm (1000 * k) ⟨O.1, O.2⟩ f) ∧ ∀ v : Nat, v < 24 → (val O.1 v ≠ 0 ↔ CS n p.Rates k v)) ⟨⟨fun _ => 0, fun v G => ?_, fun v G => ?_, fun v G => ?_⟩, fun v G => ?_⟩ ?_ fun O h => h) ?_
 ·dsimp only; rw [Gu]; omega
 ·dsimp only; rw [Gu]; omega
 ·dsimp only; rw [Gu]; rfl
 ·dsimp only; rw [Gu]; simp [CS]
 ·rintro k s O X ⟨⟨f, W⟩, Y⟩
  have hkl := (gs X).1
  have hr : p.Rates[k]? = some p.Rates[k] := gq (by omega)
  have hrr := h.rng k _ s hr X
  have he := (Z.segs k s X).ends
  unfold Hb.B4
  refine .bind' (.ix k rfl (by omega) (.bind ((Rd W (by omega) (by omega) (by omega) (by omega) (by dsimp only; omega)).and (Tm W (by omega) (by omega) (by omega) (by omega) (by dsimp only; omega))) fun r M => .pure ⟨⟨_, fun v G => ?_, fun v G => ?_, fun v G => M.1.diff v G⟩, fun v G => ?_⟩))
  ·have := M.1.come v G; dsimp only; omega
  ·have := M.1.leave v G; dsimp only; omega
  ·have a := M.2 v G
   dsimp only at a ⊢
   have b := W.come v G
   dsimp only at b
   have c := V9 (a := s.From) (b := s.To) (r := p.Rates[k]) (v := v)
   rw [Wh X hr, ← Y v G, ← c.2, a]
   constructor <;> intro hh <;> omega
 ·rintro O ⟨⟨f, W⟩, Y⟩
  unfold Hb.J1
  refine .bind (.forS (fun k O => (∃ f, Strm (8000 + 1000 * k) ⟨O.1, O.2⟩ f) ∧ ∀ v : Nat, v < 24 → (val O.1 v ≠ 0 ↔ CS n p.Rates n.Segments.length v ∨ CP n p.Ports k v)) ⟨⟨f, fun v G => ?_, fun v G => ?_, fun v G => W.diff v G⟩, fun v G => ?_⟩ ?_ fun O h => h) ?_
  ·have := W.come v G; dsimp only at this ⊢; omega
  ·have := W.leave v G; dsimp only at this ⊢; omega
  ·dsimp only; rw [Y v G]; simp [CP]
  ·rintro k s O X ⟨⟨f, W⟩, Y⟩
   have hkl := (gs X).1
   have hr : p.Ports[k]? = some p.Ports[k] := gq (by omega)
   have hrr := h.prt k _ hr
   have he := (Z.ports k s X).node
   unfold Hb.B3
   refine .bind' (.ix k rfl (by omega) (.bind ((Rd W (by omega) (by omega) (by omega) (by omega) (by dsimp only; omega)).and (Tm W (by omega) (by omega) (by omega) (by omega) (by dsimp only; omega))) fun r M => .pure ⟨⟨_, fun v G => ?_, fun v G => ?_, fun v G => M.1.diff v G⟩, fun v G => ?_⟩))
   ·have := M.1.come v G; dsimp only; omega
   ·have := M.1.leave v G; dsimp only; omega
   ·have a := M.2 v G
    dsimp only at a ⊢
    have b := W.come v G
    dsimp only at b
    have c := V9 (a := -1) (b := s.Node) (r := p.Ports[k]) (v := v)
    rw [Wi X hr, ← or_assoc, ← Y v G, a]
    have c2 := c.2
    constructor <;> intro hh
    ·by_cases h0 : val O.1 v = 0
     ·rcases c2.1 (by omega) with h | h
      ·exact .inr ⟨h.2, h.1⟩
      ·omega
     ·exact .inl h0
    ·rcases hh with hh | ⟨hh1, hh2⟩
     ·omega
     ·have := c2.2 (.inl ⟨hh2, hh1⟩); omega
  ·rintro O ⟨⟨f, W⟩, Y⟩
   refine .pure fun v G => ⟨(W.come v G).1, ?_⟩
   rw [P7 Z]; exact Y v G
theorem aZ {n : Nw} (G : NetF n) {p : Plan} (h : FlowOk n p) {v : Int} (hv : 0 ≤ v ∧ v < (n.Nodes.length : Int)) : Ok (Rn n p v) fun r => r.2 = 0 ∧ (r.1 ≠ 0 ↔ D8 n p.Rates p.Ports v) := by
 have X := G.nodes
 unfold Rn
 rw [Z9 G h]
 refine .bind' (.pure (Cl (fun h => absurd rfl h) fun _ => A9 (fun O => ?_) fun _ => .bind (Uu G h) fun r W => ?_))
 ·simp at O; omega
 obtain ⟨k, rfl⟩ := Ep hv.1
 have Y := r.come.h
 have M : r.come.l[k]? = some r.come.l[k] := gq (by omega)
 refine .bind' (.eq (Bg M) (.pure ⟨rfl, ?_⟩))
 dsimp only
 rw [← Hx M]
 exact (W k (by omega)).2
def iD (n : Nw) (p : Plan) : Prop := ∀ (i : Nat) (st : Sn), n.Stations[i]? = some st → p.Pumps[i]? = some true → D8 n p.Rates p.Ports st.Node
theorem W9 {n : Nw} (G : NetF n) {p : Plan} (h : FlowOk n p) {i : Nat} {st : Sn} (O : n.Stations[i]? = some st) : Ok (Ru n p (i : Int)) fun r => r = true ↔ D8 n p.Rates p.Ports st.Node := by
 unfold Ru
 refine .bind' (.eq (Bg O) (.bind (aZ G h (G.sts i st O).node) fun r M => .pure ?_))
 rw [M.1, ← M.2]
 simp
theorem X4 {n : Nw} (G : NetF n) {p : Plan} (h : FlowOk n p) {i : Nat} {st : Sn} (O : n.Stations[i]? = some st) : Ok (Un n p (i : Int)) fun r => r = true ↔ D8 n p.Rates p.Ports st.Node :=
 .bind (W9 G h O) fun r M => .pure M
theorem eF {p : Plan} (h1 : p.Rates.length ≤ 1000) (h2 : p.Ports.length ≤ 1000) : Mw p = some ⟨p.Rates.map (fun r => r != 0), p.Ports.map fun r => r != 0⟩ := by
 refine hY ?_
 unfold Mw
 refine .bind (Q := fun d => d = p.Rates.map fun r => r != 0) ?_ ?_
 ·refine .loop (S := List Bool × Int) (fun O => ∃ k : Nat, O = ((p.Rates.take k).map (fun r => r != 0), (k : Int)) ∧ k ≤ p.Rates.length) (fun O => p.Rates.length - O.2.toNat) ⟨0, rfl, by omega⟩ (by dsimp only; omega) ?_
  rintro _ ⟨k, rfl, X⟩
  unfold Mw.B4
  refine A0 (fun M => ?_) fun G => .pure ?_
  ·dsimp only at M
   obtain ⟨x, W⟩ : ∃ ζ, p.Rates[k]? = some ζ := ⟨_, gq (by omega)⟩
   refine .bind' (.eq (Bg W) (.bind' (.app (by simp; omega) (.pure ⟨⟨k + 1, ?_, by omega⟩, ?_⟩))))
   ·rw [Bc (by dsimp only; omega), List.take_add_one, W, List.map_append]; rfl
   ·dsimp only; rw [Bc (by omega)]; omega
  ·dsimp only at G
   show (p.Rates.take k).map _ = _
   rw [List.take_of_length_le (by omega)]
 ·rintro _ rfl
  unfold Mw.J1
  refine .bind (Q := fun d => d = p.Ports.map fun r => r != 0) ?_ ?_
  ·refine .loop (S := List Bool × Int) (fun O => ∃ k : Nat, O = ((p.Ports.take k).map (fun r => r != 0), (k : Int)) ∧ k ≤ p.Ports.length) (fun O => p.Ports.length - O.2.toNat) ⟨0, rfl, by omega⟩ (by dsimp only; omega) ?_
   rintro _ ⟨k, rfl, X⟩
   unfold Mw.B3
   refine A0 (fun M => ?_) fun G => .pure ?_
   ·dsimp only at M
    obtain ⟨x, W⟩ : ∃ ζ, p.Ports[k]? = some ζ := ⟨_, gq (by omega)⟩
    refine .bind' (.eq (Bg W) (.bind' (.app (by simp; omega) (.pure ⟨⟨k + 1, ?_, by omega⟩, ?_⟩))))
    ·rw [Bc (by dsimp only; omega), List.take_add_one, W, List.map_append]; rfl
    ·dsimp only; rw [Bc (by omega)]; omega
   ·dsimp only at G
    show (p.Ports.take k).map _ = _
    rw [List.take_of_length_le (by omega)]
  ·rintro _ rfl
   exact .pure rfl
theorem iE {a b : List Bool} (h1 : a.length ≤ 1000) (h2 : b.length ≤ 1000) : Ro ⟨a, b⟩ = some (a ++ b) := by
 unfold Ro
 dsimp only
 rw [Fy (by simp; omega)]
 show Option.bind (Dg ([] ++ a) b) _ = _
 rw [Fy (by simp; omega)]; rfl
theorem Vb {p : Plan} (h1 : p.Rates.length ≤ 1000) (h2 : p.Ports.length ≤ 1000) (G : p.Pumps.length ≤ 1000) : Nq p = some p := by
 unfold Nq
 rw [Fy (by simp; omega), Fy (by simp; omega), Fy (by simp; omega)]; rfl
theorem gU {n : Nw} (hn : NetF n) {p : Plan} (W : PlanOk n p) : Ok (Rx n p) fun q => PlanOk n q ∧ iD n q := by
 have h1 := hn.segs1; have h2 := hn.ports1; have h3 := hn.sts1; have h4 := W.rl; have h5 := W.pl; have h6 := W.ml
 unfold Rx
 rw [Vb (by omega) (by omega) (by omega)]
 refine .bind' (.pure (.bind (Q := fun m : List Bool => m.length = n.Stations.length ∧ ∀ (i : Nat) (G : Sn), n.Stations[i]? = some G → m[i]? = some true → D8 n p.Rates p.Ports G.Node) ?_ ?_))
 ·refine .loop (S := List Bool × Int) (fun G => ∃ k : Nat, G.2 = (k : Int) ∧ k ≤ n.Stations.length ∧ G.1.length = n.Stations.length ∧ ∀ (i : Nat) (s : Sn), i < k → n.Stations[i]? = some s → G.1[i]? = some true → D8 n p.Rates p.Ports s.Node) (fun G => n.Stations.length - G.2.toNat)
   ⟨0, rfl, by omega, h6, fun i s h => absurd h (Nat.not_lt_zero _)⟩ (by dsimp only; omega) ?_
  rintro ⟨m, _⟩ ⟨k, rfl, hk, M, Z⟩
  dsimp only at M Z
  unfold Rx.B2
  refine A9 (fun hb => ?_) fun hb => .pure ⟨M, fun i s X hi => Z i s ?_ X hi⟩
  ·have hlt : k < n.Stations.length := by simp at hb; omega
   have X : n.Stations[k]? = some n.Stations[k] := gq hlt
   obtain ⟨x, hx⟩ : ∃ ζ, m[k]? = some ζ := ⟨_, gq (by omega)⟩
   have j3 : ∀ z : Bool, (z = true → D8 n p.Rates p.Ports n.Stations[k].Node) → Ok (Rx.J3 (m, (k : Int)) (m.set k z)) (Sum.elim (fun G : List Bool × Int => (∃ k : Nat, G.2 = (k : Int) ∧ k ≤ n.Stations.length ∧ G.1.length = n.Stations.length ∧ ∀ (i : Nat) (s : Sn), i < k → n.Stations[i]? = some s → G.1[i]? = some true → D8 n p.Rates p.Ports s.Node) ∧ n.Stations.length - G.2.toNat < n.Stations.length - ((k : Nat) : Int).toNat)
     fun m : List Bool => m.length = n.Stations.length ∧ ∀ (i : Nat) (G : Sn), n.Stations[i]? = some G → m[i]? = some true → D8 n p.Rates p.Ports G.Node) := by
    intro z hz
    unfold Rx.J3
    refine .pure ⟨⟨k + 1, by dsimp only; rw [Bc (by omega)]; omega, by omega, by simp [M], fun i s hi O h => ?_⟩, by dsimp only; rw [Bc (by omega)]; omega⟩
    dsimp only at h
    by_cases Y : k = i
    ·subst Y
     rw [List.getElem?_set_self (by omega)] at h
     rw [X] at O; simp at O h; subst O
     exact hz h
    ·rw [List.getElem?_set_ne Y] at h
     exact Z i s (by omega) O h
   refine .bind' (.eq (Bg X) (.bind (Ws hn W.flow (hn.sts k _ X).node) fun r hr => .bind' (.eq (Bg hx) ?_)))
   refine A9 (fun _ => C7 (fun _ => j3 _ fun hz => hr.2.2.1 ?_) fun _ => j3 _ fun h => by cases h) fun _ => j3 _ fun h => by cases h
   simp at hz; omega
  ·have hil := (gs X).1
   simp at hb; omega
 ·rintro m ⟨M, Z⟩
  unfold Rx.J1
  exact .pure ⟨⟨h4, h5, M, W.rng, W.prt, W.bal, W.dir⟩, Z⟩
theorem gH {n : Nw} (M : NetOk n) {s : Wm} (X : SrcOk s) : Ok (Rq s n) fun r => PlanOk n r.1 ∧ iD n r.1 ∧ SrcOk r.2 := by
 unfold Rq
 refine .bind (eB M X) ?_
 rintro ⟨p, Y⟩ ⟨W, G⟩
 exact .bind (gU M.f W) fun q O => .pure ⟨O.1, O.2, G⟩
theorem Xh {s : Li} {v : Int} : Ok (Fo s v) fun r => r = true ↔ v ∈ s := by
 unfold Fo
 refine .bind Ii ?_
 rintro r (⟨rfl, h⟩ | ⟨k, y, rfl, W, G, _⟩)
 ·refine .pure ?_
  simp only [show decide ((-1 : Int) ≥ 0) = false from rfl, Bool.false_eq_true, false_iff]
  intro O
  obtain ⟨j, M⟩ := List.getElem?_of_mem O
  have := h j v M
  simp at this
 ·refine .pure ?_
  have := Int.natCast_nonneg k
  simp only [ge_iff_le, this, decide_true, true_iff]
  have : v = y := by simpa using G
  subst this; exact mg W
theorem eN {s : List Path} {g : Path → Option Bool} {P : Path → Bool} (hs : s.length ≤ 1000) (hg : ∀ x, x ∈ s → g x = some (P x)) : M8 s g = some (s.filter fun x => !P x) := by
 have : Ok (M8 s g) fun r => r = s.filter fun x => !P x := by
  unfold M8 Ky
  refine .bind (Q := fun r : Int => (r = -1 ∧ ∀ x, x ∈ s → P x = false) ∨ ∃ k : Nat, r = (k : Int) ∧ k < s.length ∧ (∀ x, s[k]? = some x → P x = true) ∧ ∀ (j : Nat) (y : Path), j < k → s[j]? = some y → P y = false) (.bind' (.forL (fun k _ => ∀ (j : Nat) (y : Path), j < k → s[j]? = some y → P y = false) (fun r => ∃ k : Nat, r = (k : Int) ∧ k < s.length ∧ (∀ x, s[k]? = some x → P x = true) ∧ ∀ (j : Nat) (y : Path), j < k → s[j]? = some y → P y = false) (fun j y h => absurd h (Nat.not_lt_zero _)) ?_ ?_ ?_)) ?_
  ·intro k x _ G Z
   unfold Ky.B2
   refine .bind' (.eq (hg x (mg G)) (A9 (fun X => .pure ⟨k, rfl, (gs G).1, fun y M => by rw [G] at M; cases M; exact X, Z⟩) fun X => .pure fun j y O M => ?_))
   by_cases h : j < k
   ·exact Z j y h M
   ·have : j = k := by omega
    subst this
    rw [G] at M; cases M; exact X
  ·intro _ Z
   simp only [Sum.elim_inl]
   unfold Ky.J1
   refine .pure (.inl ⟨rfl, fun x G => ?_⟩)
   obtain ⟨j, O⟩ := List.getElem?_of_mem G
   exact Z j x (gs O).1 O
  ·exact fun b hb => .pure (.inr hb)
  rintro r (⟨rfl, h⟩ | ⟨k, rfl, hk, hPk, hlt⟩)
  ·refine A9 (fun _ => .pure ?_) fun h => by simp at h
   exact (List.filter_eq_self.2 fun x G => by simp [h x G]).symm
  refine A9 (fun h => by rw [beq_iff_eq] at h; omega) fun _ => ?_
  rw [Bc (x := (k : Int) + 1) (by omega)]
  have st0 : (s.take (k + 1)).filter (fun x => !P x) = s.take k := by
   have G : s[k]? = some (s[k]'hk) := gq _
   rw [List.take_add_one, G, Option.toList_some, List.filter_append, List.filter_eq_self.2]
   ·simp [hPk _ G]
   ·intro y M
    obtain ⟨j, O⟩ := List.getElem?_of_mem M
    have hj' := (gs O).1
    simp at hj'
    rw [List.getElem?_take_of_lt (by omega)] at O
    simp [hlt j y (by omega) O]
  refine .bind (Q := fun d : List Path × Int => ∃ i : Nat, d.2 = (i : Int) ∧ i ≤ d.1.length ∧ d.1.take i = s.filter fun x => !P x) (.loop (fun Y : List Path × Int × Int => ∃ i j : Nat, Y.2.1 = (i : Int) ∧ Y.2.2 = (j : Int) ∧ i < j ∧ j ≤ s.length ∧ Y.1.length = s.length ∧ Y.1.take i = (s.take j).filter (fun x => !P x) ∧ ∀ x, j ≤ x → Y.1[x]? = s[x]?) (fun Y => s.length + 1 - Y.2.2.toNat)
   ⟨k, k + 1, rfl, rfl, by omega, by omega, rfl, st0.symm, fun _ _ => rfl⟩ (by dsimp only; omega) ?_) ?_
  ·rintro ⟨l, _, _⟩ ⟨i, j, rfl, rfl, hij, O, W, ht, he⟩
   dsimp only at W ht he
   unfold M8.B2
   dsimp only
   refine A0 (fun hc => ?_) fun hc => .pure ⟨i, rfl, by dsimp only; omega, ?_⟩
   ·have G : s[j]? = some (s[j]'(by omega)) := gq _
    have hx' : l[j]? = some (s[j]'(by omega)) := (he j (Nat.le_refl _)).trans G
    have hsj : s.take (j + 1) = s.take j ++ [s[j]'(by omega)] := by rw [List.take_add_one, G]; rfl
    refine .bind' (.eq (Bg hx') (.bind' (.eq (hg _ (List.getElem_mem _)) (Jh (fun X => ?_) fun X => ?_))))
    ·refine .bind' (.ix' (by omega) (by omega) fun q y hq M => ?_)
     have : q = i := by omega
     subst this
     unfold M8.J3
     refine .pure ⟨⟨q + 1, j + 1, ?_, ?_, by omega, by omega, by simp [W], ?_, fun x hxj => ?_⟩, ?_⟩
     ·dsimp only; rw [Bc (by omega)]; rfl
     ·dsimp only; rw [Bc (by omega)]; rfl
     ·dsimp only
      rw [hsj, List.filter_append, ← ht, List.take_add_one, List.getElem?_set_self (by omega), List.take_set_of_le (Nat.le_refl _)]
      simp [X]
     ·dsimp only
      rw [List.getElem?_set_ne (by omega)]; exact he x (by omega)
     ·dsimp only; rw [Bc (by omega)]; omega
    ·unfold M8.J3
     refine .pure ⟨⟨i, j + 1, rfl, ?_, by omega, by omega, W, ?_, fun x hxj => he x (by omega)⟩, ?_⟩
     ·dsimp only; rw [Bc (by omega)]; rfl
     ·dsimp only
      rw [hsj, List.filter_append, ← ht]; simp [X]
     ·dsimp only; rw [Bc (by omega)]; omega
   ·have : j = s.length := by omega
    subst this
    rw [ht, List.take_length]
  ·rintro ⟨l, _⟩ ⟨i, rfl, Z, ht⟩
   unfold M8.J1
   refine .bind' (.sub 0 i rfl rfl (Nat.zero_le _) Z (.pure ?_))
   rw [List.drop_zero, Nat.sub_zero]; exact ht
 obtain ⟨r, h, rfl⟩ := this
 exact h
def tr (l : Li) : List (Int × Bool) := l.map fun i => (i, true)
theorem R0 {i : Int} : ∀ l : Li, Df (tr l) i = if i ∈ l then some true else none
 | [] => rfl
 | x :: l => by
  simp only [tr, List.map_cons, Df]
  by_cases h : x = i
  ·simp [h]
  ·rw [if_neg h, show Df (l.map fun i => (i, true)) i = _ from R0 l]
   simp [List.mem_cons, show ¬ i = x from fun e => h e.symm]
theorem V8 {i : Int} {l : Li} (h : i ∉ l) : Il (tr l) i true = tr (l ++ [i]) := by
 unfold Il
 rw [R0, if_neg h]
 simp [tr]
theorem Q8 : ∀ l : Li, (tr l).map Prod.fst = l
 | [] => rfl
 | x :: l => by
  show x :: (tr l).map Prod.fst = _
  rw [Q8 l]
def Wn (s : Sg) (v : Int) : Prop := s.From = v ∨ s.To = v
def Lb (n : Nw) (x : Li) (v : Int) : Prop := (∃ (k : Nat) (s : Sg), n.Segments[k]? = some s ∧ Wn s v) ∧ ∀ (k : Nat) (s : Sg), n.Segments[k]? = some s → Wn s v → (k : Int) ∈ x
theorem eL {n : Nw} {x : Li} {v : Int} : Ok (Mz n v (tr x)) fun r => r.2 = tr x ∧ (r.1 = true ↔ Lb n x v) := by
 unfold Mz
 refine .bind' (.forL (fun k O => (O = true ↔ ∃ (j : Nat) (s : Sg), j < k ∧ n.Segments[j]? = some s ∧ Wn s v) ∧ ∀ (j : Nat) (s : Sg), j < k → n.Segments[j]? = some s → Wn s v → (j : Int) ∈ x) (fun r => r.2 = tr x ∧ r.1 = false ∧ ¬ Lb n x v) ⟨by simp, by simp⟩ ?_ ?_ ?_)
 ·rintro k s O hs ⟨i1, i2⟩
  have aa : ∀ (j : Nat) (M : Sg), j < k + 1 → n.Segments[j]? = some M → j < k ∨ j = k ∧ M = s := fun j M hj G => by
   by_cases h : j < k
   ·exact .inl h
   ·have : j = k := by omega
    subst this
    rw [hs] at G; cases G
    exact .inr ⟨rfl, rfl⟩
  have j3 : ∀ W, (W = true ↔ Wn s v ∨ O = true) → (Wn s v → (k : Int) ∈ x) → Ok (Mz.J3 W) (Sum.elim (fun O => (O = true ↔ ∃ (j : Nat) (s : Sg), j < k + 1 ∧ n.Segments[j]? = some s ∧ Wn s v) ∧ ∀ (j : Nat) (s : Sg), j < k + 1 → n.Segments[j]? = some s → Wn s v → (j : Int) ∈ x) (fun r => r.2 = tr x ∧ r.1 = false ∧ ¬ Lb n x v)) := by
   intro W h1 h2
   unfold Mz.J3
   refine .pure ⟨?_, fun j M hj G X => ?_⟩
   ·rw [h1, i1]
    constructor
    ·rintro (h | ⟨j, M, a, b, c⟩)
     ·exact ⟨k, s, by omega, hs, h⟩
     ·exact ⟨j, M, by omega, b, c⟩
    ·rintro ⟨j, M, a, b, c⟩
     rcases aa j M a b with h | ⟨rfl, rfl⟩
     ·exact .inr ⟨j, M, h, b, c⟩
     ·exact .inl c
   ·rcases aa j M hj G with h | ⟨rfl, rfl⟩
    ·exact i2 j M h G X
    ·exact h2 X
  unfold Mz.B2
  refine A9 (fun Z => j3 O ?_ fun X => ?_) fun Z => ?_
  ·have : ¬ Wn s v := by simp at Z; unfold Wn; omega
   simp [this]
  ·exact absurd X (by simp at Z; unfold Wn; omega)
  have Y : Wn s v := by
   rw [Bool.and_eq_false_iff] at Z
   unfold Wn
   rcases Z with h | h <;> simp at h <;> omega
  rw [R0]
  by_cases hm : (k : Int) ∈ x
  ·rw [if_pos hm]
   exact Jh (fun h => by simp at h) fun _ => j3 true (by simp [Y]) fun _ => hm
  ·rw [if_neg hm]
   exact Jh (fun _ => .pure ⟨rfl, rfl, fun h => hm (h.2 k s hs Y)⟩) fun h => by simp at h
 ·rintro O ⟨i1, i2⟩
  simp only [Sum.elim_inl]
  unfold Mz.J1
  refine .pure ⟨rfl, ?_⟩
  dsimp only
  rw [i1]
  exact ⟨fun ⟨j, s, _, b, c⟩ => ⟨⟨j, s, b, c⟩, fun j s h X => i2 j s (gs h).1 h X⟩, fun ⟨⟨j, s, b, c⟩, _⟩ => ⟨j, s, (gs b).1, b, c⟩⟩
 ·rintro ⟨b, o⟩ ⟨h1, h2, h3⟩
  dsimp only at h1 h2
  exact .pure ⟨h1, by simp [h2, h3]⟩
structure Some_ (n : Network) (x : List Int) : Prop where
 nd : x.Nodup
 rng : ∀ i, i ∈ x → 0 ≤ i ∧ i < (n.Segments.length : Int)
theorem Some_.len {n : Nw} (Z : NetF n) {x : Li} (h : Some_ n x) : x.length ≤ 8 := by
 have h1 := Z.segs1
 have O : (x.map Int.toNat).Nodup := by
  rw [List.Nodup, List.pairwise_map]
  refine h.nd.imp_of_mem fun {a b} G X M he => M ?_
  have := h.rng a G; have := h.rng b X
  omega
 have W := List.Nodup.length_le_of_subset (l₂ := List.range n.Segments.length) O fun i Y => by
  obtain ⟨a, G, rfl⟩ := List.mem_map.1 Y
  have := h.rng a G
  rw [List.mem_range]; omega
 rw [List.length_map, List.length_range] at W
 omega
def iP (n : Nw) (x : Li) (i : Int) : Prop := i ∈ x ∨ ∃ (j : Nat) (q : Port), n.Ports[j]? = some q ∧ i = (n.Segments.length : Int) + j ∧ Lb n x q.Node
theorem Xj {n : Nw} (hn : NetF n) {x : Li} (hx : Some_ n x) : Ok (Hc n x) fun r => r.2 = 0 ∧ r.1.length ≤ 20 ∧ ∀ i, i ∈ r.1 ↔ iP n x i := by
 have h1 := hn.segs1; have h2 := hn.ports1; have hl := hx.len hn
 unfold Hc
 rw [hn.check]
 refine .bind' (.pure (Cl (fun h => absurd rfl h) fun _ => .bind' (.forL (fun k st => st = tr (x.take k)) (fun _ => False) rfl ?_ ?_ fun _ h => h.elim)))
 ·rintro k i _ X rfl
  have hir := hx.rng i (mg X)
  unfold Hc.B5
  refine A9 (fun h => by simp at h; omega) fun _ => .pure ?_
  have W : i ∉ x.take k := fun O => by
   obtain ⟨j, hj⟩ := List.getElem?_of_mem O
   have hjk := (gs hj).1
   simp at hjk
   rw [List.getElem?_take_of_lt (by omega)] at hj
   have hik := (gs X).1
   rw [gq (by omega)] at X hj
   simp at X hj
   exact List.pairwise_iff_getElem.1 hx.nd j k (by omega) hik (by omega) (hj.trans X.symm)
  show Il _ _ _ = _
  rw [V8 W, List.take_add_one, X]; rfl
 rintro _ rfl
 simp only [Sum.elim_inl]
 rw [List.take_length]
 unfold Hc.J1 Uo
 refine Cl (fun h => absurd (by simp [tr]) h) fun _ => .bind' (.pure (.bind (.forS (P := fun st => ∃ a : Li, st.2 = tr (x ++ a) ∧ (x ++ a).Nodup ∧ a.length ≤ n.Ports.length ∧ ∀ i, i ∈ a ↔ ∃ (j : Nat) (q : Port), n.Ports[j]? = some q ∧ i = (n.Segments.length : Int) + j ∧ Lb n x q.Node)
  (fun k st => st.1 = tr x ∧ ∃ a : Li, st.2 = tr (x ++ a) ∧ (x ++ a).Nodup ∧ a.length ≤ k ∧ ∀ i, i ∈ a ↔ ∃ (j : Nat) (q : Port), j < k ∧ n.Ports[j]? = some q ∧ i = (n.Segments.length : Int) + j ∧ Lb n x q.Node) ⟨rfl, [], by simp, by simpa using hx.nd, by simp, by simp⟩ ?_ ?_) ?_))
 ·rintro k q ⟨_, _⟩ hq ⟨rfl, a, rfl, i1, i2, Y⟩
  have hkl := (gs hq).1
  unfold Hc.B3
  refine .bind eL ?_
  rintro ⟨b, _⟩ ⟨rfl, hb⟩
  dsimp only at hb ⊢
  have old : ∀ (j : Nat) (G : Port), j < k + 1 → n.Ports[j]? = some G → j < k ∨ j = k ∧ G = q := fun j s' hj hs' => by
   by_cases h : j < k
   ·exact .inl h
   ·have : j = k := by omega
    subst this
    rw [hq] at hs'; cases hs'
    exact .inr ⟨rfl, rfl⟩
  refine A9 (fun h => ?_) fun h => ?_
  ·have W : (n.Segments.length : Int) + k ∉ x ++ a := fun O => by
    rcases List.mem_append.1 O with O | O
    ·have := hx.rng _ O; omega
    ·obtain ⟨j, G, Z, M, a3, a4⟩ := (Y _).1 O
     omega
   rw [Bc (by omega), V8 W]
   unfold Hc.J4
   refine .pure ⟨rfl, a ++ [(n.Segments.length : Int) + k], by rw [List.append_assoc], ?_, by simp; omega, fun i => ?_⟩
   ·rw [← List.append_assoc, List.nodup_append]
    refine ⟨i1, by simp, fun y hy z hz => ?_⟩
    rw [List.mem_singleton] at hz; subst hz
    rintro rfl; exact W hy
   ·rw [List.mem_append, Y, List.mem_singleton]
    constructor
    ·rintro (⟨j, G, Z, M⟩ | rfl)
     ·exact ⟨j, G, by omega, M⟩
     ·exact ⟨k, q, by omega, hq, rfl, hb.1 h⟩
    ·rintro ⟨j, G, Z, M, a3, a4⟩
     rcases old j G Z M with h | ⟨rfl, rfl⟩
     ·exact .inl ⟨j, G, h, M, a3, a4⟩
     ·exact .inr a3
  ·unfold Hc.J4
   refine .pure ⟨rfl, a, rfl, i1, by omega, fun i => ?_⟩
   rw [Y]
   constructor
   ·rintro ⟨j, G, Z, M⟩
    exact ⟨j, G, by omega, M⟩
   ·rintro ⟨j, G, Z, M, a3, a4⟩
    rcases old j G Z M with h' | ⟨rfl, rfl⟩
    ·exact ⟨j, G, h', M, a3, a4⟩
    ·rw [hb.2 a4] at h; cases h
 ·rintro ⟨_, _⟩ ⟨_, a, rfl, i1, i2, Y⟩
  exact ⟨a, rfl, i1, i2, fun i => (Y i).trans ⟨fun ⟨j, q, _, h⟩ => ⟨j, q, h⟩, fun ⟨j, q, h⟩ => ⟨j, q, (gs h.1).1, h⟩⟩⟩
 ·rintro ⟨_, _⟩ ⟨a, rfl, i1, i2, Y⟩
  unfold Hc.J2 Rl
  have hlen : (x ++ a).length ≤ 20 := by simp; omega
  rw [if_pos]
  ·refine .bind' (.pure (.pure ⟨rfl, ?_, fun i => ?_⟩))
   ·show (isort _).length ≤ _
    rw [(Fu _).length_eq, Q8]; omega
   ·show i ∈ isort _ ↔ _
    rw [(Fu _).mem_iff, Q8, List.mem_append, Y]; rfl
  ·refine ⟨by rw [Q8]; exact i1, by show (tr _).length ≤ _; simp only [tr, List.length_map]; omega, ?_⟩
   intro p hp
   obtain ⟨i, X, rfl⟩ := List.mem_map.1 hp
   dsimp only
   rcases List.mem_append.1 X with O | O
   ·have := hx.rng _ O; omega
   ·obtain ⟨j, G, M, a3, a4⟩ := (Y _).1 O
    have := (gs M).1
    omega
theorem gE {n : Nw} (hn : NetF n) (h0 : 1 ≤ n.Segments.length) {s : Wm} (hs : SrcOk s) : Ok (Nn s n) fun r => Some_ n r.1 := by
 have h1 := hn.segs1
 unfold Nn
 refine .bind (Q := fun d : Li × Int × Li => SrcOk ⟨d.1, d.2.1⟩ ∧ Some_ n d.2.2) (.loop (fun M : Li × Int × Li × Int => ∃ k : Nat, M.2.2.2 = (k : Int) ∧ k ≤ n.Segments.length ∧ SrcOk ⟨M.1, M.2.1⟩ ∧ M.2.2.1.length ≤ k ∧ M.2.2.1.Nodup ∧ ∀ i, i ∈ M.2.2.1 → 0 ≤ i ∧ i < (k : Int)) (fun M => n.Segments.length - M.2.2.2.toNat)
  ⟨0, rfl, by omega, hs, by simp, by simp, by simp⟩ (by dsimp only; omega) ?_) ?_
 ·rintro ⟨l, a, x, _⟩ ⟨k, rfl, hk, W, Y, Z, X⟩
  dsimp only at W Y Z X
  unfold Nn.B3
  dsimp only
  refine A0 (fun hlt => ?_) fun hge => .pure ⟨W, Z, fun i G => by have := X i G; omega⟩
  refine .bind (G9 W (by omega) (by omega)) ?_
  rintro ⟨r, s'⟩ ⟨O, _⟩
  dsimp only at O ⊢
  refine A9 (fun _ => .bind' (.app (by simp; omega) ?_)) fun _ => ?_
  ·unfold Nn.J4
   refine .pure ⟨⟨k + 1, by dsimp only; rw [Bc (by omega)]; rfl, by omega, O, by simp; omega, ?_, fun i G => ?_⟩, by dsimp only; rw [Bc (by omega)]; omega⟩
   ·rw [List.nodup_append]
    refine ⟨Z, by simp, fun y hy z hz => ?_⟩
    rw [List.mem_singleton] at hz; subst hz
    have := X y hy
    omega
   ·rcases List.mem_append.1 G with h | h
    ·have := X i h; omega
    ·rw [List.mem_singleton] at h; omega
  ·unfold Nn.J4
   exact .pure ⟨⟨k + 1, by dsimp only; rw [Bc (by omega)]; rfl, by omega, O, by dsimp only; omega, Z, fun i G => by have := X i G; omega⟩, by dsimp only; rw [Bc (by omega)]; omega⟩
 ·rintro ⟨l, a, x⟩ ⟨W, Y⟩
  dsimp only at W Y
  unfold Nn.J1 Nn.J2
  dsimp only
  refine A9 (fun _ => .bind (G9 W (by omega) (by omega)) ?_) fun _ => .pure Y
  rintro ⟨r, s'⟩ ⟨_, hr⟩
  exact .pure ⟨by simp, fun i G => by rw [List.mem_singleton] at G; subst G; exact hr⟩
def Kl (n : Nw) (v : Li) (y : Path) : Bool := decide ((n.Segments.length : Int) + y.In ∈ v) || (decide ((n.Segments.length : Int) + y.Out ∈ v) || y.Hops.any fun h => decide (h.Segment ∈ v))
theorem Lk {s : Li} {v : Int} : Fo s v = some (decide (v ∈ s)) := by
 obtain ⟨r, M, G⟩ := Xh (s := s) (v := v)
 rw [M]
 by_cases h : v ∈ s
 ·rw [G.2 h]; simp [h]
 ·cases r with
  | false => simp [h]
  | true => exact absurd (G.1 rfl) h
theorem dY {n : Nw} (O : NetF n) {p : Plan} {y : Path} (hy : PathOk n p y) (v : Li) : F7 y n v = some (Kl n v y) := by
 have h1 := O.segs1; have h2 := O.ports1
 obtain ⟨i, o, p0, po, y0, y1, nd, e1, e2, e3, e4, e5, e6, e7, e8, w, e9, W, X, Y, Z⟩ := hy
 have hil := (gs e3).1
 have hol := (gs e4).1
 have hg : ∀ (k : Nat) (x : Hop), y.Hops[k]? = some x → Nj x v = some (decide (x.Segment ∈ v)) := fun k x _ => by
  unfold Nj
  rw [Lk]; rfl
 unfold F7 F7.J1 Kl
 rw [Bc (by omega), Bc (by omega), Lk, Lk, Ls hg]
 show (if _ then _ else _) = _
 by_cases G : (n.Segments.length : Int) + y.In ∈ v
 ·simp [G]
 ·rw [if_neg (by simpa using G)]
  show (if _ then _ else _) = _
  by_cases M : (n.Segments.length : Int) + y.Out ∈ v
  ·simp [M]
  ·rw [if_neg (by simpa using M)]
   simp [G, M]
def G7 (n : Nw) (v : Li) (l : List Path) : List Path := l.filter fun y => !Kl n v y
theorem Th (P : Path → Bool) (k : Nat) : ∀ l, Bz k (l.filter fun y => !P y) + Bz k (l.filter P) = Bz k l
 | [] => rfl
 | y :: l => by
  have := Th P k l
  by_cases h : P y = true
  ·simp only [List.filter_cons, h, Bool.not_true, Bool.false_eq_true, if_false, if_true, Bz]; omega
  ·have G : P y = false := by simpa using h
   simp only [List.filter_cons, G, Bool.not_false, Bool.false_eq_true, if_false, if_true, Bz]; omega
theorem P5 (P : Path → Bool) (k : Nat) : ∀ l, Bj k (l.filter fun y => !P y) + Bj k (l.filter P) = Bj k l
 | [] => rfl
 | y :: l => by
  have := P5 P k l
  by_cases h : P y = true
  ·simp only [List.filter_cons, h, Bool.not_true, Bool.false_eq_true, if_false, if_true, Bj]; omega
  ·have G : P y = false := by simpa using h
   simp only [List.filter_cons, G, Bool.not_false, Bool.false_eq_true, if_false, if_true, Bj]; omega
theorem P1 {n : Nw} {up : Bool} {p : Plan} {l : List Path} (h : Divided n up p l) (v : Li) : (∀ (k : Nat) (r : Int), p.Rates[k]? = some r → (0 ≤ r → 0 ≤ Bz k (G7 n v l) ∧ Bz k (G7 n v l) ≤ r) ∧ (r ≤ 0 → r ≤ Bz k (G7 n v l) ∧ Bz k (G7 n v l) ≤ 0)) ∧
  ∀ (k : Nat) (r : Int), p.Ports[k]? = some r → (0 ≤ r → 0 ≤ Bj k (G7 n v l) ∧ Bj k (G7 n v l) ≤ r) ∧ (r ≤ 0 → r ≤ Bj k (G7 n v l) ∧ Bj k (G7 n v l) ≤ 0) := by
 have O : ∀ x, x ∈ G7 n v l → PathOk n p x := fun x M => h.paths x (List.mem_filter.1 M).1
 have W : ∀ x, x ∈ l.filter (Kl n v) → PathOk n p x := fun x M => h.paths x (List.mem_filter.1 M).1
 refine ⟨fun k r G => ?_, fun k r G => ?_⟩
 ·have := Le h.res G O; have := Le h.res G W; have := Th (Kl n v) k l; have := h.sumR k r G
  unfold G7 at *
  omega
 ·have := Ix G O; have := Ix G W; have := P5 (Kl n v) k l; have := h.sumP k r G
  unfold G7 at *
  omega
theorem bJ {n : Nw} {v : Li} {k : Nat} (O : (k : Int) ∈ v) : ∀ l, Bz k (G7 n v l) = 0 := by
 have : ∀ l : List Path, (∀ y, y ∈ l → Kl n v y = false) → Bz k l = 0 := by
  intro l
  induction l with
  | nil => intro _; rfl
  | cons y l ih =>
   intro h
   simp only [Bz]
   rw [ih fun z X => h z (by simp [X]), Gg]
   ·rfl
   ·intro g M G
    have := h y (by simp)
    unfold Kl at this
    simp only [Bool.or_eq_false_iff, List.any_eq_false] at this
    exact this.2.2 g M (by simpa [G] using O)
 exact fun l => this _ fun y W => by simpa using (List.mem_filter.1 W).2
theorem Xb {n : Nw} {v : Li} {k : Nat} (G : (n.Segments.length : Int) + k ∈ v) : ∀ l, Bj k (G7 n v l) = 0 := by
 have : ∀ l : List Path, (∀ y, y ∈ l → Kl n v y = false) → Bj k l = 0 := by
  intro l
  induction l with
  | nil => intro _; rfl
  | cons y l ih =>
   intro h
   have := h y (by simp)
   unfold Kl at this
   simp only [Bool.or_eq_false_iff, decide_eq_false_iff_not] at this
   simp only [Bj, F6]
   rw [ih fun z O => h z (by simp [O]), if_neg (fun e => this.1 (by rw [e]; exact G)), if_neg (fun e => this.2.1 (by rw [e]; exact G))]
   rfl
 exact fun l => this _ fun y M => by simpa using (List.mem_filter.1 M).2
structure Rest (n : Network) (v : List Int) (p q : Plan) : Prop where
 ok : PlanOk n q
 div : ∃ up l, Divided n up p l ∧ (∀ (k : Nat) (r : Int), q.Rates[k]? = some r → r = Bz k (G7 n v l)) ∧ ∀ (k : Nat) (r : Int), q.Ports[k]? = some r → r = Bj k (G7 n v l)
 pumps : ∀ (j : Nat) (b : Bool) (st : Sn), q.Pumps[j]? = some b → n.Stations[j]? = some st → (b = true ↔ p.Pumps[j]? = some true ∧ D8 n q.Rates q.Ports st.Node)
theorem Of {n : Nw} (Y : NetF n) {p : Plan} (hp : PlanOk n p) {x v : Li} (ha : Hc n x = some (v, 0)) : Ok (Np n p x) fun r => r.2 = 0 ∧ Rest n v p r.1 := by
 have h1 := Y.segs1; have h2 := Y.ports1; have h3 := Y.sts1; have hml := hp.ml
 unfold Np
 refine .bind' (.eq ha (Cl (fun h => absurd rfl h) fun _ => .bind (Xg Y hp) ?_))
 rintro ⟨l, _⟩ ⟨rfl, up, X⟩
 dsimp only at X ⊢
 have hcl := X.count
 refine Cl (fun h => absurd rfl h) fun _ => ?_
 rw [eN (P := Kl n v) (by omega) fun y hy => dY Y (X.paths y hy) v]
 have W := P1 X v
 have hkl : (G7 n v l).length ≤ l.length := List.length_filter_le _ _
 refine .bind' (.pure (.bind' (.mk n.Stations.length rfl (by omega) (.bind (gD Y hp X.res (l := G7 n v l) (fun y hy => X.paths y (List.mem_filter.1 hy).1) (by omega) W.1 W.2 (List.length_replicate ..)) ?_))))
 rintro ⟨q, _⟩ ⟨rfl, G, hqm, hq1, hq2⟩
 dsimp only at G hqm hq1 hq2 ⊢
 unfold Np.J1
 dsimp only
 refine Cl (fun h => absurd rfl h) fun _ => .bind (.forS (P := fun m : List Bool => m.length = n.Stations.length ∧ ∀ (j : Nat) (b : Bool) (M : Sn), m[j]? = some b → n.Stations[j]? = some M → (b = true ↔ p.Pumps[j]? = some true ∧ D8 n q.Rates q.Ports M.Node))
  (fun k m => m.length = n.Stations.length ∧ ∀ (j : Nat) (b : Bool) (M : Sn), j < k → m[j]? = some b → n.Stations[j]? = some M → (b = true ↔ p.Pumps[j]? = some true ∧ D8 n q.Rates q.Ports M.Node)) ⟨G.ml, fun j b M h => absurd h (Nat.not_lt_zero _)⟩ ?_ ?_) ?_
 ·rintro k b m hb ⟨i1, i2⟩
  have hkl := (gs hb).1
  obtain ⟨M, hst⟩ : ∃ ζ, n.Stations[k]? = some ζ := ⟨_, gq (by omega)⟩
  obtain ⟨z0, hm⟩ : ∃ ζ, m[k]? = some ζ := ⟨_, gq (by omega)⟩
  have j4 : ∀ z : Bool, (z = true ↔ p.Pumps[k]? = some true ∧ D8 n q.Rates q.Ports M.Node) → Ok (Np.J4 (m.set k z)) fun m : List Bool => m.length = n.Stations.length ∧ ∀ (j : Nat) (b : Bool) (M : Sn), j < k + 1 → m[j]? = some b → n.Stations[j]? = some M → (b = true ↔ p.Pumps[j]? = some true ∧ D8 n q.Rates q.Ports M.Node) := by
   intro z hz
   unfold Np.J4
   refine .pure ⟨by simp [i1], fun j b' st' hj O Z => ?_⟩
   by_cases hjk : k = j
   ·subst hjk
    rw [List.getElem?_set_self (by omega)] at O
    cases O
    rw [hst] at Z; cases Z
    exact hz
   ·rw [List.getElem?_set_ne hjk] at O
    exact i2 j b' st' (by omega) O Z
  unfold Np.B3
  refine A9 (fun h => ?_) fun h => ?_
  ·have hqm' : PlanOk n (⟨q.Rates, q.Ports, m⟩ : Plan) := ⟨G.rl, G.pl, i1, G.rng, G.prt, G.bal, G.dir⟩
   refine .bind (X4 Y hqm'.flow hst) fun r hr => .bind' (.eq (Bg hm) (j4 r ?_))
   rw [hr, hb, h]
   exact ⟨fun h => ⟨rfl, h⟩, fun h => h.2⟩
  ·refine .bind' (.eq (Bg hm) (j4 false ?_))
   rw [hb, h]
   simp
 ·rintro m ⟨i1, i2⟩
  exact ⟨i1, fun j b M hb hs => i2 j b M (by have := (gs hb).1; omega) hb hs⟩
 ·rintro m ⟨i1, i2⟩
  unfold Np.J2
  exact .pure ⟨rfl, ⟨⟨G.rl, G.pl, i1, G.rng, G.prt, G.bal, G.dir⟩, ⟨up, l, X, hq1, hq2⟩, i2⟩⟩
theorem Rest.none {n : Nw} {v : Li} {p q : Plan} (h : Rest n v p q) {k : Nat} {r : Int} : ((k : Int) ∈ v → q.Rates[k]? = some r → r = 0) ∧ ((n.Segments.length : Int) + k ∈ v → q.Ports[k]? = some r → r = 0) := by
 obtain ⟨Y, l, X, O, W⟩ := h.div
 exact ⟨fun G M => (O k r M).trans (bJ G l), fun G M => (W k r M).trans (Xb G l)⟩
theorem Rest.clear {n : Nw} {v : Li} {p q : Plan} (h : Rest n v p q) {y : Path} (hy : PathOk n q y) : Kl n v y = false := by
 obtain ⟨i, o, p0, po, y0, y1, nd, M, Z, e3, e4, e5, e6, e7, e8, w, e9, O, W, X, Y⟩ := hy
 unfold Kl
 simp only [Bool.or_eq_false_iff, decide_eq_false_iff_not, List.any_eq_false]
 rw [M, Z]
 refine ⟨fun G => ?_, fun G => ?_, fun g hg G => ?_⟩
 ·have := h.none.2 G e5; omega
 ·have := h.none.2 G e7; omega
 ·obtain ⟨j, hj⟩ := List.getElem?_of_mem hg
  obtain ⟨k, s, r, q1, q2, q3, q4⟩ := w.hop j g hj
  rw [q1] at G
  have := h.none.1 (by simpa using G) q3
  rcases q4 with ⟨_, a, _⟩ | ⟨_, a, _⟩ <;> omega
theorem Rest.again {n : Nw} (hn : NetF n) {v : Li} {p q r : Plan} (h : Rest n v p q) (G : Rest n v q r) : q = r := by
 obtain ⟨up, l, M, O, W⟩ := G.div
 have hk : G7 n v l = l := List.filter_eq_self.2 fun y hy => by rw [h.clear (M.paths y hy)]; rfl
 rw [hk] at O W
 have Z : q.Rates = r.Rates := List.ext_getElem (by rw [h.ok.rl, G.ok.rl]) fun k a b => by rw [M.sumR k _ (gq a), O k _ (gq b)]
 have e2 : q.Ports = r.Ports := List.ext_getElem (by rw [h.ok.pl, G.ok.pl]) fun k a b => by rw [M.sumP k _ (gq a), W k _ (gq b)]
 have e3 : q.Pumps = r.Pumps := List.ext_getElem (by rw [h.ok.ml, G.ok.ml]) fun k a b => by
  have X : n.Stations[k]? = some (n.Stations[k]'(by have := h.ok.ml; omega)) := gq _
  have p1 := h.pumps k _ _ (gq a) X
  have Y := G.pumps k _ _ (gq b) X
  rw [← Z, ← e2, gq a] at Y
  rw [Bool.eq_iff_iff, Y]
  exact ⟨fun c => ⟨by rw [c], (p1.1 c).2⟩, fun c => by simpa using c.1⟩
 cases q; cases r
 simp_all
theorem We : Ri = some true := by kernel_rfl
theorem T0 (l : Li) : Rs l = some true := by
 have : Ok (Rs l) fun r => r = true := by
  unfold Rs
  refine Jh (fun _ => .bind' (.eq We (.pure rfl))) fun _ => .bind (gL l) fun s hs => .bind (gM hs) ?_
  rintro ⟨n, s1⟩ ⟨G, hs⟩
  dsimp only at G hs ⊢
  have X := G.f
  refine .bind (gH G hs) ?_
  rintro ⟨p, s2⟩ ⟨hp, hfed, hs⟩
  dsimp only at hp hs ⊢
  have h1 := X.segs1; have h2 := X.ports1; have h3 := X.sts1
  refine .bind (gE X (by have := G.segs1; have := G.nodes; omega) hs) ?_
  rintro ⟨x, s3⟩ hx
  dsimp only at hx ⊢
  obtain ⟨⟨v, _⟩, ha, rfl, hvl, hv⟩ := Xj X hx
  dsimp only at hvl hv
  refine .bind (Of X hp ha) ?_
  rintro ⟨q, _⟩ ⟨rfl, W⟩
  dsimp only at W
  dsimp only
  refine .bind (Of X W.ok ha) ?_
  rintro ⟨q', _⟩ ⟨rfl, hq'⟩
  dsimp only at hq'
  have e := W.again X hq'
  subst e
  have b1 := W.ok.rl; have b2 := W.ok.pl; have b3 := W.ok.ml; have c1 := hp.rl; have c2 := hp.pl; have c3 := hp.ml
  refine .bind' (.eq ha ?_)
  refine Cl (fun h => absurd rfl h) fun _ => Cl (fun h => absurd rfl h) fun _ => Cl (fun h => absurd rfl h) fun _ => ?_
  dsimp only
  rw [Ty (by omega) (by omega) (by omega) rfl]
  refine .bind' (.pure (Jh (fun h => by cases h) fun _ => Cl (fun h => by omega) fun _ => ?_))
  have hj : (((q.Ports.length : Int) != (p.Ports.length : Int))) = false := by simp; omega
  rw [hj]
  unfold Rs.J1
  dsimp only
  rw [eF (by omega) (by omega)]
  refine A9 (fun h => by cases h) fun _ => .bind' (.pure ?_)
  rw [iE (by simp; omega) (by simp; omega)]
  refine .bind' (.pure (.bind (Q := fun d : Bool ⊕ Unit => d = .inr ()) ?_ ?_))
  ·refine .loop (fun M : Int => 0 ≤ M ∧ M ≤ (v.length : Int)) (fun M => v.length - M.toNat) ⟨by omega, by omega⟩ (by omega) ?_
   rintro M ⟨h0, hle⟩
   obtain ⟨k, rfl⟩ := Ep h0
   unfold Rs.B7
   refine A0 (fun Z => ?_) fun hge => .pure rfl
   dsimp only at Z
   obtain ⟨i, hy⟩ : ∃ ζ, v[k]? = some ζ := ⟨_, gq (by omega)⟩
   have hi := (hv i).1 (mg hy)
   have key : ∃ m : Nat, i = (m : Int) ∧ (q.Rates.map (fun r => r != 0) ++ q.Ports.map fun r => r != 0)[m]? = some false := by
    have him := mg hy
    rcases hi with hi | ⟨j, t, e1, rfl, _⟩
    ·have := hx.rng i hi
     obtain ⟨m, rfl⟩ := Ep this.1
     have hr : q.Rates[m]? = some (q.Rates[m]'(by omega)) := gq _
     have hz := W.none.1 him hr
     refine ⟨m, rfl, ?_⟩
     rw [List.getElem?_append_left (by simp; omega), List.getElem?_map, hr, hz]; rfl
    ·have := (gs e1).1
     have hr : q.Ports[j]? = some (q.Ports[j]'(by omega)) := gq _
     have hz := W.none.2 him hr
     refine ⟨n.Segments.length + j, by omega, ?_⟩
     rw [List.getElem?_append_right (by simp; omega), List.getElem?_map, List.length_map, show n.Segments.length + j - q.Rates.length = j by omega, hr, hz]; rfl
   obtain ⟨m, rfl, hm⟩ := key
   have hml := (gs hm).1
   refine .bind' (.eq (Bg hy) (A0 (fun h => by omega) fun _ => A0 (fun h => by dsimp only at h; omega) fun _ => .bind' (.eq (Bg hm) ?_)))
   unfold Rs.J8
   refine A9 (fun h => by cases h) fun _ => .pure ?_
   rw [Bc (by omega)]
   exact ⟨⟨by omega, by omega⟩, by omega⟩
  rintro _ rfl
  simp only [Sum.elim_inr]
  obtain ⟨up, pl, hd, hq1, hq2⟩ := W.div
  have fits := (P1 hd v).1
  unfold Rs.J2
  refine .bind (Q := fun d : Bool ⊕ Unit => d = .inr ()) ?_ ?_
  ·refine .loop (fun M : Int => 0 ≤ M ∧ M ≤ (p.Rates.length : Int)) (fun M => p.Rates.length - M.toNat) ⟨by omega, by omega⟩ (by omega) ?_
   rintro M ⟨h0, hle⟩
   obtain ⟨k, rfl⟩ := Ep h0
   unfold Rs.B5
   refine A0 (fun Z => ?_) fun hge => .pure rfl
   dsimp only at Z
   have e1 : q.Rates[k]? = some (q.Rates[k]'(by omega)) := gq _
   have e3 : p.Rates[k]? = some (p.Rates[k]'(by omega)) := gq _
   generalize q.Rates[k]'(by omega) = Y at e1
   generalize p.Rates[k]'(by omega) = O at e3
   have q1 := hq1 k Y e1; have q4 := fits k O e3; have q5 := hd.res.rng k O _ e3 (gq (by omega))
   have hmul : 0 ≤ Y * O ∧ Y * O ≤ 1000000 := by
    by_cases hz : O < 0
    ·have b1 := Int.mul_nonneg_of_nonpos_of_nonpos (a := Y) (b := O) (by omega) (by omega)
     have b2 := Int.mul_le_mul (a := -Y) (b := -O) (c := 1000) (d := 1000) (by omega) (by omega) (by omega) (by omega)
     rw [Int.neg_mul_neg] at b2
     omega
    ·have b1 := Int.mul_nonneg (a := Y) (b := O) (by omega) (by omega)
     have b2 := Int.mul_le_mul (a := Y) (b := O) (c := 1000) (d := 1000) (by omega) (by omega) (by omega) (by omega)
     omega
   refine .bind' (.eq (Bg e1) (.bind' (.eq (Bg e3) ?_)))
   dsimp only
   rw [Bc (x := Y * O) (by omega), Bc (x := 0 - Y) (by omega), Bc (x := 0 - O) (by omega)]
   refine A0 (fun h => by omega) fun _ => ?_
   unfold Rs.J6
   refine A9 (fun h => by simp at h; omega) fun _ => .pure ?_
   rw [Bc (by omega)]
   exact ⟨⟨by omega, by omega⟩, by omega⟩
  rintro _ rfl
  simp only [Sum.elim_inr]
  unfold Rs.J3
  dsimp only
  rw [Wb X W.ok.flow]
  refine .bind' (.pure (C7 (fun _ => ?_) fun h => absurd rfl h))
  rw [We]
  exact .bind' (.pure (by unfold Rs.J4; exact .pure rfl))
 obtain ⟨r, h, rfl⟩ := this
 exact h
end Go.Proofs.YtihdchjpepkpbaaGreat
namespace Go.Aw
set_option linter.unusedVariables false
set_option linter.unusedSimpArgs false
open Go.ChangeShapes Go.WideShapes Go.ChangeAt Go.RowKit
section
variable {H : Type} {enc : TypeId × Value → H} {P : Program}
theorem If (hl : laidOutB P = true) {W W' : World} (hb : Below W.heap.size W W') : ∀ {M : List TypeId} {vs : List Value} {ds : List (DataW H)} {G : List MemPlace},
  (∀ t, t ∈ M → P.readableRec t = true ∧ t < P.types.size) → (∀ x, x ∈ G → x.block < W.heap.size) → DataW.TrodAll enc P W 0 (fun _ => true) true M vs ds G →
  DataW.TrodAll enc P W' 0 (fun b => decide (b < W.heap.size)) true M vs ds G
 | [], vs, ds, G, _, _, h => by
  cases vs <;> cases ds <;> simp [DataW.TrodAll] at h ⊢
  exact h
 | t :: M, vs, ds, G, ht, hlt, h => by
  obtain ⟨v, vs', d, Z, p, q, rfl, rfl, rfl, h1, h2⟩ := trodAll_cons h
  have Y := ht t (by simp)
  exact ⟨p, q, Below.trod hl Y.1 Y.2 h1 hb (fun x X => hlt x (by simp [X])), If hl hb (fun t O => ht t (by simp [O])) (fun x X => hlt x (by simp [X])) h2, rfl⟩
theorem bH {f : Func} {s : ChangeSpec} {W W' : World} {args : Array Value} {ds : List (DataW H)} {p : List MemPlace} {t : TypeId} (hW : DataW.Whole enc P f.params.toList s.vars false W args.toList ds [] (p ++ []))
  (hA : DataW.TrodAll enc P W 0 (fun _ => true) true f.params.toList args.toList ds p)
  (O : (s.fn H (ds ++ [])).results = [.lit (.bool true)]) (G : (s.fn H (ds ++ [])).args = ds) (hv : (s.fn H (ds ++ [])).vars = []) (Z : s.vars = [])
  (X : f.resultTypes.toList = [t]) (hu : P.underlying t = some .bool) (hl : laidOutB P = true) (M : ∀ t, t ∈ f.params.toList → P.readableRec t = true ∧ t < P.types.size)
  (hb : Below W.heap.size W W') : s.post enc P f false true false false W args (.bool true) W' := by
 have Y : ∀ x, x ∈ p → x.block < W.heap.size := fun x hx => hW.lt x (by simp [hx])
 have aa : f.resultTypes.size = 1 := by rw [← Array.length_toList, X]; rfl
 refine ⟨ds, [], p ++ [], [], p, [], hW, ?_, ?_, ?_, hb.frame _, fun h => by cases h⟩
 ·rw [O, X, aa]
  exact trodAll_mk1 (shut_bool hu true)
 ·rw [G]
  exact If hl hb M Y hA
 ·rw [hv, Z]; rfl
def iB (k : IntKind) (l : Li) : T := .list 1 (l.map fun n => [.v (.int k n)])
theorem Wy {t e : TypeId} {k : IntKind} {W : World} {base : Nat} {r : Reach} {v : Value} {d : DataW H} {ps : List MemPlace} (ht : P.underlying t = some (.slice e)) (he : P.underlying e = some (.int k)) (hc : P.cellsOf e = 1)
  (hval : Value.okWide P W r base t v) (h : DataW.Trod enc P W 0 (fun _ => true) true t v d ps) :
  ∃ l : Li, (l.length ≤ G6 → VR (fun b => W.heap[b]?) v (iB k l)) ∧ (∀ n, n ∈ l → (Lit.int k n).wf = true) ∧ (l = [] ∨ ∃ Z ag, d = .slice Z ag ∧ l.length = Z.length) := by
 obtain ⟨a0, len, cap, rfl⟩ := okWide_slice ht hval
 obtain ⟨fuel, hf⟩ := h
 rcases open_ints ht he hc hf with ⟨G, X⟩ | ⟨a, len', cap', Y, G, _, hl, hm, hz, X, aa, hwz⟩
 ·simp [Value.cells] at G
  obtain ⟨rfl, rfl, rfl⟩ := G
  exact ⟨[], fun _ => .empty _ _ _, by simp, .inl rfl⟩
 ·simp [Value.cells] at G
  obtain ⟨rfl, rfl, rfl⟩ := G
  simp only [Prod.mk.injEq] at X
  obtain ⟨rfl, rfl⟩ := X
  simp only [if_true] at hz
  have hlt : (Y.take len).length = len := by simp; omega
  refine ⟨Y.take len, fun hmax => ?_, fun n hn => hwz n (List.mem_of_mem_take hn), .inr ⟨_, _, rfl, by simp [lits]⟩⟩
  by_cases hl0 : len = 0
  ·subst hl0; simp only [List.take_zero, iB, List.map_nil]; exact .empty _ _ _
  ·obtain ⟨b, M, spot⟩ := a
   have af : spot = none := by simpa [Addr.add] using World.cell?_spot (aa 0 (by omega))
   subst af
   have O : ∀ i, i < Y.length → W.cell? ⟨b, M + i, none⟩ = some (.int k (Y.getD i 0)) := fun i hi => by rw [← C4]; exact aa i hi
   have ad := O 0 (by omega)
   have G : ∃ cs ty fr, W.heap[b]? = some (.cells cs ty fr) := by
    unfold World.cell? at ad
    split at ad
    ·rename_i c ty fr hh; exact ⟨_, _, _, hh⟩
    ·cases ad
   obtain ⟨cs, ty, fr, hh⟩ := G
   have ac : ∀ i, i < Y.length → cs[M + i]? = some (.int k (Y.getD i 0)) := fun i hi => by
    have := O i hi
    simpa [World.cell?, hh] using this
   have ab : ((Y.take len).map fun n => [T.v (.int k n)]).length = len := by rw [List.length_map, hlt]
   have hbig : M + len ≤ cs.size := by
    have := (Array.getElem?_eq_some_iff.1 (ac (len - 1) (by omega))).1
    omega
   have ae : ∀ i e, ((Y.take len).map fun n => [T.v (.int k n)])[i]? = some e → ∀ (j : Nat) (x : T), e[j]? = some x → j = 0 ∧ x = .v (.int k (Y.getD i 0)) ∧ cs.getD (M + i * 1 + j) undef = .int k (Y.getD i 0) := by
    intro i e he j x X
    simp only [List.getElem?_map, Option.map_eq_some_iff] at he
    obtain ⟨n, hn, rfl⟩ := he
    have hil := (gs hn).1
    rw [hlt] at hil
    rw [List.getElem?_take_of_lt hil] at hn
    have hj : j = 0 := by have := (gs X).1; simp at this; exact this
    subst hj
    simp at X
    have hzi : Y.getD i 0 = n := by simp [List.getD, hn]
    refine ⟨rfl, by rw [hzi]; exact X.symm, ?_⟩
    rw [Array.getD_eq_getD_getElem?, show M + i * 1 + 0 = M + i by omega, ac i (by omega)]; rfl
   have := VR.list (H := fun b => W.heap[b]?) b M cap 1 ((Y.take len).map fun n => [T.v (.int k n)]) cs ty fr hh (by rw [ab]; exact hl) (by rw [List.length_map]; exact hmax) (by rw [ab]; omega)
    (fun i e he => by simp only [List.getElem?_map, Option.map_eq_some_iff] at he; obtain ⟨n, _, rfl⟩ := he; rfl)
    (fun i e he j x X => by rw [(ae i e he j x X).2.2]; rfl) (fun i e he j x X => by rw [(ae i e he j x X).2.2, (ae i e he j x X).2.1]; exact .v _)
   rw [ab] at this
   exact this
end
theorem Xa {E : Env} {f : FuncId} {X : List T} {W : World} {args : Array Value} (M : dT fun b => W.heap[b]?) (hc : ACalls E f X [] fun x _ => x = .v (.bool true)) (hsz : args.size = X.length)
  (hv : ∀ (i : Nat) (x : T), X[i]? = some x → VR (fun b => W.heap[b]?) (args.getD i undef) x) : Calls E.P f args W fun e W' => e = .returned (.bool true) ∧ Below W.heap.size W W' := by
 refine (hc.2 (fun b => W.heap[b]?) W args hsz hv ⟨fun _ _ h => h, M⟩ (by simp) (by simp)).mono ?_
 rintro e w' ⟨v, x, fp', H', rfl, rfl, O, _, _, _, _, hs, ⟨Y, Z, e3⟩, G⟩
 refine ⟨by rw [O.v_eq], ⟨Y, Z, e3, hs, fun k hk => (G k hk (by simp)).1⟩⟩
end Go.Aw
