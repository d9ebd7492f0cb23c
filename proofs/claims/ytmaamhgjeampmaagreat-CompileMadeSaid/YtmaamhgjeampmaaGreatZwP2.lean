/- Plain proofs. No condition. -/
import Derived.Test.YtmaamhgjeampmaaGreatZwP1
import Derived.Test.YtmaamhgjeampmaaGreatZwD
set_option maxRecDepth 100000
namespace Go.Proofs.YtmaamhgjeampmaaGreat
set_option linter.unusedVariables false
set_option linter.unusedSimpArgs false
open Go.Aw
theorem oT {x : Path} (h : x.Hops.length ≤ 1000) (r : Int) : Xh x r = some ⟨x.In, x.Out, x.Hops, r⟩ := by
 unfold Xh Lw
 rw [Ft (by simp; omega)]; rfl
def rQ (k : Nat) (x : Path) : Bool := x.Hops.any fun h => h.Segment == (k : Int)
def Nn (k : Nat) : List Hop → Int
 | [] => 0
 | h :: t => (if h.Segment = (k : Int) then 1 else 0) + Nn k t
theorem Ut {k : Nat} : ∀ {l : List Hop}, (∀ h, h ∈ l → h.Segment ≠ (k : Int)) → Nn k l = 0
 | [], _ => rfl
 | h :: l, hh => by
  simp only [Nn]
  rw [if_neg (hh h (by simp)), Ut fun x G => hh x (by simp [G])]; rfl
theorem Zi {k : Nat} : ∀ {l : List Hop} {i : Nat} {h : Hop}, l[i]? = some h → h.Segment = (k : Int) → (∀ (j : Nat) (x : Hop), j ≠ i → l[j]? = some x → x.Segment ≠ (k : Int)) → Nn k l = 1
 | [], i, h, hi, _, _ => by simp at hi
 | x :: l, 0, h, hi, hk, ho => by
  simp at hi; subst hi
  simp only [Nn]
  rw [if_pos hk, Ut fun y G => ?_]; omega
  obtain ⟨j, M⟩ := List.getElem?_of_mem G
  exact ho (j + 1) y (by omega) (by simpa using M)
 | x :: l, i + 1, h, hi, hk, ho => by
  simp only [Nn]
  rw [if_neg (ho 0 x (by omega) rfl), Zi (i := i) (by simpa using hi) hk fun j y M G => ho (j + 1) y (by omega) (by simpa using G)]; omega
theorem PathOk.over {n : Nw} {up : Bool} {p : Plan} (hr : Res n up p.Rates p.Ports) {x : Path} (hx : PathOk n p x) {k : Nat} {r : Int} (hk : p.Rates[k]? = some r) :
  (rQ k x = false ∧ C9 x.Rate k x.Hops = 0) ∨ (rQ k x = true ∧ Nn k x.Hops = 1 ∧ (0 < r ∧ C9 x.Rate k x.Hops = x.Rate ∨ r < 0 ∧ C9 x.Rate k x.Hops = -x.Rate)) := by
 obtain ⟨i, o, p0, po, y0, y1, nd, e1, e2, e3, e4, e5, e6, e7, e8, w, e9, e10, e11, e12, e13⟩ := hx
 by_cases W : ∃ (i : Nat) (h : Hop), x.Hops[i]? = some h ∧ h.Segment = (k : Int)
 ·obtain ⟨j, h, M, O⟩ := W
  have G : ∀ (Z : Nat) (y : Hop), Z ≠ j → x.Hops[Z]? = some y → y.Segment ≠ (k : Int) := fun Z y Y hy he => Y (w.once hr hy M (he.trans O.symm))
  obtain ⟨k', s, r', q1, q2, q3, q4⟩ := w.hop j h M
  have : k = k' := by omega
  subst this
  rw [hk] at q3; simp at q3; subst q3
  refine .inr ⟨List.any_eq_true.2 ⟨h, mg M, by simp [O]⟩, Zi M O G, ?_⟩
  rw [Js M O G]
  unfold Im
  rcases q4 with ⟨b, q, _⟩ | ⟨b, q, _⟩
  ·exact .inl ⟨q, by rw [b]; rfl⟩
  ·exact .inr ⟨q, by rw [b]; rfl⟩
 ·have X : ∀ h, h ∈ x.Hops → h.Segment ≠ (k : Int) := fun h hm O => by
   obtain ⟨j, M⟩ := List.getElem?_of_mem hm
   exact W ⟨j, h, M, O⟩
  refine .inl ⟨?_, Ig X⟩
  unfold rQ
  rw [List.any_eq_false]
  intro h hm
  have := X h hm
  simpa using this
theorem dI {n : Nw} {up : Bool} {p : Plan} (hr : Res n up p.Rates p.Ports) {x : Path} (hx : PathOk n p x) {rates ports : Li} {pumps : List Bool} (hrl : rates.length = n.Segments.length) (hpl : ports.length = n.Ports.length)
  (hrb : ∀ (k : Nat) (r : Int), rates[k]? = some r → -1000000 ≤ r ∧ r ≤ 1000000) (hpb : ∀ (k : Nat) (r : Int), ports[k]? = some r → -1000000 ≤ r ∧ r ≤ 1000000) :
  Ok (Wz ⟨rates, ports, pumps⟩ x x.Rate) fun q => q.Rates.length = rates.length ∧ q.Ports.length = ports.length ∧ q.Pumps = pumps ∧ (∀ (k : Nat) (r : Int), rates[k]? = some r → q.Rates[k]? = some (r + C9 x.Rate k x.Hops)) ∧
   (∀ (k : Nat) (r : Int), ports[k]? = some r → q.Ports[k]? = some (r + Em k x)) ∧ ∀ v, E0 (wt n v) q.Rates + E0 (wp n v) q.Ports = E0 (wt n v) rates + E0 (wp n v) ports := by
 obtain ⟨i, o, p0, po, y0, y1, nd, e1, e2, e3, e4, e5, e6, e7, e8, w, e9, e10, e11, e12, e13⟩ := hx
 have hil := (gs e3).1
 have hol := (gs e4).1
 have hne : i ≠ o := by rintro rfl; rw [e5] at e7; simp at e7; omega
 have G : ports[i]? = some (ports[i]'(by omega)) := gq _
 have O : ports[o]? = some (ports[o]'(by omega)) := gq _
 generalize ports[i]'(by omega) = X at G
 generalize ports[o]'(by omega) = zo at O
 have hzi := hpb i X G
 have hzo := hpb o zo O
 have w1 : wr (X + x.Rate) = X + x.Rate := Bc (by omega)
 have w2 : wr (zo - x.Rate) = zo - x.Rate := Bc (by omega)
 have W : (ports.set i (X + x.Rate))[o]? = some zo := by rw [List.getElem?_set_ne hne]; exact O
 unfold Wz
 rw [e1, e2]
 refine .bind' (.eq (A0 G) ?_)
 dsimp only
 rw [w1]
 refine .bind' (.eq (A0 W) ?_)
 dsimp only
 rw [w2]
 refine .bind (.forS (fun j st => st.length = rates.length ∧ (∀ (k : Nat) (r : Int), rates[k]? = some r → st[k]? = some (r + C9 x.Rate k (x.Hops.take j))) ∧ ∀ v, E0 (wt n v) st = E0 (wt n v) rates + (x.Rate * ind (nd j) v - x.Rate * ind (nd 0) v)) ⟨rfl, fun k r hr => by simp [C9, hr], fun v => by omega⟩ ?_ fun st h => h) ?_
 ·rintro j h st hj ⟨i1, i2, i3⟩
  have hjl := (gs hj).1
  obtain ⟨k, s, r0, q1, q2, q3, q4⟩ := w.hop j h hj
  have hkl := (gs q2).1
  obtain ⟨r, M⟩ : ∃ ζ, rates[k]? = some ζ := ⟨_, gq (by omega)⟩
  have Z := i2 k r M
  have hrr := hrb k r M
  have hb := G7 (rate := x.Rate) (by omega) k (x.Hops.take j)
  rw [List.length_take] at hb
  unfold Wz.B1
  rw [q1]
  refine .bind' (.eq (A0 Z) (.pure ?_))
  dsimp only
  rw [Uh (by omega)]
  have hsg : -1000 ≤ Im x.Rate h ∧ Im x.Rate h ≤ 1000 := by unfold Im; split <;> omega
  rw [Bc (by omega)]
  refine ⟨by simp [i1], fun k' r' hr' => ?_, fun v => ?_⟩
  ·rw [Kr hj, D9]
   have hkl := (gs Z).1
   by_cases hkk : k = k'
   ·subst hkk
    rw [hr'] at M; simp at M; subst M
    rw [if_pos ⟨rfl, hkl⟩, if_pos q1]; congr 1; omega
   ·rw [if_neg (fun h => hkk h.1), if_neg (by omega), i2 k' r' hr']; simp
  ·rw [Fs (T4 v q2) Z, i3 v]
   have : (ind s.To v - ind s.From v) * (r + C9 x.Rate k (x.Hops.take j) + Im x.Rate h - (r + C9 x.Rate k (x.Hops.take j))) = x.Rate * ind (nd (j + 1)) v - x.Rate * ind (nd j) v := by
    rw [show r + C9 x.Rate k (x.Hops.take j) + Im x.Rate h - (r + C9 x.Rate k (x.Hops.take j)) = Im x.Rate h by omega]
    unfold Im
    rcases q4 with ⟨b, _, a1, a2⟩ | ⟨b, _, a1, a2⟩
    ·rw [b, a1, a2, if_neg (by simp), Int.sub_mul, Int.mul_comm, Int.mul_comm (ind (nd j) v)]
    ·rw [b, a1, a2, if_pos rfl, Int.sub_mul, Int.mul_neg, Int.mul_neg, Int.mul_comm, Int.mul_comm (ind (nd (j + 1)) v)]; omega
   rw [this]; omega
 rintro st ⟨i1, i2, i3⟩
 rw [List.take_length] at i2
 refine .pure ⟨i1, by simp, rfl, i2, fun k z Y => ?_, fun v => ?_⟩
 ·dsimp only
  unfold Em
  rw [e1, e2, D9, D9]
  by_cases hko : o = k
  ·subst hko
   rw [O] at Y; simp at Y; subst Y
   rw [if_pos ⟨rfl, by simp; omega⟩, if_neg (by omega), if_pos rfl]; congr 1; omega
  ·rw [if_neg (fun h => hko h.1)]
   by_cases hki : i = k
   ·subst hki
    rw [G] at Y; simp at Y; subst Y
    rw [if_pos ⟨rfl, by omega⟩, if_pos rfl, if_neg (by omega)]; congr 1; omega
   ·rw [if_neg (fun h => hki h.1), if_neg (by omega), if_neg (by omega), Y]; simp
 ·dsimp only
  rw [i3 v, Fs (Qp v e4) W, Fs (Qp v e3) G, e9, e10]
  have a1 : ind p0.Node v * (X + x.Rate - X) = x.Rate * ind p0.Node v := by rw [show X + x.Rate - X = x.Rate by omega, Int.mul_comm]
  have a2 : ind po.Node v * (zo - x.Rate - zo) = -(x.Rate * ind po.Node v) := by rw [show zo - x.Rate - zo = -x.Rate by omega, Int.mul_neg, Int.mul_comm]
  rw [a1, a2]; omega
theorem Z8 {l : List Path} {k j : Nat} {x : Path} (h : l[j]? = some x) : Cr k (l.take (j + 1)) = Cr k (l.take j) + C9 x.Rate k x.Hops := by
 rw [List.take_add_one, h, Gd]; simp [Cr]
theorem X7 {l : List Path} {k j : Nat} {x : Path} (h : l[j]? = some x) : Cq k (l.take (j + 1)) = Cq k (l.take j) + Em k x := by
 rw [List.take_add_one, h, Fx]; simp [Cq]
theorem Ta {n : Nw} {p : Plan} (k : Nat) : ∀ {l : List Path}, (∀ x, x ∈ l → PathOk n p x) → -(5000 * (l.length : Int)) ≤ Cr k l ∧ Cr k l ≤ 5000 * (l.length : Int)
 | [], _ => by simp [Cr]
 | x :: l, h => by
  have ih := Ta k (l := l) fun y X => h y (by simp [X])
  obtain ⟨i, o, p0, po, y0, y1, nd, Y, Z, e3, e4, e5, e6, e7, e8, w, e9, G, M, O, W⟩ := h x (by simp)
  have := G7 (rate := x.Rate) (by omega) k x.Hops
  simp only [Cr, List.length_cons]; omega
theorem P6 {n : Nw} {p : Plan} (k : Nat) : ∀ {l : List Path}, (∀ x, x ∈ l → PathOk n p x) → -(5000 * (l.length : Int)) ≤ Cq k l ∧ Cq k l ≤ 5000 * (l.length : Int)
 | [], _ => by simp [Cq]
 | x :: l, h => by
  have ih := P6 k (l := l) fun y X => h y (by simp [X])
  obtain ⟨i, o, p0, po, y0, y1, nd, Y, Z, e3, e4, e5, e6, e7, e8, w, e9, G, M, O, W⟩ := h x (by simp)
  simp only [Cq, Em, List.length_cons]
  split <;> split <;> omega
theorem Divided.all {n : Nw} {up : Bool} {p : Plan} {l : List Path} (h : Divided n up p l) : (∀ (k : Nat) (r : Int), p.Rates[k]? = some r → (0 ≤ r → 0 ≤ Cr k l ∧ Cr k l ≤ r) ∧ (r ≤ 0 → r ≤ Cr k l ∧ Cr k l ≤ 0)) ∧
  ∀ (k : Nat) (r : Int), p.Ports[k]? = some r → (0 ≤ r → 0 ≤ Cq k l ∧ Cq k l ≤ r) ∧ (r ≤ 0 → r ≤ Cq k l ∧ Cq k l ≤ 0) :=
 ⟨fun k r G => by have := h.sumR k r G; omega, fun k r G => by have := h.sumP k r G; omega⟩
theorem PathOk.small {n : Nw} {p : Plan} {x : Path} (h : PathOk n p x) : x.Hops.length ≤ 5 ∧ 1 ≤ x.Rate ∧ x.Rate ≤ 1000 := by
 obtain ⟨i, o, p0, po, y0, y1, nd, X, Y, Z, e4, e5, e6, e7, e8, w, e9, W, G, M, O⟩ := h
 exact ⟨G, M, O⟩
theorem Sx (a b : Int) (k : Nat) : ∀ l : List Hop, C9 (a + b) k l = C9 a k l + C9 b k l
 | [] => by simp [C9]
 | h :: l => by
  simp only [C9, Sx a b k l]
  have : Im (a + b) h = Im a h + Im b h := by unfold Im; split <;> omega
  rw [this]; split <;> omega
theorem eW (k : Nat) (l : List Hop) : C9 0 k l = 0 := by
 have := Sx 0 0 k l
 simp at this
 omega
theorem PathOk.rated {n : Nw} {p : Plan} {x : Path} (h : PathOk n p x) {r : Int} (O : 1 ≤ r ∧ r ≤ 1000) : PathOk n p ⟨x.In, x.Out, x.Hops, r⟩ := by
 obtain ⟨i, o, p0, po, y0, y1, nd, W, Z, e3, e4, e5, e6, e7, e8, w, e9, G, M, X, Y⟩ := h
 exact ⟨i, o, p0, po, y0, y1, nd, W, Z, e3, e4, e5, e6, e7, e8, w, e9, G, M, O.1, O.2⟩
theorem PathOk.sign {n : Nw} {up : Bool} {p : Plan} (O : Res n up p.Rates p.Ports) {x : Path} (hx : PathOk n p x) {k : Nat} {r : Int} (M : p.Rates[k]? = some r) : (0 ≤ r → 0 ≤ C9 x.Rate k x.Hops) ∧ (r ≤ 0 → C9 x.Rate k x.Hops ≤ 0) := by
 have := hx.small
 rcases hx.over O M with ⟨_, e⟩ | ⟨_, _, ⟨G, e⟩ | ⟨G, e⟩⟩ <;> omega
theorem PathOk.psign {n : Nw} {p : Plan} {x : Path} (hx : PathOk n p x) {k : Nat} {r : Int} (G : p.Ports[k]? = some r) : (0 ≤ r → 0 ≤ Em k x) ∧ (r ≤ 0 → Em k x ≤ 0) := by
 obtain ⟨i, o, p0, po, y0, y1, nd, W, e2, e3, e4, O, e6, M, e8, w, e9, X, Y, Z, ac⟩ := hx
 unfold Em
 rw [W, e2]
 by_cases hi : i = k
 ·subst hi
  rw [O] at G; simp at G; subst G
  have : o ≠ i := by rintro rfl; rw [O] at M; simp at M; omega
  rw [if_pos rfl, if_neg (by omega)]; omega
 ·rw [if_neg (by omega)]
  by_cases ho : o = k
  ·subst ho
   rw [M] at G; simp at G; subst G
   rw [if_pos rfl]; omega
  ·rw [if_neg (by omega)]; omega
theorem bL (i : Nat) (a b : Int) (x : Path) : Em i ⟨x.In, x.Out, x.Hops, a⟩ + Em i ⟨x.In, x.Out, x.Hops, b⟩ = Em i ⟨x.In, x.Out, x.Hops, a + b⟩ := by
 unfold Em; dsimp only; split <;> split <;> omega
theorem Z9 (i : Nat) (x : Path) : Em i ⟨x.In, x.Out, x.Hops, 0⟩ = 0 := by unfold Em; dsimp only; split <;> split <;> omega
def rated (u : Path) (r : Int) : Path := ⟨u.In, u.Out, u.Hops, r⟩
theorem eZ {a b : List Hop} : Ok (Xd a b) fun r => r = true ↔ a = b := by
 unfold Xd
 refine Cj (fun h => .pure ?_) fun h => ?_
 ·simp only [Bool.false_eq_true, false_iff]; rintro rfl; exact h rfl
 have hl : a.length = b.length := by omega
 refine .bind' (.forL (fun k _ => ∀ j : Nat, j < k → a[j]? = b[j]?) (fun r => r = false ∧ a ≠ b) (fun j h => absurd h (Nat.not_lt_zero _)) ?_ ?_ ?_)
 ·intro k x _ G W
  have hkl := (gs G).1
  obtain ⟨y, O⟩ : ∃ ζ, b[k]? = some ζ := ⟨_, gq (by omega)⟩
  unfold Xd.B2
  refine .bind' (.eq (A0 O) (Ea (fun h => .pure ⟨rfl, ?_⟩) fun h => .pure fun j Z => ?_))
  ·intro he; rw [he, O] at G; simp at G; subst G; simp at h
  ·have Y : x = y := by
    simp at h
    cases x; cases y; simp_all
   by_cases X : j = k
   ·subst X; rw [G, O, Y]
   ·exact W j (by omega)
 ·intro _ W
  simp only [Sum.elim_inl]
  unfold Xd.J1
  refine .pure ⟨fun _ => ?_, fun _ => rfl⟩
  refine List.ext_getElem? fun j => ?_
  by_cases Z : j < a.length
  ·exact W j Z
  ·rw [List.getElem?_eq_none (by omega), List.getElem?_eq_none (by omega)]
 ·rintro _ ⟨rfl, h⟩
  exact .pure ⟨fun M => (by cases M), fun M => absurd M h⟩
def Alike (x y : Path) : Prop := x.In = y.In ∧ x.Out = y.Out ∧ x.Hops = y.Hops
theorem eQ {x y : Path} : Ok (Rj x y) fun r => r = true ↔ Alike x y := by
 unfold Rj Rj.J1
 refine Dl (fun G => Dl (fun M => .bind eZ fun r O => .pure ?_) fun M => .pure ?_) fun G => .pure ?_
 ·rw [O]; exact ⟨fun h => ⟨G, M, h⟩, fun h => h.2.2⟩
 ·simp only [Bool.false_eq_true, false_iff]; exact fun h => M h.2.1
 ·simp only [Bool.false_eq_true, false_iff]; exact fun h => G h.1
theorem Uv {l : List Path} {p : Path} : Ok (Sa l p) fun r => (r = -1 ∧ ∀ y, y ∈ l → ¬ Alike y p) ∨ ∃ (m : Nat) (y : Path), r = (m : Int) ∧ l[m]? = some y ∧ Alike y p := by
 unfold Sa
 refine .bind (Q := fun r => (r = -1 ∧ ∀ y, y ∈ l → ¬ Alike y p) ∨ ∃ (m : Nat) (y : Path), r = (m : Int) ∧ l[m]? = some y ∧ Alike y p) ?_ fun r G => .pure G
 unfold Xk
 refine .bind' (.forL (fun k _ => ∀ (j : Nat) (y : Path), j < k → l[j]? = some y → ¬ Alike y p) (fun r => ∃ (m : Nat) (y : Path), r = (m : Int) ∧ l[m]? = some y ∧ Alike y p) (fun j y h => absurd h (Nat.not_lt_zero _)) ?_ ?_ ?_)
 ·intro k x _ Y O
  unfold Xk.B2 Xn
  refine .bind (.bind eQ fun r G => .pure G) fun r G => Ax (fun h => .pure ⟨k, x, rfl, Y, G.1 h⟩) fun h => .pure fun j y W M => ?_
  by_cases X : j = k
  ·subst X
   rw [Y] at M; simp at M; subst M
   intro Z
   have := G.2 Z
   rw [h] at this; cases this
  ·exact O j y (by omega) M
 ·intro _ O
  simp only [Sum.elim_inl]
  unfold Xk.J1
  refine .pure (.inl ⟨rfl, fun y M => ?_⟩)
  obtain ⟨j, W⟩ := List.getElem?_of_mem M
  exact O j y (gs W).1 W
 ·rintro b hb
  exact .pure (.inr hb)
def Gq (F : Path → Int → Int) : List Path → Li → Int
 | u :: l, r :: rs => F u r + Gq F l rs
 | _, _ => 0
def fs (k : Nat) (u : Path) (r : Int) : Int := C9 r k u.Hops
def FP (i : Nat) (u : Path) (r : Int) : Int := Em i (rated u r)
theorem tK (k : Nat) (u : Path) (a b : Int) : fs k u (a + b) = fs k u a + fs k u b := Sx a b k u.Hops
theorem Mq (k : Nat) (u : Path) : fs k u 0 = 0 := eW k u.Hops
theorem tL (k : Nat) (u : Path) (a b : Int) : FP k u (a + b) = FP k u a + FP k u b := (bL k a b u).symm
theorem Mr (k : Nat) (u : Path) : FP k u 0 = 0 := Z9 k u
theorem Tb (u : Path) : rated u u.Rate = u := rfl
theorem Qe (k : Nat) : ∀ l : List Path, Gq (fs k) l (l.map (·.Rate)) = Cr k l
 | [] => rfl
 | u :: l => by simp only [List.map_cons, Gq, Cr, Qe k l, fs]
theorem Mt (k : Nat) : ∀ l : List Path, Gq (FP k) l (l.map (·.Rate)) = Cq k l
 | [] => rfl
 | u :: l => by simp only [List.map_cons, Gq, Cq, Mt k l, FP, Tb]
theorem Qx {F : Path → Int → Int} : ∀ {l : List Path} {rs ss : Li}, rs.length = l.length → ss.length = l.length → (∀ (i : Nat) (u : Path) (r s : Int), l[i]? = some u → rs[i]? = some r → ss[i]? = some s → F u r ≤ F u s) → Gq F l rs ≤ Gq F l ss
 | [], [], [], _, _, _ => by simp [Gq]
 | u :: l, r :: rs, s :: ss, h1, h2, h => by
  have G := h 0 u r s rfl rfl rfl
  have := Qx (F := F) (l := l) (rs := rs) (ss := ss) (by simpa using h1) (by simpa using h2) fun i v a b x y z => h (i + 1) v a b (by simpa using x) (by simpa using y) (by simpa using z)
  simp only [Gq]; omega
theorem So {F : Path → Int → Int} (G : ∀ u, F u 0 = 0) : ∀ l : List Path, Gq F l (l.map fun _ => 0) = 0
 | [] => rfl
 | u :: l => by simp only [List.map_cons, Gq, So G l, G]; rfl
def E5 (n : Nw) (l : List Path) (rs : Li) : Li := (List.range n.Segments.length).map fun k => Gq (fs k) l rs
def Fc (n : Nw) (l : List Path) (rs : Li) : Li := (List.range n.Ports.length).map fun k => Gq (FP k) l rs
def Ip (n : Nw) (l : List Path) (rs : Li) (pumps : List Bool) : Plan := ⟨E5 n l rs, Fc n l rs, pumps⟩
theorem Hc {n : Nw} {l : List Path} {rs : Li} {k : Nat} (h : k < n.Segments.length) : (E5 n l rs)[k]? = some (Gq (fs k) l rs) := by
 unfold E5; rw [List.getElem?_map, List.getElem?_range h]; rfl
theorem He {n : Nw} {l : List Path} {rs : Li} {k : Nat} (h : k < n.Ports.length) : (Fc n l rs)[k]? = some (Gq (FP k) l rs) := by
 unfold Fc; rw [List.getElem?_map, List.getElem?_range h]; rfl
theorem Et (n : Nw) (l : List Path) (rs : Li) : (E5 n l rs).length = n.Segments.length := by simp [E5]
theorem Eu (n : Nw) (l : List Path) (rs : Li) : (Fc n l rs).length = n.Ports.length := by simp [Fc]
theorem L4 {n : Nw} {l : List Path} {rs : Li} {k : Nat} {r : Int} (h : (E5 n l rs)[k]? = some r) : k < n.Segments.length ∧ r = Gq (fs k) l rs := by
 have G := (gs h).1
 rw [Et] at G
 rw [Hc G] at h; simp at h
 exact ⟨G, h.symm⟩
theorem L5 {n : Nw} {l : List Path} {rs : Li} {k : Nat} {r : Int} (h : (Fc n l rs)[k]? = some r) : k < n.Ports.length ∧ r = Gq (FP k) l rs := by
 have G := (gs h).1
 rw [Eu] at G
 rw [He G] at h; simp at h
 exact ⟨G, h.symm⟩
structure Part (l : List Path) (rs : List Int) : Prop where
 len : rs.length = l.length
 rng : ∀ (i : Nat) (u : Path) (r : Int), l[i]? = some u → rs[i]? = some r → 0 ≤ r ∧ r ≤ u.Rate
def tO (rs ss : Li) : Prop := ∀ (i : Nat) (r s : Int), rs[i]? = some r → ss[i]? = some s → r ≤ s
theorem Part.full {n : Nw} {p : Plan} {l : List Path} (h : ∀ x, x ∈ l → PathOk n p x) : Part l (l.map (·.Rate)) := by
 refine ⟨by simp, fun i u r M G => ?_⟩
 rw [List.getElem?_map, M] at G; simp at G
 have := (h u (mg M)).small; omega
theorem Part.none {n : Nw} {p : Plan} {l : List Path} (h : ∀ x, x ∈ l → PathOk n p x) : Part l (l.map fun _ => 0) := by
 refine ⟨by simp, fun i u r M G => ?_⟩
 rw [List.getElem?_map, M] at G; simp at G
 have := (h u (mg M)).small; omega
theorem Part.les_full {l : List Path} {rs : Li} (h : Part l rs) : tO rs (l.map (·.Rate)) := by
 intro i r s M G
 rw [List.getElem?_map] at G
 cases hu : l[i]? with
 | none => rw [hu] at G; simp at G
 | some u => rw [hu] at G; simp at G; have := h.rng i u r hu M; omega
theorem Part.none_les {l : List Path} {rs : Li} (h : Part l rs) : tO (l.map fun _ => 0) rs := by
 intro i r s G M
 rw [List.getElem?_map] at G
 cases hu : l[i]? with
 | none => rw [hu] at G; simp at G
 | some u => rw [hu] at G; simp at G; have := h.rng i u s hu M; omega
theorem Part.set {l : List Path} {rs : Li} (h : Part l rs) {i : Nat} {u : Path} {x : Int} (W : l[i]? = some u) (hx : 0 ≤ x ∧ x ≤ u.Rate) : Part l (rs.set i x) := by
 refine ⟨by simp [h.len], fun j v r M G => ?_⟩
 rw [D9] at G
 split at G
 ·rename_i O
  simp at G; subst G
  rw [← O.1, W] at M; simp at M; subst M; exact hx
 ·exact h.rng j v r M G
theorem qI {n : Nw} {up : Bool} {p : Plan} (O : Res n up p.Rates p.Ports) {u : Path} (W : PathOk n p u) {k : Nat} {r : Int} (M : p.Rates[k]? = some r) {x : Int} (hx : 0 ≤ x ∧ x ≤ 1000) : (0 ≤ r → 0 ≤ fs k u x) ∧ (r ≤ 0 → fs k u x ≤ 0) := by
 by_cases G : x = 0
 ·subst G; rw [Mq]; omega
 ·exact (W.rated (r := x) (by omega)).sign O M
theorem qJ {n : Nw} {p : Plan} {u : Path} (O : PathOk n p u) {k : Nat} {r : Int} (M : p.Ports[k]? = some r) {x : Int} (hx : 0 ≤ x ∧ x ≤ 1000) : (0 ≤ r → 0 ≤ FP k u x) ∧ (r ≤ 0 → FP k u x ≤ 0) := by
 by_cases G : x = 0
 ·subst G; rw [Mr]; omega
 ·exact (O.rated (r := x) (by omega)).psign M
theorem Y2 {n : Nw} {up : Bool} {p : Plan} {l : List Path} (hd : Divided n up p l) {rs ss : Li} (h1 : Part l rs) (h2 : Part l ss) (M : tO rs ss) {k : Nat} {r : Int} (Y : p.Rates[k]? = some r) :
  (0 ≤ r → Gq (fs k) l rs ≤ Gq (fs k) l ss) ∧ (r ≤ 0 → Gq (fs k) l ss ≤ Gq (fs k) l rs) := by
 have G : ∀ (i : Nat) (u : Path) (x y : Int), l[i]? = some u → rs[i]? = some x → ss[i]? = some y → (0 ≤ r → fs k u x ≤ fs k u y) ∧ (r ≤ 0 → fs k u y ≤ fs k u x) := by
  intro i u x y O W X
  have Z := h1.rng i u x O W; have a2 := h2.rng i u y O X; have a3 := M i x y W X
  have hp := hd.paths u (mg O)
  have := hp.small
  have e := tK k u x (y - x)
  rw [show x + (y - x) = y by omega] at e
  have := qI hd.res hp Y (x := y - x) (by omega)
  omega
 exact ⟨fun h => Qx h1.len h2.len fun i u x y a b c => (G i u x y a b c).1 h, fun h => Qx h2.len h1.len fun i u x y a b c => (G i u y x a c b).2 h⟩
theorem Uk {n : Nw} {up : Bool} {p : Plan} {l : List Path} (hd : Divided n up p l) {rs ss : Li} (h1 : Part l rs) (h2 : Part l ss) (M : tO rs ss) {k : Nat} {r : Int} (Y : p.Ports[k]? = some r) :
  (0 ≤ r → Gq (FP k) l rs ≤ Gq (FP k) l ss) ∧ (r ≤ 0 → Gq (FP k) l ss ≤ Gq (FP k) l rs) := by
 have G : ∀ (i : Nat) (u : Path) (x y : Int), l[i]? = some u → rs[i]? = some x → ss[i]? = some y → (0 ≤ r → FP k u x ≤ FP k u y) ∧ (r ≤ 0 → FP k u y ≤ FP k u x) := by
  intro i u x y O W X
  have Z := h1.rng i u x O W; have a2 := h2.rng i u y O X; have a3 := M i x y W X
  have hp := hd.paths u (mg O)
  have := hp.small
  have e := tL k u x (y - x)
  rw [show x + (y - x) = y by omega] at e
  have := qJ hp Y (x := y - x) (by omega)
  omega
 exact ⟨fun h => Qx h1.len h2.len fun i u x y a b c => (G i u x y a b c).1 h, fun h => Qx h2.len h1.len fun i u x y a b c => (G i u y x a c b).2 h⟩
theorem sB {n : Nw} {up : Bool} {p : Plan} {l : List Path} (hd : Divided n up p l) {rs : Li} (h : Part l rs) {k : Nat} {r : Int} (G : p.Rates[k]? = some r) :
  (0 ≤ r → 0 ≤ Gq (fs k) l rs ∧ Gq (fs k) l rs ≤ r) ∧ (r ≤ 0 → r ≤ Gq (fs k) l rs ∧ Gq (fs k) l rs ≤ 0) := by
 have a := Y2 hd h (.full hd.paths) h.les_full G
 have b := Y2 hd (.none hd.paths) h h.none_les G
 rw [Qe, ← hd.sumR k r G] at a
 rw [So (Mq k)] at b
 omega
theorem pF {n : Nw} {up : Bool} {p : Plan} {l : List Path} (hd : Divided n up p l) {rs : Li} (h : Part l rs) {k : Nat} {r : Int} (G : p.Ports[k]? = some r) :
  (0 ≤ r → 0 ≤ Gq (FP k) l rs ∧ Gq (FP k) l rs ≤ r) ∧ (r ≤ 0 → r ≤ Gq (FP k) l rs ∧ Gq (FP k) l rs ≤ 0) := by
 have a := Uk hd h (.full hd.paths) h.les_full G
 have b := Uk hd (.none hd.paths) h h.none_les G
 rw [Mt, ← hd.sumP k r G] at a
 rw [So (Mr k)] at b
 omega
theorem lK {n : Nw} {p : Plan} {u : Path} (G : PathOk n p u) (k : Nat) {x : Int} (hx : 0 ≤ x ∧ x ≤ 1000) : -5000 ≤ fs k u x ∧ fs k u x ≤ 5000 := by
 have h := G7 hx k u.Hops
 have := G.small
 unfold fs; omega
theorem lL (k : Nat) (u : Path) {x : Int} (hx : 0 ≤ x ∧ x ≤ 1000) : -5000 ≤ FP k u x ∧ FP k u x ≤ 5000 := by
 unfold FP Em rated
 dsimp only
 split <;> split <;> omega
theorem Xt {F : Path → Int → Int} : ∀ {l : List Path} {rs : Li}, (∀ (i : Nat) (u : Path) (r : Int), l[i]? = some u → rs[i]? = some r → -5000 ≤ F u r ∧ F u r ≤ 5000) → -(5000 * (l.length : Int)) ≤ Gq F l rs ∧ Gq F l rs ≤ 5000 * (l.length : Int)
 | [], _, _ => by simp [Gq]
 | _ :: _, [], _ => by simp [Gq]; omega
 | u :: l, r :: rs, h => by
  have G := h 0 u r rfl rfl
  have := Xt (F := F) (l := l) (rs := rs) fun i v s a b => h (i + 1) v s (by simpa using a) (by simpa using b)
  simp only [Gq, List.length_cons]; omega
theorem lE {n : Nw} {up : Bool} {p : Plan} (Y : Res n up p.Rates p.Ports) (v : Int) : ∀ {l : List Path} {rs : Li}, (∀ x, x ∈ l → PathOk n p x) → l.length ≤ 100 → rs.length = l.length → (∀ r, r ∈ rs → 0 ≤ r ∧ r ≤ 1000) →
  E0 (wt n v) (E5 n l rs) + E0 (wp n v) (Fc n l rs) = 0
 | [], rs, _, _, hl, _ => by
  have O : E5 n [] rs = List.replicate n.Segments.length 0 := by
   refine List.ext_getElem? fun k => ?_
   by_cases G : k < n.Segments.length
   ·rw [Hc G]; simp [Gq, G]
   ·rw [List.getElem?_eq_none (by rw [Et]; omega), List.getElem?_eq_none (by simp; omega)]
  have W : Fc n [] rs = List.replicate n.Ports.length 0 := by
   refine List.ext_getElem? fun k => ?_
   by_cases G : k < n.Ports.length
   ·rw [He G]; simp [Gq, G]
   ·rw [List.getElem?_eq_none (by rw [Eu]; omega), List.getElem?_eq_none (by simp; omega)]
  rw [O, W, Ia, Ia]; rfl
 | _ :: _, [], _, _, h, _ => by simp at h
 | u :: l, r :: rs, hp, hl, hlen, hrs => by
  have hl' : l.length + 1 ≤ 100 := by simpa using hl
  have hu := hp u (by simp)
  have hr0 := hrs r (by simp)
  have Z := lE Y v (l := l) (rs := rs) (fun x M => hp x (by simp [M])) (by omega) (by simpa using hlen) (fun x M => hrs x (by simp [M]))
  by_cases h0 : r = 0
  ·subst h0
   have O : E5 n (u :: l) (0 :: rs) = E5 n l rs := by unfold E5; simp only [Gq, Mq, Int.zero_add]
   have W : Fc n (u :: l) (0 :: rs) = Fc n l rs := by unfold Fc; simp only [Gq, Mr, Int.zero_add]
   rw [O, W]; exact Z
  ·have X : ∀ (i : Nat) (w : Path) (s : Int), l[i]? = some w → rs[i]? = some s → 0 ≤ s ∧ s ≤ 1000 := fun i w s _ hs => hrs s (List.mem_cons_of_mem _ (mg hs))
   obtain ⟨q, _, g1, g2, _, g4, g5, g6⟩ := dI (pumps := []) Y (hu.rated (r := r) (by omega)) (Et n l rs) (Eu n l rs)
    (fun k x M => by
     obtain ⟨_, rfl⟩ := L4 M
     have := Xt (F := fs k) (l := l) (rs := rs) fun i w s a b => lK (hp w (List.mem_cons_of_mem _ (mg a))) k (X i w s a b)
     omega)
    (fun k x M => by
     obtain ⟨_, rfl⟩ := L5 M
     have := Xt (F := FP k) (l := l) (rs := rs) fun i w s a b => lL k w (X i w s a b)
     omega)
   rw [Et] at g1
   rw [Eu] at g2
   have e1 : q.Rates = E5 n (u :: l) (r :: rs) := by
    refine List.ext_getElem? fun k => ?_
    by_cases G : k < n.Segments.length
    ·rw [g4 k _ (Hc G), Hc G]
     simp only [Gq]; congr 1; exact Int.add_comm _ _
    ·rw [List.getElem?_eq_none (by omega), List.getElem?_eq_none (by rw [Et]; omega)]
   have e2 : q.Ports = Fc n (u :: l) (r :: rs) := by
    refine List.ext_getElem? fun k => ?_
    by_cases G : k < n.Ports.length
    ·rw [g5 k _ (He G), He G]
     simp only [Gq]; congr 1; exact Int.add_comm _ _
    ·rw [List.getElem?_eq_none (by omega), List.getElem?_eq_none (by rw [Eu]; omega)]
   rw [← e1, ← e2, g6 v]; exact Z
theorem Ul {n : Nw} {up : Bool} {p : Plan} (hp : PlanOk n p) {l : List Path} (hd : Divided n up p l) {rs : Li} (h : Part l rs) {pumps : List Bool} (hm : pumps.length = n.Stations.length) : PlanOk n (Ip n l rs pumps) := by
 have W : ∀ (k : Nat) (r : Int), (E5 n l rs)[k]? = some r → ∃ M, p.Rates[k]? = some M ∧ (0 ≤ M → 0 ≤ r ∧ r ≤ M) ∧ (M ≤ 0 → M ≤ r ∧ r ≤ 0) := fun k r O => by
  obtain ⟨Z, rfl⟩ := L4 O
  have X : p.Rates[k]? = some (p.Rates[k]'(by rw [hp.rl]; exact Z)) := gq _
  exact ⟨_, X, sB hd h X⟩
 refine ⟨Et _ _ _, Eu _ _ _, hm, fun k r s O Y => ?_, fun k r O => ?_, fun v => lE hd.res v hd.paths (by have := hd.count; omega) h.len fun r hr => ?_, ?_⟩
 ·obtain ⟨M, a, b⟩ := W k r O
  have := hp.rng k M s a Y
  omega
 ·obtain ⟨Z, rfl⟩ := L5 O
  have X : p.Ports[k]? = some (p.Ports[k]'(by rw [hp.pl]; exact Z)) := gq _
  have := pF hd h X
  have := hp.prt k _ X
  omega
 ·obtain ⟨i, hi⟩ := List.getElem?_of_mem hr
  have hil := (gs hi).1
  have hu : l[i]? = some (l[i]'(by have := h.len; omega)) := gq _
  have := h.rng i _ r hu hi
  have := (hd.paths _ (mg hu)).small
  omega
 ·rcases hp.dir with G | G
  ·refine .inl fun k r s O Y => ?_
   obtain ⟨M, a, b⟩ := W k r O
   have := G k M s a Y
   exact ⟨fun h => this.1 (by omega), fun h => this.2 (by omega)⟩
  ·refine .inr fun k r s O Y => ?_
   obtain ⟨M, a, b⟩ := W k r O
   have := G k M s a Y
   exact ⟨fun h => this.1 (by omega), fun h => this.2 (by omega)⟩
instance (x y : Path) : Decidable (Alike x y) := by unfold Alike; infer_instance
theorem Alike.symm {x y : Path} (h : Alike x y) : Alike y x := ⟨h.1.symm, h.2.1.symm, h.2.2.symm⟩
theorem Alike.trans {x y z : Path} (h : Alike x y) (k : Alike y z) : Alike x z := ⟨h.1.trans k.1, h.2.1.trans k.2.1, h.2.2.trans k.2.2⟩
def mr : List Path → Path → Int
 | [], _ => 0
 | y :: l, u => if Alike y u then min u.Rate y.Rate else mr l u
def Ja : List Path → Prop
 | [] => True
 | u :: l => (∀ y, y ∈ l → ¬ Alike u y) ∧ Ja l
theorem Divided.apt {n : Nw} {up : Bool} {p : Plan} {l : List Path} (h : Divided n up p l) : Ja l := by
 have : ∀ l : List Path, (∀ (i j : Nat) (x y : Path), i < j → l[i]? = some x → l[j]? = some y → ¬ (x.In = y.In ∧ x.Out = y.Out ∧ x.Hops = y.Hops)) → Ja l := by
  intro l
  induction l with
  | nil => intro _; trivial
  | cons u l ih =>
   intro h
   refine ⟨fun y G => ?_, ih fun i j x y M W G => h (i + 1) (j + 1) x y (by omega) (by simpa using W) (by simpa using G)⟩
   obtain ⟨j, O⟩ := List.getElem?_of_mem G
   exact h 0 (j + 1) u y (by omega) rfl (by simpa using O)
 exact this l h.apart
theorem Qh : ∀ {l : List Path} {u : Path}, (∀ y, y ∈ l → ¬ Alike y u) → mr l u = 0
 | [], _, _ => rfl
 | y :: l, u, h => by simp only [mr]; rw [if_neg (h y (by simp))]; exact Qh fun z G => h z (by simp [G])
theorem Yn : ∀ {l : List Path} {u : Path} {k : Nat} {y : Path}, Ja l → l[k]? = some y → Alike y u → mr l u = min u.Rate y.Rate
 | [], _, k, _, _, h, _ => by simp at h
 | z :: l, u, 0, y, _, h, ha => by simp at h; subst h; simp only [mr]; rw [if_pos ha]
 | z :: l, u, k + 1, y, hp, h, ha => by
  have G : l[k]? = some y := by simpa using h
  simp only [mr]
  rw [if_neg fun M => hp.1 y (mg G) (M.trans ha.symm)]
  exact Yn hp.2 G ha
theorem Hz : ∀ {l : List Path} {u : Path}, (∀ y, y ∈ l → 1 ≤ y.Rate) → 1 ≤ u.Rate → 0 ≤ mr l u ∧ mr l u ≤ u.Rate
 | [], _, _, h => by simp only [mr]; omega
 | y :: l, u, h, hu => by
  have := h y (by simp)
  have := Hz (l := l) (u := u) (fun z G => h z (by simp [G])) hu
  simp only [mr]; split <;> omega
theorem Part.common {n m : Nw} {p q : Plan} {a b : List Path} (O : ∀ x, x ∈ a → PathOk n p x) (hb : ∀ x, x ∈ b → PathOk m q x) : Part a (a.map (mr b)) := by
 refine ⟨by simp, fun i u r M G => ?_⟩
 rw [List.getElem?_map, M] at G; simp at G; subst G
 exact Hz (fun y W => (hb y W).small.2.1) (O u (mg M)).small.2.1
theorem Zz (k : Nat) (u v : Path) (r : Int) (h : Alike u v) : fs k u r = fs k v r := by unfold fs; rw [h.2.2]
theorem Z0 (k : Nat) (u v : Path) (r : Int) (h : Alike u v) : FP k u r = FP k v r := by unfold FP Em rated; dsimp only; rw [h.1, h.2.1]
def CS (n : Nw) (rates : Li) (k : Nat) (v : Int) : Prop := ∃ (i : Nat) (s : Sg) (r : Int), i < k ∧ n.Segments[i]? = some s ∧ rates[i]? = some r ∧ (0 < r ∧ s.To = v ∨ r < 0 ∧ s.From = v)
def CP (n : Nw) (ports : Li) (k : Nat) (v : Int) : Prop := ∃ (i : Nat) (p : Port) (x : Int), i < k ∧ n.Ports[i]? = some p ∧ p.Node = v ∧ ports[i]? = some x ∧ 0 < x
theorem dV {n : Nw} {rates : Li} {k : Nat} {v : Int} {s : Sg} {r : Int} (Z : n.Segments[k]? = some s) (Y : rates[k]? = some r) : CS n rates (k + 1) v ↔ CS n rates k v ∨ (0 < r ∧ s.To = v ∨ r < 0 ∧ s.From = v) := by
 constructor
 ·rintro ⟨i, X, W, h1, G, M, O⟩
  by_cases h : i = k
  ·subst h; rw [Z] at G; rw [Y] at M; simp at G M; subst G; subst M; exact .inr O
  ·exact .inl ⟨i, X, W, by omega, G, M, O⟩
 ·rintro (⟨i, X, W, h1, G, M, O⟩ | h)
  ·exact ⟨i, X, W, by omega, G, M, O⟩
  ·exact ⟨k, s, r, by omega, Z, Y, h⟩
theorem dW {n : Nw} {ports : Li} {k : Nat} {v : Int} {p : Port} {x : Int} (hs : n.Ports[k]? = some p) (Z : ports[k]? = some x) : CP n ports (k + 1) v ↔ CP n ports k v ∨ (p.Node = v ∧ 0 < x) := by
 constructor
 ·rintro ⟨i, Y, X, h1, G, O, M, W⟩
  by_cases h : i = k
  ·subst h; rw [hs] at G; rw [Z] at M; simp at G M; subst G; subst M; exact .inr ⟨O, W⟩
  ·exact .inl ⟨i, Y, X, by omega, G, O, M, W⟩
 ·rintro (⟨i, Y, X, h1, G, O, M, W⟩ | h)
  ·exact ⟨i, Y, X, by omega, G, O, M, W⟩
  ·exact ⟨k, p, x, by omega, hs, h.1, Z, h.2⟩
theorem Vc {n : Nw} (hn : NetF n) {rates ports : Li} (v : Int) : Ew n rates ports v ↔ CS n rates n.Segments.length v ∨ CP n ports n.Ports.length v := by
 constructor
 ·rintro (⟨i, p, x, G, M, W, O⟩ | ⟨i, s, r, G, M, _, O⟩)
  ·exact .inr ⟨i, p, x, (gs G).1, G, M, W, O⟩
  ·exact .inl ⟨i, s, r, (gs G).1, G, M, O⟩
 ·rintro (⟨i, s, r, _, G, M, O⟩ | ⟨i, p, x, _, G, M, W, O⟩)
  ·exact .inr ⟨i, s, r, G, M, (hn.segs i s G).ends.2.2.2.2, O⟩
  ·exact .inl ⟨i, p, x, G, M, W, O⟩
theorem Z7 {n : Nw} (hn : NetF n) {p : Plan} (h : FlowOk n p) (v : Int) : Ok (Jp n p v) fun r => 0 ≤ r.1 ∧ (r.1 ≠ 0 ↔ Ew n p.Rates p.Ports v) := by
 have h1 := hn.segs1; have h2 := hn.ports1; have h4 := h.rl; have h5 := h.pl
 unfold Jp
 refine .bind (.forS (fun k G => 0 ≤ G.1 ∧ G.1 ≤ 1000 * (k : Int) ∧ (G.1 ≠ 0 ↔ CS n p.Rates k v)) ⟨by simp, by simp, by simp [CS]⟩ ?_ fun G h => h) ?_
 ·rintro k s ⟨a, b⟩ Y ⟨W, Z, M⟩
  dsimp only at W Z M
  have hkl := (gs Y).1
  have O : p.Rates[k]? = some p.Rates[k] := gq (by omega)
  have X := h.rng k _ s O Y
  generalize p.Rates[k] = r at O X
  rw [dV Y O, ← M]
  unfold Jp.B5
  refine .bind' (.eq (A0 O) (Dl (fun h0 => ?_) fun h0 => ?_))
  ·dsimp only at h0
   refine .pure ⟨W, by dsimp only; omega, ?_⟩
   dsimp only; constructor
   ·exact .inl
   ·rintro (h | h) <;> first | exact h | omega
  ·dsimp only at h0
   have j7 : ∀ c, Ok (Jp.J7 v s (a, b) (k, r) c) fun G => 0 ≤ G.1 ∧ G.1 ≤ 1000 * ((k + 1 : Nat) : Int) ∧ (G.1 ≠ 0 ↔ a ≠ 0 ∨ (0 < r ∧ s.To = v ∨ r < 0 ∧ s.From = v)) := by
    intro c
    unfold Jp.J7
    dsimp only
    rw [qY (by omega)]
    rcases Wu (s := s) h0 with ⟨he, hr1⟩ | ⟨he, hr1⟩ <;> rw [show G4 s r = C4 s r from rfl, he] <;> dsimp only <;>
     refine Dl (fun hv => .pure ?_) fun hv => .pure ?_ <;> dsimp only <;> first
     | (rw [Bc (by omega)]; exact ⟨by omega, by omega, by constructor <;> intro hh <;> omega⟩)
     | exact ⟨by omega, by omega, by constructor <;> intro hh <;> omega⟩
   exact Dl (fun _ => j7 _) fun _ => j7 _
 rintro ⟨a, b⟩ ⟨W, Z, M⟩
 dsimp only at W Z M
 unfold Jp.J1
 refine .bind (.forS (fun k G => 0 ≤ G.1 ∧ G.1 ≤ 1000 * (n.Segments.length : Int) + 1000 * (k : Int) ∧ (G.1 ≠ 0 ↔ CS n p.Rates n.Segments.length v ∨ CP n p.Ports k v)) ⟨W, by dsimp only; omega, by dsimp only; rw [M]; simp [CP]⟩ ?_ fun G h => h) ?_
 ·rintro k s ⟨a, b⟩ Y ⟨W, Z, M⟩
  dsimp only at W Z M
  have hkl := (gs Y).1
  have O : p.Ports[k]? = some p.Ports[k] := gq (by omega)
  have X := h.prt k _ O
  generalize p.Ports[k] = r at O X
  rw [dW Y O, ← or_assoc, ← M]
  unfold Jp.B3
  refine Dl (fun hv => .bind' (.eq (A0 O) (.pure ?_))) fun hv => .pure ?_
  ·dsimp only
   rw [Bc (x := a + max 0 r) (by omega)]
   exact ⟨by omega, by omega, by constructor <;> intro hh <;> omega⟩
  ·dsimp only
   exact ⟨by omega, by omega, by constructor <;> intro hh <;> omega⟩
 rintro ⟨a, b⟩ ⟨W, Z, M⟩
 exact .pure ⟨W, by rw [Vc hn]; exact M⟩
theorem Pd {n : Nw} (hn : NetF n) {p : Plan} (h : FlowOk n p) {v : Int} (hv : 0 ≤ v ∧ v < (n.Nodes.length : Int)) : Ok (Ov n p v) fun r => r.2 = 0 ∧ 0 ≤ r.1 ∧ (r.1 ≠ 0 ↔ Ew n p.Rates p.Ports v) := by
 unfold Ov
 rw [Mn hn h]
 refine .bind' (.pure (Cj (fun h => absurd rfl h) fun _ => Ax (fun G => ?_) fun _ => .bind (Z7 hn h v) fun r M => .pure ⟨rfl, M⟩))
 simp at G; omega
def tQ (G to_ rate : Int) (v : Int) : Int := if rate < 0 then ind G v * (-rate) else ind to_ v * rate
theorem Zw {s : flow_streams} {b : Int} {f : Nat → Int} (h : Strm b s f) (hb : 0 ≤ b ∧ b ≤ 1000000) {G to_ rate : Int} (hf : G < 24) (ht : to_ < 24) (O : -1 ≤ G ∧ -1 ≤ to_)
  (Y : -1000 ≤ rate ∧ rate ≤ 1000) : Ok (Jk s G to_ rate) fun r => ∀ v : Nat, v < 24 → Nk r.come v = Nk s.come v + tQ G to_ rate v := by
 have W : ∀ (G to_ rate : Int), G < 24 → to_ < 24 → -1 ≤ G ∧ -1 ≤ to_ → 0 ≤ rate ∧ rate ≤ 1000 → Ok (Jk.J1 s (G, to_, rate)) fun r => ∀ v : Nat, v < 24 → Nk r.come v = Nk s.come v + ind to_ v * rate := by
  intro G to_ rate hf ht O Y
  have j2 : ∀ (lv : Arr Int 24), Ok (Jk.J2 s (G, to_, rate) lv) fun r => ∀ v : Nat, v < 24 → Nk r.come v = Nk s.come v + ind to_ v * rate := by
   intro lv
   unfold Jk.J2
   refine As (fun M => ?_) fun M => .pure fun v X => ?_
   ·dsimp only at M
    obtain ⟨t, rfl⟩ := E2 M
    have hl := s.come.h
    refine .bind' (.ix t rfl (by omega) ?_)
    have hx : s.come.l[t]? = some s.come.l[t] := gq (by omega)
    have hvx := Kf hx
    have hcx := h.come t (by omega)
    dsimp only
    rw [Bc (by omega)]
    refine .pure fun v X => ?_
    dsimp only
    rw [Qd X]
    by_cases Z : t = v
    ·subst Z; rw [if_pos rfl, Ex]; omega
    ·rw [if_neg Z, Eh (a := (t : Int)) (by omega)]; omega
   ·dsimp only at M ⊢
    rw [Eh (a := to_) (by omega)]; omega
  unfold Jk.J1
  refine As (fun M => ?_) fun M => j2 _
  dsimp only at M
  obtain ⟨t, rfl⟩ := E2 M
  have hl := s.leave.h
  exact .bind' (.ix t rfl (by omega) (j2 _))
 unfold Jk tQ
 refine As (fun M => ?_) fun M => ?_
 ·rw [Bc (by omega)]
  refine (W to_ G (0 - rate) ht hf ⟨O.2, O.1⟩ (by omega)).mono fun r Y v X => ?_
  rw [Y v X, if_pos M, show 0 - rate = -rate by omega]
 ·refine (W _ _ _ hf ht O (by omega)).mono fun r Y v X => ?_
  rw [Y v X, if_neg M]
theorem dH {a b r v : Int} : 0 ≤ tQ a b r v ∧ (tQ a b r v ≠ 0 ↔ (0 < r ∧ b = v ∨ r < 0 ∧ a = v)) := by
 unfold tQ ind
 split <;> split <;> (constructor; omega; constructor <;> intro h <;> omega)
theorem bI {n : Nw} (hn : NetF n) {p : Plan} (h : FlowOk n p) : Ok (Jh n p) fun r => ∀ v : Nat, v < 24 → 0 ≤ Nk r.come v ∧ (Nk r.come v ≠ 0 ↔ Ew n p.Rates p.Ports v) := by
 have h1 := hn.nodes; have h2 := hn.segs1; have h3 := hn.ports1; have h4 := h.rl; have h5 := h.pl
 unfold Jh
 refine .bind (.forS (fun k O => (∃ f, Strm (1000 * k) ⟨O.1, O.2⟩ f) ∧ ∀ v : Nat, v < 24 → (Nk O.1 v ≠ 0 ↔ CS n p.Rates k v)) ⟨⟨fun _ => 0, fun v G => ?_, fun v G => ?_, fun v G => ?_⟩, fun v G => ?_⟩ ?_ fun O h => h) ?_
 ·dsimp only; rw [Iy]; omega
 ·dsimp only; rw [Iy]; omega
 ·dsimp only; rw [Iy]; rfl
 ·dsimp only; rw [Iy]; simp [CS]
 ·rintro k s O X ⟨⟨f, W⟩, Y⟩
  have hkl := (gs X).1
  have Z : p.Rates[k]? = some p.Rates[k] := gq (by omega)
  have hrr := h.rng k _ s Z X
  have he := (hn.segs k s X).ends
  unfold Jh.B4
  refine .bind' (.ix k rfl (by omega) (.bind ((Ww W (by omega) (by omega) (by omega) (by omega) (by dsimp only; omega)).and (Zw W (by omega) (by omega) (by omega) (by omega) (by dsimp only; omega))) fun r M => .pure ⟨⟨_, fun v G => ?_, fun v G => ?_, fun v G => M.1.diff v G⟩, fun v G => ?_⟩))
  ·have := M.1.come v G; dsimp only; omega
  ·have := M.1.leave v G; dsimp only; omega
  ·have a := M.2 v G
   dsimp only at a ⊢
   have b := W.come v G
   dsimp only at b
   have c := dH (a := s.From) (b := s.To) (r := p.Rates[k]) (v := v)
   rw [dV X Z, ← Y v G, ← c.2, a]
   constructor <;> intro hh <;> omega
 ·rintro O ⟨⟨f, W⟩, Y⟩
  unfold Jh.J1
  refine .bind (.forS (fun k O => (∃ f, Strm (8000 + 1000 * k) ⟨O.1, O.2⟩ f) ∧ ∀ v : Nat, v < 24 → (Nk O.1 v ≠ 0 ↔ CS n p.Rates n.Segments.length v ∨ CP n p.Ports k v)) ⟨⟨f, fun v G => ?_, fun v G => ?_, fun v G => W.diff v G⟩, fun v G => ?_⟩ ?_ fun O h => h) ?_
  ·have := W.come v G; dsimp only at this ⊢; omega
  ·have := W.leave v G; dsimp only at this ⊢; omega
  ·dsimp only; rw [Y v G]; simp [CP]
  ·rintro k s O X ⟨⟨f, W⟩, Y⟩
   have hkl := (gs X).1
   have Z : p.Ports[k]? = some p.Ports[k] := gq (by omega)
   have hrr := h.prt k _ Z
   have he := (hn.ports k s X).node
   unfold Jh.B3
   refine .bind' (.ix k rfl (by omega) (.bind ((Ww W (by omega) (by omega) (by omega) (by omega) (by dsimp only; omega)).and (Zw W (by omega) (by omega) (by omega) (by omega) (by dsimp only; omega))) fun r M => .pure ⟨⟨_, fun v G => ?_, fun v G => ?_, fun v G => M.1.diff v G⟩, fun v G => ?_⟩))
   ·have := M.1.come v G; dsimp only; omega
   ·have := M.1.leave v G; dsimp only; omega
   ·have a := M.2 v G
    dsimp only at a ⊢
    have b := W.come v G
    dsimp only at b
    have c := dH (a := -1) (b := s.Node) (r := p.Ports[k]) (v := v)
    rw [dW X Z, ← or_assoc, ← Y v G, a]
    have c2 := c.2
    constructor <;> intro hh
    ·by_cases h0 : Nk O.1 v = 0
     ·rcases c2.1 (by omega) with h | h
      ·exact .inr ⟨h.2, h.1⟩
      ·omega
     ·exact .inl h0
    ·rcases hh with hh | ⟨hh1, hh2⟩
     ·omega
     ·have := c2.2 (.inl ⟨hh2, hh1⟩); omega
  ·rintro O ⟨⟨f, W⟩, Y⟩
   refine .pure fun v G => ⟨(W.come v G).1, ?_⟩
   rw [Vc hn]; exact Y v G
theorem lR {n : Nw} (hn : NetF n) {p : Plan} (h : FlowOk n p) {v : Int} (hv : 0 ≤ v ∧ v < (n.Nodes.length : Int)) : Ok (Xj n p v) fun r => r.2 = 0 ∧ (r.1 ≠ 0 ↔ Ew n p.Rates p.Ports v) := by
 have W := hn.nodes
 unfold Xj
 rw [Yq hn h]
 refine .bind' (.pure (Cj (fun h => absurd rfl h) fun _ => Ax (fun M => ?_) fun _ => .bind (bI hn h) fun r O => ?_))
 ·simp at M; omega
 obtain ⟨k, rfl⟩ := E2 hv.1
 have X := r.come.h
 have G : r.come.l[k]? = some r.come.l[k] := gq (by omega)
 refine .bind' (.eq (A0 G) (.pure ⟨rfl, ?_⟩))
 dsimp only
 rw [← Kf G]
 exact (O k (by omega)).2
def oP (n : Nw) (p : Plan) : Prop := ∀ (i : Nat) (st : Sn), n.Stations[i]? = some st → p.Pumps[i]? = some true → Ew n p.Rates p.Ports st.Node
theorem Ur {n : Nw} (hn : NetF n) {p : Plan} (h : FlowOk n p) {i : Nat} {st : Sn} (M : n.Stations[i]? = some st) : Ok (R9 n p (i : Int)) fun r => r = true ↔ Ew n p.Rates p.Ports st.Node := by
 unfold R9
 refine .bind' (.eq (A0 M) (.bind (lR hn h (hn.sts i st M).node) fun r G => .pure ?_))
 rw [G.1, ← G.2]
 simp
theorem fR {n : Nw} (hn : NetF n) {p : Plan} (h : FlowOk n p) {i : Nat} {st : Sn} (M : n.Stations[i]? = some st) : Ok (N0 n p (i : Int)) fun r => r = true ↔ Ew n p.Rates p.Ports st.Node :=
 .bind (Ur hn h M) fun r G => .pure G
def Nj (t : Int) (v : Valve) : Valve := ⟨v.Travel, if v.Want = true then min v.Travel (v.Open + t) else max 0 (v.Open - t), v.Want, v.Stuck⟩
structure VOk (v : Valve) : Prop where
 travel : 1 ≤ v.Travel ∧ v.Travel ≤ 60
 opn : 0 ≤ v.Open ∧ v.Open ≤ v.Travel
 free : v.Stuck = false
theorem VOk.valid {v : Valve} (h : VOk v) : Ey v = true := by
 have G := h.travel; have M := h.opn
 simp only [Ey, Bool.and_eq_true, decide_eq_true_eq]; omega
theorem VOk.validP {v : Valve} (h : VOk v) : Fq v = true := h.valid
theorem kK {v : Valve} (h : VOk v) {t : Int} (O : 0 ≤ t) : VOk (Nj t v) := by
 have G := h.travel; have M := h.opn
 refine ⟨G, ?_, h.free⟩
 unfold Nj
 dsimp only
 split <;> omega
theorem Yu {v : Valve} (h : VOk v) : Nj 0 v = v := by
 have G := h.travel; have M := h.opn
 obtain ⟨a, b, c, d⟩ := v
 unfold Nj
 dsimp only at G M ⊢
 congr 1
 split <;> omega
theorem cY {v : Valve} (h : VOk v) {s t : Int} (O : 0 ≤ s) (W : 0 ≤ t) : Nj t (Nj s v) = Nj (s + t) v := by
 have G := h.travel; have M := h.opn
 obtain ⟨a, b, c, d⟩ := v
 unfold Nj
 dsimp only at G M ⊢
 congr 1
 cases c <;> simp <;> omega
theorem lN {v : Valve} (h : VOk v) {t : Int} (O : 0 ≤ t) : Nj (min t 60) v = Nj t v := by
 have G := h.travel; have M := h.opn
 obtain ⟨a, b, c, d⟩ := v
 unfold Nj
 dsimp only at G M ⊢
 congr 1
 cases c <;> simp <;> omega
theorem sA {v : Valve} (h : VOk v) : (G2 v).1 = Nj 1 v := by
 have M := h.travel; have O := h.opn
 unfold G2 G2.J1
 rw [h.valid, h.free]
 obtain ⟨a, b, c, d⟩ := v
 have := h.free
 dsimp only at this M O ⊢
 subst this
 simp only [Bool.not_true, Bool.false_eq_true, if_false]
 unfold Nj
 dsimp only
 cases c
 ·simp only [Bool.false_and, Bool.false_eq_true, if_false, Bool.not_false, Bool.true_and]
  split
  ·rename_i G
   have : 0 < b := by simpa using G
   rw [Bc (by omega)]; show (⟨_, _, _, _⟩ : Valve) = _; congr 1; omega
  ·rename_i G
   have : ¬ 0 < b := by simpa using G
   show (⟨_, _, _, _⟩ : Valve) = _; congr 1; omega
 ·simp only [Bool.true_and, Bool.not_true, Bool.false_and, Bool.false_eq_true, if_false, if_true]
  split
  ·rename_i G
   have : b < a := by simpa using G
   rw [Bc (by omega)]; show (⟨_, _, _, _⟩ : Valve) = _; congr 1; omega
  ·rename_i G
   have : ¬ b < a := by simpa using G
   show (⟨_, _, _, _⟩ : Valve) = _; congr 1; omega
theorem sG {v : Valve} (h : VOk v) {t : Int} (ht : 0 ≤ t ∧ t ≤ 400) : Jq v t = some (Nj t v, 0) := by
 refine Hj ?_
 unfold Jq
 rw [h.valid]
 refine Ea (fun h => by cases h) fun _ => Ax (fun X => ?_) fun _ => ?_
 ·simp at X; omega
 refine .bind (Q := fun d : Int × Int × Bool × Bool => d = ((Nj t v).Travel, (Nj t v).Open, (Nj t v).Want, (Nj t v).Stuck)) ?_ ?_
 ·refine .loop (S := Int × Int × Bool × Bool × Int) (fun G => 0 ≤ G.2.2.2.2 ∧ G.2.2.2.2 ≤ t ∧ G = ((Nj G.2.2.2.2 v).Travel, (Nj G.2.2.2.2 v).Open, (Nj G.2.2.2.2 v).Want, (Nj G.2.2.2.2 v).Stuck, G.2.2.2.2)) (fun G => t.toNat - G.2.2.2.2.toNat) ⟨by simp, by dsimp only; omega, ?_⟩ (by dsimp only; omega) ?_
  ·dsimp only; rw [Yu h]
  ·rintro ⟨a, b, c, d, i⟩ ⟨O, W, M⟩
   dsimp only at O W M
   have hv : (⟨a, b, c, d⟩ : Valve) = Nj i v := by
    simp only [Prod.mk.injEq] at M
    obtain ⟨rfl, rfl, rfl, rfl, _⟩ := M; rfl
   have hs : (G2 ⟨a, b, c, d⟩).1 = Nj (i + 1) v := by rw [hv, sA (kK h O), cY h O (by omega)]
   unfold Jq.B2
   dsimp only
   refine As (fun Z => .pure ?_) fun Y => .pure ?_
   ·rw [hs, Bc (by omega)]
    exact ⟨⟨by dsimp only; omega, by dsimp only; omega, rfl⟩, by dsimp only; omega⟩
   ·have : i = t := by omega
    subst this
    simp only [Prod.mk.injEq] at M
    obtain ⟨rfl, rfl, rfl, rfl, _⟩ := M
    exact rfl
 ·rintro _ rfl
  exact .pure rfl
theorem uB {v : Valve} (h : VOk v) {t : Int} (Y : 0 ≤ t ∧ t ≤ 400) : Cs v t = (Nj t v, 0) := by
 have W := h.travel; have X := h.opn; have O := h.free
 unfold Cs
 rw [h.validP, if_neg (by simp), if_neg (by simp; omega)]
 congr 1
 unfold Oq Oq.J1 Ez
 obtain ⟨a, b, c, d⟩ := v
 dsimp only at W X O ⊢
 subst O
 have M : ∀ o : Int, (if ((a == a) && ((o == b) && ((c == c) && ((false == false) && true)))) = true then (⟨a, b, c, false⟩ : Valve) else ⟨a, o, c, false⟩) = ⟨a, o, c, false⟩ := by
  intro o
  split
  ·rename_i G
   have : o = b := by simpa using G
   rw [this]
  ·rfl
 simp only [M]
 unfold Nj
 dsimp only
 cases c
 ·simp only [Bool.false_eq_true, if_false]
  rw [if_neg (by simp; omega), Bc (by omega)]
 ·simp only [Bool.false_eq_true, if_false, if_true]
  split
  ·rw [Bc (by omega)]
  ·rename_i G
   have : ¬ b < a := by simpa using G
   rw [Bc (by omega)]; congr 1; omega
def VsOk (n : Nw) (vs : List Valve) : Prop := vs.length = n.Segments.length + n.Ports.length ∧ ∀ v, v ∈ vs → VOk v
theorem VsOk.at {n : Nw} {vs : List Valve} (h : VsOk n vs) {k : Nat} {v : Valve} (G : vs[k]? = some v) : VOk v := h.2 v (mg G)
theorem VsOk.set {n : Nw} {vs : List Valve} (h : VsOk n vs) {k : Nat} {v : Valve} (hv : VOk v) : VsOk n (vs.set k v) := by
 refine ⟨by rw [List.length_set]; exact h.1, fun u M => ?_⟩
 rcases List.mem_or_eq_of_mem_set M with G | rfl
 ·exact h.2 u G
 ·exact hv
def Dd (p : Plan) : List Bool := p.Rates.map (fun r => r != 0) ++ p.Ports.map fun r => r != 0
theorem Xv {p : Plan} (h1 : p.Rates.length ≤ 1000) (h2 : p.Ports.length ≤ 1000) : Ji p = some ⟨p.Rates.map (fun r => r != 0), p.Ports.map fun r => r != 0⟩ := by
 refine Hj ?_
 unfold Ji
 refine .bind (Q := fun d => d = p.Rates.map fun r => r != 0) ?_ ?_
 ·refine .loop (S := List Bool × Int) (fun O => ∃ k : Nat, O = ((p.Rates.take k).map (fun r => r != 0), (k : Int)) ∧ k ≤ p.Rates.length) (fun O => p.Rates.length - O.2.toNat) ⟨0, rfl, by omega⟩ (by dsimp only; omega) ?_
  rintro _ ⟨k, rfl, X⟩
  unfold Ji.B4
  refine As (fun M => ?_) fun G => .pure ?_
  ·dsimp only at M
   obtain ⟨x, W⟩ : ∃ ζ, p.Rates[k]? = some ζ := ⟨_, gq (by omega)⟩
   refine .bind' (.eq (A0 W) (.bind' (.app (by simp; omega) (.pure ⟨⟨k + 1, ?_, by omega⟩, ?_⟩))))
   ·rw [Bc (by dsimp only; omega), List.take_add_one, W, List.map_append]; rfl
   ·dsimp only; rw [Bc (by omega)]; omega
  ·dsimp only at G
   show (p.Rates.take k).map _ = _
   rw [List.take_of_length_le (by omega)]
 ·rintro _ rfl
  unfold Ji.J1
  refine .bind (Q := fun d => d = p.Ports.map fun r => r != 0) ?_ ?_
  ·refine .loop (S := List Bool × Int) (fun O => ∃ k : Nat, O = ((p.Ports.take k).map (fun r => r != 0), (k : Int)) ∧ k ≤ p.Ports.length) (fun O => p.Ports.length - O.2.toNat) ⟨0, rfl, by omega⟩ (by dsimp only; omega) ?_
   rintro _ ⟨k, rfl, X⟩
   unfold Ji.B3
   refine As (fun M => ?_) fun G => .pure ?_
   ·dsimp only at M
    obtain ⟨x, W⟩ : ∃ ζ, p.Ports[k]? = some ζ := ⟨_, gq (by omega)⟩
    refine .bind' (.eq (A0 W) (.bind' (.app (by simp; omega) (.pure ⟨⟨k + 1, ?_, by omega⟩, ?_⟩))))
    ·rw [Bc (by dsimp only; omega), List.take_add_one, W, List.map_append]; rfl
    ·dsimp only; rw [Bc (by omega)]; omega
   ·dsimp only at G
    show (p.Ports.take k).map _ = _
    rw [List.take_of_length_le (by omega)]
  ·rintro _ rfl
   exact .pure rfl
theorem cS {a b : List Bool} (h1 : a.length ≤ 1000) (h2 : b.length ≤ 1000) : Lx ⟨a, b⟩ = some (a ++ b) := by
 unfold Lx
 dsimp only
 rw [Ft (by simp; omega)]
 show Option.bind (Cp ([] ++ a) b) _ = _
 rw [Ft (by simp; omega)]; rfl
theorem Y8 {a b : List Bool} (h1 : a.length ≤ 1000) (h2 : b.length ≤ 1000) : W9 ⟨a, b⟩ = some (a ++ b) := cS h1 h2
theorem lB {l : Li} (h : l.length ≤ 1000) : Nu l = some (l.map fun r => r != 0) := by
 refine Hj ?_
 unfold Nu
 refine .bind (.forS (fun k M => M = (l.take k).map fun r => r != 0) rfl ?_ fun M h => h) ?_
 ·rintro k x _ G rfl
  have := (gs G).1
  unfold Nu.B2
  refine .bind' (.app (by simp; omega) (.pure ?_))
  rw [List.take_add_one, G, List.map_append]; rfl
 ·rintro _ rfl
  exact .pure (by rw [List.take_length])
theorem qU {n : Nw} (hn : NetF n) {p : Plan} (h : FlowOk n p) : Rt n p = some (⟨p.Rates.map (fun r => r != 0), p.Ports.map fun r => r != 0⟩, 0) := by
 have G := hn.segs1; have M := hn.ports1; have O := h.rl; have W := h.pl
 unfold Rt
 rw [hn.check, Yq hn h, lB (by omega), lB (by omega)]
 rfl
def aZ (vs : List Valve) (nd : List Bool) : Prop := ∀ k : Nat, nd[k]? = some true → ∃ v, vs[k]? = some v ∧ v.Open = v.Travel ∧ v.Want = true
theorem If {n : Nw} {p : Plan} (h1 : p.Rates.length = n.Segments.length) (h2 : p.Ports.length = n.Ports.length) : (Dd p).length = n.Segments.length + n.Ports.length := by simp [Dd, h1, h2]
def K1 (i : Nat) : Step := ⟨1, (i : Int), 0, ⟨0, 0, [], 0⟩⟩
def Hy (i : Nat) : Step := ⟨2, (i : Int), 0, ⟨0, 0, [], 0⟩⟩
def Gz (i : Nat) : Step := ⟨3, (i : Int), 0, ⟨0, 0, [], 0⟩⟩
def Hl (i : Nat) : Step := ⟨4, (i : Int), 0, ⟨0, 0, [], 0⟩⟩
def cJ (u : Path) (v : Int) : Step := ⟨5, 0, v, ⟨u.In, u.Out, u.Hops, 0⟩⟩
def T5 (t : Int) : Step := ⟨6, 0, t, ⟨0, 0, [], 0⟩⟩
theorem bR {p : Plan} (h1 : p.Rates.length ≤ 1000) (h2 : p.Ports.length ≤ 1000) (G : p.Pumps.length ≤ 1000) : Ow p = some p := by
 unfold Ow
 rw [Ft (by simp; omega), Ft (by simp; omega), Ft (by simp; omega)]; rfl
theorem aY {x : Path} (h : x.Hops.length ≤ 1000) : Lr x = some x := by
 unfold Lr; rw [Ft (by simp; omega)]; rfl
def Db (b : Bool) (v : Valve) : Valve := ⟨v.Travel, v.Open, b, v.Stuck⟩
theorem oY {n : Nw} {up : Bool} {p : Plan} (hr : Res n up p.Rates p.Ports) {x : Path} (hx : PathOk n p x) : Ns n x = some true := by
 refine Hj ?_
 obtain ⟨i, o, p0, po, y0, y1, nd, e1, e2, e3, e4, e5, e6, e7, e8, w, e9, X, e11, e12, e13⟩ := hx
 have hil := (gs e3).1
 have hol := (gs e4).1
 have hne : i ≠ o := by rintro rfl; rw [e5] at e7; simp at e7; omega
 unfold Ns
 refine Ax (fun hb => ?_) fun _ => ?_
 ·simp [e1, e2] at hb; omega
 rw [e1]
 refine .bind' (.eq (A0 e3) (.bind (Q := fun d : Bool ⊕ Int => d = .inr (nd x.Hops.length)) ?_ ?_))
 ·refine .loop (S := Int × Li × Int) (fun G => ∃ j : Nat, G = (nd j, (List.range (j + 1)).map nd, (j : Int)) ∧ j ≤ x.Hops.length) (fun G => x.Hops.length - G.2.2.toNat) ⟨0, by simp [e9], by omega⟩ (by dsimp only; omega) ?_
  rintro _ ⟨j, rfl, hjl⟩
  unfold Ns.B2
  refine As (fun M => ?_) fun Y => .pure ?_
  ·dsimp only at M
   obtain ⟨h, Z⟩ : ∃ ζ, x.Hops[j]? = some ζ := ⟨_, gq (by omega)⟩
   obtain ⟨k, s, r, q1, q2, q3, q4⟩ := w.hop j h Z
   have hkl := (gs q2).1
   refine .bind' (.eq (A0 Z) ?_)
   have j4 : Ok (Ns.J4 n x (nd j, (List.range (j + 1)).map nd, (j : Int)) false) (Sum.elim (fun G : Int × Li × Int => (∃ j : Nat, G = (nd j, (List.range (j + 1)).map nd, (j : Int)) ∧ j ≤ x.Hops.length) ∧ x.Hops.length - G.2.2.toNat < x.Hops.length - ((j : Nat) : Int).toNat) fun d => d = .inr (nd x.Hops.length)) := by
    unfold Ns.J4
    refine Ax (fun h => by cases h) fun _ => .bind' (.eq (A0 Z) (.bind (Q := fun r : Int × Int => r = (nd j, nd (j + 1))) ?_ ?_))
    ·unfold Rk
     rw [q1]
     refine .bind' (.eq (A0 q2) ?_)
     rcases q4 with ⟨b, _, O, W⟩ | ⟨b, _, O, W⟩
     ·rw [b]; exact Ax (fun h => by cases h) fun _ => .pure (by dsimp only; rw [O, W])
     ·rw [b]; exact Ax (fun _ => .pure (by dsimp only; rw [O, W])) fun h => by cases h
    rintro _ rfl
    refine Cj (fun h => absurd rfl h) fun _ => .bind (Q := fun d : Bool ⊕ Unit => d = .inr ()) ?_ ?_
    ·refine .loop (fun G : Int => 0 ≤ G ∧ G ≤ (((List.range (j + 1)).map nd).length : Int)) (fun G => ((List.range (j + 1)).map nd).length - G.toNat) ⟨by omega, by omega⟩ (by simp; omega) ?_
     rintro G ⟨h0, h1⟩
     obtain ⟨m, rfl⟩ := E2 h0
     unfold Ns.B6
     refine As (fun M => ?_) fun _ => .pure rfl
     dsimp only at M
     simp only [List.length_map, List.length_range] at M h1
     have hm : ((List.range (j + 1)).map nd)[m]? = some (nd m) := by rw [List.getElem?_map, List.getElem?_range (by omega)]; rfl
     refine .bind' (.eq (A0 hm) (Dl (fun he => ?_) fun _ => .pure ?_))
     ·exact absurd he (w.mono hr (j + 1) m (by omega) (by omega)).ne
     ·rw [Bc (by omega)]
      simp only [List.length_map, List.length_range]
      exact ⟨⟨by omega, by omega⟩, by omega⟩
    ·rintro _ rfl
     simp only [Sum.elim_inr]
     unfold Ns.J5
     refine .bind' (.app (by simp; omega) ?_)
     unfold Ns.J3
     refine .pure ⟨⟨j + 1, ?_, by omega⟩, ?_⟩
     ·dsimp only
      rw [Bc (by omega), List.range_succ (n := j + 1), List.map_append]; rfl
     ·dsimp only; rw [Bc (by omega)]; omega
   refine As (fun h => by dsimp only at h; omega) fun _ => ?_
   dsimp only
   rw [show decide (h.Segment ≥ (n.Segments.length : Int)) = false from decide_eq_false (by omega)]
   exact j4
  ·dsimp only at Y
   have : j = x.Hops.length := by omega
   subst this; rfl
 ·rintro _ rfl
  simp only [Sum.elim_inr]
  unfold Ns.J1
  rw [e2]
  exact .bind' (.eq (A0 e4) (.pure (by dsimp only; rw [X]; simp)))
theorem PathOk.hop {n : Nw} {up : Bool} {p : Plan} (hr : Res n up p.Rates p.Ports) {u : Path} (hu : PathOk n p u) {j : Nat} {h : Hop} (M : u.Hops[j]? = some h) :
  ∃ (k : Nat) (s : Sg) (r : Int), h.Segment = (k : Int) ∧ n.Segments[k]? = some s ∧ p.Rates[k]? = some r ∧ (h.Back = false ∧ 0 < r ∨ h.Back = true ∧ r < 0) ∧ (∀ v, fs k u v = Im v h) ∧ ∀ v, C9 v k (u.Hops.take j) = 0 := by
 obtain ⟨i, o, p0, po, y0, y1, nd, e1, e2, e3, e4, e5, e6, e7, e8, w, e9, ac, ad, ae, af⟩ := hu
 obtain ⟨k, s, r, Z, q2, q3, q4⟩ := w.hop j h M
 have G : ∀ (Y : Nat) (y : Hop), Y ≠ j → u.Hops[Y]? = some y → y.Segment ≠ (k : Int) := fun Y y O X he => O (w.once hr X M (he.trans Z.symm))
 refine ⟨k, s, r, Z, q2, q3, ?_, fun v => Js M Z G, fun v => Ig fun y X => ?_⟩
 ·rcases q4 with ⟨b, q, _⟩ | ⟨b, q, _⟩
  ·exact .inl ⟨b, q⟩
  ·exact .inr ⟨b, q⟩
 ·obtain ⟨m, hm⟩ := List.getElem?_of_mem X
  have W := (gs hm).1
  rw [List.length_take] at W
  rw [List.getElem?_take] at hm
  split at hm
  ·exact G m y (by omega) hm
  ·cases hm
theorem PathOk.ends {n : Nw} {p : Plan} {u : Path} (hu : PathOk n p u) : ∃ (i o : Nat) (G M : Int), u.In = (i : Int) ∧ u.Out = (o : Int) ∧ i ≠ o ∧ i < n.Ports.length ∧ o < n.Ports.length ∧ p.Ports[i]? = some G ∧ 0 < G ∧ p.Ports[o]? = some M ∧ M < 0 := by
 obtain ⟨i, o, p0, po, G, M, nd, X, e2, e3, e4, W, e6, O, e8, w, e9, Y, Z, ac, ad⟩ := hu
 exact ⟨i, o, G, M, X, e2, by rintro rfl; rw [W] at O; simp at O; omega, (gs e3).1, (gs e4).1, W, e6, O, e8⟩
def E6 (t : Int) : List Step := if 0 < t then [T5 t] else []
theorem Ic (t : Int) : (E6 t).length ≤ 1 := by unfold E6; split <;> simp
theorem qX {t : Int} (X : t ≤ 100) (O : -1000 ≤ t) {l : List Step} (hl : l.length ≤ 1000000) : Ry t l = some (l ++ E6 t) := by
 refine Hj ?_
 unfold Ry
 refine .bind (Q := fun r => r = l ++ E6 t) ?_ (by rintro _ rfl; exact .pure rfl)
 refine .loop (S := List Step × Int) (fun G => G = (l, t) ∨ G.1 = l ++ E6 t ∧ -1000 ≤ G.2 ∧ G.2 ≤ 0) (fun G => if G.2 ≤ 0 then 0 else 1) (.inl rfl) (by split <;> omega) ?_
 rintro G (rfl | ⟨M, W⟩)
 ·unfold Ry.B1
  refine As (fun hp => ?_) fun hp => .pure ?_
  ·dsimp only at hp
   refine .bind' (.app (by simp; omega) (.pure ⟨.inr ⟨?_, ?_⟩, ?_⟩))
   ·unfold E6; rw [if_pos hp]; dsimp only; rw [show min t 100 = t by omega]; rfl
   ·dsimp only; rw [Bc (by omega)]; omega
   ·dsimp only; rw [Bc (by omega), if_pos (by omega), if_neg (by omega)]; omega
  ·dsimp only at hp
   show l = _
   unfold E6; rw [if_neg hp]; simp
 ·unfold Ry.B1
  exact As (fun hp => by omega) fun _ => .pure M
def El (u : Path) (sign ramp rest : Int) (b : Int) : List Step :=
 if h : 0 < b ∧ 0 < ramp then cJ u (sign * min b ramp) :: (E6 rest ++ El u sign ramp rest (b - ramp)) else []
termination_by b.toNat
decreasing_by omega
theorem Ks {u : Path} {sign ramp rest b : Int} (h : 0 < b) (G : 0 < ramp) : El u sign ramp rest b = cJ u (sign * min b ramp) :: (E6 rest ++ El u sign ramp rest (b - ramp)) := by
 rw [El, dif_pos ⟨h, G⟩]
theorem Fj {u : Path} {sign ramp rest b : Int} (h : b ≤ 0) : El u sign ramp rest b = [] := by
 rw [El, dif_neg (by omega)]
theorem mQ {l : List Hop} (h : l.length ≤ 1000) : Lw l = some l := by
 unfold Lw; rw [Ft (by simp; omega)]; rfl
theorem uH {u : Path} (hu : u.Hops.length ≤ 5) {b sign ramp rest : Int} (O : sign = 1 ∨ sign = -1) (hr : 1 ≤ ramp ∧ ramp ≤ 1000) (ht : 0 ≤ rest ∧ rest ≤ 100) (hb : -1000 ≤ b ∧ b ≤ 1000) {out : List Step} (Z : out.length ≤ 500000) :
  Om u b sign ramp out rest = some (out ++ El u sign ramp rest b) := by
 refine Hj ?_
 unfold Om
 rw [mQ (by omega)]
 refine .bind' (.pure (.bind (Q := fun r => r = out ++ El u sign ramp rest b) ?_ (by rintro _ rfl; exact .pure rfl)))
 refine .loop (S := List Step × Int) (fun G => G.1 ++ El u sign ramp rest G.2 = out ++ El u sign ramp rest b ∧ -1000 ≤ G.2 ∧ G.2 ≤ 1000 ∧ G.1.length + 2 * G.2.toNat ≤ out.length + 2 * b.toNat) (fun G => G.2.toNat) ⟨rfl, hb.1, hb.2, Nat.le_refl _⟩ (by dsimp only; omega) ?_
 rintro ⟨l, c⟩ ⟨M, W, X, Y⟩
 dsimp only at M W X Y
 unfold Om.B1
 refine As (fun hp => ?_) fun hp => .pure ?_
 ·dsimp only at hp
  refine .bind' (.app (by simp; omega) ?_)
  rw [qX (by omega) (by omega) (by simp; omega)]
  dsimp only
  refine .bind' (.pure (.pure ⟨⟨?_, by dsimp only; rw [Bc (x := c - ramp) (by omega)]; omega, by dsimp only; rw [Bc (x := c - ramp) (by omega)]; omega, ?_⟩, by dsimp only; rw [Bc (x := c - ramp) (by omega)]; omega⟩))
  ·dsimp only
   rw [Bc (x := c - ramp) (by omega), ← M, Ks hp (by omega)]
   have : wr (sign * min c ramp) = sign * min c ramp := Bc (by rcases O with rfl | rfl <;> omega)
   rw [this, List.append_assoc, List.append_assoc]; rfl
  ·have := Ic rest
   dsimp only; rw [Bc (x := c - ramp) (by omega)]
   simp only [List.length_append, List.length_singleton]; omega
 ·dsimp only at hp
  show l = _
  rw [← M, Fj (by omega), List.append_nil]
theorem Ue {l other : List Path} (Z : Ja other) (hl : l.length ≤ 1000) : Ot l other = some (l.map (mr other)) := by
 refine Hj ?_
 unfold Ot
 refine .bind (.forS (fun k G => G = (l.take k).map (mr other)) rfl ?_ fun G h => h) ?_
 ·rintro k x _ W rfl
  have ac := (gs W).1
  have Y : ∀ z, z = mr other x → Ok (Ot.J3 ((l.take k).map (mr other)) z) fun G => G = (l.take (k + 1)).map (mr other) := by
   rintro z rfl
   unfold Ot.J3
   refine .bind' (.app (by simp; omega) (.pure ?_))
   rw [List.take_add_one, W, List.map_append]; rfl
  unfold Ot.B2
  refine .bind Uv ?_
  rintro m (⟨rfl, O⟩ | ⟨k', y, rfl, X, M⟩)
  ·refine As (fun h => by omega) fun _ => Y _ (Qh O).symm
  ·refine As (fun _ => .bind' (.eq (A0 X) ?_)) fun h => by omega
   exact Y _ (Yn Z X M).symm
 ·rintro _ rfl
  exact .pure (by rw [List.take_length])
def Hk (b : List Path) : List Path → List Path
 | [] => []
 | u :: a => if 0 < mr b u then rated u (mr b u) :: Hk b a else Hk b a
theorem Mo {F : Path → Int → Int} (G : ∀ u, F u 0 = 0) (M : ∀ u v r, Alike u v → F u r = F v r) {b : List Path} : ∀ {a : List Path}, (∀ u, u ∈ a → 0 ≤ mr b u) → Gq F (Hk b a) ((Hk b a).map (·.Rate)) = Gq F a (a.map (mr b))
 | [], _ => rfl
 | u :: a, h => by
  have O := Mo G M (a := a) fun v W => h v (by simp [W])
  have := h u (by simp)
  simp only [Hk, List.map_cons, Gq]
  split
  ·simp only [List.map_cons, Gq, O]
   congr 1
   exact M _ _ _ ⟨rfl, rfl, rfl⟩
  ·rw [O, show mr b u = 0 by omega, G]; omega
theorem I6 (b : List Path) : ∀ (a : List Path) (u : Path), Hk b (a ++ [u]) = Hk b a ++ if 0 < mr b u then [rated u (mr b u)] else []
 | [], u => by simp only [List.nil_append, Hk]
 | v :: a, u => by
  simp only [List.cons_append, Hk, I6 b a u]
  split <;> simp
theorem Kk (b : List Path) : ∀ a : List Path, (Hk b a).length ≤ a.length
 | [] => by simp [Hk]
 | v :: a => by have := Kk b a; simp only [Hk]; split <;> simp <;> omega
theorem Mm {b : List Path} : ∀ {a : List Path} {y : Path}, y ∈ Hk b a → ∃ u, u ∈ a ∧ 0 < mr b u ∧ y = rated u (mr b u)
 | [], y, h => by simp [Hk] at h
 | v :: a, y, h => by
  simp only [Hk] at h
  split at h
  ·rename_i O
   rcases List.mem_cons.1 h with rfl | h
   ·exact ⟨v, by simp, O, rfl⟩
   ·obtain ⟨u, G, M⟩ := Mm h; exact ⟨u, by simp [G], M⟩
  ·obtain ⟨u, G, M⟩ := Mm h; exact ⟨u, by simp [G], M⟩
theorem aC {n m : Nw} {p q : Plan} {a b : List Path} (ha : ∀ x, x ∈ a → PathOk n p x) (hb : ∀ x, x ∈ b → PathOk m q x) (hal : a.length ≤ 1000) (M : Ja b) : Rq a b = some (Hk b a) := by
 refine Hj ?_
 unfold Rq
 refine .bind (.forS (fun k Z => Z = Hk b (a.take k)) rfl ?_ fun Z h => h) ?_
 ·rintro k x _ X rfl
  have hkl := (gs X).1
  have hxs := (ha x (mg X)).small
  have O := Kk b (a.take k)
  rw [List.length_take] at O
  have e : Hk b (a.take (k + 1)) = Hk b (a.take k) ++ if 0 < mr b x then [rated x (mr b x)] else [] := by rw [List.take_add_one, X]; exact I6 _ _ _
  unfold Rq.B2
  refine .bind Uv ?_
  rintro m (⟨rfl, W⟩ | ⟨k', y, rfl, Y, G⟩)
  ·refine As (fun h => by omega) fun _ => ?_
   unfold Rq.J3
   exact .pure (by rw [e, Qh W]; simp)
  ·have hys := (hb y (mg Y)).small
   refine As (fun _ => .bind' (.eq (A0 Y) ?_)) fun h => by omega
   dsimp only
   rw [oT (by omega)]
   refine .bind' (.pure (.bind' (.app (by simp; omega) ?_)))
   unfold Rq.J3
   refine .pure ?_
   rw [e, Yn M Y G, if_pos (by omega)]; rfl
 ·rintro _ rfl
  exact .pure (by rw [List.take_length])
theorem pU {n m : Nw} (hn : NetF n) {up : Bool} {p q : Plan} {a b : List Path} (hd : Divided n up p a) (hb : ∀ x, x ∈ b → PathOk m q x) (hbp : Ja b) :
  Rf n a b = some (Ip n a (a.map (mr b)) (List.replicate n.Stations.length false)) := by
 have h1 := hn.segs1; have h2 := hn.ports1; have h3 := hn.sts1; have hcl := Kk b a; have hct := hd.count
 have hok : ∀ x, x ∈ Hk b a → PathOk n p x := fun x X => by
  obtain ⟨u, hu, W, rfl⟩ := Mm X
  have Y := hd.paths u hu
  have := Hz (l := b) (u := u) (fun y hy => (hb y hy).small.2.1) Y.small.2.1
  exact Y.rated (by have := Y.small; omega)
 have hmr : ∀ u, u ∈ a → 0 ≤ mr b u := fun u hu => (Hz (l := b) (u := u) (fun y hy => (hb y hy).small.2.1) (hd.paths u hu).small.2.1).1
 refine Hj ?_
 unfold Rf
 refine .bind' (.mk n.Segments.length rfl (by omega) (.bind' (.mk n.Ports.length rfl (by omega) (.bind' (.mk n.Stations.length rfl (by omega) ?_)))))
 unfold Rf.J1
 rw [aC hd.paths hb (by omega) hbp]
 refine .bind' (.pure (.bind (.forJ (fun j (st : Li × Li × List Bool) => st.1.length = n.Segments.length ∧ st.2.1.length = n.Ports.length ∧ st.2.2 = List.replicate n.Stations.length false ∧ (∀ (k : Nat) (r : Int), st.1[k]? = some r → r = Cr k ((Hk b a).take j)) ∧ ∀ (k : Nat) (r : Int), st.2.1[k]? = some r → r = Cq k ((Hk b a).take j))
  ⟨by simp, by simp, rfl, fun k r O => ?_, fun k r O => ?_⟩ ?_ fun st h => h) ?_))
 ·have := mg O; simp at this; simp [Cr]; omega
 ·have := mg O; simp at this; simp [Cq]; omega
 ·rintro j ⟨M, G, pu⟩ hj ⟨i1, i2, i3, Z, i5⟩
  dsimp only at i1 i2 i3 Z i5
  obtain ⟨x, X⟩ : ∃ ζ, (Hk b a)[j]? = some ζ := ⟨_, gq (by omega)⟩
  have ht : ∀ x, x ∈ (Hk b a).take j → PathOk n p x := fun x X => hok x (List.mem_of_mem_take X)
  have htl : ((Hk b a).take j).length ≤ 64 := by rw [List.length_take]; omega
  unfold Rf.B3
  refine .bind' (.eq (A0 X) (.bind (dI hd.res (hok x (mg X)) i1 i2 (fun k r O => by have := Z k r O; have := Ta k ht; omega) fun k r O => by have := i5 k r O; have := P6 k ht; omega) ?_))
  rintro q ⟨g1, g2, g3, g4, g5, g6⟩
  dsimp only at g1 g2 g3 g4 g5
  refine .pure ⟨by dsimp only; omega, by dsimp only; omega, by dsimp only; rw [g3, i3], fun k r O => ?_, fun k r O => ?_⟩
  ·dsimp only at O
   have hkl := (gs O).1
   have W : M[k]? = some (M[k]'(by omega)) := gq _
   have ha := g4 k _ W
   have hb := Z k _ W
   rw [O] at ha; simp at ha
   rw [Z8 X]; omega
  ·dsimp only at O
   have hkl := (gs O).1
   have W : G[k]? = some (G[k]'(by omega)) := gq _
   have ha := g5 k _ W
   have hb := i5 k _ W
   rw [O] at ha; simp at ha
   rw [X7 X]; omega
 ·rintro ⟨M, G, pu⟩ ⟨i1, i2, i3, Z, i5⟩
  rw [List.take_length] at Z i5
  dsimp only at i1 i2 i3 Z i5
  unfold Rf.J2
  refine .pure ?_
  unfold Ip
  subst i3
  congr 1
  ·refine List.ext_getElem? fun k => ?_
   by_cases O : k < n.Segments.length
   ·have W : M[k]? = some (M[k]'(by omega)) := gq _
    dsimp only
    rw [Hc O, W, Z k _ W, ← Qe, Mo (Mq k) (Zz k) hmr]
   ·rw [List.getElem?_eq_none (by dsimp only; omega), List.getElem?_eq_none (by rw [Et]; omega)]
  ·refine List.ext_getElem? fun k => ?_
   by_cases O : k < n.Ports.length
   ·have W : G[k]? = some (G[k]'(by omega)) := gq _
    dsimp only
    rw [He O, W, i5 k _ W, ← Mt, Mo (Mr k) (Z0 k) hmr]
   ·rw [List.getElem?_eq_none (by dsimp only; omega), List.getElem?_eq_none (by rw [Eu]; omega)]
def C3 (b : Bool) (is : List Nat) (m : List Bool) : List Bool := is.foldl (fun m i => m.set i b) m
theorem I0 (b : Bool) : ∀ (is : List Nat) (m : List Bool), (C3 b is m).length = m.length
 | [], m => rfl
 | i :: is, m => by show (C3 b is (m.set i b)).length = _; rw [I0 b is]; simp
theorem Tw (b : Bool) (is js : List Nat) (m : List Bool) : C3 b (is ++ js) m = C3 b js (C3 b is m) := by unfold C3; rw [List.foldl_append]
theorem Ui (b : Bool) : ∀ {is : List Nat} {m : List Bool} {i : Nat}, (C3 b is m)[i]? = if i ∈ is ∧ i < m.length then some b else m[i]?
 | [], m, i => by simp [C3]
 | j :: is, m, i => by
  show (C3 b is (m.set j b))[i]? = _
  rw [Ui b (is := is)]
  simp only [List.length_set, List.mem_cons]
  by_cases G : i < m.length
  ·by_cases M : i ∈ is
   ·rw [if_pos ⟨M, G⟩, if_pos ⟨.inr M, G⟩]
   ·rw [if_neg fun h => M h.1]
    by_cases O : i = j
    ·subst O; rw [List.getElem?_set_self G, if_pos ⟨.inl rfl, G⟩]
    ·rw [List.getElem?_set_ne (Ne.symm O), if_neg]
     rintro ⟨h | h, _⟩
     ·exact O h
     ·exact M h
  ·rw [if_neg fun h => G h.2, if_neg fun h => G h.2, List.getElem?_eq_none (by simp; omega), List.getElem?_eq_none (by omega)]
def tk (s : Step) : Int := if ((s.Kind == 6) && (decide (s.Value ≥ 1) && decide (s.Value ≤ 100))) = true then s.Value else 0
def K0 : List Step → Int
 | [] => 0
 | s :: l => tk s + K0 l
theorem Hb : ∀ l m : List Step, K0 (l ++ m) = K0 l + K0 m
 | [], m => by simp [K0]
 | s :: l, m => by simp only [List.cons_append, K0, Hb l m]; omega
theorem kM (s : Step) : 0 ≤ tk s ∧ tk s ≤ 100 := by
 unfold tk
 split
 ·rename_i h; simp at h; omega
 ·omega
theorem Ho : ∀ l : List Step, 0 ≤ K0 l ∧ K0 l ≤ 100 * (l.length : Int)
 | [] => by simp [K0]
 | s :: l => by have := kM s; have := Ho l; simp only [K0, List.length_cons]; omega
theorem lQ {l : List Step} (hl : l.length ≤ 1000000) : R1 l = some (K0 l) := by
 refine Hj ?_
 unfold R1
 refine .bind (.forS (fun k O => O = K0 (l.take k)) rfl ?_ fun O h => h) ?_
 ·rintro k s _ M rfl
  have := (gs M).1
  have W := Ho (l.take k)
  rw [List.length_take] at W
  have e : K0 (l.take (k + 1)) = K0 (l.take k) + tk s := by rw [List.take_add_one, M, Hb]; simp [K0]
  unfold R1.B2 R1.J3
  refine Ax (fun G => .pure ?_) fun G => .pure ?_
  ·have := kM s
   rw [e]
   unfold tk at *
   rw [if_pos G] at *
   rw [Bc (by omega)]
  ·rw [e]; unfold tk; rw [G]; simp
 ·rintro _ rfl
  exact .pure (by rw [List.take_length])
theorem Uw {u : Path} {sign ramp rest : Int} (M : 1 ≤ ramp) : ∀ (m : Nat) (b : Int), b.toNat ≤ m → (El u sign ramp rest b).length ≤ 2 * m
 | 0, b, h => by rw [Fj (by omega)]; simp
 | m + 1, b, h => by
  by_cases G : 0 < b
  ·rw [Ks G (by omega)]
   have := Uw (u := u) (sign := sign) (rest := rest) M m (b - ramp) (by omega)
   have := Ic rest
   simp only [List.length_cons, List.length_append]; omega
  ·rw [Fj (by omega)]; simp
def Cz (sign ramp rest : Int) (l other : List Path) : List Step := l.flatMap fun u => El u sign ramp rest (u.Rate - mr other u)
theorem Eg {n : Nw} {p : Plan} {sign ramp rest : Int} (M : 1 ≤ ramp) {other : List Path} (G : ∀ y, y ∈ other → 1 ≤ y.Rate) : ∀ {l : List Path}, (∀ x, x ∈ l → PathOk n p x) → (Cz sign ramp rest l other).length ≤ 2000 * l.length
 | [], _ => by simp [Cz]
 | u :: l, h => by
  have O := (h u (by simp)).small
  have hm := Hz (l := other) (u := u) G O.2.1
  have a := Uw (u := u) (sign := sign) (rest := rest) M 1000 (u.Rate - mr other u) (by omega)
  have b := Eg (sign := sign) (rest := rest) M G (l := l) fun x W => h x (by simp [W])
  unfold Cz at b ⊢
  rw [List.flatMap_cons, List.length_append, List.length_cons]; omega
theorem Uy {n m : Nw} {p q : Plan} {sign ramp rest : Int} (hs : sign = 1 ∨ sign = -1) (hr : 1 ≤ ramp ∧ ramp ≤ 1000) (ht : 0 ≤ rest ∧ rest ≤ 100) {l other : List Path} (hl : ∀ x, x ∈ l → PathOk n p x) (ho : ∀ x, x ∈ other → PathOk m q x) (hlen : l.length ≤ 14)
  {out : List Step} (hout : out.length ≤ 100000) {f : Nat → List Step → Option (List Step)}
  (hf : ∀ k st, f k st = Option.bind (ix (l.map (mr other)) (k : Int)) fun W => Option.bind (ix l (k : Int)) fun G => Option.bind (Om G.2 (wr (G.2.Rate - W.2)) sign ramp st rest) fun X => some X) :
  forJ f 0 (l.map (mr other)).length out = some (out ++ Cz sign ramp rest l other) := by
 refine Hj ?_
 rw [List.length_map]
 refine .forJ (fun k st => st = out ++ Cz sign ramp rest (l.take k) other) (by simp [Cz]) ?_ fun st h => by rw [h, List.take_length]
 rintro k _ hk rfl
 have M : l[k]? = some (l[k]'hk) := gq _
 generalize l[k]'hk = x at M
 have Z := (hl x (mg M)).small
 have hm := Hz (l := other) (u := x) (fun y O => (ho y O).small.2.1) Z.2.1
 have hg : (l.map (mr other))[k]? = some (mr other x) := by rw [List.getElem?_map, M]; rfl
 have Y := Eg (sign := sign) (rest := rest) hr.1 (fun y O => (ho y O).small.2.1) (l := l.take k) fun y O => hl y (List.mem_of_mem_take O)
 rw [List.length_take] at Y
 rw [hf]
 refine .bind' (.eq (A0 hg) (.bind' (.eq (A0 M) ?_)))
 dsimp only
 rw [Bc (by omega), uH (by omega) hs hr ht (by omega) (by simp; omega)]
 refine .bind' (.pure (.pure ?_))
 unfold Cz
 rw [List.take_add_one, M, List.flatMap_append, List.append_assoc]; simp
def vq (t : Int) (v : Valve) : Valve := if v.Stuck = true then v else Nj t v
structure VQ (v : Valve) : Prop where
 travel : 1 ≤ v.Travel ∧ v.Travel ≤ 60
 opn : 0 ≤ v.Open ∧ v.Open ≤ v.Travel
theorem Pa {v : Valve} : Ey v = true ↔ VQ v := by
 simp only [Ey, Bool.and_eq_true, decide_eq_true_eq]
 exact ⟨fun h => ⟨by omega, by omega⟩, fun ⟨a, b⟩ => by omega⟩
theorem VQ.valid {v : Valve} (h : VQ v) : Ey v = true := Pa.2 h
theorem VQ.validP {v : Valve} (h : VQ v) : Fq v = true := h.valid
theorem VQ.free {v : Valve} (h : VQ v) (G : ¬ v.Stuck = true) : VOk v := ⟨h.travel, h.opn, by simpa using G⟩
theorem qS {v : Valve} (h : VQ v) {t : Int} (M : 0 ≤ t) : VQ (vq t v) := by
 unfold vq
 split
 ·exact h
 ·rename_i G
  have := kK (h.free G) M
  exact ⟨this.travel, this.opn⟩
theorem oV {v : Valve} (h : VQ v) : vq 0 v = v := by
 unfold vq
 split
 ·rfl
 ·rename_i G; exact Yu (h.free G)
theorem rV {v : Valve} (h : VQ v) {s t : Int} (M : 0 ≤ s) (O : 0 ≤ t) : vq t (vq s v) = vq (s + t) v := by
 unfold vq
 by_cases G : v.Stuck = true
 ·rw [if_pos G, if_pos G, if_pos G]
 ·rw [if_neg G, if_neg G, if_neg (show ¬ (Nj s v).Stuck = true from G), cY (h.free G) M O]
theorem oW {v : Valve} (h : VQ v) {t : Int} (M : 0 ≤ t) : vq (min t 60) v = vq t v := by
 unfold vq
 split
 ·rfl
 ·rename_i G; exact lN (h.free G) M
theorem kJ {l : List Valve} (h : ∀ v, v ∈ l → VQ v) {s t : Int} (G : 0 ≤ s) (M : 0 ≤ t) : (l.map (vq s)).map (vq t) = l.map (vq (s + t)) := by
 rw [List.map_map]
 exact List.map_congr_left fun v O => rV (h v O) G M
theorem Jx {l : List Valve} (h : ∀ v, v ∈ l → VQ v) : l.map (vq 0) = l := by
 rw [List.map_congr_left (fun v G => oV (h v G))]; simp
theorem Np {l : List Valve} (h : ∀ v, v ∈ l → VQ v) {t : Int} (G : 0 ≤ t) : ∀ v, v ∈ l.map (vq t) → VQ v := fun v hv => by
 obtain ⟨u, M, rfl⟩ := List.mem_map.1 hv
 exact qS (h u M) G
theorem bK {v : Valve} (h : VQ v) (G : v.Stuck = true) : (G2 v).1 = v := by
 unfold G2
 rw [h.valid, G]; rfl
theorem pG {v : Valve} (h : VQ v) {t : Int} (ht : 0 ≤ t ∧ t ≤ 400) : Jq v t = some (vq t v, 0) := by
 by_cases M : v.Stuck = true
 ·have : Ok (Jq v t) fun r => r = (v, 0) := by
   unfold Jq
   rw [h.valid]
   refine Ea (fun h => by cases h) fun _ => Ax (fun Y => ?_) fun _ => ?_
   ·simp at Y; omega
   refine .bind (Q := fun d : Int × Int × Bool × Bool => d = (v.Travel, v.Open, v.Want, v.Stuck)) ?_ ?_
   ·refine .loop (S := Int × Int × Bool × Bool × Int) (fun G => 0 ≤ G.2.2.2.2 ∧ G.2.2.2.2 ≤ t ∧ G = (v.Travel, v.Open, v.Want, v.Stuck, G.2.2.2.2)) (fun G => t.toNat - G.2.2.2.2.toNat) ⟨by simp, by dsimp only; omega, rfl⟩ (by dsimp only; omega) ?_
    rintro ⟨a, b, c, d, i⟩ ⟨X, O, W⟩
    dsimp only at X O W
    simp only [Prod.mk.injEq] at W
    obtain ⟨rfl, rfl, rfl, rfl, _⟩ := W
    unfold Jq.B2
    dsimp only
    rw [bK (v := ⟨v.Travel, v.Open, v.Want, v.Stuck⟩) h M]
    refine As (fun ac => .pure ?_) fun Z => .pure rfl
    rw [Bc (by omega)]
    exact ⟨⟨by dsimp only; omega, by dsimp only; omega, rfl⟩, by dsimp only; omega⟩
   ·rintro _ rfl
    exact .pure rfl
  obtain ⟨r, O, rfl⟩ := this
  rw [O]; unfold vq; rw [if_pos M]
 ·rw [sG (h.free M) ht]; unfold vq; rw [if_neg M]
theorem sF {v : Valve} (h : VQ v) {t : Int} (M : 0 ≤ t ∧ t ≤ 400) : Cs v t = (vq t v, 0) := by
 by_cases G : v.Stuck = true
 ·unfold Cs
  rw [h.validP, if_neg (by simp), if_neg (by simp; omega)]
  congr 1
  unfold Oq Oq.J1 vq
  rw [if_pos G, if_pos G]
  simp
 ·rw [uB (h.free G) M]; unfold vq; rw [if_neg G]
theorem dE {v : Valve} (h : VQ v) : Iq v = (v.Open == v.Travel) := by unfold Iq; rw [h.valid]; rfl
theorem kS {v : Valve} (h : VQ v) : Iw v = (v.Open == v.Travel) := by unfold Iw; rw [h.validP]; rfl
theorem fB {v : Valve} (h : VQ v) : N1 v = (v.Open == 0) := by unfold N1; rw [h.valid]; rfl
theorem mP {v : Valve} (h : VQ v) : Oy v = (v.Open == 0) := by unfold Oy; rw [h.validP]; rfl
def aN (w : Bool) (v : Valve) : Int := if w = true then v.Travel - v.Open else v.Open
def lq (w : Bool) (v : Valve) : Int := if v.Stuck = true ∧ 0 < aN w v then -1 else aN w v
theorem aT {w : Bool} {v : Valve} (h : VQ v) : -1 ≤ lq w v ∧ lq w v ≤ 60 := by
 have G := h.travel; have M := h.opn
 unfold lq aN
 split <;> split <;> omega
theorem sQ {v : Valve} (h : VQ v) : Ir v = lq v.Want v := by
 have M := h.travel; have O := h.opn
 have e : max (wr (Ez v - v.Open)) (wr (v.Open - Ez v)) = aN v.Want v := by
  unfold Ez aN
  split <;> (rw [Bc (by omega), Bc (by omega)]; omega)
 unfold Ir
 rw [h.validP, if_neg (by simp), e]
 unfold lq
 by_cases G : v.Stuck = true
 ·by_cases hd : 0 < aN v.Want v
  ·rw [if_pos (by simp [G, hd]), if_pos ⟨G, hd⟩]
  ·rw [if_neg (by simp [G, hd]), if_neg (fun h => hd h.2)]
 ·rw [if_neg (by simp [G]), if_neg (fun h => G h.1)]
theorem dG {v : Valve} (h : VQ v) : Oc v = lq v.Want v := by
 have M := h.travel; have O := h.opn
 unfold Oc Oc.J1
 rw [h.valid, if_neg (by simp)]
 unfold lq aN
 split
 ·rw [Bc (by omega)]
  by_cases G : v.Stuck = true
  ·by_cases hd : 0 < v.Travel - v.Open
   ·rw [if_pos (by simp [G]; omega), if_pos ⟨G, hd⟩]
   ·rw [if_neg (by simp [G]; omega), if_neg (fun h => hd h.2)]
  ·rw [if_neg (by simp [G]), if_neg (fun h => G h.1)]
 ·by_cases G : v.Stuck = true
  ·by_cases hd : 0 < v.Open
   ·rw [if_pos (by simp [G]; omega), if_pos ⟨G, hd⟩]
   ·rw [if_neg (by simp [G]; omega), if_neg (fun h => hd h.2)]
  ·rw [if_neg (by simp [G]), if_neg (fun h => G h.1)]
def pick (k : Nat) (P : Nat → Bool) : List Nat := (List.range k).filter P
theorem Dy (k : Nat) (P : Nat → Bool) : pick (k + 1) P = pick k P ++ if P k = true then [k] else [] := by
 unfold pick
 rw [List.range_succ, List.filter_append]
 congr 1
 by_cases h : P k = true <;> simp [h]
theorem Fu {k i : Nat} {P : Nat → Bool} : i ∈ pick k P ↔ i < k ∧ P i = true := by simp [pick]
theorem Dx (k : Nat) (P : Nat → Bool) : (pick k P).length ≤ k := by
 have := List.length_filter_le P (List.range k)
 simpa [pick] using this
structure IsMax (S : Nat → Prop) (f : Nat → Int) (m : Int) : Prop where
 pos : 0 ≤ m
 le : ∀ i, S i → f i ≤ m
 at_ : m = 0 ∨ ∃ i, S i ∧ m = f i
theorem IsMax.uniq {S : Nat → Prop} {f : Nat → Int} {m m' : Int} (h : IsMax S f m) (G : IsMax S f m') : m = m' := by
 have a := h.pos; have b := G.pos
 rcases h.at_ with e | ⟨i, M, e⟩ <;> rcases G.at_ with W | ⟨j, O, W⟩
 ·omega
 ·have := h.le j O; omega
 ·have := G.le i M; omega
 ·have := h.le j O; have := G.le i M; omega
theorem IsMax.snoc {S S' : Nat → Prop} {f : Nat → Int} {m : Int} (h : IsMax S f m) {k : Nat} (M : ∀ i, S' i ↔ S i ∨ i = k) : IsMax S' f (max m (f k)) := by
 refine ⟨by have := h.pos; omega, fun i G => ?_, ?_⟩
 ·rcases (M i).1 G with O | rfl
  ·have := h.le i O; omega
  ·omega
 ·by_cases W : f k ≤ m
  ·rw [show max m (f k) = m by omega]
   rcases h.at_ with e | ⟨i, G, e⟩
   ·exact .inl e
   ·exact .inr ⟨i, (M i).2 (.inl G), e⟩
  ·exact .inr ⟨k, (M k).2 (.inr rfl), by omega⟩
theorem IsMax.same {S S' : Nat → Prop} {f : Nat → Int} {m : Int} (h : IsMax S f m) (M : ∀ i, S' i ↔ S i) : IsMax S' f m :=
 ⟨h.pos, fun i G => h.le i ((M i).1 G), h.at_.imp id fun ⟨i, G, e⟩ => ⟨i, (M i).2 G, e⟩⟩
def Co (V : List Valve) (nd : List Bool) (i : Nat) : Bool := match V[i]?, nd[i]? with
 | some v, some false => !(v.Open == 0 && !v.Want)
 | _, _ => false
def toOpen (V : List Valve) (nd : List Bool) (i : Nat) : Bool := match V[i]?, nd[i]? with
 | some v, some true => !(v.Open == v.Travel && v.Want)
 | _, _ => false
def E4 (V : List Valve) (nd : List Bool) (i : Nat) : Int := match V[i]?, nd[i]? with
 | some v, some w => lq w v
 | _, _ => 0
def Cmd (V : List Valve) (nd : List Bool) (k i : Nat) : Prop := i < k ∧ (Co V nd i = true ∨ toOpen V nd i = true)
theorem kL {V : List Valve} {nd : List Bool} (i : Nat) : ¬ (Co V nd i = true ∧ toOpen V nd i = true) := by
 unfold Co toOpen
 rintro ⟨G, M⟩
 split at G
 ·rename_i O W; rw [O, W] at M; cases M
 ·cases G
theorem Cmd.succ {V : List Valve} {nd : List Bool} {k : Nat} (i : Nat) : Cmd V nd (k + 1) i ↔ Cmd V nd k i ∨ (i = k ∧ (Co V nd k = true ∨ toOpen V nd k = true)) := by
 unfold Cmd
 constructor
 ·rintro ⟨M, G⟩
  by_cases h : i = k
  ·subst h; exact .inr ⟨rfl, G⟩
  ·exact .inl ⟨by omega, G⟩
 ·rintro (⟨M, G⟩ | ⟨rfl, h⟩)
  ·exact ⟨by omega, G⟩
  ·exact ⟨by omega, h⟩
structure TInv (V : List Valve) (nd : List Bool) (k : Nat) (st : List Step × List Step × Int) : Prop where
 shut : st.1 = (pick k (Co V nd)).map Hy
 opn : st.2.1 = (pick k (toOpen V nd)).map K1
 most : IsMax (Cmd V nd k) (E4 V nd) st.2.2
 arrive : ∀ i, Cmd V nd k i → 0 ≤ E4 V nd i
theorem rW {d : Desk} (hv : ∀ v, v ∈ d.Valves → VQ v) (hl : d.Valves.length ≤ 1000) {G : Int} (ht : 0 ≤ G) {nd : List Bool} (hnd : nd.length = d.Valves.length) {V : List Valve} (hV : V = d.Valves.map (vq G)) :
  Ok (Rr d G nd) fun r => (r = ([], 0, false) ∧ ∃ i, Cmd V nd V.length i ∧ E4 V nd i < 0) ∨
   ∃ most, r = ((pick V.length (Co V nd)).map Hy ++ (pick V.length (toOpen V nd)).map K1, most, true) ∧ IsMax (Cmd V nd V.length) (E4 V nd) most ∧ ∀ i, Cmd V nd V.length i → 0 ≤ E4 V nd i := by
 have hVl : V.length = d.Valves.length := by rw [hV, List.length_map]
 unfold Rr
 refine .bind' (.forL (TInv V nd) (fun r => r = ([], 0, false) ∧ ∃ i, Cmd V nd V.length i ∧ E4 V nd i < 0) ⟨rfl, rfl, ⟨Int.le_refl _, fun i h => absurd h.1 (Nat.not_lt_zero _), .inl rfl⟩, fun i h => absurd h.1 (Nat.not_lt_zero _)⟩ ?_ ?_ ?_)
 ·rintro k x ⟨cs, os, most⟩ hx ⟨Z, i2, i3, i4⟩
  dsimp only at Z i2 i3 i4
  have hkl := (gs hx).1
  have hxo := hv x (mg hx)
  have hw := qS hxo ht
  have e : Cs x (min G 60) = (vq G x, 0) := by rw [sF hxo (by omega), oW hxo ht]
  have hg : V[k]? = some (vq G x) := by rw [hV, List.getElem?_map, hx]; rfl
  obtain ⟨M, hn⟩ : ∃ ζ, nd[k]? = some ζ := ⟨_, gq (by omega)⟩
  generalize hvv : vq G x = v at *
  have hcl := Dx k (Co V nd); have hol := Dx k (toOpen V nd)
  have elq : E4 V nd k = lq M v := by unfold E4; rw [hg, hn]
  have es : Co V nd k = (!M && !(v.Open == 0 && !v.Want)) := by unfold Co; rw [hg, hn]; cases M <;> rfl
  have eo : toOpen V nd k = (M && !(v.Open == v.Travel && v.Want)) := by unfold toOpen; rw [hg, hn]; cases M <;> rfl
  have hlt : Cmd V nd (k + 1) = fun i => Cmd V nd k i ∨ (i = k ∧ (Co V nd k = true ∨ toOpen V nd k = true)) := funext fun i => propext (Cmd.succ i)
  unfold Rr.B2
  rw [e]
  refine Cj (fun h => absurd rfl h) fun _ => .bind' (.eq (A0 hn) ?_)
  have j4 : ∀ (kd : Int) (O : Bool), kd = (if M = true then 1 else 2) → O = (if M = true then v.Open == v.Travel else v.Open == 0) →
    Ok (Rr.J4 G nd k x (cs, os, most) (kd, O)) (Sum.elim (TInv V nd (k + 1)) fun r => r = ([], 0, false) ∧ ∃ i, Cmd V nd V.length i ∧ E4 V nd i < 0) := by
   intro kd O hkd X
   have j5 : ∀ z : Bool, z = !(Co V nd k || toOpen V nd k) → Ok (Rr.J5 G nd k x (cs, os, most) (kd, O) z) (Sum.elim (TInv V nd (k + 1)) fun r => r = ([], 0, false) ∧ ∃ i, Cmd V nd V.length i ∧ E4 V nd i < 0) := by
    intro z hz
    unfold Rr.J5
    rw [e]
    refine Ax (fun W => ?_) fun W => .bind' (.eq (A0 hn) ?_)
    ·subst W
     have Y : Co V nd k = false ∧ toOpen V nd k = false := by cases h : Co V nd k <;> cases h' : toOpen V nd k <;> simp [h, h'] at hz ⊢
     unfold Rr.J3
     refine .pure ⟨?_, ?_, ?_, ?_⟩
     ·dsimp only; rw [Dy, Y.1, Z]; simp
     ·dsimp only; rw [Dy, Y.2, i2]; simp
     ·exact i3.same fun i => by rw [Cmd.succ, Y.1, Y.2]; simp
     ·intro i hi; rw [Cmd.succ, Y.1, Y.2] at hi; exact i4 i (by simpa using hi)
    ·subst W
     have Y : Co V nd k = true ∨ toOpen V nd k = true := by cases h : Co V nd k <;> cases h' : toOpen V nd k <;> simp [h, h'] at hz ⊢
     have eL : Ir (⟨v.Travel, v.Open, M, v.Stuck⟩ : Valve) = E4 V nd k := by rw [elq]; exact sQ (v := ⟨v.Travel, v.Open, M, v.Stuck⟩) ⟨hw.travel, hw.opn⟩
     dsimp only
     rw [eL]
     refine As (fun h => .pure ⟨rfl, k, ⟨by omega, Y⟩, h⟩) fun h0 => ?_
     have hmx : IsMax (Cmd V nd (k + 1)) (E4 V nd) (max most (E4 V nd k)) := i3.snoc fun i => by rw [Cmd.succ]; exact ⟨fun h => h.imp id And.left, fun h => h.imp id fun h => ⟨h, Y⟩⟩
     have harr : ∀ i, Cmd V nd (k + 1) i → 0 ≤ E4 V nd i := fun i hi => by
      rcases (Cmd.succ i).1 hi with h | ⟨rfl, _⟩
      ·exact i4 i h
      ·omega
     subst hkd
     cases M
     ·have : toOpen V nd k = false := by rw [eo]; rfl
      have h2 : Co V nd k = true := by simpa [this] using Y
      refine Ax (fun h => by cases h) fun _ => .bind' (.app (by rw [Z]; simp; omega) ?_)
      unfold Rr.J3
      refine .pure ⟨?_, ?_, hmx, harr⟩
      ·dsimp only; rw [Dy, if_pos h2, Z]; simp [Hy]
      ·dsimp only; rw [Dy, this, i2]; simp
     ·have : Co V nd k = false := by rw [es]; rfl
      have h2 : toOpen V nd k = true := by simpa [this] using Y
      refine Ax (fun _ => .bind' (.app (by rw [i2]; simp; omega) ?_)) fun h => by cases h
      unfold Rr.J3
      refine .pure ⟨?_, ?_, hmx, harr⟩
      ·dsimp only; rw [Dy, this, Z]; simp
      ·dsimp only; rw [Dy, if_pos h2, i2]; simp [K1]
   unfold Rr.J4
   rw [e]
   refine Ax (fun W => .bind' (.eq (A0 hn) (j5 _ ?_))) fun W => j5 _ ?_
   ·dsimp only at W ⊢
    rw [W] at X
    rw [es, eo]
    cases M <;> cases hwt : v.Want <;> simp at X ⊢ <;> simp [X]
   ·dsimp only at W
    rw [W] at X
    rw [es, eo]
    cases M <;> simp at X ⊢ <;> simp [X]
  refine Ax (fun W => j4 _ _ ?_ ?_) fun W => j4 _ _ ?_ ?_
  all_goals dsimp only at W
  all_goals rw [W]
  ·rfl
  ·rw [if_pos rfl]; exact kS hw
  ·rfl
  ·rw [if_neg (by simp)]; exact mP hw
 ·rintro ⟨cs, os, most⟩ ⟨Z, i2, i3, i4⟩
  dsimp only at Z i2 i3 i4
  rw [← hVl] at Z i2 i3 i4
  simp only [Sum.elim_inl]
  unfold Rr.J1
  have hcl := Dx V.length (Co V nd); have hol := Dx V.length (toOpen V nd)
  refine .bind' (.app (by rw [Z, i2]; simp; omega) (.pure (.inr ⟨most, ?_, i3, i4⟩)))
  rw [Z, i2]
 ·rintro r h
  simp only [Sum.elim_inr]
  exact .pure (.inl h)
def Runs (n : Nw) (Q : Desk → Prop) : Desk → List Step → Desk → Prop
 | d, [], e => d = e
 | d, s :: l, e => ∃ f, lH n d s = some (f, 0) ∧ Q f ∧ Runs n Q f l e
theorem Runs.append {n : Nw} {Q : Desk → Prop} : ∀ {l m : List Step} {d e f : Desk}, Runs n Q d l e → Runs n Q e m f → Runs n Q d (l ++ m) f
 | [], m, d, e, f, h, k => by cases h; exact k
 | s :: l, m, d, e, f, ⟨g, h1, h2, h3⟩, k => ⟨g, h1, h2, Runs.append h3 k⟩
theorem Runs.one {n : Nw} {Q : Desk → Prop} {d e : Desk} {s : Step} (h : lH n d s = some (e, 0)) (q : Q e) : Runs n Q d [s] e := ⟨e, h, q, rfl⟩
theorem pA {t : Int} (h : 1 ≤ t ∧ t ≤ 100) : tk (T5 t) = t := by unfold tk T5; simp; omega
theorem eM {t : Int} (h : 0 ≤ t ∧ t ≤ 100) : K0 (E6 t) = t := by
 unfold E6
 split
 ·simp only [K0, pA (t := t) (by omega)]; omega
 ·simp only [K0]; omega
section
variable {n : Nw} (hn : NetF n) {Q : Desk → Prop} {up : Bool} {p : Plan} (hp : PlanOk n p) {l : List Path} (hd : Divided n up p l) {pumps : List Bool} (hm : pumps.length = n.Stations.length) {cm : Li}
 (hfed : ∀ rs, Part l rs → tO cm rs → oP n (Ip n l rs pumps)) (hQ : ∀ vs rs, Part l rs → tO cm rs → Q ⟨vs, Ip n l rs pumps⟩) {sign ramp rest : Int} (hsg : sign = 1 ∨ sign = -1) (hr : 1 ≤ ramp ∧ ramp ≤ 1000) (ht : 0 ≤ rest ∧ rest ≤ 100)
include hn hp hd hm hfed hQ hsg hr ht
end
def FirstP (n : Nw) (ports : Li) (at_ : Int) (k : Nat) (y : Int) : Prop := (∃ p, n.Ports[k]? = some p ∧ p.Node = at_) ∧ ports[k]? = some y ∧ y < 0 ∧ ∀ (i : Nat) (p : Port) (x : Int), i < k → n.Ports[i]? = some p → p.Node = at_ → ports[i]? = some x → 0 ≤ x
def NoP (n : Nw) (ports : Li) (at_ : Int) (k : Nat) : Prop := ∀ (i : Nat) (p : Port) (x : Int), i < k → n.Ports[i]? = some p → p.Node = at_ → ports[i]? = some x → 0 ≤ x
def Lv (s : Sg) (r at_ : Int) : Prop := 0 < r ∧ s.From = at_ ∨ r < 0 ∧ s.To = at_
def NoS (n : Nw) (rates : Li) (at_ : Int) (k : Nat) : Prop := ∀ (i : Nat) (s : Sg) (r : Int), i < k → n.Segments[i]? = some s → rates[i]? = some r → ¬ Lv s r at_
def FirstS (n : Nw) (rates : Li) (at_ : Int) (k : Nat) (s : Sg) (r : Int) : Prop := n.Segments[k]? = some s ∧ rates[k]? = some r ∧ Lv s r at_ ∧ NoS n rates at_ k
theorem NoP.succ {n : Nw} {ports : Li} {at_ : Int} {k : Nat} (h : NoP n ports at_ k) {p : Port} {x : Int} (hp : n.Ports[k]? = some p) (hx : ports[k]? = some x) (hn : p.Node = at_ → 0 ≤ x) : NoP n ports at_ (k + 1) := fun i q y hi M G hy => by
 by_cases O : i = k
 ·subst O; rw [hp] at M; rw [hx] at hy; simp at M hy; subst M; subst hy; exact hn G
 ·exact h i q y (by omega) M G hy
theorem NoS.succ {n : Nw} {rates : Li} {at_ : Int} {k : Nat} (h : NoS n rates at_ k) {s : Sg} {x : Int} (hp : n.Segments[k]? = some s) (hx : rates[k]? = some x) (hn : ¬ Lv s x at_) : NoS n rates at_ (k + 1) := fun i q y hi G hy => by
 by_cases M : i = k
 ·subst M; rw [hp] at G; rw [hx] at hy; simp at G hy; subst G; subst hy; exact hn
 ·exact h i q y (by omega) G hy
theorem FirstP.one {n : Nw} {ports : Li} {at_ : Int} {k k' : Nat} {y y' : Int} (h : FirstP n ports at_ k y) (h' : FirstP n ports at_ k' y') : k = k' ∧ y = y' := by
 obtain ⟨⟨p, O, W⟩, M, a4, X⟩ := h
 obtain ⟨⟨q, Y, Z⟩, G, b4, b5⟩ := h'
 have : k = k' := by
  rcases Nat.lt_trichotomy k k' with h | h | h
  ·have := b5 k p y h O W M; omega
  ·exact h
  ·have := X k' q y' h Y Z G; omega
 subst this
 rw [M] at G; simp at G; exact ⟨rfl, G⟩
theorem FirstP.no {n : Nw} {ports : Li} {at_ : Int} {k : Nat} {y : Int} (h : FirstP n ports at_ k y) (W : NoP n ports at_ n.Ports.length) : False := by
 obtain ⟨⟨p, G, M⟩, O, X, Y⟩ := h
 have := W k p y (gs G).1 G M O; omega
theorem FirstS.one {n : Nw} {rates : Li} {at_ : Int} {k k' : Nat} {s s' : Sg} {r r' : Int} (h : FirstS n rates at_ k s r) (h' : FirstS n rates at_ k' s' r') : k = k' ∧ s = s' ∧ r = r' := by
 obtain ⟨O, W, X, Y⟩ := h
 obtain ⟨G, M, Z, b4⟩ := h'
 have : k = k' := by
  rcases Nat.lt_trichotomy k k' with h | h | h
  ·exact absurd X (b4 k s r h O W)
  ·exact h
  ·exact absurd Z (Y k' s' r' h G M)
 subst this
 rw [O] at G; rw [W] at M; simp at G M; exact ⟨rfl, G, M⟩
def Gf (s : Sg) (r : Int) : Int := if r < 0 then s.From else s.To
theorem tZ {n : Nw} {rates ports : Li} (hn : NetF n) {up : Bool} (h : Res n up rates ports) {hops : List Hop} {rate at_ : Int} (hl : hops.length ≤ 100) :
  Ok (L1.B4 ⟨n, rates, ports⟩ (hops, rate, at_)) fun o => (∃ k y, FirstP n ports at_ k y ∧ o = .inr ((k : Int), hops, min rate (-y))) ∨ (NoP n ports at_ n.Ports.length ∧ ∃ k s r, FirstS n rates at_ k s r ∧ o = .inl (hops ++ [⟨(k : Int), decide (r < 0)⟩], min rate (max r (-r)), Gf s r)) ∨ (NoP n ports at_ n.Ports.length ∧ NoS n rates at_ n.Segments.length) := by
 unfold L1.B4
 refine .bind' (.forL (fun k _ => NoP n ports at_ k) (fun d : Int × List Hop × Int => ∃ k y, FirstP n ports at_ k y ∧ d = ((k : Int), hops, min rate (-y))) (fun i _ _ h => absurd h (Nat.not_lt_zero _)) ?_ ?_ ?_)
 ·intro k p _ hp W
  dsimp only at hp
  have hkl := (gs hp).1
  obtain ⟨x, Y⟩ : ∃ ζ, ports[k]? = some ζ := ⟨_, gq (by have := h.pl; omega)⟩
  have hxr := h.prt k x Y
  unfold L1.B10 L1.J11
  refine Dl (fun he => .bind' (.eq (A0 Y) ?_)) fun he => Ax (fun h => by cases h) fun _ => .pure (W.succ hp Y fun h => absurd h he)
  refine As (fun G => .bind' (.eq (A0 Y) (.pure ⟨k, x, ⟨⟨p, hp, he⟩, Y, G, W⟩, ?_⟩))) fun G => .pure (W.succ hp Y fun _ => by dsimp only at G; omega)
  dsimp only
  rw [Bc (by omega), Int.zero_sub]
 ·intro _ M
  simp only [Sum.elim_inl]
  unfold L1.J5
  refine .bind' (.forL (fun k _ => NoS n rates at_ k) (fun d : List Hop × Int × Int => ∃ k s r, FirstS n rates at_ k s r ∧ d = (hops ++ [⟨(k : Int), decide (r < 0)⟩], min rate (max r (-r)), Gf s r)) (fun i _ _ h => absurd h (Nat.not_lt_zero _)) ?_ ?_ ?_)
  ·intro k s _ X W
   dsimp only at X
   have hkl := (gs X).1
   obtain ⟨r, hr⟩ : ∃ ζ, rates[k]? = some ζ := ⟨_, gq (by have := h.rl; omega)⟩
   have hrr := h.rng k r s hr X
   unfold L1.B7 L1.J8 L1.J9
   refine .bind' (.eq (A0 hr) (Ax (fun O => .bind' (.app (by simp; omega) (.pure ?_))) fun Z => Ax (fun O => .bind' (.app (by simp; omega) (.pure ?_))) fun ac => .pure (W.succ X hr fun hlv => ?_)))
   ·simp at O
    refine ⟨k, s, r, ⟨X, hr, .inl O, W⟩, ?_⟩
    unfold Gf
    rw [decide_eq_false (by omega), if_neg (by omega)]
    dsimp only; rw [show max r (-r) = r by omega]
   ·simp at O
    refine ⟨k, s, r, ⟨X, hr, .inr O, W⟩, ?_⟩
    unfold Gf
    rw [decide_eq_true O.1, if_pos O.1, Bc (by omega), show max r (-r) = 0 - r by omega]
   ·simp at Z ac
    rcases hlv with ⟨h1, h2⟩ | ⟨h1, h2⟩
    ·exact Z h1 h2
    ·exact ac h1 h2
  ·intro _ hno
   simp only [Sum.elim_inl]
   exact .pure (.inr (.inr ⟨M, hno⟩))
  ·rintro _ ⟨k, s, r, hf, rfl⟩
   exact .pure (.inr (.inl ⟨M, k, s, r, hf, rfl⟩))
 ·rintro _ ⟨k, y, hf, rfl⟩
  exact .pure (.inl ⟨k, y, hf, rfl⟩)
theorem mD {n : Nw} {rates : Li} {up : Bool} {ports : Li} (hn : NetF n) (h : Res n up rates ports) {at_ : Int} :
  Ok (Sh n rates at_) fun o => (∃ k s r, FirstS n rates at_ k s r ∧ o = (⟨(k : Int), decide (r < 0)⟩, true)) ∨ (NoS n rates at_ n.Segments.length) := by
 have hrl := h.rl; have h1 := hn.segs1
 unfold Sh
 refine .bind (Q := fun d : (Hop × Bool) ⊕ Unit => (∃ k s r, FirstS n rates at_ k s r ∧ d = .inl (⟨(k : Int), decide (r < 0)⟩, true)) ∨ (NoS n rates at_ n.Segments.length ∧ d = .inr ())) ?_ ?_
 ·refine .loop (fun G : Int => 0 ≤ G ∧ G ≤ (rates.length : Int) ∧ NoS n rates at_ G.toNat) (fun G => rates.length - G.toNat) ⟨by omega, by omega, fun i _ _ h => absurd h (Nat.not_lt_zero _)⟩ (by omega) ?_
  rintro G ⟨h0, h2, Z⟩
  obtain ⟨k, rfl⟩ := E2 h0
  rw [Int.toNat_natCast] at Z
  unfold Sh.B2
  refine As (fun hlt => ?_) fun hge => .pure (.inr ⟨by rw [show n.Segments.length = k by omega]; exact Z, rfl⟩)
  have W : rates[k]? = some (rates[k]'(by omega)) := gq _
  have X : n.Segments[k]? = some (n.Segments[k]'(by omega)) := gq _
  generalize rates[k]'(by omega) = r at W
  generalize n.Segments[k]'(by omega) = s at X
  have Y : Lv s r at_ → Ok (Sh.J3 rates (k : Int) true) (Sum.elim (fun G : Int => (0 ≤ G ∧ G ≤ (rates.length : Int) ∧ NoS n rates at_ G.toNat) ∧ rates.length - G.toNat < rates.length - ((k : Nat) : Int).toNat) fun d => (∃ k s r, FirstS n rates at_ k s r ∧ d = .inl (⟨(k : Int), decide (r < 0)⟩, true)) ∨ (NoS n rates at_ n.Segments.length ∧ d = .inr ())) := by
   intro hl
   unfold Sh.J3
   exact Ax (fun _ => .bind' (.eq (A0 W) (.pure (.inl ⟨k, s, r, ⟨X, W, hl, Z⟩, rfl⟩)))) fun h => by cases h
  have no : ¬ Lv s r at_ → Ok (Sh.J3 rates (k : Int) false) (Sum.elim (fun G : Int => (0 ≤ G ∧ G ≤ (rates.length : Int) ∧ NoS n rates at_ G.toNat) ∧ rates.length - G.toNat < rates.length - ((k : Nat) : Int).toNat) fun d => (∃ k s r, FirstS n rates at_ k s r ∧ d = .inl (⟨(k : Int), decide (r < 0)⟩, true)) ∨ (NoS n rates at_ n.Segments.length ∧ d = .inr ())) := by
   intro hl
   unfold Sh.J3
   refine Ax (fun h => by cases h) fun _ => .pure ?_
   rw [Bc (by omega)]
   exact ⟨⟨by omega, by omega, by rw [show ((k : Int) + 1).toNat = k + 1 by omega]; exact Z.succ X W hl⟩, by omega⟩
  refine .bind' (.eq (A0 W) (As (fun hp => .bind' (.eq (A0 X) (Dl (fun M => Y (.inl ⟨hp, M⟩)) fun M => As (fun O => by dsimp only at hp O; omega) fun _ => no ?_))) fun hp => As (fun O => .bind' (.eq (A0 X) ?_)) fun O => no ?_))
  ·rintro (⟨_, h⟩ | ⟨h, _⟩)
   ·exact M h
   ·dsimp only at hp; omega
  ·dsimp only at hp O ⊢
   by_cases M : s.To = at_
   ·rw [show (s.To == at_) = true by simp [M]]; exact Y (.inr ⟨O, M⟩)
   ·rw [show (s.To == at_) = false by simp [M]]
    refine no ?_
    rintro (⟨h, _⟩ | ⟨_, h⟩)
    ·omega
    ·exact M h
  ·dsimp only at hp O
   rintro (⟨h, _⟩ | ⟨h, _⟩) <;> omega
 ·rintro d (⟨k, s, r, hf, rfl⟩ | ⟨hno, rfl⟩)
  ·exact .pure (.inl ⟨k, s, r, hf, rfl⟩)
  ·exact .pure (.inr hno)
theorem Qq {n : Nw} {rates ports : Li} (hn : NetF n) {up : Bool} (h : Res n up rates ports) {hops : List Hop} {rate at_ in_ : Int} (hl : hops.length ≤ 100) {j : Nat} (hj : j ≤ n.Nodes.length) (hc : NoP n ports at_ n.Ports.length → ¬ NoS n rates at_ n.Segments.length) :
  Ok (Rv.B2 n rates ports in_ (hops, rate, at_, (j : Int))) fun o => (∃ k y, FirstP n ports at_ k y ∧ o = .inr (.inl (⟨in_, (k : Int), hops, min rate (-y)⟩, true))) ∨ (NoP n ports at_ n.Ports.length ∧ ∃ k s r, FirstS n rates at_ k s r ∧ o = .inl (hops ++ [⟨(k : Int), decide (r < 0)⟩], min rate (max r (-r)), Gf s r, ((j + 1 : Nat) : Int))) := by
 have hpl := h.pl; have h2 := hn.ports1; have hnn := hn.nodes
 unfold Rv.B2
 refine As (fun _ => ?_) fun h => by dsimp only at h; omega
 refine .bind (Q := fun d : (Path × Bool) ⊕ Unit => (∃ k y, FirstP n ports at_ k y ∧ d = .inl (⟨in_, (k : Int), hops, min rate (-y)⟩, true)) ∨ (NoP n ports at_ n.Ports.length ∧ d = .inr ())) ?_ ?_
 ·refine .loop (fun M : Int => 0 ≤ M ∧ M ≤ (ports.length : Int) ∧ NoP n ports at_ M.toNat) (fun M => ports.length - M.toNat) ⟨by omega, by omega, fun i _ _ h => absurd h (Nat.not_lt_zero _)⟩ (by omega) ?_
  rintro M ⟨h0, h4, Z⟩
  obtain ⟨k, rfl⟩ := E2 h0
  rw [Int.toNat_natCast] at Z
  unfold Rv.B5
  refine As (fun hlt => ?_) fun hge => .pure (.inr ⟨by rw [show n.Ports.length = k by omega]; exact Z, rfl⟩)
  have hp : n.Ports[k]? = some (n.Ports[k]'(by omega)) := gq _
  have W : ports[k]? = some (ports[k]'(by omega)) := gq _
  generalize n.Ports[k]'(by omega) = p at hp
  generalize ports[k]'(by omega) = x at W
  have hxr := h.prt k x W
  have no : (p.Node = at_ → 0 ≤ x) → Ok (Rv.J6 ports in_ (hops, rate, at_, (j : Int)) (k : Int) false) (Sum.elim (fun M : Int => (0 ≤ M ∧ M ≤ (ports.length : Int) ∧ NoP n ports at_ M.toNat) ∧ ports.length - M.toNat < ports.length - ((k : Nat) : Int).toNat) fun d => (∃ k y, FirstP n ports at_ k y ∧ d = .inl (⟨in_, (k : Int), hops, min rate (-y)⟩, true)) ∨ (NoP n ports at_ n.Ports.length ∧ d = .inr ())) := by
   intro hh
   unfold Rv.J6
   refine Ax (fun h => by cases h) fun _ => .pure ?_
   rw [Bc (by omega)]
   exact ⟨⟨by omega, by omega, by rw [show ((k : Int) + 1).toNat = k + 1 by omega]; exact Z.succ hp W hh⟩, by omega⟩
  refine .bind' (.eq (A0 hp) (Dl (fun O => .bind' (.eq (A0 W) ?_)) fun O => no fun h => absurd h O))
  dsimp only
  by_cases G : x < 0
  ·rw [decide_eq_true G]
   unfold Rv.J6
   refine Ax (fun _ => .bind' (.eq (A0 W) (.pure (.inl ⟨k, x, ⟨⟨p, hp, O⟩, W, G, Z⟩, ?_⟩)))) fun h => by cases h
   dsimp only
   rw [Bc (by omega), Int.zero_sub]
  ·rw [decide_eq_false G]
   exact no fun _ => by omega
 ·rintro d (⟨k, y, Y, rfl⟩ | ⟨X, rfl⟩)
  ·exact .pure (.inl ⟨k, y, Y, rfl⟩)
  ·simp only [Sum.elim_inr]
   unfold Rv.J4
   refine .bind (mD hn h) ?_
   rintro _ (⟨k, s, r, Y, rfl⟩ | hns)
   ·have hf' := Y
    obtain ⟨q1, q2, q3, _⟩ := hf'
    have hrr := h.rng k r s q2 q1
    refine Ea (fun h => by cases h) fun _ => .bind' (.app (by simp; omega) (.bind' (.eq (A0 q2) ?_)))
    refine .bind (Q := fun e : Int × Int => e.2 = Gf s r) ?_ ?_
    ·unfold Rk Gf
     refine .bind' (.eq (A0 q1) ?_)
     dsimp only
     by_cases hr : r < 0
     ·rw [decide_eq_true hr, if_pos hr]; exact Ax (fun _ => .pure rfl) fun h => by cases h
     ·rw [decide_eq_false hr, if_neg hr]; exact Ax (fun h => by cases h) fun _ => .pure rfl
    rintro ⟨e1, e2⟩ O
    dsimp only at O
    subst O
    unfold Rv.J3 Oh
    refine .pure (.inr ⟨X, k, s, r, Y, ?_⟩)
    dsimp only
    rw [Bc (x := (j : Int) + 1) (by omega), Bc (x := 0 - r) (by omega), show (0 : Int) - r = -r by omega]; rfl
   ·exact absurd hns (hc X)
theorem kX {n : Nw} {up : Bool} {rates ports : Li} (h : Res n up rates ports) {at_ : Int} (hc : Ew n rates ports at_) (h1 : NoP n ports at_ n.Ports.length) : ¬ NoS n rates at_ n.Segments.length := fun h2 =>
 aU h hc (fun i p x hp => h1 i p x (gs hp).1 hp) fun k s r G M => by
  have := h2 k s r (gs G).1 G M
  unfold Lv at this
  exact ⟨fun h => this (.inl h), fun h => this (.inr h)⟩
theorem eJ {n : Nw} (hn : NetF n) {up : Bool} {rates ports : Li} (h : Res n up rates ports) {x0 s0 : Int} {hops : List Hop} {rate at_ : Int} (w : Walk n up rates ports x0 s0 hops rate at_) {k : Nat} {s : Sg} {r : Int} (hf : FirstS n rates at_ k s r) :
  Walk n up rates ports x0 s0 (hops ++ [⟨(k : Int), decide (r < 0)⟩]) (min rate (max r (-r))) (Gf s r) ∧ aK n up (Gf s r) < aK n up at_ := by
 obtain ⟨Z, q3, q4, _⟩ := hf
 obtain ⟨nd, w1, w2, w3⟩ := w.way
 have hlen := w.len
 have W := w.rt
 have hat := w.at_
 have hh : HopIs n rates at_ ⟨(k : Int), decide (r < 0)⟩ (Gf s r) := by
  refine ⟨k, s, r, rfl, Z, q3, ?_⟩
  rcases q4 with ⟨a, b⟩ | ⟨a, b⟩
  ·exact .inl ⟨by simp; omega, a, b, by unfold Gf; rw [if_neg (by omega)]⟩
  ·exact .inr ⟨by simp [a], a, b, by unfold Gf; rw [if_pos a]⟩
 have O := hh.lt h
 have hse := (hn.segs k s Z).at6
 have Y : 0 ≤ Gf s r ∧ Gf s r < (n.Nodes.length : Int) ∧ Gf s r < 6 := by unfold Gf; split <;> omega
 have M := Wt (n := n) (by omega) (by omega) O
 have ea : jN rates ⟨(k : Int), decide (r < 0)⟩ = max r (-r) := Nr rfl q3
 have hr0 : r ≠ 0 := by rcases q4 with ⟨a, _⟩ | ⟨a, _⟩ <;> omega
 refine ⟨⟨⟨_, w1.snoc (by rw [w3]; exact hh), by simp [w2], by simp; omega⟩, Y, by simp; omega, by omega, fun x G => ?_, ?_, .inr ⟨k, s, r, Z, q3, by omega, ?_⟩⟩, M⟩
 ·rcases List.mem_append.1 G with G | G
  ·have := w.most x G; omega
  ·simp at G; subst G; rw [ea]; omega
 ·by_cases hle : rate ≤ max r (-r)
  ·rw [show min rate (max r (-r)) = rate by omega]
   rcases w.tight with X | ⟨x, G, X⟩
   ·exact .inl X
   ·exact .inr ⟨x, by simp [G], X⟩
  ·exact .inr ⟨⟨(k : Int), decide (r < 0)⟩, by simp, by rw [ea]; omega⟩
 ·unfold Gf
  rcases q4 with ⟨a, b⟩ | ⟨a, b⟩
  ·exact .inl ⟨a, by rw [if_neg (by omega)]⟩
  ·exact .inr ⟨a, by rw [if_pos a]⟩
theorem tY {n : Nw} (hn : NetF n) {up : Bool} {rates ports : Li} (h : Res n up rates ports) {i0 : Nat} {p0 : Port} {x0 : Int} (hp0 : n.Ports[i0]? = some p0) (hx0 : ports[i0]? = some x0) (ad : 0 < x0) {d : Int × List Hop × Int}
  (hd : Bx (L1.B4 ⟨n, rates, ports⟩) C0 ([], x0, p0.Node) = some d) :
  Bx (Rv.B2 n rates ports (i0 : Int)) C0 ([], x0, p0.Node, 0) = some (.inl (⟨(i0 : Int), d.1, d.2.1, d.2.2⟩, true)) := by
 have hnn := hn.nodes; have hsn := hn.segs1
 have af := (hn.ports i0 p0 hp0).at6
 have : Ok (Bx (Rv.B2 n rates ports (i0 : Int)) C0 ([], x0, p0.Node, 0)) fun o => o = .inl (⟨(i0 : Int), d.1, d.2.1, d.2.2⟩, true) := by
  refine .loop (S := List Hop × Int × Int × Int) (fun W => Walk n up rates ports x0 p0.Node W.1 W.2.1 W.2.2.1 ∧ W.2.2.2 = (W.1.length : Int) ∧ ∃ G, Bx (L1.B4 ⟨n, rates, ports⟩) G (W.1, W.2.1, W.2.2.1) = some d) (fun W => aK n up W.2.2.1)
   ⟨⟨⟨fun _ => p0.Node, ⟨by simp⟩, rfl, rfl⟩, af, ?_, by dsimp only; omega, by simp, .inl rfl, .inl ⟨i0, p0, x0, hp0, rfl, hx0, ad⟩⟩, rfl, C0, hd⟩ ?_ ?_
  ·dsimp only [List.length_nil]
   unfold aK; split <;> omega
  ·dsimp only
   unfold aK; split <;> omega
  rintro ⟨hops, rate, at_, j⟩ ⟨w, hj, G, Y⟩
  dsimp only at w Y hj
  subst hj
  have hlen := w.len
  cases G with
  | zero => simp [Bx] at Y
  | succ G =>
   obtain ⟨o, ho, hP⟩ := tZ (rate := rate) (at_ := at_) hn h (hops := hops) (by omega)
   simp only [Bx, ho] at Y
   refine (Qq hn h (hops := hops) (by omega) (by omega) (kX h w.comes)).mono ?_
   rintro _ (⟨k, y, X, rfl⟩ | ⟨ac, k, s, r, X, rfl⟩)
   ·rcases hP with ⟨k', y', M, rfl⟩ | ⟨O, _⟩ | ⟨O, _⟩
    ·obtain ⟨rfl, rfl⟩ := X.one M
     simp only [Option.some.injEq] at Y
     subst Y; rfl
    ·exact (X.no O).elim
    ·exact (X.no O).elim
   ·rcases hP with ⟨k', y', M, rfl⟩ | ⟨_, k', s', r', M, rfl⟩ | ⟨_, ae⟩
    ·exact (M.no ac).elim
    ·obtain ⟨rfl, rfl, rfl⟩ := X.one M
     obtain ⟨w', Z⟩ := eJ hn h w X
     exact ⟨⟨w', by simp, G, Y⟩, Z⟩
    ·exact absurd ae (kX h w.comes ac)
 obtain ⟨o, h, rfl⟩ := this
 exact h
theorem mI {n : Nw} (hn : NetF n) {up : Bool} {rates ports : Li} (h : Res n up rates ports) {i0 : Nat} {x0 : Int} (hx0 : ports[i0]? = some x0) (W : 0 < x0) {r : Path × paths_divider} (G : L1 ⟨n, rates, ports⟩ (i0 : Int) = some r) :
  Rv n rates ports (i0 : Int) = some (r.1, true) := by
 have X := (gs hx0).1
 obtain ⟨Z, O⟩ : ∃ ζ, n.Ports[i0]? = some ζ := ⟨_, gq (by have := h.pl; omega)⟩
 unfold L1 at G
 obtain ⟨p, M, G⟩ := Option.bind_eq_some_iff.1 G
 dsimp only at M
 rw [A0 hx0] at M; cases M
 obtain ⟨p, M, G⟩ := Option.bind_eq_some_iff.1 G
 dsimp only at M
 rw [A0 O] at M; cases M
 obtain ⟨d, hd, G⟩ := Option.bind_eq_some_iff.1 G
 have Y := tY hn h O hx0 W hd
 unfold L1.J1 at G
 obtain ⟨q, _, G⟩ := Option.bind_eq_some_iff.1 G
 obtain ⟨z, _, G⟩ := Option.bind_eq_some_iff.1 G
 unfold L1.J2 at G
 cases G
 have : Ok (Rv n rates ports (i0 : Int)) fun o => o = (⟨(i0 : Int), d.1, d.2.1, d.2.2⟩, true) := by
  unfold Rv
  refine .bind' (.eq (A0 hx0) (.bind' (.eq (A0 O) ?_)))
  dsimp only
  rw [Y]
  exact .bind' (.pure (.pure rfl))
 obtain ⟨o, h, rfl⟩ := this
 exact h
end Go.Proofs.YtmaamhgjeampmaaGreat
