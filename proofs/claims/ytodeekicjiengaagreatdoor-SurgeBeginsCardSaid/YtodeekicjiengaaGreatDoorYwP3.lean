/- Plain proofs. No condition. -/
import Derived.Test.YtodeekicjiengaaGreatDoorYwP2
import Derived.Test.YtodeekicjiengaaGreatDoorYwD
import Derived.Test.YtodeekicjiengaaGreatDoorYwB1
import Derived.ProofKit
import Derived.SizedLaws
import Derived.Carry
import Derived.OpenShut
import Derived.ChangeSame
import Derived.LaidMore
import Derived.MakeChecks
import Derived.Stop.Joined
set_option maxRecDepth 100000
namespace Go.Proofs.YtodeekicjiengaaGreatDoor
set_option linter.unusedVariables false
set_option linter.unusedSimpArgs false
open Go.Aw
theorem Pl {a b : Int} (hb : 1 ≤ b ∧ b ≤ 1099511627776) (ha : -2305843009213693952 ≤ a ∧ a ≤ 2305843009213693952) : Ir a b = some (up a b) := by
 have h := Wi (a := a) (b := b) (by omega)
 have Z := Es (a := a) (b := b) (by omega)
 unfold dn at Z
 have aa := Int.emod_nonneg a (by omega : b ≠ 0)
 have ab := Int.emod_lt_of_pos a (by omega : 0 < b)
 have : Ok (Ir a b) fun r => r = up a b := by
  unfold Ir
  refine De (fun h => ?_) fun _ => ?_
  ·simp [M4] at h; omega
  refine .bind' (.quo (by omega) (.bind' (.rem (by omega) ?_)))
  unfold up Ir.J1
  by_cases O : a.tmod b < 0
  ·have Y := h.1 O
   have h2 := Int.lt_tmod_of_pos a (b := b) (by omega)
   refine A7 (fun G => by omega) fun _ => .pure ?_
   rw [if_pos (by omega), Av (by omega)]; omega
  ·have Y := h.2 O
   refine A7 (fun G => .pure ?_) fun G => .pure ?_
   ·rw [if_pos (by omega), Av (x := a.tdiv b) (by omega), Av (by omega)]; omega
   ·rw [if_neg (by omega), Av (by omega)]; omega
 obtain ⟨r, h, rfl⟩ := this
 exact h
theorem Jn {a b : Int} (hb : 1 ≤ b ∧ b ≤ 1099511627776) (ha : -2305843009213693952 ≤ a ∧ a ≤ 2305843009213693952) : It a b = some (dn a b) := by
 have h := Wi (a := a) (b := b) (by omega)
 have Z := Es (a := a) (b := b) (by omega)
 unfold dn at Z
 have : Ok (It a b) fun r => r = dn a b := by
  unfold It
  refine De (fun h => ?_) fun _ => ?_
  ·simp [M4] at h; omega
  refine .bind' (.quo (by omega) (.bind' (.rem (by omega) ?_)))
  unfold dn It.J1
  by_cases O : a.tmod b < 0
  ·have Y := h.1 O
   refine A7 (fun G => .pure ?_) fun G => by omega
   rw [Av (x := a.tdiv b) (by omega), Av (by omega)]; omega
  ·have Y := h.2 O
   refine A7 (fun G => by omega) fun G => .pure ?_
   rw [Av (by omega)]; omega
 obtain ⟨r, h, rfl⟩ := this
 exact h
theorem Yk {l : Li} (hl : l.Pairwise (· < ·)) (h1 : l.length ≤ 1000) (n : Int) : Ok (Nl l n) fun r => r.Pairwise (· < ·) ∧ (∀ x, x ∈ r ↔ x ∈ l ∨ x = n) ∧ r.length ≤ l.length + 1 := by
 unfold Nl
 refine .bind (Q := fun d : Int => ∃ k : Nat, d = (k : Int) ∧ k ≤ l.length ∧ (∀ j x, j < k → l[j]? = some x → x < n) ∧ ∀ x, l[k]? = some x → n ≤ x) ?_ ?_
 ·refine .loop (fun st : Int => ∃ k : Nat, st = (k : Int) ∧ k ≤ l.length ∧ ∀ j x, j < k → l[j]? = some x → x < n) (fun st => l.length - st.toNat) ⟨0, rfl, by omega, by omega⟩ (by omega) ?_
  rintro _ ⟨k, rfl, hk, hI⟩
  unfold Nl.B4 Nl.J5
  refine A7 (fun hlt => .bind' (.ix k rfl (by omega) ?_)) fun hn => ?_
  ·have O : l[k]? = some (l[k]'(by omega)) := gq _
   refine A7 (fun hh => .pure ⟨⟨k + 1, ?_, by omega, fun j x Z G => ?_⟩, ?_⟩) fun hh => .pure ⟨k, rfl, hk, hI, fun x G => ?_⟩
   ·rw [Av (by omega)]; omega
   ·by_cases hjk : j = k
    ·subst hjk; rw [O] at G; cases G; exact hh
    ·exact hI j x (by omega) G
   ·rw [Av (by omega)]; omega
   ·rw [O] at G; cases G
    dsimp only at hh; omega
  ·refine Bc (fun h => by cases h) fun _ => .pure ⟨k, rfl, hk, hI, fun x G => ?_⟩
   have := (gs G).1; omega
 ·rintro _ ⟨k, rfl, hk, hI, hJ⟩
  have ab : (∀ x, l[k]? = some x → x ≠ n) → Ok (Nl.J2 l n (k : Int) false) fun r => r.Pairwise (· < ·) ∧ (∀ x, x ∈ r ↔ x ∈ l ∨ x = n) ∧ r.length ≤ l.length + 1 := by
   intro hne
   unfold Nl.J2
   refine Bc (fun h => by cases h) fun _ => .bind' (.sub 0 k rfl rfl (by omega) hk (.bind' (.app (by simp; omega) (.bind' (.app (by simp; omega) (.bind' (.sub k l.length rfl rfl hk (Nat.le_refl _) (.bind' (.app (by simp; omega) ?_)))))))))
   unfold Nl.J3
   simp only [List.drop_zero, Nat.sub_zero, List.nil_append]
   rw [List.take_of_length_le (l := l.drop k) (by simp)]
   have hlow : ∀ x, x ∈ l.take k → x < n := fun x O => by
    obtain ⟨j, Z⟩ := List.getElem?_of_mem O
    have hjl := (gs Z).1
    simp at hjl
    rw [List.getElem?_take_of_lt (by omega)] at Z
    exact hI j x (by omega) Z
   have Y : ∀ x, x ∈ l.drop k → n < x := fun x O => by
    obtain ⟨j, Z⟩ := List.getElem?_of_mem O
    rw [List.getElem?_drop] at Z
    have hjl := (gs Z).1
    have aa : l[k]? = some (l[k]'(by omega)) := gq _
    have h1 := hJ _ aa
    have h2 := hne _ aa
    rcases Nat.eq_zero_or_pos j with rfl | hj0
    ·simp at Z; rw [aa] at Z; cases Z; omega
    ·have := G7 hl (show k < k + j by omega) aa Z
     omega
   refine .pure ⟨?_, fun x => ?_, by simp; omega⟩
   ·rw [List.append_assoc, List.pairwise_append]
    refine ⟨hl.sublist (List.take_sublist _ _), ?_, fun x O y hy => ?_⟩
    ·rw [List.singleton_append, List.pairwise_cons]
     exact ⟨Y, hl.sublist (List.drop_sublist _ _)⟩
    ·have := hlow x O
     rcases List.mem_cons.1 hy with rfl | hy
     ·exact this
     ·have := Y y hy; omega
   ·have : x ∈ l ↔ x ∈ l.take k ∨ x ∈ l.drop k := by rw [← List.mem_append, List.take_append_drop]
    simp only [List.mem_append, List.mem_cons, List.not_mem_nil, or_false]
    rw [this]
    constructor
    ·rintro ((h | h) | h)
     ·exact .inl (.inl h)
     ·exact .inr h
     ·exact .inl (.inr h)
    ·rintro ((h | h) | h)
     ·exact .inl (.inl h)
     ·exact .inr h
     ·exact .inl (.inr h)
  unfold Nl.J1
  refine A7 (fun hlt => .bind' (.ix k rfl (by omega) ?_)) fun hn => ab fun x O => by have := (gs O).1; omega
  have O : l[k]? = some (l[k]'(by omega)) := gq _
  dsimp only
  by_cases he : l[k] = n
  ·rw [show (l[k] == n) = true by simpa using he]
   unfold Nl.J2
   refine Bc (fun _ => .pure ⟨hl, fun x => ⟨.inl, fun h => ?_⟩, by omega⟩) fun h => by cases h
   rcases h with h | rfl
   ·exact h
   ·exact he ▸ mg O
  ·rw [show (l[k] == n) = false by simpa using he]
   exact ab fun x G => by rw [O] at G; cases G; exact he
theorem Oz {s : Sg} {f : List Piece} (h1 : s.Points.length ≤ 100) (h2 : f.length ≤ 12) (h3 : ∀ p, p ∈ f → 1 ≤ p.Volume) (h4 : Dd f ≤ 1000000) : Nk s f = some (Eg s f) := by
 have : Ok (Nk s f) fun r => r = Eg s f := by
  unfold Nk
  refine .bind (.forS (fun k G => G.Pairwise (· < ·) ∧ (∀ x, x ∈ G ↔ ∃ p, p ∈ s.Points.take k ∧ p.At = x) ∧ G.length ≤ k) ⟨.nil, by simp, by simp⟩ ?_ fun G h => h) ?_
  ·rintro k p G Z ⟨O, Y, i3⟩
   have hk := (gs Z).1
   unfold Nk.B4
   refine .bind (Yk O (by omega) p.At) ?_
   rintro r ⟨r1, r2, r3⟩
   refine .pure ⟨r1, fun x => ?_, by omega⟩
   rw [r2, Y, List.take_add_one, Z]
   simp only [Option.toList_some, List.mem_append, List.mem_cons, List.not_mem_nil, or_false]
   constructor
   ·rintro (⟨q, hq, rfl⟩ | rfl)
    ·exact ⟨q, .inl hq, rfl⟩
    ·exact ⟨p, .inr rfl, rfl⟩
   ·rintro ⟨q, hq | rfl, rfl⟩
    ·exact .inl ⟨q, hq, rfl⟩
    ·exact .inr rfl
  ·rintro out ⟨o1, o2, o3⟩
   rw [List.take_of_length_le (Nat.le_refl _)] at o2
   unfold Nk.J1
   refine .bind (.forS (fun k G => G.1.Pairwise (· < ·) ∧ (∀ x, x ∈ G.1 ↔ (∃ p, p ∈ s.Points ∧ p.At = x) ∨ ∃ j, j < k ∧ x = Dd (f.take (j + 1))) ∧ G.1.length ≤ s.Points.length + k ∧ G.2 = Dd (f.take k)) ⟨o1, by simpa using o2, by simpa using o3, by simp [Dd]⟩ ?_ fun G h => h) ?_
   ·rintro k p ⟨G, aa⟩ Z ⟨O, Y, i3, i4⟩
    dsimp only at O Y i3 i4
    subst i4
    have hk := (gs Z).1
    have e := Ew Z
    have b := Dn h3 (k + 1)
    unfold Nk.B3
    dsimp only
    rw [Av (by omega), ← e]
    refine .bind (Yk O (by omega) _) ?_
    rintro r ⟨r1, r2, r3⟩
    refine .pure ⟨r1, fun x => ?_, by dsimp only; omega, rfl⟩
    dsimp only
    rw [r2, Y]
    constructor
    ·rintro ((h | ⟨j, hj, rfl⟩) | rfl)
     ·exact .inl h
     ·exact .inr ⟨j, by omega, rfl⟩
     ·exact .inr ⟨k, by omega, rfl⟩
    ·rintro (h | ⟨j, hj, rfl⟩)
     ·exact .inl (.inl h)
     ·by_cases ab : j = k
      ·subst ab; exact .inr rfl
      ·exact .inl (.inr ⟨j, by omega, rfl⟩)
   ·rintro ⟨G, aa⟩ ⟨O, Y, i3, i4⟩
    unfold Nk.J2
    refine .pure (bH O (G8 s f) fun x => ?_)
    rw [H4]; exact Y x
 obtain ⟨r, h, rfl⟩ := this
 exact h
theorem tL {cap : Int} {f : List Piece} (hf : FillOk cap f) (hc : 1 ≤ cap ∧ cap ≤ 1000) {a : Int} {k : Nat} {x : Piece} (Z : f[k]? = some x) (h1 : 0 ≤ a) (h2 : Dd (f.take k) ≤ a) (h3 : a < Dd (f.take (k + 1))) : Nb f a = some x.Batch := by
 have : Ok (Nb f a) fun r => r = x.Batch := by
  unfold Nb
  rw [Le hf hc]
  refine .bind' (.pure (De (fun h => by cases h) fun _ => ?_))
  rw [show decide (a < 0) = false by simp; omega]
  unfold Nb.J1
  refine Bc (fun h => by cases h) fun _ => .bind (Q := Sum.elim (fun _ : Int => False) fun r : Int => r = x.Batch) (.forL (fun j st => j ≤ k ∧ st = a - Dd (f.take j)) (fun r => r = x.Batch) ⟨Nat.zero_le _, by simp [Dd]⟩ ?_ ?_ fun _ h => h) ?_
  ·rintro j y _ O ⟨hj, rfl⟩
   have e := Ew O
   unfold Nb.B3
   refine A7 (fun hh => .pure ?_) fun hh => .pure ?_
   ·have : j = k := by
     rcases Nat.lt_or_ge j k with G | aa
     ·have := cO hf.vol (show j + 1 ≤ k from G); omega
     ·omega
    subst this
    rw [Z] at O; cases O
    rfl
   ·have hjk : j ≠ k := by
     rintro rfl
     omega
    have b1 := Dn hf.vol (j + 1)
    have b2 := hf.sum
    have b3 := Dn hf.vol (k + 1)
    exact ⟨by omega, by rw [Av (by omega)]; omega⟩
  ·rintro _ ⟨hk, rfl⟩
   have := (gs Z).1
   omega
  ·rintro (_ | r) Y
   ·exact Y.elim
   ·exact .pure Y
 obtain ⟨r, h, rfl⟩ := this
 exact h
theorem lU {f : List Piece} {b : List Batch} {p : List Product} {cap : Int} (hf : FillOk cap f) (hb : BatsOk p.length b) :
  ∃ l, G9 f b p = some (l, 0) ∧ l.length = f.length ∧ (∀ y, y ∈ l → y ∈ p) ∧ ∀ (k : Nat) (x : Piece) (y : Product), f[k]? = some x → l[k]? = some y → ∃ (j : Nat) (c : Batch) (i : Nat), x.Batch = (j : Int) ∧ b[j]? = some c ∧ c.Product = (i : Int) ∧ p[i]? = some y := by
 have : Ok (G9 f b p) fun r => r.2 = 0 ∧ r.1.length = f.length ∧ (∀ y, y ∈ r.1 → y ∈ p) ∧ ∀ (k : Nat) (x : Piece) (y : Product), f[k]? = some x → r.1[k]? = some y → ∃ (j : Nat) (c : Batch) (i : Nat), x.Batch = (j : Int) ∧ b[j]? = some c ∧ c.Product = (i : Int) ∧ p[i]? = some y := by
  have hlen := hf.len
  unfold G9
  refine .bind' (.forL (fun k st => st.length = k ∧ (∀ y, y ∈ st → y ∈ p) ∧ ∀ (k : Nat) (x : Piece) (y : Product), f[k]? = some x → st[k]? = some y → ∃ (j : Nat) (c : Batch) (i : Nat), x.Batch = (j : Int) ∧ b[j]? = some c ∧ c.Product = (i : Int) ∧ p[i]? = some y) (fun _ => False) ⟨rfl, by simp, by simp⟩ ?_ ?_ fun _ h => h.elim)
  ·rintro k x st hx ⟨O, Z, h3⟩
   have hk := (gs hx).1
   have hbx := hf.bat x (mg hx)
   have hbl := hb.len
   unfold G9.B2
   refine A7 (fun h => by omega) fun _ => .bind' (.ix' hbx.1 (by omega) fun j y hj hy => ?_)
   have hy2 := hb.all y (mg hy)
   refine Bc (fun h => ?_) fun _ => .bind' (.ix' hy2.1 hy2.2 fun i z hi hz => .bind' (.app (by simp; omega) (.pure ⟨by simp [O], fun w hw => ?_, fun k' x' y' Y G => ?_⟩)))
   ·simp at h; omega
   ·rcases List.mem_append.1 hw with hw | hw
    ·exact Z w hw
    ·simp at hw; subst hw; exact mg hz
   ·rw [List.getElem?_append] at G
    split at G
    ·exact h3 k' x' y' Y G
    ·rename_i hge
     have := (gs G).1
     simp at this
     have : k' = st.length := by omega
     subst this
     simp at G
     subst O
     rw [hx] at Y; cases Y
     subst G
     exact ⟨j, y, i, hj, hy, hi, hz⟩
  ·rintro st ⟨O, Z, h3⟩
   exact .pure ⟨rfl, O, Z, h3⟩
 obtain ⟨⟨l, e⟩, h, O, Z, h3, h4⟩ := this
 dsimp only at O Z h3 h4
 subst O
 exact ⟨l, h, Z, h3, h4⟩
theorem kL {s : Sg} {f : List Piece} {bs : List Batch} {p l : List Product} {i : Nat} {x : gradient_part} {r a b : Int} (G : SegG s) (hf : FillOk s.Capacity f)
  (hl : ∀ (k : Nat) (x : Piece) (y : Product), f[k]? = some x → l[k]? = some y → ∃ (j : Nat) (c : Batch) (i : Nat), x.Batch = (j : Int) ∧ bs[j]? = some c ∧ c.Product = (i : Int) ∧ p[i]? = some y)
  (hx : IsPart s f l i x) (hxo : PartOk s x) (ha : (Eg s f)[i]? = some a) (hb : (Eg s f)[i + 1]? = some b) (hr : -1000 ≤ r ∧ r ≤ 1000) :
  Nc s f bs p r a b = some (Ht s r x, G0 s, Lr x, Lp x) := by
 have hc := G.cap
 have hpl := G.points.len
 obtain ⟨a', b', q, u, v, k, y, h1, h2, O, Z, h5, h6, h7, h8, h9, h10, rfl⟩ := hx
 rw [ha] at h1; cases h1
 rw [hb] at h2; cases h2
 have hfk : f[k]? = some (f[k]'h9) := gq _
 obtain ⟨j, c, i', e1, e2, e3, e4⟩ := hl k _ y hfk h10
 have hab := G7 (G8 s f) (Nat.lt_succ_self i) ha hb
 have har := Ef G.points hf (mg ha)
 have hbr := Ef G.points hf (mg hb)
 have hua : u.At ≤ a := Rx ha hb (H4.2 (.inl ⟨u, mg O, rfl⟩)) h5
 have hka : Dd (f.take k) ≤ a := by
  rcases Nat.eq_zero_or_pos k with rfl | hk0
  ·simp [Dd]; omega
  ·exact Rx ha hb (H4.2 (.inr ⟨k - 1, by omega, by rw [show k - 1 + 1 = k by omega]⟩)) h7
 have hq : q + 1 < s.Points.length := (gs Z).1
 have huR := G.points.at_range O
 have hvR := G.points.at_range Z
 have hh1 := G.points.height u (mg O)
 have hh2 := G.points.height v (mg Z)
 have fr := hxo.friction; have de := hxo.density
 dsimp only at fr de
 have hlen : wr (b - a) = b - a := Av (by omega)
 have m1 := Ed (a := s.Resist) (b := y.Friction) (A := 1000) (B := 2000) (by have := G.resist; omega) (by omega)
 have m2 := Ed (a := s.Resist * y.Friction) (b := r) (A := 2000000) (B := 1000) (by omega) (by omega)
 have m3 := Ed (a := s.Resist * y.Friction * r) (b := r) (A := 2000000000) (B := 1000) (by omega) (by omega)
 have m4 := Ed (a := s.Resist * y.Friction * r * r) (b := b - a) (A := 2000000000000) (B := 1000) (by omega) (by omega)
 have n1 := Ed (a := y.Density * 9807) (b := v.Height - u.Height) (A := 12000000) (B := 5500) (by omega) (by omega)
 have n2 := Ed (a := y.Density * 9807 * (v.Height - u.Height)) (b := b - a) (A := 66000000000) (B := 1000) (by omega) (by omega)
 have : Ok (Nc s f bs p r a b) fun t => t = (Ht s r ⟨b - a, v.At - u.At, v.Height - u.Height, y⟩, G0 s, Lr ⟨b - a, v.At - u.At, v.Height - u.Height, y⟩, Lp ⟨b - a, v.At - u.At, v.Height - u.Height, y⟩) := by
  unfold Nc
  rw [tL hf hc hfk har.1 hka (by omega), e1]
  refine .bind' (.pure (.bind' (.eq (Bb e2) ?_)))
  dsimp only
  rw [e3]
  refine .bind' (.eq (Bb e4) (.bind (Q := fun d : Int => d = (q : Int)) ?_ ?_))
  ·refine .loop (fun st : Int => ∃ m : Nat, st = (m : Int) ∧ m ≤ q) (fun st => q - st.toNat) ⟨0, rfl, Nat.zero_le _⟩ (by omega) ?_
   rintro _ ⟨m, rfl, hm⟩
   have Y : s.Points[m + 1]? = some (s.Points[m + 1]'(by omega)) := gq _
   unfold Nc.B3
   rw [Av (by omega)]
   refine .bind' (.eq (by rw [show (m : Int) + 1 = ((m + 1 : Nat) : Int) by omega]; exact Bb Y) ?_)
   dsimp only
   by_cases hmq : m = q
   ·subst hmq
    rw [Z] at Y
    rw [← Option.some.inj Y]
    exact A7 (fun hh => by omega) fun _ => .pure rfl
   ·have hle : s.Points[m + 1].At ≤ u.At := by
     rcases Nat.lt_or_ge (m + 1) q with hlt | hge
     ·have := G.points.asc _ _ _ _ hlt Y O; omega
     ·have : m + 1 = q := by omega
      subst this
      rw [O] at Y; rw [← Option.some.inj Y]; omega
    exact A7 (fun hh => .pure ⟨⟨m + 1, by omega, by omega⟩, by omega⟩) fun hh => by omega
  ·rintro _ rfl
   unfold Nc.J1
   refine .bind' (.eq (Bb O) ?_)
   rw [Av (by omega)]
   refine .bind' (.eq (by rw [show (q : Int) + 1 = ((q + 1 : Nat) : Int) by omega]; exact Bb Z) ?_)
   unfold Nc.J2
   dsimp only
   refine .pure ?_
   unfold Ht G0 Lr Lp
   dsimp only
   rw [Av (x := b - a) (by omega), Av (x := s.Resist * y.Friction) (by omega), Av (x := s.Resist * y.Friction * r) (by omega), Av (x := s.Resist * y.Friction * r * r) (by omega), Av (x := s.Resist * y.Friction * r * r * (b - a)) (by omega),
    Av (x := 1000 * s.Capacity) (by omega), Av (x := y.Density * 9807) (by omega), Av (x := v.Height - u.Height) (by omega), Av (x := y.Density * 9807 * (v.Height - u.Height)) (by omega),
    Av (x := y.Density * 9807 * (v.Height - u.Height) * (b - a)) (by omega), Av (x := v.At - u.At) (by omega), Av (x := 1000 * (v.At - u.At)) (by omega)]
 obtain ⟨t, h, rfl⟩ := this
 exact h
theorem qB {s : Sg} {f : List Piece} {bs : List Batch} {p l : List Product} {W : List gradient_part} (Y : SegG s) (hf : FillOk s.Capacity f) (hp : ProdsOk p) (hb : BatsOk p.length bs)
  (hl : ∀ (k : Nat) (x : Piece) (y : Product), f[k]? = some x → l[k]? = some y → ∃ (j : Nat) (c : Batch) (i : Nat), x.Batch = (j : Int) ∧ bs[j]? = some c ∧ c.Product = (i : Int) ∧ p[i]? = some y)
  (hW : Parts s f l W) (hP : ∀ x, x ∈ W → PartOk s x) {r : Int} {b : Bounds} (hr : 1 ≤ r ∧ r ≤ 1000) (hb1 : b.Low ≤ b.High) (hb2 : -1125899906842624 ≤ b.Low) (hb3 : b.High ≤ 1125899906842624) :
  Hx s f bs p r b = some (Hg s f W r b, 0) := by
 have hc := Y.cap
 have hpl := Y.points.len
 have hfl := hf.len
 have hbl := L0 s f
 have hb2' := Lz Y.points hc.1 hf
 have hWl := hW.len
 have ab : Ga b = true := by unfold Ga; simp; omega
 have aa : ((r == 0) || (decide (r < (-1000)) || (decide (r > 1000) || (!(Ga b))))) = false := by rw [ab]; simp; omega
 have e0 : Hg s f W r b = Pp s r b (Eg s f) W := by unfold Hg; rw [if_neg (by omega)]
 have : Ok (Hx s f bs p r b) fun t => t = (Hg s f W r b, 0) := by
  unfold Hx
  rw [Ta Y hf, Lf hp, Ld hf hb, aa]
  refine .bind' (.pure (Cl (fun h => absurd rfl h) fun _ => .bind' (.pure (Cl (fun h => absurd rfl h) fun _ => .bind' (.pure (De (fun h => by cases h) fun _ => Bc (fun h => by cases h) fun _ => ?_))))))
  rw [Oz (by omega) hfl hf.vol (by have := hf.sum; omega)]
  refine .bind' (.pure (.bind' (.mk (Eg s f).length rfl (by omega) (A7 (fun _ => ?_) fun h => by omega))))
  have h0 : (Eg s f)[0]? = some ((Eg s f)[0]'(by omega)) := gq _
  have h0' : ix (Eg s f) 0 = some (0, (Eg s f)[0]'(by omega)) := Bb h0
  rw [h0']
  refine .bind' (.pure (.bind' (.ix 0 rfl (by simp; omega) ?_)))
  dsimp only
  refine .bind (Q := fun d => d = Pp s r b (Eg s f) W) ?_ (by rintro _ rfl; unfold Hx.J4; exact .pure (by rw [e0]))
  refine .loop (fun st : List Level × Int × Int × Int => ∃ k : Nat, st.2.2.2 = ((k + 1 : Nat) : Int) ∧ k + 1 ≤ (Eg s f).length ∧ st.2.1 = b.Low - Dc (hi s r) (W.take k) ∧ st.2.2.1 = b.High - Dc (lo s r) (W.take k) ∧ st.1.length = (Eg s f).length ∧
   ∀ j, j ≤ k → st.1[j]? = some (Zd s r b (Eg s f) W j)) (fun st => (Eg s f).length - st.2.2.2.toNat) ⟨0, rfl, by omega, by simp [Dc], by simp [Dc], by simp, fun j hj => ?_⟩ (by dsimp only; omega) ?_
  ·have : j = 0 := by omega
   subst this
   rw [List.getElem?_set_self (by simp; omega)]
   simp [Zd, List.getD, h0, Dc]
  ·rintro ⟨out, low, high, i⟩ ⟨k, h1, h2, h3, h4, h5, h6⟩
   dsimp only at h1 h2 h3 h4 h5 h6 ⊢
   subst h1 h3 h4
   unfold Hx.B5
   dsimp only
   refine A7 (fun hlt => ?_) fun hn => .pure ?_
   ·have G : k < W.length := by omega
    have O : W[k]? = some (W[k]'G) := gq _
    have hm := hP _ (mg O)
    have ha : (Eg s f)[k]? = some ((Eg s f)[k]'(by omega)) := gq _
    have Z : (Eg s f)[k + 1]? = some ((Eg s f)[k + 1]'(by omega)) := gq _
    have bd : ∀ x, x ∈ W.take (k + 1) → PartOk s x := fun x O => hP x (List.mem_of_mem_take O)
    have s1 := Ee (g := lo s r) (B := 3000000000000000) (l := W.take (k + 1)) fun x O => (Il hc.1 Y.resist hr (bd x O)).1
    have s2 := Ee (g := hi s r) (B := 3000000000000000) (l := W.take (k + 1)) fun x O => (Il hc.1 Y.resist hr (bd x O)).2
    have t1 := Fs (lo s r) O
    have t2 := Fs (hi s r) O
    simp only [List.length_take] at s1 s2
    have fA := Vc Y.resist hr hm
    have lA := Vb hm
    have hw := hm.width
    have b1 : 1 ≤ G0 s ∧ G0 s ≤ 1099511627776 := by unfold G0; omega
    have b2 : 1 ≤ Lp (W[k]'G) ∧ Lp (W[k]'G) ≤ 1099511627776 := by unfold Lp; omega
    have d1 := Es (a := Ht s r (W[k]'G)) (b := G0 s) (by omega)
    have d2 := L4 (a := Ht s r (W[k]'G)) (b := G0 s) (by omega)
    rw [Av (x := ((k + 1 : Nat) : Int) - 1) (by omega), show ((k + 1 : Nat) : Int) - 1 = (k : Int) by omega, Bb ha, Bb Z]
    simp only [Option.bind_some]
    rw [kL Y hf hl (hW.all k _ O) hm ha Z (by omega)]
    simp only [Option.bind_some]
    rw [Pl b1 (by omega), Pl b2 (by omega), Jn b1 (by omega), Jn b2 (by omega)]
    simp only [Option.bind_some]
    have hlo : lo s r (W[k]'G) = dn (Ht s r (W[k]'G)) (G0 s) + dn (Lr (W[k]'G)) (Lp (W[k]'G)) := rfl
    have hhi : hi s r (W[k]'G) = up (Ht s r (W[k]'G)) (G0 s) + up (Lr (W[k]'G)) (Lp (W[k]'G)) := rfl
    have s1' := Ee (g := lo s r) (B := 3000000000000000) (l := W.take k) fun x O => (Il hc.1 Y.resist hr (hP x (List.mem_of_mem_take O))).1
    have s2' := Ee (g := hi s r) (B := 3000000000000000) (l := W.take k) fun x O => (Il hc.1 Y.resist hr (hP x (List.mem_of_mem_take O))).2
    simp only [List.length_take] at s1' s2'
    refine .bind' (.ix (k + 1) rfl (by omega) (.pure ⟨⟨k + 1, ?_, by omega, ?_, ?_, by simp [h5], fun j hj => ?_⟩, ?_⟩))
    ·dsimp only; rw [Av (by omega)]; omega
    ·dsimp only; rw [t2, hhi, Av (x := b.Low - Dc (hi s r) (W.take k) - up (Ht s r (W[k]'G)) (G0 s)) (by omega), Av (by omega)]; omega
    ·dsimp only; rw [t1, hlo, Av (x := b.High - Dc (lo s r) (W.take k) - dn (Ht s r (W[k]'G)) (G0 s)) (by omega), Av (by omega)]; omega
    ·dsimp only
     by_cases hjk : j = k + 1
     ·subst hjk
      rw [List.getElem?_set_self (by omega)]
      simp only [Zd, List.getD, Z, Option.getD_some, t1, t2]
      rw [hlo, hhi, Av (x := b.Low - Dc (hi s r) (W.take k) - up (Ht s r (W[k]'G)) (G0 s)) (by omega), Av (x := b.Low - Dc (hi s r) (W.take k) - up (Ht s r (W[k]'G)) (G0 s) - _) (by omega),
       Av (x := b.High - Dc (lo s r) (W.take k) - dn (Ht s r (W[k]'G)) (G0 s)) (by omega), Av (by omega)]
      congr 3 <;> omega
     ·rw [List.getElem?_set_ne (by omega)]
      exact h6 j (by omega)
    ·dsimp only; rw [Av (by omega)]; omega
   ·have hk : k + 1 = (Eg s f).length := by omega
    apply List.ext_getElem?
    intro j
    by_cases hj : j < (Eg s f).length
    ·rw [h6 j (by omega), Rp _ _ _ _ hj]
    ·rw [List.getElem?_eq_none (by omega), List.getElem?_eq_none (by rw [Ix]; omega)]
 obtain ⟨t, h, rfl⟩ := this
 exact h
theorem mA (s : Sg) (r : Int) (x : gradient_part) : Ht s r x = Ht s (-r) x := by
 unfold Ht
 simp only [Int.mul_neg, Int.neg_mul, Int.neg_neg]
theorem mQ {s : Sg} {f : List Piece} {bs : List Batch} {p l : List Product} {W : List gradient_part} (hs : SegG s) (hf : FillOk s.Capacity f) (hp : ProdsOk p) (hb : BatsOk p.length bs)
  (hl : ∀ (k : Nat) (x : Piece) (y : Product), f[k]? = some x → l[k]? = some y → ∃ (j : Nat) (c : Batch) (i : Nat), x.Batch = (j : Int) ∧ bs[j]? = some c ∧ c.Product = (i : Int) ∧ p[i]? = some y)
  (hW : Parts s f l W) (hP : ∀ x, x ∈ W → PartOk s x) {r : Int} {b : Bounds} (hr : -1000 ≤ r ∧ r ≤ -1) (hb1 : b.Low ≤ b.High) (hb2 : -1125899906842624 ≤ b.Low) (hb3 : b.High ≤ 1125899906842624) :
  Hx s f bs p r b = some (Hg s f W r b, 0) := by
 have hc := hs.cap
 have hpl := hs.points.len
 have hfl := hf.len
 have hbl := L0 s f
 have hb2' := Lz hs.points hc.1 hf
 have hWl := hW.len
 obtain ⟨q, hq⟩ : ∃ q, q = -r := ⟨_, rfl⟩
 have Z : 1 ≤ q ∧ q ≤ 1000 := by omega
 obtain ⟨m, hm⟩ : ∃ m, m = (Eg s f).length := ⟨_, rfl⟩
 obtain ⟨V, hV⟩ : ∃ V, V = Oq W r := ⟨_, rfl⟩
 have hVW : V = W.reverse.map neg := by rw [hV]; unfold Oq; rw [if_pos (by omega)]
 have hVl : V.length = m - 1 := by rw [hVW]; simp; omega
 have hVP : ∀ x, x ∈ V → PartOk s x := fun x O => by
  rw [hVW] at O
  simp only [List.mem_map, List.mem_reverse] at O
  obtain ⟨y, hy, rfl⟩ := O
  exact Wh (hP y hy)
 have hpla : E3 s f r = (Eg s f).reverse := by unfold E3; rw [if_pos (by omega)]
 have habs : Zk r = q := by unfold Zk; rw [if_pos (by omega), hq]
 have hprop : Ga b = true := by unfold Ga; simp; omega
 have hcond : ((r == 0) || (decide (r < (-1000)) || (decide (r > 1000) || (!(Ga b))))) = false := by rw [hprop]; simp; omega
 have this : Ok (Hx s f bs p r b) fun t => t = (Hg s f W r b, 0) := by
  unfold Hx
  rw [Ta hs hf, Lf hp, Ld hf hb, hcond]
  refine .bind' (.pure (Cl (fun h => absurd rfl h) fun _ => .bind' (.pure (Cl (fun h => absurd rfl h) fun _ => .bind' (.pure (De (fun h => by cases h) fun _ => Bc (fun h => by cases h) fun _ => ?_))))))
  rw [Oz (by omega) hfl hf.vol (by have := hf.sum; omega)]
  refine .bind' (.pure (.bind' (.mk (Eg s f).length rfl (by omega) (A7 (fun h => by omega) fun _ => ?_))))
  unfold Hx.J1
  rw [← hm, Av (x := (m : Int) - 1) (by omega), show (m : Int) - 1 = ((m - 1 : Nat) : Int) by omega]
  have Y : (Eg s f)[m - 1]? = some ((Eg s f)[m - 1]'(by omega)) := gq _
  refine .bind' (.eq (Bb Y) (.bind' (.ix (m - 1) rfl (by simp; omega) ?_)))
  dsimp only
  rw [Av (by omega)]
  refine .bind (Q := fun d => d = Hg s f W r b) ?_ (by rintro _ rfl; unfold Hx.J2; exact .pure rfl)
  refine .loop (fun st : List Level × Int × Int × Int => ∃ k : Nat, st.2.2.2 = (m : Int) - 2 - (k : Int) ∧ k + 1 ≤ m ∧ st.2.1 = b.Low - Dc (hi s q) (V.take k) ∧ st.2.2.1 = b.High - Dc (lo s q) (V.take k) ∧ st.1.length = m ∧
   ∀ j, j ≤ k → st.1[m - 1 - j]? = some (Zd s q b (Eg s f).reverse V j)) (fun st => (st.2.2.2 + 1).toNat) ⟨0, by dsimp only; omega, by omega, by simp [Dc], by simp [Dc], by simp, fun j hj => ?_⟩ (by dsimp only; omega) ?_
  ·have : j = 0 := by omega
   subst this
   rw [Nat.sub_zero, List.getElem?_set_self (by simp; omega)]
   have : (Eg s f).reverse[0]? = some ((Eg s f)[m - 1]'(by omega)) := by rw [List.getElem?_reverse (by omega), show (Eg s f).length - 1 - 0 = m - 1 by omega, Y]
   simp [Zd, List.getD, this, Dc]
  ·rintro ⟨out, low, high, i⟩ ⟨k, h1, h2, h3, h4, h5, h6⟩
   dsimp only at h1 h2 h3 h4 h5 h6 ⊢
   subst h1 h3 h4
   unfold Hx.B3
   dsimp only
   refine A7 (fun hge => ?_) fun hn => .pure ?_
   ·obtain ⟨i, hi_⟩ : ∃ i : Nat, i = m - 2 - k := ⟨_, rfl⟩
    have hie : (m : Int) - 2 - (k : Int) = (i : Int) := by omega
    have G : i < W.length := by omega
    have O : W[i]? = some (W[i]'G) := gq _
    have hmm := hP _ (mg O)
    have hvx : V[k]? = some (neg (W[i]'G)) := by
     rw [hVW, List.getElem?_map, List.getElem?_reverse (by omega), show W.length - 1 - k = i by omega, O]; rfl
    have ha : (Eg s f)[i]? = some ((Eg s f)[i]'(by omega)) := gq _
    have hbb : (Eg s f)[i + 1]? = some ((Eg s f)[i + 1]'(by omega)) := gq _
    have bd : ∀ x, x ∈ V.take (k + 1) → PartOk s x := fun x O => hVP x (List.mem_of_mem_take O)
    have s1 := Ee (g := lo s q) (B := 3000000000000000) (l := V.take (k + 1)) fun x O => (Il hc.1 hs.resist Z (bd x O)).1
    have s2 := Ee (g := hi s q) (B := 3000000000000000) (l := V.take (k + 1)) fun x O => (Il hc.1 hs.resist Z (bd x O)).2
    have t1 := Fs (lo s q) hvx
    have t2 := Fs (hi s q) hvx
    simp only [List.length_take] at s1 s2
    have fA := Vc hs.resist Z hmm
    have lA := Vb hmm
    have hw := hmm.width
    have b1 : 1 ≤ G0 s ∧ G0 s ≤ 1099511627776 := by unfold G0; omega
    have b2 : 1 ≤ Lp (W[i]'G) ∧ Lp (W[i]'G) ≤ 1099511627776 := by unfold Lp; omega
    have d1 := Es (a := Ht s q (W[i]'G)) (b := G0 s) (by omega)
    have d2 := L4 (a := Ht s q (W[i]'G)) (b := G0 s) (by omega)
    rw [hie, Av (x := (i : Int) + 1) (by omega), show (i : Int) + 1 = ((i + 1 : Nat) : Int) by omega, Bb ha, Bb hbb]
    simp only [Option.bind_some]
    rw [kL hs hf hl (hW.all i _ O) hmm ha hbb (by omega)]
    simp only [Option.bind_some]
    rw [mA s r, ← hq, Av (x := 0 - Lr _) (by omega), show 0 - Lr (W[i]'G) = -Lr (W[i]'G) by omega]
    rw [Pl b1 (by omega), Pl b2 (by omega), Jn b1 (by omega), Jn b2 (by omega)]
    simp only [Option.bind_some]
    have hlo : lo s q (neg (W[i]'G)) = dn (Ht s q (W[i]'G)) (G0 s) + dn (-Lr (W[i]'G)) (Lp (W[i]'G)) := by unfold lo; rw [bR]; rfl
    have hhi : hi s q (neg (W[i]'G)) = up (Ht s q (W[i]'G)) (G0 s) + up (-Lr (W[i]'G)) (Lp (W[i]'G)) := by unfold hi; rw [bR]; rfl
    have s1' := Ee (g := lo s q) (B := 3000000000000000) (l := V.take k) fun x O => (Il hc.1 hs.resist Z (hVP x (List.mem_of_mem_take O))).1
    have s2' := Ee (g := hi s q) (B := 3000000000000000) (l := V.take k) fun x O => (Il hc.1 hs.resist Z (hVP x (List.mem_of_mem_take O))).2
    simp only [List.length_take] at s1' s2'
    refine .bind' (.ix i rfl (by omega) (.pure ⟨⟨k + 1, ?_, by omega, ?_, ?_, by simp [h5], fun j hj => ?_⟩, ?_⟩))
    ·dsimp only; rw [Av (by omega)]; omega
    ·dsimp only; rw [t2, hhi, Av (x := b.Low - Dc (hi s q) (V.take k) - up (Ht s q (W[i]'G)) (G0 s)) (by omega), Av (by omega)]; omega
    ·dsimp only; rw [t1, hlo, Av (x := b.High - Dc (lo s q) (V.take k) - dn (Ht s q (W[i]'G)) (G0 s)) (by omega), Av (by omega)]; omega
    ·dsimp only
     by_cases hjk : j = k + 1
     ·subst hjk
      have hp1 : (Eg s f).reverse[k + 1]? = some ((Eg s f)[i]'(by omega)) := by rw [List.getElem?_reverse (by omega), show (Eg s f).length - 1 - (k + 1) = i by omega, ha]
      rw [show m - 1 - (k + 1) = i by omega, List.getElem?_set_self (by omega)]
      simp only [Zd, List.getD, hp1, Option.getD_some, t1, t2]
      rw [hlo, hhi, Av (x := b.Low - Dc (hi s q) (V.take k) - up (Ht s q (W[i]'G)) (G0 s)) (by omega), Av (x := b.Low - Dc (hi s q) (V.take k) - up (Ht s q (W[i]'G)) (G0 s) - _) (by omega),
       Av (x := b.High - Dc (lo s q) (V.take k) - dn (Ht s q (W[i]'G)) (G0 s)) (by omega), Av (by omega)]
      congr 3 <;> omega
     ·rw [List.getElem?_set_ne (by omega)]
      exact h6 j (by omega)
    ·dsimp only; rw [Av (by omega)]; omega
   ·have hk : k + 1 = m := by omega
    apply List.ext_getElem?
    intro j
    by_cases hj : j < (Eg s f).length
    ·have := h6 (m - 1 - j) (by omega)
     rw [show m - 1 - (m - 1 - j) = j by omega] at this
     rw [this, N7 _ _ _ _ _ hj, habs, hpla, ← hV]
     unfold Zi
     rw [if_pos (by omega), ← hm]
    ·rw [List.getElem?_eq_none (by omega), List.getElem?_eq_none (by rw [Fq]; omega)]
 obtain ⟨t, h, rfl⟩ := this
 exact h
theorem mR {s : Sg} {f : List Piece} {Z : List Batch} {p : List Product} (hs : SegG s) (hf : FillOk s.Capacity f) (hp : ProdsOk p) (hb : BatsOk p.length Z) {r B : Int} {b : Bounds} (O : r ≠ 0 ∧ -1000 ≤ r ∧ r ≤ 1000) (hB : 0 ≤ B ∧ B ≤ 1000000000000000) (aa : Bd B b) :
  Hx s f Z p r b = F7 s f Z p r b := by
 obtain ⟨l, ab, ac, ad, G⟩ := lU hf hb
 obtain ⟨W, hW, hP, hA⟩ := Ry hs hf hp ab ac ad
 obtain ⟨Y, b2, b3⟩ := aa
 rw [hA r b O.1 O.2.1 O.2.2 Y (by omega) (by omega)]
 by_cases h : 0 < r
 ·exact qB hs hf hp hb G hW hP ⟨by omega, O.2.2⟩ Y (by omega) (by omega)
 ·exact mQ hs hf hp hb G hW hP ⟨O.2.1, by omega⟩ Y (by omega) (by omega)
structure JR (n : Network) (b : List Batch) (pr : List Product) (f : List (List Piece)) (p : Plan) (done : List Int) (K : List Bool) (N : List Bounds) (S : List (List Level)) : Prop where
 inn : ∀ w : Nat, w < n.Nodes.length → (w : Int) ∈ done → ∃ k c, K[w]? = some k ∧ N[w]? = some c ∧ Mn (Come n p S (fun _ => True) (DD n p done) (w : Int)) k c
 out : ∀ w : Nat, w < n.Nodes.length → (w : Int) ∉ done → K[w]? = some false ∧ N[w]? = some ⟨0, 0⟩
 segs : ∀ i s r, Flw n p i s r → DD n p done i → ∃ lv, S[i]? = some lv ∧ 2 ≤ lv.length ∧ bF n b pr f p K N i s r lv
 segs0 : ∀ i lv, (∀ s r, Flw n p i s r → ¬ DD n p done i) → S[i]? = some lv → lv = []
section
variable {n : Nw} {b : List Batch} {pr : List Product} {f : List (List Piece)} {p : Plan} {K : List Bool} {N : List Bounds} {S : List (List Level)}
theorem pC (hn : NetOk n) (hp : FlowOk n p) {kk v : Nat} : Ok (forS (P8.B19 p (kk, (v : Int))) 0 n.Ports []) fun l => l.length ≤ n.Ports.length ∧ ∀ c, c ∈ l ↔ Come n p S (fun _ => True) (fun _ => False) (v : Int) c := by
 have hpl := hp.pl; have hps := hn.ports1
 refine .forS (fun k (l : List Bounds) => l.length ≤ k ∧ ∀ c, c ∈ l ↔ Come n p S (fun i => i < k) (fun _ => False) (v : Int) c) ⟨by simp, fun c => ?_⟩ ?_ fun l hl => ⟨hl.1, fun c => ?_⟩
 ·constructor
  ·intro h; simp at h
  ·rintro (⟨i, _, _, h, _⟩ | ⟨_, _, _, _, h, _⟩)
   ·exact absurd h (Nat.not_lt_zero _)
   ·exact h.elim
 ·rintro k q l hq ⟨i1, i2⟩
  have hk := (gs hq).1
  have hx : p.Ports[k]? = some (p.Ports[k]'(by omega)) := gq _
  have Y : ∀ c, Come n p S (fun i => i < k + 1) (fun _ => False) (v : Int) c ↔ Come n p S (fun i => i < k) (fun _ => False) (v : Int) c ∨ (q.Node = (v : Int) ∧ 0 < p.Ports[k]'(by omega) ∧ c = ⟨q.Pressure, q.Pressure⟩) := by
   intro c
   constructor
   ·rintro (⟨i, q', a, h1, Z, h3, h4, h5, h6⟩ | ⟨_, _, _, _, h, _⟩)
    ·by_cases hik : i = k
     ·subst hik
      rw [hq] at Z; cases Z
      rw [hx] at h3; cases h3
      exact .inr ⟨h5, h4, h6⟩
     ·exact .inl (.inl ⟨i, q', a, by omega, Z, h3, h4, h5, h6⟩)
    ·exact h.elim
   ·rintro ((⟨i, q', a, h1, Z⟩ | ⟨_, _, _, _, h, _⟩) | ⟨h1, Z, h3⟩)
    ·exact .inl ⟨i, q', a, by omega, Z⟩
    ·exact h.elim
    ·exact .inl ⟨k, q, _, by omega, hq, hx, Z, h1, h3⟩
  have no : ¬ (q.Node = (v : Int) ∧ 0 < p.Ports[k]'(by omega)) → Ok (P8.J21 q l false) fun l => l.length ≤ k + 1 ∧ ∀ c, c ∈ l ↔ Come n p S (fun i => i < k + 1) (fun _ => False) (v : Int) c := by
   intro hno
   unfold P8.J21 P8.J20
   refine Bc (fun h => by cases h) fun _ => .pure ⟨by omega, fun c => ?_⟩
   rw [i2, Y]
   exact ⟨.inl, fun h => h.elim id fun h => absurd ⟨h.1, h.2.1⟩ hno⟩
  unfold P8.B19
  refine C6 (fun G => .bind' (.eq (Bb hx) ?_)) fun G => no fun h => G h.1
  dsimp only at G ⊢
  by_cases O : 0 < p.Ports[k]'(by omega)
  ·rw [show decide (p.Ports[k]'(by omega) > 0) = true from decide_eq_true O]
   unfold P8.J21 P8.J20
   refine Bc (fun _ => .bind' (.app (by simp; omega) (.pure ⟨by simp; omega, fun c => ?_⟩))) fun h => by cases h
   rw [List.mem_append, i2, Y, List.mem_singleton]
   exact ⟨fun h => h.imp id fun h => ⟨G, O, h⟩, fun h => h.imp id fun h => h.2.2⟩
  ·rw [show decide (p.Ports[k]'(by omega) > 0) = false from decide_eq_false O]
   exact no fun h => O h.2
 ·rw [hl.2]
  exact Come.congr (fun i q hq => by simp [(gs hq).1]) fun _ _ _ _ => Iff.rfl
theorem rO (hn : NetOk n) (hp : FlowOk n p) {kk v : Nat} {done : Li} {l0 : List Bounds} (h0 : l0.length ≤ n.Ports.length) (hl0 : ∀ c, c ∈ l0 ↔ Come n p S (fun _ => True) (fun _ => False) (v : Int) c) (hSl : S.length = n.Segments.length)
  (hs : ∀ i s r, Flw n p i s r → DD n p done i → ∃ lv, S[i]? = some lv ∧ 2 ≤ lv.length ∧ bF n b pr f p K N i s r lv) (hb : ∀ (i : Nat) (lv : List Level), S[i]? = some lv → lv.length ≤ 20)
  (hin : ∀ i s r, Flw n p i s r → (Bn s r).2 = (v : Int) → (Bn s r).1 ∈ done) :
  Ok (forS (P8.B16 p (K, N, S) (kk, (v : Int))) 0 n.Segments l0) fun l => l.length ≤ 20 ∧ ∀ c, c ∈ l ↔ Come n p S (fun _ => True) (fun _ => True) (v : Int) c := by
 have hrl := hp.rl; have hps := hn.ports1; have hsg := hn.segs1
 refine .forS (fun k (l : List Bounds) => l.length ≤ n.Ports.length + k ∧ ∀ c, c ∈ l ↔ Come n p S (fun _ => True) (fun i => i < k) (v : Int) c) ⟨by omega, fun c => ?_⟩ ?_ fun l hl => ⟨by omega, fun c => ?_⟩
 ·rw [hl0]
  exact Come.congr (fun _ _ _ => Iff.rfl) fun i _ _ _ => by simp
 ·rintro k s l G ⟨i1, i2⟩
  have hk := (gs G).1
  have hr : p.Rates[k]? = some (p.Rates[k]'(by omega)) := gq _
  have hg : S[k]? = some (S[k]'(by omega)) := gq _
  have O : ∀ c, Come n p S (fun _ => True) (fun i => i < k + 1) (v : Int) c ↔ Come n p S (fun _ => True) (fun i => i < k) (v : Int) c ∨ (p.Rates[k]'(by omega) ≠ 0 ∧ (Bn s (p.Rates[k]'(by omega))).2 = (v : Int) ∧ c = Ik (p.Rates[k]'(by omega)) (S[k]'(by omega))) := by
   intro c
   constructor
   ·rintro (h | ⟨i, s', r', lv', h1, Z, h3, h4, h5⟩)
    ·exact .inl (.inl h)
    ·by_cases hik : i = k
     ·subst hik
      have e1 := Z.seg; have e2 := Z.rate
      rw [G] at e1; cases e1
      rw [hr] at e2; cases e2
      rw [hg] at h4; cases h4
      exact .inr ⟨Z.ne, h3, h5⟩
     ·exact .inl (.inr ⟨i, s', r', lv', by omega, Z, h3, h4, h5⟩)
   ·rintro ((h | ⟨i, s', r', lv', h1, Z⟩) | ⟨h1, Z, h3⟩)
    ·exact .inl h
    ·exact .inr ⟨i, s', r', lv', by omega, Z⟩
    ·exact .inr ⟨k, s, _, _, by omega, ⟨G, hr, h1⟩, Z, hg, h3⟩
  have no : ¬ (p.Rates[k]'(by omega) ≠ 0 ∧ (Bn s (p.Rates[k]'(by omega))).2 = (v : Int)) → Ok (P8.J17 l) fun l => l.length ≤ n.Ports.length + (k + 1) ∧ ∀ c, c ∈ l ↔ Come n p S (fun _ => True) (fun i => i < k + 1) (v : Int) c := by
   intro hno
   unfold P8.J17
   refine .pure ⟨by omega, fun c => ?_⟩
   rw [i2, O]
   exact ⟨.inl, fun h => h.elim id fun h => absurd ⟨h.1, h.2.1⟩ hno⟩
  unfold P8.B16
  refine .bind' (.eq (Bb (l := p.Rates) hr) (C6 (fun hz => no fun h => h.1 hz) fun hz => ?_))
  dsimp only at hz ⊢
  rw [Zs]
  refine C6 (fun Y => ?_) fun Y => no fun h => Y h.2
  obtain ⟨lv, l1, l2, _⟩ := hs k s _ ⟨G, hr, hz⟩ ⟨s, _, ⟨G, hr, hz⟩, hin k s _ ⟨G, hr, hz⟩ Y⟩
  have hlv : S[k]'(by omega) = lv := by rw [hg] at l1; exact Option.some.inj l1
  rw [hlv] at O
  have hl20 := hb k lv l1
  have i0 : lv[0]? = some (lv[0]'(by omega)) := gq _
  have il : lv[lv.length - 1]? = some (lv[lv.length - 1]'(by omega)) := gq _
  refine .bind' (.eq (Bb l1) ?_)
  dsimp only
  rw [Av (by omega), show (lv.length : Int) - 1 = ((lv.length - 1 : Nat) : Int) by omega]
  refine .bind' (.eq (Bb il) ?_)
  have fin : ∀ y : Level, Ik (p.Rates[k]'(by omega)) lv = y.Bounds → Ok (P8.J18 l (y.At, y.Bounds.Low, y.Bounds.High)) fun l => l.length ≤ n.Ports.length + (k + 1) ∧ ∀ c, c ∈ l ↔ Come n p S (fun _ => True) (fun i => i < k + 1) (v : Int) c := by
   intro y hy
   unfold P8.J18 P8.J17
   refine .bind' (.app (by simp; omega) (.pure ⟨by simp; omega, fun c => ?_⟩))
   rw [List.mem_append, i2, O, List.mem_singleton, hy]
   exact ⟨fun h => h.imp id fun h => ⟨hz, Y, h⟩, fun h => h.imp id fun h => h.2.2⟩
  refine A7 (fun hneg => .bind' (.eq (show ix lv 0 = some (0, lv[0]'(by omega)) from Bb i0) (fin _ ?_))) fun hpos => fin _ ?_
  ·unfold Ik; rw [if_neg (by omega), i0]; rfl
  ·unfold Ik; rw [if_pos (by omega), il]; rfl
 ·rw [hl.2]
  exact Come.congr (fun _ _ _ => Iff.rfl) fun i s r hf => by simp [(gs hf.seg).1]
theorem sZ {l : List Bounds} (h : l ≠ []) (hl : l.length ≤ 20) {C : Bounds → Prop} (hC : ∀ c, c ∈ l ↔ C c) :
  ∃ y, l[0]? = some y ∧ Ok (forJ (P8.B15 l) 0 l.length (y.Low, y.High)) fun st => Mn C true ⟨st.1, st.2⟩ := by
 have aa : 0 < l.length := List.length_pos_iff.2 h
 have h0 : l[0]? = some (l[0]'aa) := gq _
 refine ⟨_, h0, .forJ (fun k (st : Int × Int) => (∀ (j : Nat) (c : Bounds), j < k → l[j]? = some c → st.1 ≤ c.Low ∧ st.2 ≤ c.High) ∧ (∃ c, c ∈ l ∧ st.1 = c.Low) ∧ ∃ c, c ∈ l ∧ st.2 = c.High)
  ⟨fun j c Z => absurd Z (Nat.not_lt_zero _), ⟨_, mg h0, rfl⟩, ⟨_, mg h0, rfl⟩⟩ ?_ ?_⟩
 ·rintro k ⟨lo, hi⟩ hk ⟨i1, ⟨O, m1, e1⟩, ⟨c2, m2, e2⟩⟩
  dsimp only at i1 e1 e2
  have hg : l[k]? = some (l[k]'hk) := gq _
  have G := mg hg
  unfold P8.B15
  refine .bind' (.eq (Bb hg) (.pure ⟨fun j c Z Y => ?_, ?_, ?_⟩))
  ·dsimp only
   by_cases hjk : j = k
   ·subst hjk
    rw [hg] at Y; cases Y
    exact ⟨by omega, by omega⟩
   ·have := i1 j c (by omega) Y
    exact ⟨by omega, by omega⟩
  ·dsimp only
   by_cases hle : lo ≤ (l[k]'hk).Low
   ·exact ⟨O, m1, by omega⟩
   ·exact ⟨_, G, by omega⟩
  ·dsimp only
   by_cases hle : hi ≤ (l[k]'hk).High
   ·exact ⟨c2, m2, by omega⟩
   ·exact ⟨_, G, by omega⟩
 ·rintro ⟨lo, hi⟩ ⟨i1, ⟨O, m1, e1⟩, ⟨c2, m2, e2⟩⟩
  refine ⟨⟨fun _ => ⟨O, (hC O).1 m1⟩, fun _ => rfl⟩, (fun h => by cases h), fun _ c Y => ?_, fun _ => ⟨O, (hC O).1 m1, e1⟩, fun _ => ⟨c2, (hC c2).1 m2, e2⟩⟩
  obtain ⟨j, Z⟩ := List.getElem?_of_mem ((hC c).2 Y)
  exact i1 j c (gs Z).1 Z
theorem sX (hn : NetOk n) (hp : FlowOk n p) {B : Int} {kk v : Nat} {O : Bounds} (hB : 0 ≤ B ∧ B ≤ 1000000000000000) (hbd : Bd B O) :
  Ok (forS (P8.B12 n p (kk, (v : Int))) 0 n.Stations (O.Low, O.High)) fun st => bZ n p (v : Int) O ⟨st.1, st.2⟩ := by
 have h1 := hn.sts1; have h2 := hp.ml; have h3 := hn.nodes
 refine .forS (fun i (st : Int × Int) => (∃ (j : Nat) (t : Sn), j < i ∧ n.Stations[j]? = some t ∧ t.Node = (v : Int) ∧ p.Pumps[j]? = some true ∧ st = (O.Low + Gc t (Gd n p v), O.High + Gc t (Gd n p v))) ∨
   ((∀ (j : Nat) (t : Sn), j < i → n.Stations[j]? = some t → t.Node = (v : Int) → p.Pumps[j]? ≠ some true) ∧ st = (O.Low, O.High))) (.inr ⟨fun j t hj => absurd hj (Nat.not_lt_zero _), rfl⟩) ?_ ?_
 ·rintro i t st Y Z
  have hi := (gs Y).1
  have hq : p.Pumps[i]? = some (p.Pumps[i]'(by omega)) := gq _
  have no : (t.Node = (v : Int) → p.Pumps[i]'(by omega) = false) → Ok (P8.J14 n p (kk, (v : Int)) t st false) fun st => (∃ (j : Nat) (t : Sn), j < i + 1 ∧ n.Stations[j]? = some t ∧ t.Node = (v : Int) ∧ p.Pumps[j]? = some true ∧ st = (O.Low + Gc t (Gd n p v), O.High + Gc t (Gd n p v))) ∨
    ((∀ (j : Nat) (t : Sn), j < i + 1 → n.Stations[j]? = some t → t.Node = (v : Int) → p.Pumps[j]? ≠ some true) ∧ st = (O.Low, O.High)) := by
   intro hno
   unfold P8.J14 P8.J13
   refine Bc (fun h => by cases h) fun _ => .pure ?_
   rcases Z with ⟨j, u, hj, hu⟩ | ⟨Z, hst⟩
   ·exact .inl ⟨j, u, by omega, hu⟩
   ·refine .inr ⟨fun j u hj hu hun => ?_, hst⟩
    by_cases hji : j = i
    ·subst hji
     rw [Y] at hu; cases hu
     rw [hq, hno hun]; simp
    ·exact Z j u (by omega) hu hun
  unfold P8.B12
  refine C6 (fun G => .bind' (.eq (Bb hq) ?_)) fun G => no fun h => absurd h G
  dsimp only at G ⊢
  cases hpk : p.Pumps[i]'(by omega) with
  | false => exact no fun _ => hpk
  | true =>
   rcases Z with ⟨j, u, hj, hu1, hu2, _⟩ | ⟨Z, rfl⟩
   ·have := N1 hn hu1 Y (by rw [hu2, G]); omega
   ·obtain ⟨e0, e1, e2⟩ := cW hn hp (v : Int)
    unfold P8.J14
    refine Bc (fun _ => ?_) fun h => by cases h
    rw [e0]
    simp only [Option.bind_some]
    rw [pA (hn.sts i t Y) (by omega) (by omega) hB hbd ⟨e1, e2⟩]
    unfold P8.J13
    exact .bind' (.pure (.pure (.inl ⟨i, t, by omega, Y, G, by rw [hq, hpk], rfl⟩)))
 ·rintro st (⟨j, t, _, h⟩ | ⟨Z, rfl⟩)
  ·exact .inl ⟨j, t, h.1, h.2.1, h.2.2.1, by rw [h.2.2.2]⟩
  ·exact .inr ⟨fun j t Y => Z j t (gs Y).1 Y, rfl⟩
end
section
variable {n : Nw} {b : List Batch} {pr : List Product} {f : List (List Piece)} {p : Plan} {K : List Bool} {N : List Bounds} {S : List (List Level)}
theorem sY (hw : W21 n b pr f) (hp : FlowOk n p) {B : Int} {kk v : Nat} {c : Bounds} (hB : 0 ≤ B ∧ B ≤ 1000000000000000) (hc : Bd B c) (hSl : S.length = n.Segments.length) :
  Ok (forS (P8.B10 b pr f p (kk, (v : Int)) (c.Low, c.High)) 0 n.Segments S) fun S' => S'.length = n.Segments.length ∧
   (∀ i, (¬ ∃ s r, Flw n p i s r ∧ (Bn s r).1 = (v : Int)) → S'[i]? = S[i]?) ∧
   ∀ i s r, Flw n p i s r → (Bn s r).1 = (v : Int) → ∃ lv Z, S'[i]? = some lv ∧ 2 ≤ lv.length ∧ lv.length ≤ 20 ∧ (∀ y, y ∈ lv → Bd (B + 42000000000) y.Bounds ∧ 0 ≤ y.At ∧ y.At ≤ s.Capacity) ∧ f[i]? = some Z ∧ F7 s Z b pr r c = some (lv, 0) := by
 have hn := hw.net
 have hrl := hp.rl; have hfl := hw.fills.len; have hsg := hn.segs1
 refine .forS (fun k (S' : List (List Level)) => S'.length = n.Segments.length ∧
   (∀ i, (¬ ∃ s r, Flw n p i s r ∧ (Bn s r).1 = (v : Int)) → S'[i]? = S[i]?) ∧
   ∀ i s r, i < k → Flw n p i s r → (Bn s r).1 = (v : Int) → ∃ lv Z, S'[i]? = some lv ∧ 2 ≤ lv.length ∧ lv.length ≤ 20 ∧ (∀ y, y ∈ lv → Bd (B + 42000000000) y.Bounds ∧ 0 ≤ y.At ∧ y.At ≤ s.Capacity) ∧ f[i]? = some Z ∧ F7 s Z b pr r c = some (lv, 0))
  ⟨hSl, fun _ _ => rfl, fun i s r hi => absurd hi (Nat.not_lt_zero _)⟩ ?_ fun S' h => ⟨h.1, h.2.1, fun i s r O => h.2.2 i s r (gs O.seg).1 O⟩
 rintro k s S' hs ⟨i1, i2, i3⟩
 have hk := (gs hs).1
 have hr : p.Rates[k]? = some (p.Rates[k]'(by omega)) := gq _
 have Y := hp.rng k _ s hr hs
 have hse := hn.segs k s hs
 have aa : f[k]? = some (f[k]'(by omega)) := gq _
 have hfo := hw.fills.all k _ s aa hs
 have no : ¬ (p.Rates[k]'(by omega) ≠ 0 ∧ (Bn s (p.Rates[k]'(by omega))).1 = (v : Int)) → Ok (P8.J11 S') fun S' => S'.length = n.Segments.length ∧
   (∀ i, (¬ ∃ s r, Flw n p i s r ∧ (Bn s r).1 = (v : Int)) → S'[i]? = S[i]?) ∧
   ∀ i s r, i < k + 1 → Flw n p i s r → (Bn s r).1 = (v : Int) → ∃ lv Z, S'[i]? = some lv ∧ 2 ≤ lv.length ∧ lv.length ≤ 20 ∧ (∀ y, y ∈ lv → Bd (B + 42000000000) y.Bounds ∧ 0 ≤ y.At ∧ y.At ≤ s.Capacity) ∧ f[i]? = some Z ∧ F7 s Z b pr r c = some (lv, 0) := by
  intro hno
  unfold P8.J11
  refine .pure ⟨i1, i2, fun i s' r' hi O ho => ?_⟩
  by_cases G : i = k
  ·subst G
   have e1 := O.seg; have e2 := O.rate
   rw [hs] at e1; cases e1
   rw [hr] at e2; cases e2
   exact absurd ⟨O.ne, ho⟩ hno
  ·exact i3 i s' r' (by omega) O ho
 unfold P8.B10
 refine .bind' (.eq (Bb (l := p.Rates) hr) (C6 (fun hz => no fun h => h.1 hz) fun hz => ?_))
 dsimp only at hz ⊢
 rw [Zs]
 refine C6 (fun ho => ?_) fun ho => no fun h => ho h.2
 obtain ⟨x, hx1, hx2, hx3, hx4⟩ := Yj (r := p.Rates[k]'(by omega)) (B := B) (b := c) (hse.g (by omega)) hfo hw.prods hw.bats ⟨hz, Y.1, Y.2.1⟩ hB hc
 refine .bind' (.eq (Bb aa) ?_)
 dsimp only
 rw [mR (hse.g (by omega)) hfo hw.prods hw.bats ⟨hz, Y.1, Y.2.1⟩ hB hc, hx1]
 refine .bind' (.pure (.bind' (.ix k rfl (by omega) ?_)))
 unfold P8.J11
 dsimp only
 refine .pure ⟨by simp [i1], fun i hi => ?_, fun i s' r' hi O ho' => ?_⟩
 ·have G : k ≠ i := by
   rintro rfl
   exact hi ⟨s, _, ⟨hs, hr, hz⟩, ho⟩
  rw [List.getElem?_set_ne G]
  exact i2 i hi
 ·by_cases G : i = k
  ·subst G
   have e1 := O.seg; have e2 := O.rate
   rw [hs] at e1; cases e1
   rw [hr] at e2; cases e2
   exact ⟨x, _, List.getElem?_set_self (by omega), hx2, hx3, hx4, aa, hx1⟩
  ·rw [List.getElem?_set_ne (Ne.symm G)]
   exact i3 i s' r' (by omega) O ho'
theorem rT {ord : Li} {k v : Nat} {B : Int} {done : Li} (hw : W21 n b pr f) (hp : FlowOk n p) (hk : ord[k]? = some (v : Int)) (h : Inv n B K N S) (hB : 100000000 ≤ B ∧ B ≤ 900000000000000) (hv : v < n.Nodes.length)
  (hj : JR n b pr f p done K N S) (hnd : (v : Int) ∉ done)
  (hin : ∀ i s r, Flw n p i s r → (Bn s r).2 = (v : Int) → (Bn s r).1 ∈ done)
  (hout : ∀ i s r, Flw n p i s r → (Bn s r).1 = (v : Int) → (Bn s r).2 ∉ done) :
  Ok (P8.B4 n b pr f p (ord, 0) k (K, N, S)) fun st => Inv n (B + 50000000000) st.1 st.2.1 st.2.2 ∧ JR n b pr f p (done ++ [(v : Int)]) st.1 st.2.1 st.2.2 := by
 have hn := hw.net
 have hbl : ∀ (i : Nat) (O : List Level), S[i]? = some O → O.length ≤ 20 := fun i O hi => by
  have hil := (gs hi).1
  have hsl := h.sl
  exact (h.sb i O _ hi (gq (by omega))).1
 have hone : ∀ {i : Nat} {s s' : Sg} {r r' : Int}, Flw n p i s r → Flw n p i s' r' → s = s' ∧ r = r' := fun h1 h2 => by
  have e1 := h2.seg; have Y := h2.rate
  rw [h1.seg] at e1; cases e1
  rw [h1.rate] at Y; cases Y
  exact ⟨rfl, rfl⟩
 have hDD : ∀ {i : Nat} {s : Sg} {r : Int}, Flw n p i s r → (DD n p done i ↔ (Bn s r).1 ∈ done) := fun G => by
  constructor
  ·rintro ⟨s', r', hf', Z⟩
   obtain ⟨rfl, rfl⟩ := hone G hf'
   exact Z
  ·exact fun Z => ⟨_, _, G, Z⟩
 have aa : ∀ {i : Nat} {s : Sg} {r : Int}, Flw n p i s r → (DD n p (done ++ [(v : Int)]) i ↔ (Bn s r).1 ∈ done ∨ (Bn s r).1 = (v : Int)) := fun G => by
  constructor
  ·rintro ⟨s', r', hf', Z⟩
   obtain ⟨rfl, rfl⟩ := hone G hf'
   simpa using Z
  ·exact fun Z => ⟨_, _, G, by simpa using Z⟩
 unfold P8.B4
 refine .bind' (.eq (Bb (l := (ord, (0 : Int)).1) hk) (.bind (pC (S := S) hn hp) ?_))
 rintro l0 ⟨c0, c1⟩
 unfold P8.J6
 refine .bind (rO (b := b) (pr := pr) (f := f) (K := K) (N := N) hn hp c0 c1 h.sl hj.segs hbl hin) ?_
 rintro l ⟨d0, d1⟩
 unfold P8.J7
 refine C6 (fun hz => ?_) fun hz => ?_
 ·-- nothing comes
  have hl : l = [] := List.length_eq_zero_iff.1 (by omega)
  subst hl
  have hnone : ∀ c, ¬ Come n p S (fun _ => True) (fun _ => True) (v : Int) c := fun c hc => by have := (d1 c).2 hc; cases this
  have hno : ∀ i s r, Flw n p i s r → (Bn s r).1 ≠ (v : Int) := fun i s r G ho => by
   rcases Tk hn hp G ho with ⟨k, q, x, g1, g2, g3, g4⟩ | ⟨j, s2, r2, g1, g2⟩
   ·exact hnone _ (.inl ⟨k, q, x, trivial, g1, g2, g3, g4, rfl⟩)
   ·obtain ⟨O, h1, _⟩ := hj.segs j s2 r2 g1 ((hDD g1).2 (hin j s2 r2 g1 g2))
    exact hnone _ (.inr ⟨j, s2, r2, O, trivial, g1, g2, h1, rfl⟩)
  have same : ∀ i s r, Flw n p i s r → (DD n p (done ++ [(v : Int)]) i ↔ DD n p done i) := fun i s r G => by
   rw [hDD G, aa G]
   exact ⟨fun h => h.elim id fun h => absurd h (hno i s r G), .inl⟩
  unfold P8.J5
  refine .pure ⟨h.mono (by omega), fun w hw' hm => ?_, fun w hw' hm => hj.out w hw' fun h => hm (by simp [h]), fun i s r G Z => hj.segs i s r G ((same i s r G).1 Z), fun i O hi hl => hj.segs0 i O (fun s r G Z => hi s r G ((same i s r G).2 Z)) hl⟩
  dsimp only
  rcases List.mem_append.1 hm with hm | hm
  ·obtain ⟨k', c', g1, g2, g3⟩ := hj.inn w hw' hm
   exact ⟨k', c', g1, g2, g3.congr fun d => Come.congr (fun _ _ _ => Iff.rfl) same⟩
  ·have hwv : w = v := by simp at hm; omega
   subst hwv
   obtain ⟨g1, g2⟩ := hj.out w hw' hnd
   refine ⟨false, ⟨0, 0⟩, g1, g2, ⟨(fun h => by cases h), fun ⟨d, Z⟩ => ?_⟩, fun _ => rfl, (fun h => by cases h), (fun h => by cases h), (fun h => by cases h)⟩
   refine absurd ?_ (hnone d)
   rcases Z with Z | ⟨i, s, r, O, _, h2⟩
   ·exact .inl Z
   ·exact .inr ⟨i, s, r, O, trivial, h2⟩
 ·-- something comes
  have hl : l ≠ [] := fun h => hz (by simp [h])
  obtain ⟨y, hy, hmin⟩ := sZ hl d0 d1
  obtain ⟨hK, hN⟩ := hj.out v hv hnd
  refine .bind' (.eq (show ix l 0 = some (0, y) from Bb hy) (.bind hmin ?_))
  rintro ⟨lo, hi⟩ hM
  dsimp only at hM ⊢
  obtain ⟨bd, hbd⟩ : ∃ bd : Bounds, bd = ⟨lo, hi⟩ := ⟨_, rfl⟩
  rw [← hbd] at hM
  have hcB : ∀ c, Come n p S (fun _ => True) (fun _ => True) (v : Int) c → Bd B c := by
   rintro c (⟨i, q, x, _, g1, _, _, _, rfl⟩ | ⟨i, s, r, O, _, g1, g2, g3, rfl⟩)
   ·have := (hn.ports i q g1).pressure
    exact ⟨Int.le_refl _, by dsimp only; omega, by dsimp only; omega⟩
   ·obtain ⟨lv', h1, h2, _⟩ := hj.segs i s r g1 ((hDD g1).2 (hin i s r g1 g2))
    rw [g3] at h1; cases h1
    have hb := h.sb i O s g3 g1.seg
    unfold Ik
    split
    ·have e : O[O.length - 1]? = some (O[O.length - 1]'(by omega)) := gq _
     rw [e]; exact (hb.2 _ (mg e)).1
    ·have e : O[0]? = some (O[0]'(by omega)) := gq _
     rw [e]; exact (hb.2 _ (mg e)).1
  have hbdB : Bd B bd := by
   obtain ⟨e1, m1, m2⟩ := hM.lo rfl
   obtain ⟨Y, m3, m4⟩ := hM.hi rfl
   have l1 := hM.le rfl _ m3
   have q1 := hcB _ m1; have q2 := hcB _ m3
   obtain ⟨u1, u2, u3⟩ := q1
   obtain ⟨w1, w2, w3⟩ := q2
   refine ⟨?_, by omega, by omega⟩
   have := hM.le rfl _ m3
   omega
  unfold P8.J8
  refine .bind' (.eq (Bb hK) (.bind' (.eq (Bb hN) ?_)))
  rw [show (lo, hi) = (bd.Low, bd.High) by rw [hbd]]
  refine .bind (sX hn hp ⟨by omega, by omega⟩ hbdB) ?_
  rintro ⟨clo, chi⟩ hE
  obtain ⟨c, hc⟩ : ∃ c : Bounds, c = ⟨clo, chi⟩ := ⟨_, rfl⟩
  dsimp only at hE ⊢
  rw [← hc] at hE
  have hbv : (N.set v bd)[v]? = some bd := List.getElem?_set_self (gs hN).1
  have hI1 : Inv n B (K.set v true) (N.set v bd) S := by
   refine ⟨by simp [h.kl], by simp [h.nl], h.sl, fun z hz => ?_, h.sb⟩
   rcases List.mem_or_eq_of_mem_set hz with hz | rfl
   ·exact h.nb z hz
   ·exact hbdB
  have hcb : Bd (B + 2000000) c := hI1.ent (b := b) hn hp ⟨by omega, by omega⟩ hbv hE
  unfold P8.J9
  rw [show (clo, chi) = (c.Low, c.High) by rw [hc]]
  refine .bind (sY hw hp ⟨by omega, by omega⟩ hcb h.sl) ?_
  rintro S' ⟨s1, s2, s3⟩
  unfold P8.J5
  have hnA : ∀ i s r, Flw n p i s r → (Bn s r).1 ≠ (v : Int) → S'[i]? = S[i]? := fun i s r G ho => s2 i fun ⟨s', r', hf', ho'⟩ => by
   obtain ⟨rfl, rfl⟩ := hone G hf'
   exact ho ho'
  refine .pure ⟨⟨by simp [h.kl], by simp [h.nl], s1, fun z hz => ?_, fun i O s hi hs => ?_⟩, fun w hw' hm => ?_, fun w hw' hm => ?_, fun i s r G Z => ?_, fun i O hi hlv => ?_⟩
  ·dsimp only at hz
   rcases List.mem_or_eq_of_mem_set hz with hz | rfl
   ·exact (h.nb z hz).mono (by omega)
   ·exact hbdB.mono (by omega)
  ·dsimp only at hi
   by_cases hA : ∃ s r, Flw n p i s r ∧ (Bn s r).1 = (v : Int)
   ·obtain ⟨s', r, G, ho⟩ := hA
    obtain ⟨lv', fi, q1, q2, q3, q4, _⟩ := s3 i s' r G ho
    rw [hi] at q1; cases q1
    have e1 := G.seg
    rw [hs] at e1; cases e1
    exact ⟨q3, fun z hz => ⟨(q4 z hz).1.mono (by omega), (q4 z hz).2⟩⟩
   ·rw [s2 i hA] at hi
    have := h.sb i O s hi hs
    exact ⟨this.1, fun z hz => ⟨(this.2 z hz).1.mono (by omega), (this.2 z hz).2⟩⟩
  ·dsimp only
   rcases List.mem_append.1 hm with hm | hm
   ·have hwv : v ≠ w := by rintro rfl; exact hnd hm
    obtain ⟨k', c', g1, g2, g3⟩ := hj.inn w hw' hm
    refine ⟨k', c', by rw [List.getElem?_set_ne hwv]; exact g1, by rw [List.getElem?_set_ne hwv]; exact g2, g3.congr fun d => ?_⟩
    constructor
    ·rintro (Z | ⟨i, s, r, O, e1, Y, e3, e4, e5⟩)
     ·exact .inl Z
     ·have hf1 : (Bn s r).1 ≠ (v : Int) := fun ho => hout i s r Y ho (by rw [e3]; exact hm)
      exact .inr ⟨i, s, r, O, (hDD Y).2 (((aa Y).1 e1).elim id fun h => absurd h hf1), Y, e3, by rw [← hnA i s r Y hf1]; exact e4, e5⟩
    ·rintro (Z | ⟨i, s, r, O, e1, Y, e3, e4, e5⟩)
     ·exact .inl Z
     ·have hf1 : (Bn s r).1 ≠ (v : Int) := fun ho => hout i s r Y ho (by rw [e3]; exact hm)
      exact .inr ⟨i, s, r, O, (aa Y).2 (.inl ((hDD Y).1 e1)), Y, e3, by rw [hnA i s r Y hf1]; exact e4, e5⟩
   ·have hwv : w = v := by simp at hm; omega
    subst hwv
    have hKl := (gs hK).1
    refine ⟨true, bd, List.getElem?_set_self hKl, hbv, hM.congr fun d => ?_⟩
    have hne : ∀ i s r, Flw n p i s r → (Bn s r).2 = (w : Int) → (Bn s r).1 ≠ (w : Int) := fun i s r G ht ho => hnd (by rw [← ho]; exact hin i s r G ht)
    constructor
    ·rintro (Z | ⟨i, s, r, O, e1, Y, e3, e4, e5⟩)
     ·exact .inl Z
     ·exact .inr ⟨i, s, r, O, trivial, Y, e3, by rw [← hnA i s r Y (hne i s r Y e3)]; exact e4, e5⟩
    ·rintro (Z | ⟨i, s, r, O, e1, Y, e3, e4, e5⟩)
     ·exact .inl Z
     ·exact .inr ⟨i, s, r, O, (aa Y).2 (.inl (hin i s r Y e3)), Y, e3, by rw [hnA i s r Y (hne i s r Y e3)]; exact e4, e5⟩
  ·dsimp only
   have hwv : v ≠ w := by rintro rfl; exact hm (by simp)
   obtain ⟨g1, g2⟩ := hj.out w hw' fun h => hm (by simp [h])
   exact ⟨by rw [List.getElem?_set_ne hwv]; exact g1, by rw [List.getElem?_set_ne hwv]; exact g2⟩
  ·dsimp only
   by_cases ho : (Bn s r).1 = (v : Int)
   ·obtain ⟨O, fi, q1, q2, q3, q4, q5, q6⟩ := s3 i s r G ho
    have hKl := (gs hK).1
    exact ⟨O, q1, q2, v, bd, c, fi, ho, List.getElem?_set_self hKl, hbv, hE, q5, q6⟩
   ·obtain ⟨O, q1, q2, a, bd', c', fi, e1, Y, e3, e4⟩ := hj.segs i s r G ((hDD G).2 (((aa G).1 Z).elim id fun h => absurd h ho))
    have hav : v ≠ a := fun h => ho (by rw [e1, h])
    exact ⟨O, by rw [hnA i s r G ho]; exact q1, q2, a, bd', c', fi, e1, by rw [List.getElem?_set_ne hav]; exact Y, by rw [List.getElem?_set_ne hav]; exact e3, e4⟩
  ·dsimp only at hlv
   have hA : ¬ ∃ s r, Flw n p i s r ∧ (Bn s r).1 = (v : Int) := fun ⟨s, r, G, ho⟩ => hi s r G ((aa G).2 (.inr ho))
   rw [s2 i hA] at hlv
   exact hj.segs0 i O (fun s r G Z => hi s r G ((aa G).2 (.inl ((hDD G).1 Z)))) hlv
end
section
variable {n : Nw} {b : List Batch} {pr : List Product} {f : List (List Piece)} {p : Plan}
theorem Z7 (hw : W21 n b pr f) : Qk n f = some 0 := by
 have hn := hw.net; have hfl := hw.fills.len
 have G : ∀ (k : Nat) (x : List Piece), f[k]? = some x → ∃ s, n.Segments[k]? = some s ∧ FillOk s.Capacity x ∧ 1 ≤ s.Capacity ∧ s.Capacity ≤ 1000 := by
  intro k x Y
  have hk := (gs Y).1
  have O : n.Segments[k]? = some (n.Segments[k]'(by omega)) := gq _
  exact ⟨_, O, hw.fills.all k x _ Y O, (hn.segs k _ O).cap⟩
 have : Ok (Qk n f) fun r => r = 0 := by
  unfold Qk
  rw [Wn hn]
  refine .bind' (.pure (Cl (fun h => absurd rfl h) fun _ => ?_))
  rw [if_neg (by simp; omega)]
  refine .bind' (.forL (fun _ _ => True) (fun _ => False) trivial ?_ ?_ fun _ h => h.elim)
  ·intro k x _ Y _
   obtain ⟨s, O, Z, h2⟩ := G k x Y
   unfold Qk.B4
   rw [Le Z h2]
   exact .bind' (.pure (De (fun h => by cases h) fun _ => .pure trivial))
  ·intro _ _
   simp only [Sum.elim_inl]
   unfold Qk.J1
   refine .bind' (.forL (fun _ _ => True) (fun _ => False) trivial ?_ (fun _ _ => .pure rfl) fun _ h => h.elim)
   intro k x _ Y _
   obtain ⟨s, O, Z, h2⟩ := G k x Y
   unfold Qk.B3
   rw [X1 Z.vol (by have := Z.sum; omega)]
   refine .bind' (.pure (.bind' (.eq (Bb O) ?_)))
   dsimp only
   rw [Z.sum]
   exact Cl (fun h => absurd rfl h) fun _ => .pure trivial
 obtain ⟨r, h, rfl⟩ := this
 exact h
theorem oV (hw : W21 n b pr f) (hp : FlowOk n p) : P8 n b pr f p = Ff n b pr f p := by
 have hn := hw.net
 have hn1 := hn.nodes; have hs1 := hn.segs1
 obtain ⟨x, hx, hSx⟩ := H6 hw hp
 have : Ok (P8 n b pr f p) fun r => r.2 = 0 ∧ Sol n b pr f p r.1 := by
  obtain ⟨G, ho, hT, hfull⟩ := Ww hn hp
  have eo : V4 n p = some (G, 0) := by
   unfold V4
   rw [bW hn hp, ho]; rfl
  have hol : G.length ≤ 6 := by
   have := hT.nodup.length_le_of_subset (l₂ := (List.range n.Nodes.length).map fun v : Nat => (v : Int)) fun v hv => by
    have := hT.rng v hv
    exact List.mem_map.2 ⟨v.toNat, List.mem_range.2 (by omega), by omega⟩
   simp at this; omega
  unfold P8
  refine .bind' (.eq (bW hn hp) (Cl (fun h => absurd rfl h) fun _ => .bind' (.eq (Z7 hw) (Cl (fun h => absurd rfl h) fun _ => .bind' (.eq (Lf hw.prods) (Cl (fun h => absurd rfl h) fun _ => ?_))))))
  refine .bind' (.forL (fun _ _ => True) (fun _ => False) trivial ?_ ?_ fun _ h => h.elim)
  ·intro k x _ hx _
   have hk := (gs hx).1
   have hs : n.Segments[k]? = some (n.Segments[k]'(by have := hw.fills.len; omega)) := gq _
   have O := hw.fills.all k x _ hx hs
   unfold P8.B22
   rw [Ld O hw.bats]
   exact .bind' (.pure (De (fun h => by cases h) fun _ => .pure trivial))
  ·intro _ _
   simp only [Sum.elim_inl]
   unfold P8.J1
   refine .bind' (.mk n.Nodes.length rfl (by omega) (.bind' (.mk n.Nodes.length rfl (by omega) (.bind' (.mk n.Segments.length rfl (by omega) ?_)))))
   unfold P8.J2
   refine .bind' (.eq eo ?_)
   dsimp only
   refine .bind (.forJ (fun k (st : List Bool × List Bounds × List (List Level)) => Inv n (100000000 + 50000000000 * (k : Int)) st.1 st.2.1 st.2.2 ∧ JR n b pr f p (G.take k) st.1 st.2.1 st.2.2) ⟨?_, ?_⟩ ?_ fun st h => h) ?_
   ·refine ⟨by simp, by simp, by simp, fun c hc => ?_, fun i lv s hi hs => ?_⟩
    ·have := List.eq_of_mem_replicate hc
     subst this
     exact ⟨Int.le_refl _, by dsimp only; omega, by dsimp only; omega⟩
    ·rw [List.getElem?_replicate] at hi
     split at hi
     ·cases hi; exact ⟨by simp, by simp⟩
     ·cases hi
   ·refine ⟨fun w Y hm => by simp at hm, fun w Y _ => ⟨by simp [Y], by simp [Y]⟩, ?_, fun i lv _ hl => ?_⟩
    ·rintro i s r _ ⟨s', r', _, h⟩
     simp at h
    ·dsimp only at hl
     rw [List.getElem?_replicate] at hl
     split at hl
     ·cases hl; rfl
     ·cases hl
   ·rintro k ⟨K, N, S⟩ hk ⟨hI, hJ⟩
    dsimp only at hI hJ
    have hg : G[k]? = some (G[k]'hk) := gq _
    have hv := hT.rng _ (mg hg)
    obtain ⟨v, hve⟩ := Hw hv.1
    rw [hve] at hg hv
    have hnd : (v : Int) ∉ G.take k := fun hm => by
     obtain ⟨j, Z⟩ := List.getElem?_of_mem hm
     rw [List.getElem?_take] at Z
     split at Z
     ·rename_i hjk
      have hjl := (gs Z).1
      have := (List.getElem?_inj hjl hT.nodup).1 (Z.trans hg.symm)
      omega
     ·cases Z
    have hin : ∀ i s r, Flw n p i s r → (Bn s r).2 = (v : Int) → (Bn s r).1 ∈ G.take k := hT.topo k _ hg
    have hout : ∀ i s r, Flw n p i s r → (Bn s r).1 = (v : Int) → (Bn s r).2 ∉ G.take k := by
     intro i s r O ho hm
     obtain ⟨j, Z⟩ := List.getElem?_of_mem hm
     rw [List.getElem?_take] at Z
     split at Z
     ·rename_i hjk
      have := hT.topo j _ Z i s r O rfl
      rw [ho] at this
      exact hnd ((List.take_subset_take_left G (by omega)) this)
     ·cases Z
    refine (rT hw hp hg hI (by omega) (by omega) hJ hnd hin hout).mono fun st h => ⟨h.1.mono (by omega), ?_⟩
    rw [List.take_add_one, hg]; exact h.2
   ·rintro ⟨K, N, S⟩ ⟨hI, hJ⟩
    dsimp only at hI hJ
    unfold P8.J3
    have hall : ∀ w, 0 ≤ w → w < (n.Nodes.length : Int) → w ∈ G.take G.length := fun w h0 h1 => by
     rw [List.take_length]
     have := hfull w.toNat (by omega)
     rwa [show ((w.toNat : Nat) : Int) = w by omega] at this
    have hD : ∀ i s r, Flw n p i s r → DD n p (G.take G.length) i := fun i s r O => by
     obtain ⟨a, c, h1, h2, h3, h4, _⟩ := Gj hn O
     exact ⟨s, r, O, hall _ (by omega) (by omega)⟩
    refine .pure ⟨rfl, hI.mono (by omega), fun w Y => ?_, fun i s r O => hJ.segs i s r O (hD i s r O), fun i lv h0 hl => hJ.segs0 i lv (fun s r O => ?_) hl⟩
    ·obtain ⟨k, c, g1, g2, g3⟩ := hJ.inn w Y (hall _ (by omega) (by omega))
     exact ⟨k, c, g1, g2, g3.congr fun d => Come.congr (fun _ _ _ => Iff.rfl) fun i s r O => by simp only [true_iff]; exact hD i s r O⟩
    ·have := O.rate
     rw [h0] at this
     exact absurd (Option.some.inj this).symm O.ne
 obtain ⟨⟨y, e⟩, hy, h1, h2⟩ := this
 dsimp only at h1 h2
 subst h1
 rw [hy, hx, Sf hw hp h2 hSx]
theorem lV {s : Sg} (h1 : 1 ≤ s.Points.length ∧ s.Points.length ≤ 1000) (x : Int) : Nn s x = some (Mt s.Points x) := by
 have : Ok (Nn s x) fun r => r = Mt s.Points x := by
  unfold Nn
  refine .bind (Q := fun d : Int => d = Mt s.Points x) ?_ (by rintro _ rfl; unfold Nn.J1; exact .pure rfl)
  refine .loop (fun G : Int × Int => ∃ k : Nat, G.2 = ((k + 1 : Nat) : Int) ∧ k + 1 ≤ s.Points.length ∧ G.1 = Ic s.Points x k) (fun G => s.Points.length - G.2.toNat) ⟨0, rfl, by omega, rfl⟩ (by dsimp only; omega) ?_
  rintro ⟨m, i⟩ ⟨k, e1, e2, e3⟩
  dsimp only at e1 e2 e3
  subst e1 e3
  unfold Nn.B2
  dsimp only
  refine A7 (fun hlt => ?_) fun hn => .pure ?_
  ·have Y : s.Points[k]? = some (s.Points[k]'(by omega)) := gq _
   have Z : s.Points[k + 1]? = some (s.Points[k + 1]'(by omega)) := gq _
   have e := R7 (x := x) Y Z
   have no : ¬ (s.Points[k].At ≤ x ∧ x ≤ s.Points[k + 1].At) → Ok (Nn.J4 s (Ic s.Points x k, ((k + 1 : Nat) : Int)) false) (Sum.elim (fun G : Int × Int => (∃ k : Nat, G.2 = ((k + 1 : Nat) : Int) ∧ k + 1 ≤ s.Points.length ∧ G.1 = Ic s.Points x k) ∧ s.Points.length - G.2.toNat < s.Points.length - (((k + 1 : Nat) : Int)).toNat) fun d : Int => d = Mt s.Points x) := by
    intro hh
    unfold Nn.J4 Nn.J3
    refine Bc (fun h => by cases h) fun _ => .pure ⟨⟨k + 1, ?_, by omega, ?_⟩, ?_⟩
    ·dsimp only; rw [Av (by omega)]; omega
    ·dsimp only; rw [e, if_neg hh]
    ·dsimp only; rw [Av (by omega)]; omega
   rw [Av (by omega), show ((k + 1 : Nat) : Int) - 1 = (k : Int) by omega, Bb Y, Bb Z]
   simp only [Option.bind_some]
   refine A7 (fun h2 => ?_) fun h2 => no (by omega)
   by_cases O : x ≤ s.Points[k + 1].At
   ·rw [show decide (x ≤ s.Points[k + 1].At) = true by simpa using O]
    unfold Nn.J4 Nn.J3
    refine Bc (fun _ => ?_) fun h => by cases h
    dsimp only
    rw [Av (x := ((k + 1 : Nat) : Int) - 1) (by omega), show ((k + 1 : Nat) : Int) - 1 = (k : Int) by omega, Bb Y, Bb Z]
    refine .bind' (.pure (.bind' (.pure (.pure ⟨⟨k + 1, ?_, by omega, ?_⟩, ?_⟩))))
    ·dsimp only; rw [Av (by omega)]; omega
    ·dsimp only; rw [e, if_pos ⟨h2, O⟩]
    ·dsimp only; rw [Av (by omega)]; omega
   ·rw [show decide (x ≤ s.Points[k + 1].At) = false by simpa using O]
    exact no (by omega)
  ·unfold Mt
   rw [show s.Points.length - 1 = k by omega]; rfl
 obtain ⟨r, h, rfl⟩ := this
 exact h
theorem lO {x : Pressures} {e : Li} (hn : NetOk n) (hp : p.Pumps.length = n.Stations.length) (O : Inv n 400000000000 x.Known x.Nodes x.Segments) (he : ExOk n e) : Nd n x p e = some true := by
 have h1 := O.kl; have h2 := O.nl; have h3 := O.sl; have h4 := he.len
 have G : ∀ c : Bounds, Bd 400000000000 c → Kw c = false := by
  rintro c ⟨a1, a2, a3⟩
  unfold Kw
  simp; omega
 have : Ok (Nd n x p e) fun r => r = true := by
  unfold Nd
  rw [Wn hn]
  refine .bind' (.pure (Cl (fun h => absurd rfl h) fun _ => Cl (fun h => by omega) fun _ => Cl (fun h => by omega) fun _ => Cl (fun h => by omega) fun _ => Cl (fun h => by omega) fun _ => ?_))
  rw [show ((e.length : Int) != (n.Segments.length : Int)) = false by simp; omega]
  unfold Nd.J1
  refine Bc (fun h => by cases h) fun _ => .bind' (.forL (fun _ _ => True) (fun _ => False) trivial ?_ ?_ fun _ h => h.elim)
  ·intro k y _ Z _
   have := he.all y (mg Z)
   unfold Nd.B10
   rw [if_neg (by simp; omega)]
   exact .pure trivial
  ·intro _ _
   simp only [Sum.elim_inl]
   unfold Nd.J2
   refine .bind' (.forL (fun _ _ => True) (fun _ => False) trivial ?_ ?_ fun _ h => h.elim)
   ·intro k y _ Z _
    unfold Nd.B9
    rw [G y (O.nb y (mg Z))]
    exact Bc (fun h => by cases h) fun _ => .pure trivial
   ·intro _ _
    simp only [Sum.elim_inl]
    unfold Nd.J3
    refine .bind' (.forL (fun _ _ => True) (fun _ => False) trivial ?_ (fun _ _ => .pure rfl) fun _ h => h.elim)
    intro k lv _ Y _
    have hk := (gs Y).1
    have hs : n.Segments[k]? = some (n.Segments[k]'(by omega)) := gq _
    have hg := O.sb k lv _ Y hs
    unfold Nd.B5
    refine .bind' (.forL (fun _ _ => True) (fun _ => False) trivial ?_ (fun _ _ => .pure trivial) fun _ h => h.elim)
    intro j y _ Z _
    have aa := hg.2 y (mg Z)
    unfold Nd.B7
    rw [G _ aa.1]
    refine Bc (fun h => by cases h) fun _ => ?_
    rw [if_neg (by simp; omega)]
    refine .bind' (.eq (Bb hs) ?_)
    unfold Nd.J8
    exact Bc (fun h => by simp at h; omega) fun _ => .pure trivial
 obtain ⟨r, h, rfl⟩ := this
 exact h
end
theorem Jo {α β S B : Type} {f : Nat → α → S → Option (S ⊕ B)} {g : Nat → β → S → Option (S ⊕ B)} : ∀ {l : List α} {m : List β} {k : Nat} {st : S}, l.length = m.length →
  (∀ (j : Nat) (x : α) (y : β) (st : S), l[j]? = some x → m[j]? = some y → f (k + j) x st = g (k + j) y st) → forL f k l st = forL g k m st
 | [], [], _, _, _, _ => rfl
 | [], _ :: _, _, _, h, _ => by simp at h
 | _ :: _, [], _, _, h, _ => by simp at h
 | x :: l, y :: m, k, st, h, hfg => by
  have G := hfg 0 x y st rfl rfl
  simp only [Nat.add_zero] at G
  have Z : ∀ st, forL f (k + 1) l st = forL g (k + 1) m st := fun st => Jo (by simpa using h) fun j a c st O Y => by
   have := hfg (j + 1) a c st (by simpa using O) (by simpa using Y)
   rw [show k + 1 + j = k + (j + 1) by omega]; exact this
  simp only [forL, G]
  cases g k y st with
  | none => rfl
  | some r => cases r with
   | inl s => exact Z s
   | inr b => rfl
section
variable {n : Nw} {b : List Batch} {pr : List Product} {f : List (List Piece)} {p : Plan}
theorem pT {x : Pressures} {e : Li} (hn : NetOk n) (hp : p.Pumps.length = n.Stations.length) (O : Inv n 400000000000 x.Known x.Nodes x.Segments) (he : ExOk n e) : Vj n x p e = F9 n x p e := by
 have h1 := O.kl; have h2 := O.nl; have h3 := O.sl; have h4 := he.len
 unfold Vj F9
 rw [lO hn hp O he, Tb hn hp O he]
 simp only [Option.bind_some, Bool.not_true, Bool.false_eq_true, if_false]
 have Y : forL (Vj.B5 n x e) 0 n.Segments () = forL (K7.B2 e n) 0 x.Segments () := by
  refine Jo (by omega) fun k s lv st G Z => ?_
  simp only [Nat.zero_add]
  unfold Vj.B5 K7.B2
  rw [Bb Z]
  simp only [Option.bind_some]
  have hpl := (hn.segs k s G).points.len
  have hin : forL (Vj.B7 n e k s) 0 lv () = forL (K7.B4 e n k) 0 lv () := by
   refine Jo rfl fun j y y' st hy hy' => ?_
   rw [hy] at hy'; cases hy'
   unfold Vj.B7 K7.B4
   rw [Bb G, lV ⟨by omega, by omega⟩]
   have hk := (gs G).1
   have ha : e[k]? = some (e[k]'(by omega)) := gq _
   rw [Bb ha]
   simp only [Option.bind_some]
   rw [N2 ⟨by omega, by omega⟩]
   simp only [Option.bind_some]
  rw [hin]
  rfl
 rw [Y]
 obtain ⟨r2, hr2⟩ := Tt hn hp O
 have hsts : Vj.J1 n x p () = Gp n p x := by
  unfold Vj.J1 Gp
  rw [Jo (g := Gp.B2 p x) rfl fun k s s' st G hs' => by
   rw [G] at hs'; cases hs'
   rfl]
  rfl
 unfold K7
 obtain ⟨r1, aa, _⟩ := Tu hn O he
 unfold K7 at aa
 cases ho : forL (K7.B2 e n) 0 x.Segments () with
 | none => rw [ho] at aa; cases aa
 | some o =>
  cases o with
  | inl u =>
   simp only [Option.bind_some, Sum.elim_inl]
   rw [show Vj.J1 n x p () = Gp n p x from hsts]
   unfold K7.J1 F9.K
   rfl
  | inr d =>
   simp only [Option.bind_some, Sum.elim_inr]
   have hd : d.2 = true := by
    have hq : Ok (forL (K7.B2 e n) 0 x.Segments ()) (Sum.elim (fun _ : Unit => True) fun d : Fault × Bool => d.2 = true) := by
     refine .forL (fun _ _ => True) (fun d => d.2 = true) trivial ?_ (fun _ _ => trivial) fun _ h => h
     intro k lv _ Z _
     have hk := (gs Z).1
     have G : n.Segments[k]? = some (n.Segments[k]'(by omega)) := gq _
     have ha : e[k]? = some (e[k]'(by omega)) := gq _
     have hpl := (hn.segs k _ G).points.len
     unfold K7.B2
     refine .bind (Q := Sum.elim (fun _ : Unit => True) fun d : Fault × Bool => d.2 = true) (.forL (fun _ _ => True) (fun d => d.2 = true) trivial ?_ (fun _ _ => trivial) fun _ h => h) ?_
     ·intro j y _ hy _
      unfold K7.B4
      refine .bind' (.eq (Bb ha) (.bind' (.eq (Bb G) (.bind' (.eq (N2 ⟨by dsimp only; omega, by dsimp only; omega⟩ _) ?_)))))
      exact A7 (fun _ => .pure rfl) fun _ => A7 (fun _ => .pure rfl) fun _ => .pure trivial
     ·rintro (_ | d) hd
      ·unfold K7.J3; exact .pure trivial
      ·exact .pure hd
    obtain ⟨o, h, h'⟩ := hq
    rw [ho] at h
    cases h
    exact h'
   unfold F9.K
   rw [hd]
   rfl
theorem pS (hw : W21 n b pr f) (hp : FlowOk n p) {x : Pressures} {Z : Fault} {G : Bool} (Y : Ff n b pr f p = some (x, 0)) (hS : Inv n 400000000000 x.Known x.Nodes x.Segments) (hb : F9 n x p (List.replicate n.Segments.length 0) = some (Z, G)) :
  V2 n b pr f p = some (if G = true then Z else ⟨0, 0, 0⟩, if G = true then 15 else 0) := by
 have hn := hw.net; have hs1 := hn.segs1
 have hz : ExOk n (List.replicate n.Segments.length 0) := ⟨by simp, fun x Y => by have := List.eq_of_mem_replicate Y; omega⟩
 have O : So (n.Segments.length : Int) (0 : Int) = some (List.replicate n.Segments.length 0) := by
  obtain ⟨r, h, rfl⟩ := (Ok.mk (z := (0 : Int)) (P := fun r => r = List.replicate n.Segments.length 0) n.Segments.length rfl (by omega) rfl)
  exact h
 unfold V2
 rw [oV hw hp, Y]
 simp only [Option.bind_some, bne_self_eq_false, Bool.false_eq_true, if_false]
 rw [O]
 simp only [Option.bind_some]
 rw [pT hn hp.ml hS hz, hb]
 unfold V2.J1
 cases G <;> rfl
end
structure ChOk (n : Network) (cs : List Change) : Prop where
 first : ∀ c, cs[0]? = some c → c.Tick = 0
 up : ∀ (i : Nat) (a c : Change), cs[i]? = some a → cs[i + 1]? = some c → a.Tick < c.Tick
 plan : ∀ c, c ∈ cs → PlanOk n c.Plan
theorem aG {n : Nw} (hn : NetOk n) {s : Xf} (G : SrcOk s) : Ok (Qb s n) fun r => ChOk n r.1 ∧ (1 ≤ r.1.length ∧ r.1.length ≤ 4) ∧ (∀ c, c ∈ r.1 → c.Tick ≤ 800) ∧ SrcOk r.2 := by
 unfold Qb
 refine .bind (Eo G (by omega) (by omega) (by omega)) ?_
 rintro ⟨m, s⟩ ⟨G, h1, h2⟩
 dsimp only at G h1 h2 ⊢
 refine .bind (Q := fun o : Li × Int × List Change => ChOk n o.2.2 ∧ (1 ≤ o.2.2.length ∧ o.2.2.length ≤ 4) ∧ (∀ c, c ∈ o.2.2 → c.Tick ≤ 800) ∧ SrcOk ⟨o.1, o.2.1⟩) ?_ ?_
 ·refine .loop (S := Li × Int × List Change × Int × Int) (fun O => SrcOk ⟨O.1, O.2.1⟩ ∧ ChOk n O.2.2.1 ∧ 0 ≤ O.2.2.2.2 ∧ (O.2.2.1.length : Int) + O.2.2.2.2 = m ∧ (∀ c, c ∈ O.2.2.1 → c.Tick < O.2.2.2.1) ∧ 0 ≤ O.2.2.2.1 ∧ O.2.2.2.1 ≤ 200 * (O.2.2.1.length : Int) ∧ (O.2.2.1 = [] → O.2.2.2.1 = 0)) (fun O => O.2.2.2.2.toNat)
   ⟨G, ⟨by simp, by simp, by simp⟩, by dsimp only; omega, by simp, by simp, by simp, by simp, by simp⟩ (by dsimp only; omega) ?_
  rintro ⟨l, at_, cs, tick, left⟩ ⟨G, hc, h3, h4, h5, h6, h7, h8⟩
  dsimp only at G hc h3 h4 h5 h6 h7 h8
  unfold Qb.B2
  refine A7 (fun hpos => ?_) fun hno => .pure ?_
  ·dsimp only at hpos
   refine .bind (pD hn G) ?_
   rintro ⟨p, s1⟩ ⟨hp, G⟩
   dsimp only at hp G ⊢
   refine .bind' (.app (by simp; omega) (.bind (Ec G (by simp) (by simp)) ?_))
   rintro ⟨d, s2⟩ ⟨G, hd⟩
   dsimp only at G hd ⊢
   have hd3 : 1 ≤ d ∧ d ≤ 200 := by simp at hd; omega
   refine .bind (Eo G (by omega) (by omega) (by omega)) ?_
   rintro ⟨w, s3⟩ ⟨G, hw⟩
   dsimp only at G hw ⊢
   rw [Av (by omega), Av (by omega)]
   refine .pure ⟨⟨G, ⟨fun c aa => ?_, fun i a c ha Y => ?_, fun c Z => ?_⟩, by dsimp only; omega, by simp; omega, fun c Z => ?_, by dsimp only; omega, by simp; omega, by simp⟩, by dsimp only; omega⟩
   ·cases cs with
    | nil => simp at aa; subst aa; exact h8 rfl
    | cons x cs => exact hc.first c (by simpa using aa)
   ·have hil := (gs Y).1
    simp at hil
    rw [List.getElem?_append_left (by omega)] at ha
    by_cases hi : i + 1 < cs.length
    ·rw [List.getElem?_append_left hi] at Y; exact hc.up i a c ha Y
    ·have : i + 1 = cs.length := by omega
     rw [List.getElem?_append_right (by omega), this] at Y
     simp at Y; subst Y
     exact h5 a (mg ha)
   ·rcases List.mem_append.1 Z with h | h
    ·exact hc.plan c h
    ·simp at h; subst h; exact hp
   ·rcases List.mem_append.1 Z with h | h
    ·have := h5 c h; dsimp only; omega
    ·simp at h; subst h; dsimp only; omega
  ·dsimp only at hno
   have : left = 0 := by omega
   subst this
   exact ⟨hc, ⟨by dsimp only; omega, by dsimp only; omega⟩, fun c Z => by have := h5 c Z; omega, G⟩
 rintro ⟨l, at_, cs⟩ h
 exact .pure h
def rl (n : Nw) (a b : Plan) : Li := (Kx n a b).getD []
theorem bM {n : Nw} {a b : Plan} (Y : NetOk n) (ha : PlanOk n a) (hb : PlanOk n b) : Kx n a b = some (rl n a b) ∧ (rl n a b).length = n.Segments.length ∧ ∀ x, x ∈ rl n a b → 0 ≤ x ∧ x ≤ 1600000000 := by
 have hi := rP Y ha hb
 have hs1 := Y.segs1
 obtain ⟨r, h, ρ, Z⟩ := oW hi
 have e : rl n a b = r := by unfold rl; rw [h]; rfl
 rw [e]
 refine ⟨h, Z.len, fun x hx => ?_⟩
 obtain ⟨i, G⟩ := List.getElem?_of_mem hx
 have hv := Z.is i x G
 have O := Re (f := wv n a b) (b := 200000000) (l := Mr n a b ρ n.Segments.length (ρ (fr n i))) fun y hy => by
  obtain ⟨j, rfl, hj, _⟩ := Jf.1 hy
  exact Zl hi hj
 have hgl := bS (n := n) (a := a) (b := b) (ρ := ρ) (k := n.Segments.length) (r := ρ (fr n i))
 split at hv
 ·rw [hv]; omega
 ·omega
def jV (n : Nw) (S : Int) (c : Change) (i : Nat) (a x : Change) : Int := if c.Tick - x.Tick ≤ S then (rl n a.Plan x.Plan).getD i 0 else 0
def Lq (n : Nw) (S : Int) (c : Change) (i : Nat) : List Change → Int
 | [] => 0
 | [_] => 0
 | a :: x :: l => jV n S c i a x + Lq n S c i (x :: l)
theorem Xw {n : Nw} {S : Int} {c : Change} {i : Nat} (a x : Change) : ∀ l : List Change, Lq n S c i (l ++ [a, x]) = Lq n S c i (l ++ [a]) + jV n S c i a x
 | [] => by simp [Lq]
 | [y] => by simp [Lq]
 | y :: z :: l => by
  have := Xw (n := n) (S := S) (c := c) (i := i) a x (z :: l)
  simp only [List.cons_append, Lq] at this ⊢
  omega
theorem kJ {n : Nw} (Y : NetOk n) {S : Int} {c a x : Change} {i : Nat} (O : PlanOk n a.Plan) (Z : PlanOk n x.Plan) : 0 ≤ jV n S c i a x ∧ jV n S c i a x ≤ 1600000000 := by
 obtain ⟨_, h2, G⟩ := bM Y O Z
 unfold jV
 split
 ·rw [List.getD_eq_getElem?_getD]
  cases h : (rl n a.Plan x.Plan)[i]? with
  | none => simp
  | some y => have := G y (mg h); simpa using this
 ·omega
theorem Zm {n : Nw} (G : NetOk n) {S : Int} {c : Change} {i : Nat} : ∀ {l : List Change}, (∀ x, x ∈ l → PlanOk n x.Plan) → 0 ≤ Lq n S c i l ∧ Lq n S c i l ≤ 1600000000 * (l.length : Int)
 | [], _ => by simp [Lq]
 | [_], _ => by simp [Lq]
 | a :: x :: l, h => by
  have Z := kJ G (S := S) (c := c) (i := i) (h a (by simp)) (h x (by simp))
  have O := Zm G (S := S) (c := c) (i := i) (l := x :: l) fun y Y => h y (List.mem_cons_of_mem _ Y)
  simp only [Lq, List.length_cons] at O ⊢
  omega
theorem Xx {n : Nw} (O : NetOk n) {S T : Int} (G : S ≤ T) {c : Change} {i : Nat} : ∀ {l : List Change}, (∀ x, x ∈ l → PlanOk n x.Plan) → Lq n S c i l ≤ Lq n T c i l
 | [], _ => by simp [Lq]
 | [_], _ => by simp [Lq]
 | a :: x :: l, h => by
  have Y := kJ O (S := T) (c := c) (i := i) (h a (by simp)) (h x (by simp))
  have h2 := Xx O G (c := c) (i := i) (l := x :: l) fun y Z => h y (List.mem_cons_of_mem _ Z)
  simp only [Lq]
  unfold jV at Y ⊢
  split <;> split <;> simp_all <;> omega
def D4 (n : Nw) (S : Int) (cs : List Change) (k : Nat) : Li := (List.range n.Segments.length).map fun i => Lq n S ((cs[k + 1]?).getD ⟨0, ⟨[], [], []⟩⟩) i (cs.take (k + 2))
theorem cR {n : Nw} {S : Int} {c : Change} {i : Nat} : ∀ {l : List Change}, l.length ≤ 1 → Lq n S c i l = 0
 | [], _ => rfl
 | [_], _ => rfl
 | _ :: _ :: _, h => by simp at h
theorem lG {cs : List Change} {t : Nat} {a x : Change} (G : cs[t]? = some a) (O : cs[t + 1]? = some x) : cs.take (t + 1) = cs.take t ++ [a] ∧ cs.take (t + 2) = cs.take t ++ [a, x] := by
 have e : cs.take (t + 1) = cs.take t ++ [a] := by rw [List.take_add_one, G]; rfl
 refine ⟨e, ?_⟩
 rw [List.take_add_one, O, e, List.append_assoc]; rfl
theorem cK {n : Nw} (hn : NetOk n) {cs : List Change} (hl : cs.length ≤ 40) (hp : ∀ c, c ∈ cs → PlanOk n c.Plan) (ht : ∀ c, c ∈ cs → 0 ≤ c.Tick ∧ c.Tick ≤ 1000000) {k : Nat} {c : Change} (hc : cs[k + 1]? = some c) : M9 n cs ((k + 1 : Nat) : Int) = some (D4 n n.Settle cs k) := by
 have hs1 := hn.segs1; have hse := hn.settle
 have hk := (gs hc).1
 have htc := ht c (mg hc)
 have Z : ∀ m, ∀ x, x ∈ cs.take m → PlanOk n x.Plan := fun m x hx => hp x (List.mem_of_mem_take hx)
 have : Ok (M9 n cs ((k + 1 : Nat) : Int)) fun q => q = D4 n n.Settle cs k := by
  unfold M9
  refine .bind' (.mk n.Segments.length rfl (by omega) (.bind (Q := fun d : Li => d = D4 n n.Settle cs k) ?_ (by rintro _ rfl; unfold M9.J1; exact .pure rfl)))
  refine .loop (fun G : Li × Int => ∃ t : Nat, G.2 = ((t + 1 : Nat) : Int) ∧ t ≤ k + 1 ∧ G.1.length = n.Segments.length ∧ ∀ i : Nat, i < n.Segments.length → G.1[i]? = some (Lq n n.Settle c i (cs.take (t + 1)))) (fun G => k + 2 - G.2.toNat)
   ⟨0, rfl, by omega, by simp, fun i hi => by rw [cR (by rw [List.length_take]; omega), List.getElem?_replicate, if_pos hi]⟩ (by dsimp only; omega) ?_
  rintro ⟨out, _⟩ ⟨t, rfl, h1, h2, h3⟩
  dsimp only at h2 h3
  unfold M9.B2
  dsimp only
  refine A7 (fun hle => ?_) fun hno => .pure ?_
  ·have hx : cs[t + 1]? = some (cs[t + 1]'(by omega)) := gq _
   have ha : cs[t]? = some (cs[t]'(by omega)) := gq _
   generalize cs[t + 1]'(by omega) = x at hx
   generalize cs[t]'(by omega) = a at ha
   have htx := ht x (mg hx)
   obtain ⟨e1, e2⟩ := lG ha hx
   have es : ∀ i, Lq n n.Settle c i (cs.take (t + 2)) = Lq n n.Settle c i (cs.take (t + 1)) + jV n n.Settle c i a x := fun i => by rw [e1, e2, Xw]
   have j3 : ∀ q : Li, q.length = n.Segments.length → (∀ i : Nat, i < n.Segments.length → q[i]? = some (Lq n n.Settle c i (cs.take (t + 2)))) → Ok (M9.J3 (out, ((t + 1 : Nat) : Int)) q) (Sum.elim (fun G => (∃ t : Nat, G.2 = ((t + 1 : Nat) : Int) ∧ t ≤ k + 1 ∧ G.1.length = n.Segments.length ∧ ∀ i : Nat, i < n.Segments.length → G.1[i]? = some (Lq n n.Settle c i (cs.take (t + 1)))) ∧ k + 2 - G.2.toNat < k + 2 - (((t + 1 : Nat) : Int)).toNat) fun d => d = D4 n n.Settle cs k) := by
    intro q hq1 hq2
    unfold M9.J3
    exact .pure ⟨⟨t + 1, by dsimp only; rw [Av (by omega)]; omega, by omega, hq1, hq2⟩, by dsimp only; rw [Av (by omega)]; omega⟩
   refine .bind' (.eq (Bb hc) (.bind' (.eq (Bb hx) ?_)))
   dsimp only
   rw [Av (by omega)]
   refine A7 (fun hgt => j3 out h2 fun i hi => ?_) fun hng => ?_
   ·rw [h3 i hi, es, show jV n n.Settle c i a x = 0 by unfold jV; rw [if_neg (by omega)], Int.add_zero]
   ·rw [Av (by omega), show ((t + 1 : Nat) : Int) - 1 = (t : Int) by omega]
    obtain ⟨r1, r2, r3⟩ := bM hn (hp a (mg ha)) (hp x (mg hx))
    refine .bind' (.eq (Bb ha) (.bind' (.eq r1 ?_)))
    have hb := fun i => Zm hn (S := n.Settle) (c := c) (i := i) (Z (t + 1))
    have hbl : (cs.take (t + 1)).length ≤ 40 := by rw [List.length_take]; omega
    have key : ∀ i : Nat, i < n.Segments.length → jV n n.Settle c i a x = (rl n a.Plan x.Plan).getD i 0 := fun i hi => by unfold jV; rw [if_pos (by omega)]
    refine .bind (Q := fun q : Li => q.length = n.Segments.length ∧ ∀ i : Nat, i < n.Segments.length → q[i]? = some (Lq n n.Settle c i (cs.take (t + 2)))) ?_ fun q hq => j3 q hq.1 hq.2
    refine .forJ (fun m (q : Li) => q.length = n.Segments.length ∧ ∀ i : Nat, i < n.Segments.length → q[i]? = some (Lq n n.Settle c i (cs.take (t + 1)) + if i < m then jV n n.Settle c i a x else 0)) ⟨h2, fun i hi => by rw [h3 i hi, if_neg (Nat.not_lt_zero _), Int.add_zero]⟩ ?_ ?_
    ·rintro m q hm ⟨q1, q2⟩
     have Y : (rl n a.Plan x.Plan)[m]? = some ((rl n a.Plan x.Plan)[m]'hm) := gq _
     have hqm := q2 m (by omega)
     rw [if_neg (Nat.lt_irrefl _), Int.add_zero] at hqm
     have hrb := r3 _ (mg Y)
     have hbm := hb m
     have O := key m (by omega)
     rw [List.getD_eq_getElem?_getD, Y, Option.getD_some] at O
     unfold M9.B4
     refine .bind' (.eq (Bb Y) (.bind' (.eq (Bb hqm) (.pure ⟨by simp [q1], fun i hi => ?_⟩))))
     dsimp only
     rw [Av (by omega)]
     by_cases him : i = m
     ·subst him
      rw [List.getElem?_set_self (by omega), if_pos (by omega), O]
     ·rw [List.getElem?_set_ne (by omega), q2 i hi]
      by_cases h5 : i < m
      ·rw [if_pos h5, if_pos (by omega)]
      ·rw [if_neg h5, if_neg (by omega)]
    ·rintro q ⟨q1, q2⟩
     exact ⟨q1, fun i hi => by rw [q2 i hi, if_pos (by omega), es]⟩
  ·have : t = k + 1 := by omega
   subst this
   simp only [Sum.elim_inr]
   refine List.ext_getElem? fun i => ?_
   unfold D4
   by_cases hi : i < n.Segments.length
   ·rw [h3 i hi, List.getElem?_map, List.getElem?_range hi, hc]; rfl
   ·rw [List.getElem?_eq_none (by omega), List.getElem?_eq_none (by simp; omega)]
 obtain ⟨q, h, rfl⟩ := this
 exact h
theorem N0 {n : Nw} {S : Int} {cs : List Change} {k i : Nat} {x : Int} (h : (D4 n S cs k)[i]? = some x) : i < n.Segments.length ∧ x = Lq n S ((cs[k + 1]?).getD ⟨0, ⟨[], [], []⟩⟩) i (cs.take (k + 2)) := by
 have hi := (gs h).1
 unfold D4 at h hi
 rw [List.length_map, List.length_range] at hi
 rw [List.getElem?_map, List.getElem?_range hi] at h
 simp at h
 exact ⟨hi, h.symm⟩
theorem S7 {n : Nw} (O : NetOk n) {S : Int} {cs : List Change} (hl : cs.length ≤ 40) (Y : ∀ c, c ∈ cs → PlanOk n c.Plan) (k : Nat) : ExOk n (D4 n S cs k) := by
 refine ⟨by simp [D4], fun x G => ?_⟩
 obtain ⟨i, hi⟩ := List.getElem?_of_mem G
 obtain ⟨_, rfl⟩ := N0 hi
 have := Zm O (S := S) (c := (cs[k + 1]?).getD ⟨0, ⟨[], [], []⟩⟩) (i := i) (l := cs.take (k + 2)) fun x G => Y x (List.mem_of_mem_take G)
 rw [List.length_take] at this
 omega
theorem Yv {n : Nw} {S : Int} {cs : List Change} {m k : Nat} (h : k + 1 < m) : D4 n S (cs.take m) k = D4 n S cs k := by
 unfold D4
 rw [List.getElem?_take, if_pos h, List.take_take, Nat.min_eq_left (by omega)]
theorem Yw {n : Nw} (O : NetOk n) {S T : Int} (h : S ≤ T) {cs : List Change} (Y : ∀ c, c ∈ cs → PlanOk n c.Plan) {k i : Nat} {x y : Int} (G : (D4 n S cs k)[i]? = some x) (Z : (D4 n T cs k)[i]? = some y) : x ≤ y := by
 obtain ⟨_, rfl⟩ := N0 G
 obtain ⟨_, rfl⟩ := N0 Z
 exact Xx O h fun x G => Y x (List.mem_of_mem_take G)
def Gk (n : Nw) (S : Int) : Nw := ⟨n.Nodes, n.Segments, n.Ports, n.Stations, n.Vapour, S⟩
theorem dB {n : Nw} (G : NetOk n) {S : Int} (h : 0 ≤ S ∧ S ≤ 100) : NetOk (Gk n S) := ⟨G.nodes, G.names, G.segs1, G.segs, G.ports1, G.ports, G.portsUp, G.sts1, G.sts, G.stsUp, G.vapour, h⟩
theorem R2 {n : Nw} {p : Plan} (h : PlanOk n p) (S : Int) : PlanOk (Gk n S) p := by
 cases h; constructor <;> assumption
theorem S6 {n : Nw} {b : List Batch} {pr : List Product} {f : List (List Piece)} (G : W21 n b pr f) {S : Int} (h : 0 ≤ S ∧ S ≤ 100) : W21 (Gk n S) b pr f :=
 ⟨dB G.net h, G.prods, G.bats, by cases G.fills; constructor <;> assumption⟩
theorem Tl (n : Nw) (S : Int) (p : Plan) : Flw (Gk n S) p = Flw n p := by
 funext i s r; exact propext ⟨fun h => ⟨h.seg, h.rate, h.ne⟩, fun h => ⟨h.seg, h.rate, h.ne⟩⟩
theorem aF (n : Nw) (S : Int) (p : Plan) (T : List (List Level)) (P D : Nat → Prop) : Come (Gk n S) p T P D = Come n p T P D := by
 funext w c; unfold Come; rw [Tl]; rfl
theorem dF {n : Nw} {S B : Int} {K : List Bool} {N : List Bounds} {T : List (List Level)} (h : Inv (Gk n S) B K N T) : Inv n B K N T := by
 cases h; constructor <;> assumption
theorem cQ {n : Nw} {b : List Batch} {pr : List Product} {f : List (List Piece)} {p : Plan} {S : Int} {x : Pressures} (h : Sol (Gk n S) b pr f p x) : Sol n b pr f p x := by
 refine ⟨dF h.inv, fun w O => ?_, fun i s r G => ?_, h.segs0⟩
 ·have := h.nodes w O
  rw [aF] at this; exact this
 ·have := h.segs i s r (by rw [Tl]; exact G)
  exact this
theorem Yz {n : Nw} {b : List Batch} {pr : List Product} {f : List (List Piece)} (O : W21 n b pr f) {S : Int} (h : 0 ≤ S ∧ S ≤ 100) {p : Plan} (G : PlanOk n p) : Ff (Gk n S) b pr f p = Ff n b pr f p := by
 obtain ⟨x, hx, Y⟩ := H6 O G.flow
 obtain ⟨y, hy, Z⟩ := H6 (S6 O h) (R2 G S).flow
 rw [hx, hy, Sf O G.flow Y (cQ Z)]
theorem Tr {n : Nw} {b : List Batch} {pr : List Product} {f : List (List Piece)} (O : W21 n b pr f) {S : Int} (h : 0 ≤ S ∧ S ≤ 100) {p : Plan} (G : PlanOk n p) (e : Li) : Oo (Gk n S) b pr f p e ↔ Oo n b pr f p e := by
 unfold Oo
 rw [Yz O h G]
 exact Iff.rfl
theorem S9 (n : Nw) (S T : Int) (c : Change) (i : Nat) : ∀ l : List Change, Lq (Gk n S) T c i l = Lq n T c i l
 | [] => rfl
 | [_] => rfl
 | a :: x :: l => by
  have := S9 n S T c i (x :: l)
  simp only [Lq] at this ⊢
  rw [this]; rfl
theorem Ws (n : Nw) (S T : Int) (cs : List Change) (k : Nat) : D4 (Gk n S) T cs k = D4 n T cs k := by
 unfold D4
 exact List.map_congr_left fun i _ => S9 n S T _ i _
theorem Xs {n : Nw} {cs : List Change} (h : ChOk n cs) : ∀ (i : Nat) (c : Change), cs[i]? = some c → 0 ≤ c.Tick
 | 0, c, hc => by have := h.first c hc; omega
 | i + 1, c, hc => by
  have hi := (gs hc).1
  have G : cs[i]? = some (cs[i]'(by omega)) := gq _
  have := Xs h i _ G
  have := h.up i _ c G hc
  omega
theorem ChOk.take {n : Nw} {cs : List Change} (h : ChOk n cs) (m : Nat) : ChOk n (cs.take m) := by
 have q : ∀ {i : Nat} {c : Change}, (cs.take m)[i]? = some c → cs[i]? = some c := fun {i c} G => by
  rw [List.getElem?_take] at G
  split at G
  ·exact G
  ·cases G
 exact ⟨fun c G => h.first c (q G), fun i a c O G => h.up i a c (q O) (q G), fun c G => h.plan c (List.mem_of_mem_take G)⟩
theorem Lc {n : Nw} {b : List Batch} {pr : List Product} {f : List (List Piece)} (Y : W21 n b pr f) {cs : List Change} (hc : ChOk n cs) (hl : 1 ≤ cs.length ∧ cs.length ≤ 4) (Z : ∀ c, c ∈ cs → c.Tick ≤ 800) :
  Ok (Kz n b pr f cs) fun r => (r.2 = 0 ∧ Lv n b pr f (D4 n n.Settle cs) cs) ∨ (r.2 = 15 ∧ ¬ Lv n b pr f (D4 n n.Settle cs) cs) := by
 have G : 1 ≤ cs.length ∧ cs.length ≤ 40 := by omega
 refine (lM (E := D4 n n.Settle cs) Y G (Z9 G hc.first hc.up fun c O => by have := Z c O; omega) hc.plan fun k c hk => ⟨cK Y.net G.2 hc.plan (fun c O => ?_) hk, S7 Y.net G.2 hc.plan k⟩).mono ?_
 ·obtain ⟨i, hi⟩ := List.getElem?_of_mem O
  have := Xs hc i c hi
  have := Z c O
  omega
 ·rintro r (⟨rfl, h⟩ | ⟨h1, h2, _⟩)
  ·exact .inl ⟨rfl, h⟩
  ·exact .inr ⟨h1, h2⟩
theorem sF {n : Nw} {b : List Batch} {pr : List Product} {f : List (List Piece)} {p : Plan} {e e' : Li} (hl : e.length = e'.length) (h : ∀ (i : Nat) (a a' : Int), e[i]? = some a → e'[i]? = some a' → a ≤ a') (hb : Oo n b pr f p e) : Oo n b pr f p e' := by
 obtain ⟨x, G, O⟩ := hb
 exact ⟨x, G, O.mono hl h⟩
theorem Yx (l : Li) (Y G : Int) (hcut : 0 ≤ Y ∧ Y ≤ 255) (hmore : 0 ≤ G ∧ G ≤ 255) : Vw l Y G = some true := by
 have : Ok (Vw l Y G) fun r => r = true := by
  unfold Vw
  refine .bind (rU l) fun s hs => .bind (rV hs) ?_
  rintro ⟨n, s1⟩ ⟨hn, hs1⟩
  dsimp only at hn hs1 ⊢
  refine .bind (Y0 hs1) ?_
  rintro ⟨pr, s2⟩ ⟨hpr, hs2⟩
  dsimp only at hpr hs2 ⊢
  refine .bind (mB hn hs2) ?_
  rintro ⟨f, s3⟩ ⟨hf, hs3⟩
  dsimp only at hf hs3 ⊢
  refine .bind (aJ hs3 hpr.len) ?_
  rintro ⟨b, s4⟩ ⟨hb, hs4⟩
  dsimp only at hb hs4 ⊢
  have hw : W21 n b pr f := ⟨hn, hpr, hb, hf⟩
  refine .bind (aG hn hs4) ?_
  rintro ⟨cs, s5⟩ ⟨Z, aa, htk, _⟩
  dsimp only at Z aa htk ⊢
  have hse := hn.settle
  rw [Av (x := Y) (by omega)]
  have x1 := Int.tmod_lt_of_pos Y (show 0 < (cs.length : Int) by omega)
  have x0 : 0 ≤ Y.tmod (cs.length : Int) := Int.tmod_nonneg _ hcut.1
  refine .bind' (.rem (by omega) ?_)
  generalize Y.tmod (cs.length : Int) = x24 at x0 x1
  obtain ⟨t, rfl⟩ := Hw x0
  refine .bind (Lc hw Z aa htk) ?_
  rintro ⟨fe, e⟩ he
  dsimp only at he
  rw [Av (by omega)]
  refine .bind' (.sub 0 (t + 1) rfl (by omega) (by omega) (by omega) ?_)
  simp only [List.drop_zero, Nat.sub_zero]
  have hct := Z.take (t + 1)
  refine .bind (Lc hw hct (by rw [List.length_take]; omega) fun c h => htk c (List.mem_of_mem_take h)) ?_
  rintro ⟨fg, g⟩ hg
  dsimp only at hg
  unfold Vw.J1
  dsimp only
  rw [Av (x := G) (by omega), Av (by omega)]
  have hS : 0 ≤ min 100 (n.Settle + G) ∧ min 100 (n.Settle + G) ≤ 100 := by omega
  have hSle : n.Settle ≤ min 100 (n.Settle + G) := by omega
  generalize min 100 (n.Settle + G) = S at hS hSle
  have hcS : ChOk (Gk n S) cs := ⟨Z.first, Z.up, fun c h => R2 (Z.plan c h) S⟩
  refine .bind (Lc (S6 hw hS) hcS aa htk) ?_
  rintro ⟨fh, h⟩ hh
  dsimp only at hh
  have ex := fun k => S7 (S := n.Settle) hn (by omega : cs.length ≤ 40) Z.plan k
  have eg : e = 0 → g = 0 := fun h0 => by
   rcases he with ⟨_, hE⟩ | ⟨h15, _⟩
   ·rcases hg with ⟨h, _⟩ | ⟨_, hno⟩
    ·exact h
    ·refine absurd ⟨fun c O => ?_, fun k a c O h2 => ?_⟩ hno
     ·rw [List.getElem?_take] at O
      split at O
      ·exact hE.1 c O
      ·cases O
     ·have hk := (gs h2).1
      rw [List.length_take] at hk
      rw [List.getElem?_take, if_pos (by omega)] at O h2
      rw [Yv (by omega)]
      exact hE.2 k a c O h2
   ·omega
  have he' : h = 0 → e = 0 := fun h0 => by
   rcases hh with ⟨_, hE⟩ | ⟨h15, _⟩
   ·rcases he with ⟨h, _⟩ | ⟨_, hno⟩
    ·exact h
    ·have up : ∀ (c : Change) (k : Nat), c ∈ cs → Oo n b pr f c.Plan (D4 n n.Settle cs k) → Oo (Gk n S) b pr f c.Plan (D4 (Gk n S) (Gk n S).Settle cs k) := fun c k hm hb => by
      rw [Tr hw hS (Z.plan c hm), Ws]
      exact sF (by simp [D4]) (fun i a a' O h2 => Yw hn hSle Z.plan O h2) hb
     refine absurd ⟨fun c O hb => hE.1 c O ?_, fun k a c O h2 => ⟨fun hb => (hE.2 k a c O h2).1 ?_, fun hb => (hE.2 k a c O h2).2 ?_⟩⟩ hno
     ·exact (Tr hw hS (Z.plan c (mg O)) (Ib n)).2 hb
     ·exact up a k (mg O) hb
     ·exact up c k (mg h2) hb
   ·omega
  have e1 : e = 0 ∨ e = 15 := he.elim (fun h => .inl h.1) fun h => .inr h.1
  have g1 : g = 0 ∨ g = 15 := hg.elim (fun h => .inl h.1) fun h => .inr h.1
  have O : h = 0 ∨ h = 15 := hh.elim (fun h => .inl h.1) fun h => .inr h.1
  rw [if_neg (by
   rcases e1 with rfl | rfl <;> rcases g1 with rfl | rfl <;> rcases O with rfl | rfl <;> simp at eg he' <;> simp)]
  refine .bind' (.forL (fun _ _ => True) (fun _ => False) trivial ?_ ?_ fun _ h => h.elim)
  ·intro k c _ hk _
   have hp := Z.plan c (mg hk)
   obtain ⟨x, hx, hI⟩ := Xv hw hp.flow
   obtain ⟨⟨fa, fb⟩, hbk, hbr⟩ := Yh hn hp.ml hI (Xq n)
   unfold Vw.B3 Vw.J4
   refine .bind' (.eq (pS hw hp.flow hx hI hbk) ?_)
   dsimp only
   refine Bc (fun hbad => ?_) fun _ => .pure trivial
   simp at hbad
   obtain ⟨rfl, hfb⟩ := hbad
   rcases he with ⟨_, hE⟩ | ⟨h15, _⟩
   ·have hz : Oo n b pr f c.Plan (Ib n) := ⟨x, hx, hbr.1 hfb⟩
    cases k with
    | zero => exact absurd hz (hE.1 c hk)
    | succ j =>
     have hj := (gs hk).1
     exact absurd (mM (ex j) hz) (hE.2 j _ c (gq (by omega)) hk).2
   ·omega
  ·intro _ _
   simp only [Sum.elim_inl]
   unfold Vw.J2
   rw [pW]
   exact .bind' (.pure (.pure rfl))
 obtain ⟨r, h, rfl⟩ := this
 exact h
end Go.Proofs.YtodeekicjiengaaGreatDoor
namespace Go.Aw
set_option linter.unusedVariables false
set_option linter.unusedSimpArgs false
open Go.ChangeShapes Go.WideShapes Go.ChangeAt Go.RowKit
section
variable {H : Type} {enc : TypeId × Value → H} {P : Program}
theorem Kh (hl : laidOutB P = true) {W W' : World} (hb : Below W.heap.size W W') : ∀ {O : List TypeId} {vs : List Value} {ds : List (DataW H)} {G : List MemPlace},
  (∀ t, t ∈ O → P.readableRec t = true ∧ t < P.types.size) → (∀ x, x ∈ G → x.block < W.heap.size) → DataW.TrodAll enc P W 0 (fun _ => true) true O vs ds G →
  DataW.TrodAll enc P W' 0 (fun b => decide (b < W.heap.size)) true O vs ds G
 | [], vs, ds, G, _, _, h => by
  cases vs <;> cases ds <;> simp [DataW.TrodAll] at h ⊢
  exact h
 | t :: O, vs, ds, G, ht, hlt, h => by
  obtain ⟨v, vs', d, ds', p, q, rfl, rfl, rfl, h1, h2⟩ := trodAll_cons h
  have hr := ht t (by simp)
  exact ⟨p, q, Below.trod hl hr.1 hr.2 h1 hb (fun x Z => hlt x (by simp [Z])), Kh hl hb (fun t Y => ht t (by simp [Y])) (fun x Z => hlt x (by simp [Z])) h2, rfl⟩
theorem lW {f : Func} {s : ChangeSpec} {W W' : World} {args : Array Value} {ds : List (DataW H)} {p : List MemPlace} {t : TypeId} (hW : DataW.Whole enc P f.params.toList s.vars false W args.toList ds [] (p ++ []))
  (hA : DataW.TrodAll enc P W 0 (fun _ => true) true f.params.toList args.toList ds p)
  (Y : (s.fn H (ds ++ [])).results = [.lit (.bool true)]) (G : (s.fn H (ds ++ [])).args = ds) (hv : (s.fn H (ds ++ [])).vars = []) (ab : s.vars = [])
  (Z : f.resultTypes.toList = [t]) (hu : P.underlying t = some .bool) (hl : laidOutB P = true) (O : ∀ t, t ∈ f.params.toList → P.readableRec t = true ∧ t < P.types.size)
  (hb : Below W.heap.size W W') : s.post enc P f false true false false W args (.bool true) W' := by
 have aa : ∀ x, x ∈ p → x.block < W.heap.size := fun x hx => hW.lt x (by simp [hx])
 have ac : f.resultTypes.size = 1 := by rw [← Array.length_toList, Z]; rfl
 refine ⟨ds, [], p ++ [], [], p, [], hW, ?_, ?_, ?_, hb.frame _, fun h => by cases h⟩
 ·rw [Y, Z, ac]
  exact trodAll_mk1 (shut_bool hu true)
 ·rw [G]
  exact Kh hl hb O aa hA
 ·rw [hv, ab]; rfl
def sU (k : IntKind) (l : Li) : T := .list 1 (l.map fun n => [.v (.int k n)])
theorem cZ {t e : TypeId} {k : IntKind} {W : World} {base : Nat} {r : Reach} {v : Value} {d : DataW H} {ps : List MemPlace} (ht : P.underlying t = some (.slice e)) (he : P.underlying e = some (.int k)) (hc : P.cellsOf e = 1)
  (hval : Value.okWide P W r base t v) (h : DataW.Trod enc P W 0 (fun _ => true) true t v d ps) :
  ∃ l : Li, (l.length ≤ Hf → VR (fun b => W.heap[b]?) v (sU k l)) ∧ (∀ n, n ∈ l → (Lit.int k n).wf = true) ∧ (l = [] ∨ ∃ elems spare, d = .slice elems spare ∧ l.length = elems.length) := by
 obtain ⟨a0, len, cap, rfl⟩ := okWide_slice ht hval
 obtain ⟨fuel, hf⟩ := h
 rcases open_ints ht he hc hf with ⟨G, Z⟩ | ⟨a, len', cap', zs, G, _, hl, hm, hz, Z, hcell, hwz⟩
 ·simp [Value.cells] at G
  obtain ⟨rfl, rfl, rfl⟩ := G
  exact ⟨[], fun _ => .empty _ _ _, by simp, .inl rfl⟩
 ·simp [Value.cells] at G
  obtain ⟨rfl, rfl, rfl⟩ := G
  simp only [Prod.mk.injEq] at Z
  obtain ⟨rfl, rfl⟩ := Z
  simp only [if_true] at hz
  have hlt : (zs.take len).length = len := by simp; omega
  refine ⟨zs.take len, fun hmax => ?_, fun n hn => hwz n (List.mem_of_mem_take hn), .inr ⟨_, _, rfl, by simp [lits]⟩⟩
  by_cases hl0 : len = 0
  ·subst hl0; simp only [List.take_zero, sU, List.map_nil]; exact .empty _ _ _
  ·obtain ⟨b, O, spot⟩ := a
   have hspot : spot = none := by simpa [Addr.add] using World.cell?_spot (hcell 0 (by omega))
   subst hspot
   have Y : ∀ i, i < zs.length → W.cell? ⟨b, O + i, none⟩ = some (.int k (zs.getD i 0)) := fun i hi => by rw [← D1]; exact hcell i hi
   have hc0 := Y 0 (by omega)
   have G : ∃ cs ty fr, W.heap[b]? = some (.cells cs ty fr) := by
    unfold World.cell? at hc0
    split at hc0
    ·rename_i c ty fr hh; exact ⟨_, _, _, hh⟩
    ·cases hc0
   obtain ⟨cs, ty, fr, hh⟩ := G
   have hcs' : ∀ i, i < zs.length → cs[O + i]? = some (.int k (zs.getD i 0)) := fun i hi => by
    have := Y i hi
    simpa [World.cell?, hh] using this
   have hlen : ((zs.take len).map fun n => [T.v (.int k n)]).length = len := by rw [List.length_map, hlt]
   have hbig : O + len ≤ cs.size := by
    have := (Array.getElem?_eq_some_iff.1 (hcs' (len - 1) (by omega))).1
    omega
   have hgd : ∀ i e, ((zs.take len).map fun n => [T.v (.int k n)])[i]? = some e → ∀ (j : Nat) (x : T), e[j]? = some x → j = 0 ∧ x = .v (.int k (zs.getD i 0)) ∧ cs.getD (O + i * 1 + j) undef = .int k (zs.getD i 0) := by
    intro i e he j x Z
    simp only [List.getElem?_map, Option.map_eq_some_iff] at he
    obtain ⟨n, hn, rfl⟩ := he
    have hil := (gs hn).1
    rw [hlt] at hil
    rw [List.getElem?_take_of_lt hil] at hn
    have hj : j = 0 := by have := (gs Z).1; simp at this; exact this
    subst hj
    simp at Z
    have hzi : zs.getD i 0 = n := by simp [List.getD, hn]
    refine ⟨rfl, by rw [hzi]; exact Z.symm, ?_⟩
    rw [Array.getD_eq_getD_getElem?, show O + i * 1 + 0 = O + i by omega, hcs' i (by omega)]; rfl
   have := VR.list (H := fun b => W.heap[b]?) b O cap 1 ((zs.take len).map fun n => [T.v (.int k n)]) cs ty fr hh (by rw [hlen]; exact hl) (by rw [List.length_map]; exact hmax) (by rw [hlen]; omega)
    (fun i e he => by simp only [List.getElem?_map, Option.map_eq_some_iff] at he; obtain ⟨n, _, rfl⟩ := he; rfl)
    (fun i e he j x Z => by rw [(hgd i e he j x Z).2.2]; rfl) (fun i e he j x Z => by rw [(hgd i e he j x Z).2.2, (hgd i e he j x Z).2.1]; exact .v _)
   rw [hlen] at this
   exact this
end
theorem qQ {n : Int} (h : (Lit.int .u8 n).wf = true) : 0 ≤ n ∧ n ≤ 255 := by
 have G : IntKind.u8.min = 0 := rfl
 have O : IntKind.u8.max = 255 := rfl
 simp only [Lit.wf, Bool.and_eq_true, decide_eq_true_eq] at h
 omega
theorem dE {E : Env} {f : FuncId} {Z : List T} {W : World} {args : Array Value} (O : cE fun b => W.heap[b]?) (hc : ACalls E f Z [] fun x _ => x = .v (.bool true)) (hsz : args.size = Z.length)
  (hv : ∀ (i : Nat) (x : T), Z[i]? = some x → VR (fun b => W.heap[b]?) (args.getD i undef) x) : Calls E.P f args W fun e W' => e = .returned (.bool true) ∧ Below W.heap.size W W' := by
 refine (hc.2 (fun b => W.heap[b]?) W args hsz hv ⟨fun _ _ h => h, O⟩ (by simp) (by simp)).mono ?_
 rintro e w' ⟨v, x, fp', H', rfl, rfl, Y, _, _, _, _, hs, ⟨e1, e2, e3⟩, G⟩
 refine ⟨by rw [Y.v_eq], ⟨e1, e2, e3, hs, fun k hk => (G k hk (by simp)).1⟩⟩
section
variable {H : Type} {enc : TypeId × Value → H} {P : Program} {w : World} {base : Nat} {spare : Nat → Bool} {held : Bool} {fuel : Nat} {t e i : TypeId} {cs : List Value} {p : List MemPlace}
theorem H7 {Y Z : Field} (ht : P.underlying t = some (.struct #[Y, Z])) (o0 : Y.offset = 0) (o1 : Z.offset = 1) (y0 : Y.type = i) (y1 : Z.type = i) (hi : P.underlying i = some (.int .i64)) (hc : P.cellsOf i = 1) (aa : P.cellsOf t = 2)
  {x : DataW H × List MemPlace} {a b : Int} (hx : x.1 = .agg [.lit (.int .i64 a), .lit (.int .i64 b)]) (h : DataW.trod enc P w base spare held fuel t cs = some x) : cs = [.int .i64 a, .int .i64 b] := by
 obtain ⟨z0, z1, n, rfl, hl, h0, h1⟩ := trod_struct2 ht h
 rw [aa] at hl
 rw [y0] at h0
 rw [y1] at h1
 obtain ⟨m0, G, rfl, _⟩ := DataW.trod_int hi h0
 obtain ⟨m1, O, rfl, _⟩ := DataW.trod_int hi h1
 rw [hc, o0] at G
 rw [hc, o1] at O
 simp only [DataW.agg.injEq, List.cons.injEq, DataW.lit.injEq, Lit.int.injEq, true_and, and_true] at hx
 match cs, hl with
 | [c0, c1], _ =>
  simp at G O
  rw [G, O, hx.1, hx.2]
theorem Yy {f0 f1 : Field} (ht : P.underlying t = some (.array 4 e)) (he : P.underlying e = some (.struct #[f0, f1])) (Y : f0.offset = 0) (Z : f1.offset = 1) (y0 : f0.type = i) (y1 : f1.type = i) (hi : P.underlying i = some (.int .i64)) (hc : P.cellsOf i = 1) (G : P.cellsOf e = 2) (hca : P.cellsOf t = 8)
  {a0 a1 a2 a3 a4 a5 a6 a7 : Int}
  (h : DataW.trod enc P w base spare held fuel t cs = some (.agg [.agg [.lit (.int .i64 a0), .lit (.int .i64 a1)], .agg [.lit (.int .i64 a2), .lit (.int .i64 a3)], .agg [.lit (.int .i64 a4), .lit (.int .i64 a5)], .agg [.lit (.int .i64 a6), .lit (.int .i64 a7)]], p)) :
  cs = [a0, a1, a2, a3, a4, a5, a6, a7].map fun n => .int .i64 n := by
 obtain ⟨xs, m, _, hx, hl, hn, O⟩ := DataW.trod_array ht h
 rw [hca] at hl
 match xs, hn with
 | [x0, x1, x2, x3], _ =>
  simp only [Prod.mk.injEq, DataW.agg.injEq, List.map_cons, List.map_nil, List.cons.injEq, and_true] at hx
  obtain ⟨⟨g0, g1, g2, g3⟩, _⟩ := hx
  have k0 := H7 he Y Z y0 y1 hi hc G g0.symm (by simpa using O 0 (by decide))
  have k1 := H7 he Y Z y0 y1 hi hc G g1.symm (by simpa using O 1 (by decide))
  have k2 := H7 he Y Z y0 y1 hi hc G g2.symm (by simpa using O 2 (by decide))
  have k3 := H7 he Y Z y0 y1 hi hc G g3.symm (by simpa using O 3 (by decide))
  rw [G] at k0 k1 k2 k3
  match cs, hl with
  | [c0, c1, c2, c3, c4, c5, c6, c7], _ =>
   simp at k0 k1 k2 k3
   simp [k0, k1, k2, k3]
theorem pK {W : World} {n : String} {cs : Array Value} {l : Li} (hn : P.globalNamed n = some 0) (h : W.var? P n = some cs) (Y : cs.toList = l.map fun n => .int .i64 n) (hgl : gl = [(0, l.map fun n => .v (.int .i64 n))]) : cE fun b => W.heap[b]? := by
 have hb : ∃ Z fr, W.heap[0]? = some (.cells cs Z fr) := by
  simp only [World.var?, hn, Option.bind_some] at h
  split at h
  ·rename_i c Z fr hh; cases h; exact ⟨Z, fr, hh⟩
  ·cases h
 obtain ⟨Z, fr, hb⟩ := hb
 intro b m hm
 rw [hgl] at hm
 simp only [List.mem_cons, List.not_mem_nil, or_false, Prod.mk.injEq] at hm
 obtain ⟨rfl, rfl⟩ := hm
 have G : ∀ (j : Nat) (x : T), (l.map fun n => T.v (.int .i64 n))[j]? = some x → ∃ n, x = .v (.int .i64 n) ∧ cs.getD (0 + j) undef = .int .i64 n := by
  intro j x O
  simp only [List.getElem?_map, Option.map_eq_some_iff] at O
  obtain ⟨n, hn, rfl⟩ := O
  refine ⟨n, rfl, ?_⟩
  have : cs.toList[j]? = some (.int .i64 n) := by rw [Y]; simp [hn]
  rw [Array.getElem?_toList] at this
  rw [Nat.zero_add, Array.getD_eq_getD_getElem?, this]; rfl
 refine .eptr 0 0 _ cs Z fr hb ?_ (fun j x O => ?_) fun j x O => ?_
 ·have := congrArg List.length Y
  simp at this
  simp; omega
 ·obtain ⟨n, _, h⟩ := G j x O
  rw [h]; rfl
 ·obtain ⟨n, rfl, h⟩ := G j x O
  rw [h]; exact .v _
end
end Go.Aw
