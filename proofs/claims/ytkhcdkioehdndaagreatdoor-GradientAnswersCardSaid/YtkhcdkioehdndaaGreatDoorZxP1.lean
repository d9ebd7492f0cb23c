/- Plain proofs. No condition. -/
import Derived.Test.YtkhcdkioehdndaaGreatDoorZxP0
import Derived.Test.YtkhcdkioehdndaaGreatDoorZxD
set_option maxRecDepth 100000
namespace Go.Proofs.YtkhcdkioehdndaaGreatDoor
set_option linter.unusedVariables false
set_option linter.unusedSimpArgs false
open Go.Aw
theorem Uf {a b : Int} (hb : 1 ≤ b ∧ b ≤ 1099511627776) (Z : -2305843009213693952 ≤ a ∧ a ≤ 2305843009213693952) : Iz a b = some (a / b, a % b, true) := by
 have h := Q7 (a := a) (b := b) (by omega)
 have M := Er (a := a) (b := b) (by omega)
 unfold dn at M
 have O := Int.emod_nonneg a (by omega : b ≠ 0)
 have Y := Int.emod_lt_of_pos a (by omega : 0 < b)
 have : Ok (Iz a b) fun r => r = (a / b, a % b, true) := by
  unfold Iz
  refine Bd (fun h => ?_) fun _ => ?_
  ·simp at h; omega
  refine .bind' (.quo (by omega) (.bind' (.rem (by omega) (As (fun G => ?_) fun G => ?_))))
  ·have D := h.1 G
   unfold Iz.J1
   rw [Ap (x := a.tdiv b) (by omega), Ap (by omega), Ap (by omega)]
   exact .pure (by rw [D.1, D.2])
  ·have D := h.2 G
   unfold Iz.J1
   rw [Ap (x := a.tdiv b) (by omega)]
   exact .pure (by rw [D.1, D.2])
 obtain ⟨r, h, rfl⟩ := this
 exact h
theorem L7 {a b : Int} (hb : 1 ≤ b ∧ b ≤ 1099511627776) (D : -2305843009213693952 ≤ a ∧ a ≤ 2305843009213693952) : Mi a b = some (dn a b) := by
 unfold Mi; rw [Uf hb D]; rfl
theorem T3 {a b : Int} (hb : 1 ≤ b ∧ b ≤ 1099511627776) (D : -2305843009213693952 ≤ a ∧ a ≤ 2305843009213693952) : Mn a b = some (up a b) := by
 have G := Er (a := a) (b := b) (by omega)
 unfold dn at G
 unfold Mn
 rw [Uf hb D]
 simp only [Option.bind_some, Bool.true_and, decide_eq_true_eq, gt_iff_lt, Mn.J1]
 unfold up
 split
 ·rw [Ap (by omega)]
 ·rfl
theorem cS {s : Sg} {q : Int} {x : gradient_part} (hc : 1 ≤ s.Capacity ∧ s.Capacity ≤ 1000) (Y : 0 ≤ s.Resist ∧ s.Resist ≤ 1000) (O : 1 ≤ q ∧ q ≤ 1000) (D : PartOk s x) :
  Ks x s q = some (lo s q x, hi s q x) := by
 have f := Zl Y O D
 have l := Zg D
 have w := D.width
 have b := Y4 hc.1 Y O D
 have Z : wr ((wr ((wr ((wr (s.Resist * x.liquid.Friction)) * q)) * q)) * x.length) = Ga s q x := by
  rw [Ap (x := s.Resist * x.liquid.Friction) (by omega), Ap (x := s.Resist * x.liquid.Friction * q) (by omega), Ap (x := s.Resist * x.liquid.Friction * q * q) (by omega)]
  exact Ap (x := Ga s q x) (by omega)
 have e2 : wr ((wr ((wr (x.liquid.Density * 9807)) * x.height)) * x.length) = Ib x := by
  rw [Ap (x := x.liquid.Density * 9807) (by omega), Ap (x := x.liquid.Density * 9807 * x.height) (by omega)]
  exact Ap (x := Ib x) (by omega)
 have e3 : wr (1000 * s.Capacity) = Fq s := Ap (by omega)
 have e4 : wr (1000 * x.width) = Ia x := Ap (by omega)
 have G : 1 ≤ Fq s ∧ Fq s ≤ 1099511627776 := by unfold Fq; omega
 have M : 1 ≤ Ia x ∧ Ia x ≤ 1099511627776 := by unfold Ia; omega
 unfold Ks
 rw [Z, e2, e3, e4, L7 G (by omega), L7 M (by omega), T3 G (by omega), T3 M (by omega)]
 have e5 : wr (dn (Ga s q x) (Fq s) + dn (Ib x) (Ia x)) = lo s q x := Ap (x := lo s q x) (by omega)
 have e6 : wr (up (Ga s q x) (Fq s) + up (Ib x) (Ia x)) = hi s q x := Ap (x := hi s q x) (by omega)
 simp only [Option.bind_some, e5, e6]
theorem Tm {f : List Piece} {b : List Batch} {p : List Product} {cap : Int} (hf : FillOk cap f) (hb : BatsOk p.length b) : Ok (Fg f b p) fun r => r.2 = 0 ∧ r.1.length = f.length ∧ ∀ y, y ∈ r.1 → y ∈ p := by
 have aa := hf.len
 unfold Fg
 refine .bind' (.forL (fun k M => M.length = k ∧ ∀ y, y ∈ M → y ∈ p) (fun _ => False) ⟨rfl, by simp⟩ ?_ ?_ fun _ h => h.elim)
 ·rintro k x M hx ⟨O, Y⟩
  have hk := (gs hx).1
  have Z := hf.bat x (mg hx)
  have hbl := hb.len
  unfold Fg.B2
  refine As (fun h => by omega) fun _ => .bind' (.ix' Z.1 (by omega) fun j y hj hy => ?_)
  have G := hb.all y (mg hy)
  refine Bd (fun h => ?_) fun _ => .bind' (.ix' G.1 G.2 fun i z hi hz => .bind' (.app (by simp; omega) (.pure ⟨by simp [O], fun w D => ?_⟩)))
  ·simp at h; omega
  ·rcases List.mem_append.1 D with D | D
   ·exact Y w D
   ·simp at D; subst D; exact mg hz
 ·rintro M ⟨O, Y⟩
  exact .pure ⟨rfl, O, Y⟩
def IsPart (s : Sg) (f : List Piece) (l : List Product) (i : Nat) (x : gradient_part) : Prop :=
 ∃ (a b : Int) (p : Nat) (u v : Point) (k : Nat) (y : Product), (Dc s f)[i]? = some a ∧ (Dc s f)[i + 1]? = some b ∧ s.Points[p]? = some u ∧ s.Points[p + 1]? = some v ∧ u.At < b ∧ b ≤ v.At ∧
  Bj (f.take k) < b ∧ b ≤ Bj (f.take (k + 1)) ∧ k < f.length ∧ l[k]? = some y ∧ x = ⟨b - a, v.At - u.At, v.Height - u.Height, y⟩
structure Parts (s : Segment) (f : List Piece) (l : List Product) (W : List gradient_part) : Prop where
 len : W.length + 1 = (Dc s f).length
 all : ∀ i x, W[i]? = some x → IsPart s f l i x
theorem IsPart.ok {s : Sg} {f : List Piece} {l : List Product} {i : Nat} {x : gradient_part} (D : SegG s) (hf : FillOk s.Capacity f) (hl : ∀ y, y ∈ l → (400 ≤ y.Density ∧ y.Density ≤ 1200) ∧ 1 ≤ y.Friction ∧ y.Friction ≤ 2000) (h : IsPart s f l i x) : PartOk s x := by
 obtain ⟨a, b, p, u, v, k, y, G, M, O, Y, h5, h6, _, _, _, h7, rfl⟩ := h
 have hc := D.cap
 have ha := Fo D.points hf (mg G)
 have hb := Fo D.points hf (mg M)
 have hab := En (Ea s f) (Nat.lt_succ_self i) G M
 have hu := D.points.at_range O
 have hv := D.points.at_range Y
 have hh1 := D.points.height u (mg O)
 have hh2 := D.points.height v (mg Y)
 have Z := hl y (mg h7)
 exact ⟨by dsimp only; omega, by dsimp only; omega, by dsimp only; omega, Z.1, Z.2⟩
theorem Zz {s : Sg} {f : List Piece} {l : List Product} (hs : SegG s) (hf : FillOk s.Capacity f) (hl : l.length = f.length) : Ok (K0 s f l (Dc s f)) fun W => Parts s f l W := by
 have hc := hs.cap
 have M := hs.points
 have hpl := M.len
 have hfl := hf.len
 have hbl := G3 s f
 have hb2 := Ut M hc.1 hf
 have hf0 : 0 < f.length := by
  rcases Nat.eq_zero_or_pos f.length with h | h
  ·have : f = [] := List.eq_nil_of_length_eq_zero h
   subst this
   have := hf.sum
   simp [Bj] at this; omega
  ·exact h
 have hg0 : f[0]? = some (f[0]'hf0) := gq _
 unfold K0
 refine .bind' (.eq (A6 (k := 0) hg0) (.bind (Q := fun W => Parts s f l W) ?_ fun d hd => by unfold K0.J1; exact .pure hd))
 refine .loop (fun st : List gradient_part × Int × Int × Int => ∃ k : Nat, st.2.1 = (k : Int) ∧ k < f.length ∧ st.2.2.1 = Bj (f.take (k + 1)) ∧ st.2.2.2 = ((st.1.length + 1 : Nat) : Int) ∧ st.1.length + 1 ≤ (Dc s f).length ∧
   (∀ b, (Dc s f)[st.1.length + 1]? = some b → Bj (f.take k) < b) ∧ ∀ i x, st.1[i]? = some x → IsPart s f l i x) (fun st => (Dc s f).length - st.1.length)
  ⟨0, rfl, hf0, ?_, rfl, by simp; omega, ?_, by simp⟩ (by dsimp only; simp only [List.length_nil]; omega) ?_
 ·dsimp only; rw [C4 hg0]; simp [Bj]
 ·intro b Y
  have h0 := Pj M hf
  have := En (Ea s f) (by simp) h0 Y
  simpa [Bj] using this
 rintro ⟨G, i1, i2, i3⟩ ⟨k, h1, hk, h2, h3, ho, hlow, O⟩
 dsimp only at h1 h2 h3 ho hlow O
 subst h1 h2 h3
 unfold K0.B2
 dsimp only
 refine As (fun h => ?_) fun h => .pure ⟨by omega, O⟩
 have Y : (Dc s f)[G.length + 1]? = some ((Dc s f)[G.length + 1]'(by omega)) := gq _
 obtain ⟨b, hbe⟩ : ∃ b, b = (Dc s f)[G.length + 1]'(by omega) := ⟨_, rfl⟩
 rw [← hbe] at Y
 have ha : (Dc s f)[G.length]? = some ((Dc s f)[G.length]'(by omega)) := gq _
 obtain ⟨a, hae⟩ : ∃ a, a = (Dc s f)[G.length]'(by omega) := ⟨_, rfl⟩
 rw [← hae] at ha
 have hbr := Fo M hf (mg Y)
 have har := Fo M hf (mg ha)
 have hab := En (Ea s f) (Nat.lt_succ_self _) ha Y
 refine .bind (Q := fun d : Int × Int => ∃ D : Nat, d = ((D : Int), Bj (f.take (D + 1))) ∧ D < f.length ∧ Bj (f.take D) < b ∧ b ≤ Bj (f.take (D + 1))) ?_ ?_
 ·refine .loop (fun d : Int × Int => ∃ D : Nat, d = ((D : Int), Bj (f.take (D + 1))) ∧ D < f.length ∧ Bj (f.take D) < b) (fun d => f.length - d.1.toNat) ⟨k, rfl, hk, hlow b Y⟩ (by dsimp only; omega) ?_
  rintro _ ⟨D, rfl, Z, hl'⟩
  unfold K0.B6
  dsimp only
  refine .bind' (.eq (A6 Y) (As (fun h => ?_) fun h => .pure ⟨D, rfl, Z, hl', by omega⟩))
  have hn : D + 1 < f.length := by
   by_cases hh : D + 1 < f.length
   ·exact hh
   ·rw [List.take_of_length_le (by omega), hf.sum] at h; omega
  have hgn : f[D + 1]? = some (f[D + 1]'hn) := gq _
  have hsn := C4 hgn
  have hsr := Ci hf.vol (D + 1 + 1)
  have hfs := hf.sum
  rw [show wr ((D : Int) + 1) = ((D + 1 : Nat) : Int) by rw [Ap (by omega)]; omega]
  refine .bind' (.eq (A6 hgn) (.pure ⟨⟨D + 1, ?_, hn, h⟩, ?_⟩))
  ·dsimp only; rw [Ap (by omega), ← hsn]
  ·dsimp only; omega
 ·rintro _ ⟨D, rfl, Z, hl1, hl2⟩
  unfold K0.J4
  dsimp only
  refine .bind' (.eq (A6 Y) ?_)
  refine .bind (N1 ⟨hpl.1, by omega⟩ M.asc M.first (e := b) (by omega) fun p hp' => by have := M.last p hp'; omega) ?_
  rintro r ⟨p, u, v, rfl, hu, hv, hub, hbv⟩
  have hpl' := (gs hv).1
  have hur := M.at_range hu
  have hvr := M.at_range hv
  have hh1 := M.height u (mg hu)
  have hh2 := M.height v (mg hv)
  rw [show wr (((p + 1 : Nat) : Int) - 1) = (p : Int) by rw [Ap (by omega)]; omega]
  refine .bind' (.eq (A6 hu) (.bind' (.eq (A6 hv) ?_)))
  unfold K0.J5
  dsimp only
  rw [show wr (((G.length + 1 : Nat) : Int) - 1) = (G.length : Int) by rw [Ap (by omega)]; omega]
  have hly : l[D]? = some (l[D]'(by omega)) := gq _
  refine .bind' (.eq (A6 ha) (.bind' (.eq (A6 hly) (.bind' (.app (by simp; omega) ?_)))))
  unfold K0.J3
  dsimp only
  rw [Ap (x := b - a) (by omega), Ap (x := v.At - u.At) (by omega), Ap (x := v.Height - u.Height) (by omega), Ap (x := ((G.length + 1 : Nat) : Int) + 1) (by omega)]
  refine .pure ⟨⟨D, rfl, Z, rfl, by simp, by simp; omega, fun b' hb' => ?_, fun i x hx => ?_⟩, ?_⟩
  ·simp only [List.length_append, List.length_singleton] at hb'
   have := En (Ea s f) (Nat.lt_succ_self _) Y hb'
   omega
  ·rw [List.getElem?_append] at hx
   split at hx
   ·exact O i x hx
   ·have hi := (gs hx).1
    simp at hi
    have : i = G.length := by omega
    subst this
    simp at hx
    exact ⟨a, b, p, u, v, D, _, ha, Y, hu, hv, hub, hbv, hl1, hl2, Z, hly, hx.symm⟩
  ·dsimp only; simp only [List.length_append, List.length_singleton]; omega
theorem S6 {α : Type} {B : List α × Int × Int → Option ((List α × Int × Int) ⊕ List α)}
  (hB : ∀ D, B D = if decide (D.2.1 < D.2.2) = true then Option.bind (ix D.1 D.2.2) fun Y => Option.bind (ix D.1 D.2.1) fun G => Option.bind (ix (D.1.set G.1 Y.2) D.2.2) fun aa => some (.inl ((D.1.set G.1 Y.2).set aa.1 G.2, wr (D.2.1 + 1), wr (D.2.2 - 1))) else some (.inr D.1))
  {l : List α} (hl : l.length ≤ 1000000) : Option.bind (C2 B E4 (l, 0, wr ((l.length : Int) - 1))) (fun d => some d) = some l.reverse := by
 have : Ok (C2 B E4 (l, 0, wr ((l.length : Int) - 1))) fun r => r = l.reverse := by
  refine .loop (fun D => ∃ i : Nat, D.2.1 = (i : Int) ∧ D.2.2 = (l.length : Int) - 1 - i ∧ 2 * i ≤ l.length ∧ D.1.length = l.length ∧ ∀ k : Nat, k < l.length → D.1[k]? = if k < i ∨ l.length - 1 - i < k then l[l.length - 1 - k]? else l[k]?) (fun D => (D.2.2 - D.2.1 + 1).toNat)
   ⟨0, rfl, by dsimp only; rw [Ap (by omega)]; omega, by omega, rfl, fun k O => ?_⟩ (by dsimp only; rw [Ap (by omega)]; omega) ?_
  ·rw [if_neg (by omega)]
  rintro ⟨m, _, _⟩ ⟨i, rfl, rfl, hi, hm, M⟩
  dsimp only at hm M
  rw [hB]
  dsimp only
  refine As (fun h => ?_) fun h => .pure ?_
  ·have e : (l.length : Int) - 1 - i = ((l.length - 1 - i : Nat) : Int) := by omega
   rw [e]
   have Z : m[l.length - 1 - i]? = some (m[l.length - 1 - i]'(by omega)) := gq _
   have h2 : m[i]? = some (m[i]'(by omega)) := gq _
   refine .bind' (.eq (A6 Z) (.bind' (.eq (A6 h2) ?_)))
   dsimp only
   have h3 : (m.set i (m[l.length - 1 - i]'(by omega)))[l.length - 1 - i]? = some (m[l.length - 1 - i]'(by omega)) := by rw [List.getElem?_set_ne (by omega)]; exact Z
   refine .bind' (.eq (A6 h3) (.pure ⟨⟨i + 1, ?_, ?_, by omega, by simp [hm], fun k O => ?_⟩, ?_⟩))
   ·dsimp only; rw [Ap (by omega)]; omega
   ·dsimp only; rw [Ap (by omega)]; omega
   ·dsimp only
    have e1 : m[l.length - 1 - i]? = l[l.length - 1 - i]? := by rw [M _ (by omega), if_neg (by omega)]
    have e2 : m[i]? = l[i]? := by rw [M _ (by omega), if_neg (by omega)]
    by_cases c1 : k = l.length - 1 - i
    ·subst c1
     rw [List.getElem?_set_self (by simp; omega), if_pos (by omega), ← h2, e2]
     congr 1; omega
    ·rw [List.getElem?_set_ne (by omega)]
     by_cases c2 : k = i
     ·subst c2
      rw [List.getElem?_set_self (by omega), if_pos (by omega), ← Z, e1]
     ·rw [List.getElem?_set_ne (by omega), M k O]
      by_cases c3 : k < i ∨ l.length - 1 - i < k
      ·rw [if_pos c3, if_pos (by omega)]
      ·rw [if_neg c3, if_neg (by omega)]
   ·dsimp only; rw [Ap (by omega), Ap (by omega)]; omega
  ·apply List.ext_getElem?
   intro k
   by_cases O : k < l.length
   ·rw [List.getElem?_reverse O, M k O]
    split
    ·rfl
    ·congr 1; omega
   ·rw [List.getElem?_eq_none (by omega), List.getElem?_eq_none (by simp; omega)]
 obtain ⟨r, h, rfl⟩ := this
 rw [h]; rfl
theorem Ue {l : Li} (hl : l.length ≤ 1000000) : Te l = some l.reverse := S6 (B := Te.B1) (fun _ => rfl) hl
theorem Rz {l : List gradient_part} (hl : l.length ≤ 1000000) : Tf l = some l.reverse := S6 (B := Tf.B1) (fun _ => rfl) hl
theorem O8 {l : List Level} (hl : l.length ≤ 1000000) : Rb l = some l.reverse := S6 (B := Rb.B1) (fun _ => rfl) hl
theorem Us {α : Type} {B : Nat → List α → Option (List α)} {g : α → α} (l : List α) (hB : ∀ (k : Nat) (m : List α) (x : α), l[k]? = some x → m[k]? = some x → B k m = some (m.set k (g x))) : forJ B 0 l.length l = some (l.map g) := by
 have : Ok (forJ B 0 l.length l) fun r => r = l.map g := by
  refine .forJ (fun k D => D.length = l.length ∧ ∀ j : Nat, D[j]? = if j < k then (l[j]?).map g else l[j]?) ⟨rfl, fun j => by simp⟩ ?_ ?_
  ·rintro k D hk ⟨Y, G⟩
   have M : l[k]? = some (l[k]'hk) := gq _
   have O : D[k]? = some (l[k]'hk) := by rw [G, if_neg (by omega), M]
   refine .eq (hB k D _ M O) ⟨by simp [Y], fun j => ?_⟩
   by_cases hj : j = k
   ·subst hj
    rw [List.getElem?_set_self (by omega), if_pos (by omega), M]; rfl
   ·rw [List.getElem?_set_ne (by omega), G]
    by_cases Z : j < k
    ·rw [if_pos Z, if_pos (by omega)]
    ·rw [if_neg Z, if_neg (by omega)]
  ·rintro D ⟨Y, G⟩
   apply List.ext_getElem?
   intro j
   rw [G, List.getElem?_map]
   split
   ·rfl
   ·rw [List.getElem?_eq_none (by omega)]; rfl
 obtain ⟨r, h, rfl⟩ := this
 exact h
theorem cB {s : Sg} {r q : Int} {b : Bounds} {D : Li} {way : List gradient_part} (hc : 1 ≤ s.Capacity ∧ s.Capacity ≤ 1000) (Z : 0 ≤ s.Resist ∧ s.Resist ≤ 1000) (hq : max r (wr (0 - r)) = q) (M : 1 ≤ q ∧ q ≤ 1000)
  (hl : way.length + 1 = D.length) (hl2 : D.length ≤ 200) (hw : ∀ x, x ∈ way → PartOk s x) (h1 : -1125899906842624 ≤ b.Low ∧ b.Low ≤ 1125899906842624) (h2 : -1125899906842624 ≤ b.High ∧ b.High ≤ 1125899906842624) {a : Int} (ha : D[0]? = some a) :
  Ok (forJ (Ex.B4 s r (way, D)) 0 way.length (b.Low, b.High, [⟨a, b⟩])) fun Y => Y.2.2 = Jg s q b D way := by
 refine .forJ (fun k Y => Y.1 = b.Low - Bw (hi s q) (way.take k) ∧ Y.2.1 = b.High - Bw (lo s q) (way.take k) ∧ Y.2.2 = (List.range (k + 1)).map (S3 s q b D way)) ⟨by simp [Bw], by simp [Bw], ?_⟩ ?_ ?_
 ·simp [S3, List.range_succ, List.getD, ha, Bw]
 ·rintro k ⟨x1, x2, out⟩ hk ⟨i1, i2, O⟩
  dsimp only at i1 i2 O
  subst i1 i2 O
  have G : way[k]? = some (way[k]'hk) := gq _
  have hm := hw _ (mg G)
  have bd : ∀ x, x ∈ way.take (k + 1) → PartOk s x := fun x G => hw x (List.mem_of_mem_take G)
  have bd0 : ∀ x, x ∈ way.take k → PartOk s x := fun x G => hw x (List.mem_of_mem_take G)
  have s1 := Dn (g := lo s q) (B := 3000000000000000) (l := way.take (k + 1)) fun x G => (Y4 hc.1 Z M (bd x G)).1
  have s2 := Dn (g := hi s q) (B := 3000000000000000) (l := way.take (k + 1)) fun x G => (Y4 hc.1 Z M (bd x G)).2
  have t1 := Dz (lo s q) G
  have t2 := Dz (hi s q) G
  simp only [List.length_take] at s1 s2
  unfold Ex.B4
  refine .bind' (.ix k rfl hk (.bind' (.eq (by rw [hq]; exact cS hc Z M hm) (.bind' (.ix (k + 1) rfl (by dsimp only; omega) (.bind' (.app (by simp; omega) (.pure ⟨?_, ?_, ?_⟩))))))))
  ·dsimp only; rw [t2, Ap (by omega)]; omega
  ·dsimp only; rw [t1, Ap (by omega)]; omega
  ·dsimp only
   rw [List.range_succ (n := k + 1), List.map_append]
   have e1 : wr (b.Low - Bw (hi s q) (way.take k) - hi s q way[k]) = b.Low - Bw (hi s q) (way.take (k + 1)) := by rw [t2, Ap (by omega)]; omega
   have e2 : wr (b.High - Bw (lo s q) (way.take k) - lo s q way[k]) = b.High - Bw (lo s q) (way.take (k + 1)) := by rw [t1, Ap (by omega)]; omega
   rw [e1, e2]
   simp [S3, List.getD, gq (show k + 1 < D.length by omega)]
 ·rintro ⟨x1, x2, out⟩ ⟨i1, i2, O⟩
  dsimp only at O ⊢
  rw [O, hl]; rfl
def Fi (s : Sg) (f : List Piece) (W : List gradient_part) (r : Int) (b : Bounds) : List Level :=
 if r < 0 then (Jg s (-r) b (Dc s f).reverse (W.reverse.map neg)).reverse else Jg s r b (Dc s f) W
theorem eS {f : List Piece} {b : List Batch} {p : List Product} {cap : Int} (hf : FillOk cap f) (hb : BatsOk p.length b) : ∃ l, Fg f b p = some (l, 0) ∧ l.length = f.length ∧ ∀ y, y ∈ l → y ∈ p := by
 obtain ⟨⟨l, e⟩, h, D, G, M⟩ := Tm hf hb
 dsimp only at D G M
 subst D
 exact ⟨l, h, G, M⟩
theorem cM {p : List Product} (G : ProdsOk p) {y : Product} (M : y ∈ p) : (400 ≤ y.Density ∧ y.Density ≤ 1200) ∧ 1 ≤ y.Friction ∧ y.Friction ≤ 2000 := by
 obtain ⟨k, D⟩ := List.getElem?_of_mem M
 have := G.all k y D
 exact ⟨this.density, this.friction⟩
theorem aI {s : Sg} {f : List Piece} {bs : List Batch} {p l : List Product} (hs : SegG s) (hf : FillOk s.Capacity f) (hp : ProdsOk p) (hliq : Fg f bs p = some (l, 0)) (hlen : l.length = f.length) (hmem : ∀ y, y ∈ l → y ∈ p) :
  ∃ W, Parts s f l W ∧ (∀ x, x ∈ W → PartOk s x) ∧ ∀ (r : Int) (b : Bounds), r ≠ 0 → -1000 ≤ r → r ≤ 1000 → b.Low ≤ b.High → -1125899906842624 ≤ b.Low → b.High ≤ 1125899906842624 → Ex s f bs p r b = some (Fi s f W r b, 0) := by
 obtain ⟨W, hW, hP⟩ := Zz hs hf hlen
 have M : ∀ x, x ∈ W → PartOk s x := fun x hx => by
  obtain ⟨i, hi⟩ := List.getElem?_of_mem hx
  exact (hP.all i x hi).ok hs hf fun y hy => cM hp (hmem y hy)
 refine ⟨W, hP, M, fun r b hr0 hr1 hr2 hb1 hb2 hb3 => ?_⟩
 have hc := hs.cap
 have hpl := hs.points.len
 have hfl := hf.len
 have hbl := G3 s f
 have hb2' := Ut hs.points hc.1 hf
 have hWl := hP.len
 have O : Ff b = true := by unfold Ff; simp; omega
 have Z : ((r == 0) || (decide (r < (-1000)) || (decide (r > 1000) || (!(Ff b))))) = false := by rw [O]; simp; omega
 have e1 : Is (Dc s f) = some (Dc s f) := by
  unfold Is
  rw [Q8 (by simp; omega)]; rfl
 unfold Ex
 rw [Z7 hs hf, On hp, hliq, V1 ⟨by omega, by omega⟩ hfl hf.vol (by have := hf.sum; omega)]
 simp only [Option.bind_some, Z, bne_self_eq_false, Bool.false_eq_true, if_false, Option.bind_some, hW, e1]
 have Y : ∀ (D : Li) (G : List gradient_part), G.length + 1 = D.length → D.length = (Dc s f).length → (∀ x, x ∈ G → PartOk s x) →
   Ex.J1 s r b (G, D) = (if decide (r < 0) = true then some ((Jg s (-r) b D G).reverse, 0) else some (Jg s r b D G, 0)) := by
  intro D G h1 h2 h3
  have h0 : D[0]? = some (D[0]'(by omega)) := gq _
  have hq : max r (wr (0 - r)) = if r < 0 then -r else r := by rw [Ap (by omega)]; split <;> omega
  obtain ⟨st, g1, g2⟩ := cB (s := s) (r := r) (b := b) hc hs.resist hq (by split <;> omega) h1 (by omega) h3 (by omega) (by omega) h0
  unfold Ex.J1
  have h0' : ix D 0 = some (0, D[0]) := A6 h0
  rw [h0']
  simp only [Option.bind_some, g1, Ex.J2, Ex.J3, g2]
  by_cases hr : r < 0
  ·simp only [hr, decide_true, if_true]
   rw [O8 (by rw [Gs]; omega)]; rfl
  ·simp only [hr, decide_false, if_false, Bool.false_eq_true]
 unfold Fi
 by_cases hr : r < 0
 ·simp only [hr, decide_true, if_true]
  rw [Ue (by omega), Rz (by omega)]
  simp only [Option.bind_some]
  have hneg : forJ Ex.B5 0 W.reverse.length W.reverse = some (W.reverse.map neg) := Us _ fun k m x hx hm => by
   have hb := (M x (List.mem_reverse.1 (mg hx))).height
   unfold Ex.B5
   rw [A6 hm]
   simp only [Option.bind_some]
   rw [Ap (by omega), Int.zero_sub]; rfl
  rw [hneg]
  simp only [Option.bind_some]
  rw [Y _ _ (by simp; omega) (by simp) (by
   intro x hx
   simp only [List.mem_map, List.mem_reverse] at hx
   obtain ⟨y, hy, rfl⟩ := hx
   exact cQ (M y hy))]
  simp only [hr, decide_true, if_true]
 ·simp only [hr, decide_false, if_false, Bool.false_eq_true]
  rw [Y _ _ (by omega) rfl M]
  simp only [hr, decide_false, if_false, Bool.false_eq_true]
theorem Pl (s : Sg) (f : List Piece) (W : List gradient_part) (r : Int) (b : Bounds) : (Fi s f W r b).length = (Dc s f).length := by
 unfold Fi; split <;> simp [Gs]
def T2 (W : List gradient_part) (r : Int) : List gradient_part := if r < 0 then W.reverse.map neg else W
def Jo (s : Sg) (f : List Piece) (r : Int) : Li := if r < 0 then (Dc s f).reverse else Dc s f
def eD (s : Sg) (f : List Piece) (r : Int) (i : Nat) : Nat := if r < 0 then (Dc s f).length - 1 - i else i
def bX (r : Int) : Int := if r < 0 then -r else r
theorem V4 (s : Sg) (f : List Piece) (W : List gradient_part) (r : Int) (b : Bounds) {i : Nat} (h : i < (Dc s f).length) :
  (Fi s f W r b)[i]? = some (S3 s (bX r) b (Jo s f r) (T2 W r) (eD s f r i)) := by
 unfold Fi T2 Jo eD bX
 split
 ·rw [List.getElem?_reverse (by rw [Gs]; simp; omega), Gs, List.length_reverse, Nl _ _ _ _ (by simp; omega)]
 ·rw [Nl _ _ _ _ h]
theorem Sd {s : Sg} {f : List Piece} {i : Nat} {a b x : Int} (h1 : (Dc s f)[i]? = some a) (h2 : (Dc s f)[i + 1]? = some b) (M : x ∈ Dc s f) (hb : x < b) : x ≤ a := by
 obtain ⟨j, D⟩ := List.getElem?_of_mem M
 rcases Nat.lt_trichotomy j i with h | h | h
 ·have := En (Ea s f) h D h1; omega
 ·subst h; rw [D] at h1; cases h1; omega
 ·rcases Nat.lt_or_ge (i + 1) j with G | G
  ·have := En (Ea s f) G h2 D; omega
  ·have : j = i + 1 := by omega
   subst this
   rw [D] at h2; cases h2; omega
theorem Vj {f : List Piece} (h : ∀ p, p ∈ f → 1 ≤ p.Volume) {i j : Nat} (D : i ≤ j) : Bj (f.take i) ≤ Bj (f.take j) := by
 have := (Ci (l := f.take j) (fun p G => h p (List.mem_of_mem_take G)) i).2
 rwa [List.take_take, Nat.min_eq_left D] at this
theorem Z6 {a b c : Int} : Bo a b c = true ↔ b ≤ a ∧ a ≤ c := by simp [Bo]
theorem C5 {a b c : Int} : (!(Bo a b c)) = true ↔ ¬ (b ≤ a ∧ a ≤ c) := by rw [← Z6]; simp
theorem Pc {x : Bt} : Ok (Kx x) fun r => r = true ↔ Hk x := by
 have Y : ¬ (1 ≤ x.size ∧ x.size ≤ 12 ∧ If (ch x 0)) → Ok (Kx.J1 x true) fun r => r = true ↔ Hk x := fun h => by
  unfold Kx.J1
  exact .pure ⟨fun h => (by cases h), fun hn => absurd hn.1 h⟩
 unfold Kx
 refine As (fun h => Y (by omega)) fun h1 => As (fun h => Y (by omega)) fun h2 => ?_
 refine .bind' (.eq (L4 (k := 0) (by omega)) (As (fun h => Y (fun hl => by have := hl.2.2; unfold If at this; dsimp only at h; omega)) fun G => ?_))
 dsimp only at G ⊢
 by_cases h4 : ch x 0 > 122
 ·rw [decide_eq_true h4]; exact Y (fun hl => by have := hl.2.2; unfold If at this; omega)
 rw [decide_eq_false h4]
 unfold Kx.J1
 refine Bd (fun h => by cases h) fun _ => ?_
 refine .bind (Q := fun o : Bool ⊕ Unit => (o = .inl false ∧ ∃ k, k < x.size ∧ ¬ (If (ch x k) ∨ (48 ≤ ch x k ∧ ch x k ≤ 57) ∨ ch x k = 45)) ∨ (o = .inr () ∧ ∀ k, k < x.size → If (ch x k) ∨ (48 ≤ ch x k ∧ ch x k ≤ 57) ∨ ch x k = 45)) ?_ ?_
 ·refine .loop (fun i : Int => 0 ≤ i ∧ i ≤ (x.size : Int) ∧ ∀ k : Nat, (k : Int) < i → If (ch x k) ∨ (48 ≤ ch x k ∧ ch x k ≤ 57) ∨ ch x k = 45) (fun i => x.size - i.toNat) ⟨by omega, by omega, fun k h => by omega⟩ (by omega) ?_
  rintro i ⟨i0, i1, i2⟩
  obtain ⟨i, rfl⟩ := S8 i0
  unfold Kx.B3
  refine As (fun hlt => .bind' (.eq (L4 (by omega)) ?_)) fun h => .pure (.inr ⟨rfl, fun k hk => i2 k (by omega)⟩)
  have O : If (ch x i) ∨ (48 ≤ ch x i ∧ ch x i ≤ 57) ∨ ch x i = 45 → Ok (Kx.J4 i false) (Sum.elim (fun j : Int => (0 ≤ j ∧ j ≤ (x.size : Int) ∧ ∀ k : Nat, (k : Int) < j → If (ch x k) ∨ (48 ≤ ch x k ∧ ch x k ≤ 57) ∨ ch x k = 45) ∧ x.size - j.toNat < x.size - (i : Int).toNat) fun o : Bool ⊕ Unit => (o = .inl false ∧ ∃ k, k < x.size ∧ ¬ (If (ch x k) ∨ (48 ≤ ch x k ∧ ch x k ≤ 57) ∨ ch x k = 45)) ∨ (o = .inr () ∧ ∀ k, k < x.size → If (ch x k) ∨ (48 ≤ ch x k ∧ ch x k ≤ 57) ∨ ch x k = 45)) := fun hg => by
   unfold Kx.J4
   refine Bd (fun h => by cases h) fun _ => .pure ?_
   rw [Ap (by omega)]
   refine ⟨⟨by omega, by omega, fun k hk => ?_⟩, by omega⟩
   by_cases hki : k = i
   ·subst hki; exact hg
   ·exact i2 k (by omega)
  have M : ¬ (If (ch x i) ∨ (48 ≤ ch x i ∧ ch x i ≤ 57) ∨ ch x i = 45) → Ok (Kx.J4 i true) (Sum.elim (fun j : Int => (0 ≤ j ∧ j ≤ (x.size : Int) ∧ ∀ k : Nat, (k : Int) < j → If (ch x k) ∨ (48 ≤ ch x k ∧ ch x k ≤ 57) ∨ ch x k = 45) ∧ x.size - j.toNat < x.size - (i : Int).toNat) fun o : Bool ⊕ Unit => (o = .inl false ∧ ∃ k, k < x.size ∧ ¬ (If (ch x k) ∨ (48 ≤ ch x k ∧ ch x k ≤ 57) ∨ ch x k = 45)) ∨ (o = .inr () ∧ ∀ k, k < x.size → If (ch x k) ∨ (48 ≤ ch x k ∧ ch x k ≤ 57) ∨ ch x k = 45)) := fun hg => by
   unfold Kx.J4
   exact Bd (fun _ => .pure (.inl ⟨rfl, i, by omega, hg⟩)) fun h => by cases h
  have D : (ch x i < 48 ∨ 57 < ch x i) → ¬ If (ch x i) → Ok (Kx.J4 i (ch x i != 45)) _ := fun h1 h2 => by
   by_cases G : ch x i = 45
   ·rw [G]; exact O (.inr (.inr G))
   ·rw [show (ch x i != 45) = true by simpa using G]; exact M (fun h => h.elim h2 fun h => h.elim (fun h => by omega) G)
  dsimp only
  refine As (fun h5 => As (fun Z => D (by omega) (by unfold If; omega)) fun Z => As (fun h7 => D (by omega) (by unfold If; omega)) fun h7 => O (by omega)) fun h5 => As (fun Z => As (fun h7 => D (by omega) (by unfold If; omega)) fun h7 => As (fun h8 => D (by omega) (by unfold If; omega)) fun h8 => O (by omega)) fun Z => O (by unfold If; omega)
 ·rintro _ (⟨rfl, k, hk, h⟩ | ⟨rfl, h⟩)
  ·exact .pure ⟨fun h => (by cases h), fun hn => absurd (hn.2 k hk) h⟩
  ·unfold Kx.J2
   exact .pure ⟨fun _ => ⟨⟨by omega, by omega, by unfold If; omega⟩, h⟩, fun _ => rfl⟩
theorem cD {l : List Bt} (hl : l.length ≤ 1000000) : Ok (M9 l) fun r => r = true ↔ fI l := by
 unfold M9
 refine .bind (hG (d := true) (P := Y9 l) fun k x D => ?_) ?_
 ·have Y := (gs D).1
  unfold M9.B2
  refine .bind (Uz (k := k) (d := true) (P := fun y => x.toList = y.toList) (by omega) hl (fun i y hi O => ?_) ?_) ?_
  ·unfold M9.B4
   refine As (fun _ => .bind' (.eq (A6 O) (Bd (fun h => .pure (.inl ⟨Gc.1 h, rfl⟩)) fun h => .pure (.inr ⟨fun M => ?_, rfl⟩)))) fun h => by omega
   rw [Gc.2 M] at h; cases h
  ·unfold M9.B4
   rw [if_neg (by simp)]
  ·rintro _ (⟨h, rfl⟩ | ⟨h, rfl⟩)
   ·exact .pure (.inl ⟨h, rfl⟩)
   ·exact .pure (.inr ⟨h, rfl⟩)
 ·rintro _ (⟨h, rfl⟩ | ⟨h, rfl⟩)
  ·exact .pure ⟨fun _ => h, fun _ => rfl⟩
  ·exact .pure ⟨fun h => (by cases h), fun ⟨k, x, D, G⟩ => absurd G (h k x D)⟩
theorem eM {s : Sg} (h2 : 2 ≤ s.Points.length ∧ s.Points.length ≤ 1000) : Ok (Mx s) fun r => r = true ↔ PipeOk s := by
 obtain ⟨p0, pl, e0, el, i0, il⟩ := Ur h2
 have O : (PipeOk s → False) → Ok (Mx.J1 s true) fun r => r = true ↔ PipeOk s := fun h => by
  unfold Mx.J1; exact .pure ⟨fun h => (by cases h), fun D => absurd D h⟩
 unfold Mx
 refine Cd (Q := s.From = s.To) (by simp) (fun h => O fun D => D.ends h) fun a1 => Cd C5 (fun h => O fun D => h D.cap) fun a2 => Cd C5 (fun h => O fun D => h D.resist) fun a3 => Cd C5 (fun h => O fun D => h D.wave) fun a4 => ?_
 rw [i0, il]
 refine .bind' (.pure (Cd (Q := p0.At ≠ 0) (by simp) (fun h => O fun D => h (D.first _ e0)) fun h0 => .bind' (.pure ?_)))
 dsimp only
 by_cases Z : pl.At = s.Capacity
 ·rw [show (pl.At != s.Capacity) = false by simpa using Z]
  unfold Mx.J1
  refine Bd (fun h => by cases h) fun _ => .bind (hG (d := false) (P := Ii s) fun k p D => ?_) ?_
  ·have Y : ∀ b : Bool, (b = true ↔ Ii s k p) → Ok (Mx.J4 b) fun o => (Ii s k p ∧ o = .inr false) ∨ (¬ Ii s k p ∧ o = .inl ()) := fun b h => by unfold Mx.J4; exact .test h
   unfold Mx.B3
   refine As (fun h0 => ?_) fun h0 => Cd C5 (fun h => Y _ ⟨fun _ => .inl fun M => h M.1, fun _ => rfl⟩) fun h1 => Y _ ?_
   ·obtain ⟨q, hq, hi⟩ := Uh h2.2 D (by omega)
    refine .bind' (.eq hi (As (fun h => Y _ ⟨fun _ => .inr ⟨q, by omega, hq, h⟩, fun _ => rfl⟩) fun h => Cd C5 (fun h => Y _ ⟨fun _ => .inl fun M => h M.1, fun _ => rfl⟩) fun h1 => Y _ ?_))
    rw [C5]
    refine ⟨fun h => .inl fun M => h M.2, fun G h3 => ?_⟩
    have := (Uv ⟨Classical.not_not.1 h1, h3⟩ (by omega) hq).1 G
    dsimp only at h; omega
   ·rw [C5]
    refine ⟨fun h => .inl fun M => h M.2, fun G h3 => ?_⟩
    rcases G with G | ⟨q, hk, _⟩
    ·exact G ⟨Classical.not_not.1 h1, h3⟩
    ·omega
  ·rintro _ (⟨⟨k, p, D, G⟩, rfl⟩ | ⟨h, rfl⟩)
   ·exact .pure ⟨fun h => (by cases h), fun h => absurd G (h.pts k p D)⟩
   ·refine .pure ⟨fun _ => ⟨a1, Classical.not_not.1 a2, Classical.not_not.1 a3, Classical.not_not.1 a4, fun p D => ?_, fun p D => ?_, h⟩, fun _ => rfl⟩
    ·rw [e0] at D; cases D; exact Classical.not_not.1 h0
    ·rw [el] at D; cases D; exact Z
 ·rw [show (pl.At != s.Capacity) = true by simpa using Z]
  exact O fun D => Z (D.last _ el)
theorem Tl {n : Nw} (h1 : n.Segments.length ≤ 1000) (h2 : n.Ports.length ≤ 1000) (D : n.Stations.length ≤ 1000) : Ok (Mz n) fun r => r.l = Y2 n := by
 unfold Mz
 refine .bind (Hw (g := (·.Name)) (fun _ _ _ => rfl) h1) ?_
 rintro _ rfl
 unfold Mz.J1
 refine .bind (Hw (g := (·.Name)) (fun _ _ _ => rfl) h2) ?_
 rintro _ rfl
 unfold Mz.J2
 refine .bind (Hw (g := (·.Name)) (fun _ _ _ => rfl) D) ?_
 rintro _ rfl
 unfold Mz.J3
 exact .pure rfl
theorem Z0 {n : Nw} (hn : Sane n) : Ok (Ky n) (NetRes n) := by
 unfold Ky
 refine Cd (Q := ¬ (1 ≤ n.Nodes.length ∧ n.Nodes.length ≤ 24 ∧ n.Segments.length ≤ 32 ∧ n.Ports.length ≤ 24 ∧ n.Stations.length ≤ 12)) (by simp only [Bool.or_eq_true, C5, decide_eq_true_eq]; omega) (fun h => .pure (.inl ⟨fun O => h O.1, rfl⟩)) fun h0 => ?_
 refine .bind (hG (d := 4) (P := fun _ s => ¬ Oy s) fun k s D => ?_) ?_
 ·unfold Ky.B24 Oy
  exact .test (by rw [C5]; omega)
 rintro _ (⟨⟨k, s, D, h⟩, rfl⟩ | ⟨h1, rfl⟩)
 ·exact .pure (.inl ⟨fun O => h (O.2 k s D), rfl⟩)
 have O : Lim n := ⟨Classical.not_not.1 h0, fun k s D => Classical.not_not.1 (h1 k s D)⟩
 have hnl := O.1
 simp only [Sum.elim_inl]
 unfold Ky.J1
 refine .bind (Tl hn.segs hn.ports hn.sts) fun r hr => .bind (H4 (d := 3) (P := fun k => ∃ l, (Y2 n)[k]? = some l ∧ Td l) fun k M => ?_) ?_
 ·obtain ⟨l, g1, g2⟩ := T7 hr M
  unfold Ky.B21
  refine .bind' (.eq (A6 g1) (.bind (hG (d := 3) (P := fun _ x => ¬ Hk x) fun j x hx => ?_) ?_))
  ·unfold Ky.B23
   exact .bind Pc fun b hb => .test (by rw [← hb]; simp)
  ·rintro _ (⟨h, rfl⟩ | ⟨h, rfl⟩)
   ·exact .pure (.inl ⟨⟨l, g2, h⟩, rfl⟩)
   ·refine .pure (.inr ⟨fun ⟨m, g3, j, x, hx, hm⟩ => ?_, rfl⟩)
    rw [g2] at g3; cases g3; exact h j x hx hm
 rintro _ (⟨h, rfl⟩ | ⟨h, rfl⟩)
 ·exact .pure (.inr ⟨O, .inl ⟨h, rfl⟩⟩)
 have hf : ¬ Hp n := fun ⟨k, M, h'⟩ => h k M h'
 simp only [Sum.elim_inl]
 unfold Ky.J2
 refine .bind (H4 (d := 7) (P := fun k => ∃ l, (Y2 n)[k]? = some l ∧ fI l) fun k M => ?_) ?_
 ·obtain ⟨l, g1, g2⟩ := T7 hr M
  unfold Ky.B20
  have hll : l.length ≤ 1000000 := by
   have := mg g2
   simp only [Y2, List.mem_cons, List.not_mem_nil, or_false] at this
   rcases this with rfl | rfl | rfl | rfl <;> simp <;> omega
  refine .bind' (.eq (A6 g1) (.bind (cD hll) fun b hb => .test ?_))
  rw [hb]
  exact ⟨fun h => ⟨l, g2, h⟩, fun ⟨m, g3, h⟩ => by rw [g2] at g3; cases g3; exact h⟩
 rintro _ (⟨h, rfl⟩ | ⟨h2, rfl⟩)
 ·exact .pure (.inr ⟨O, .inr ⟨hf, .inl ⟨.inl h, rfl⟩⟩⟩)
 simp only [Sum.elim_inl]
 unfold Ky.J3
 refine .bind (hG (d := 7) (P := Tc n.Stations) fun k x hx => ?_) ?_
 ·have M := (gs hx).1
  unfold Ky.B17
  refine .bind (Uz (l := n.Stations) (k := k) (d := 7) (P := fun y => x.Node = y.Node) (by omega) (by omega) (fun i y hi hy => ?_) ?_) ?_
  ·unfold Ky.B19
   exact As (fun _ => .bind' (.eq (A6 hy) (Hz (fun h => .pure (.inl ⟨h, rfl⟩)) fun h => .pure (.inr ⟨h, rfl⟩)))) fun h => by omega
  ·unfold Ky.B19
   rw [if_neg (by simp)]
  ·rintro _ (⟨h, rfl⟩ | ⟨h, rfl⟩)
   ·exact .pure (.inl ⟨h, rfl⟩)
   ·exact .pure (.inr ⟨h, rfl⟩)
 rintro _ (⟨h, rfl⟩ | ⟨h3, rfl⟩)
 ·exact .pure (.inr ⟨O, .inr ⟨hf, .inl ⟨.inr h, rfl⟩⟩⟩)
 have ht : ¬ (Me n ∨ Md n) := by
  rintro (⟨k, M, h⟩ | ⟨k, x, hx, h⟩)
  ·exact h2 k M h
  ·exact h3 k x hx h
 have aa : ¬ Ma n → NetRes n 8 := fun h => .inr ⟨O, .inr ⟨hf, .inr ⟨ht, .inl ⟨h, rfl⟩⟩⟩⟩
 have e : wr ((n.Nodes.length : Int) - 1) = (n.Nodes.length : Int) - 1 := Ap (by omega)
 have G : ∀ k : Int, (!(Bo k 0 ((n.Nodes.length : Int) - 1))) = true ↔ ¬ At n k := fun k => by rw [C5]; unfold At; omega
 simp only [Sum.elim_inl]
 unfold Ky.J4
 refine .bind (hG (d := 8) (P := fun _ s => ¬ (At n s.From ∧ At n s.To)) fun k s D => ?_) ?_
 ·unfold Ky.B16
  refine .test ?_
  rw [e, Bool.or_eq_true, G, G]
  exact ⟨fun h hc => h.elim (fun h => h hc.1) fun h => h hc.2, fun h => Classical.byContradiction fun hc => h ⟨Classical.byContradiction fun h => hc (.inl h), Classical.byContradiction fun h => hc (.inr h)⟩⟩
 rintro _ (⟨⟨k, s, D, h⟩, rfl⟩ | ⟨k1, rfl⟩)
 ·exact .pure (aa fun M => h (M.1 k s D))
 simp only [Sum.elim_inl]
 unfold Ky.J5
 refine .bind (hG (d := 8) (P := fun _ s => ¬ At n s.Node) fun k s D => ?_) ?_
 ·unfold Ky.B15
  exact .test (by rw [e]; exact G _)
 rintro _ (⟨⟨k, s, D, h⟩, rfl⟩ | ⟨k2, rfl⟩)
 ·exact .pure (aa fun M => h (M.2.1 k s D))
 simp only [Sum.elim_inl]
 unfold Ky.J6
 refine .bind (hG (d := 8) (P := fun _ s => ¬ At n s.Node) fun k s D => ?_) ?_
 ·unfold Ky.B14
  exact .test (by rw [e]; exact G _)
 rintro _ (⟨⟨k, s, D, h⟩, rfl⟩ | ⟨k3, rfl⟩)
 ·exact .pure (aa fun M => h (M.2.2 k s D))
 have M : Ma n := ⟨fun k s D => Classical.not_not.1 (k1 k s D), fun k s D => Classical.not_not.1 (k2 k s D), fun k s D => Classical.not_not.1 (k3 k s D)⟩
 have Y : ¬ Proper n → NetRes n 9 := fun h => .inr ⟨O, .inr ⟨hf, .inr ⟨ht, .inr ⟨M, .inl ⟨h, rfl⟩⟩⟩⟩⟩
 simp only [Sum.elim_inl]
 unfold Ky.J7
 refine .bind (hG (d := 9) (P := fun _ s => ¬ PipeOk s) fun k s D => ?_) ?_
 ·unfold Ky.B13
  exact .bind (eM (O.pts D)) fun b hb => .test (by rw [← hb]; simp)
 rintro _ (⟨⟨k, s, D, h⟩, rfl⟩ | ⟨p1, rfl⟩)
 ·exact .pure (Y fun Z => h (Z.segs k s D))
 simp only [Sum.elim_inl]
 unfold Ky.J8
 refine .bind (hG (d := 9) (P := fun _ s => ¬ (0 ≤ s.Pressure ∧ s.Pressure ≤ 100000000)) fun k s D => ?_) ?_
 ·unfold Ky.B12
  exact .test C5
 rintro _ (⟨⟨k, s, D, h⟩, rfl⟩ | ⟨p2, rfl⟩)
 ·exact .pure (Y fun Z => h (Z.ports k s D))
 simp only [Sum.elim_inl]
 unfold Ky.J9
 refine .bind (hG (d := 9) (P := fun _ s => ¬ StnOk s) fun k s D => ?_) ?_
 ·unfold Ky.B11
  refine .test ?_
  simp only [Bool.or_eq_true, C5]
  exact ⟨fun h D => h.elim (fun h => h D.head) fun h => h.elim (fun h => h D.fall) fun h => h D.suction, fun h => Classical.byContradiction fun hn => h ⟨by omega, by omega, by omega⟩⟩
 rintro _ (⟨⟨k, s, D, h⟩, rfl⟩ | ⟨p3, rfl⟩)
 ·exact .pure (Y fun Z => h (Z.sts k s D))
 simp only [Sum.elim_inl]
 unfold Ky.J10
 refine Cd (Q := ¬ ((-100000 ≤ n.Vapour ∧ n.Vapour ≤ 100000000) ∧ 0 ≤ n.Settle ∧ n.Settle ≤ 100)) (by rw [Bool.or_eq_true, C5, C5]; omega) (fun h => .pure (Y fun Z => h ⟨Z.vapour, Z.settle⟩)) fun h => ?_
 have h := Classical.not_not.1 h
 exact .pure (.inr ⟨O, .inr ⟨hf, .inr ⟨ht, .inr ⟨M, .inr ⟨⟨fun k s D => Classical.not_not.1 (p1 k s D), fun k s D => Classical.not_not.1 (p2 k s D), fun k s D => Classical.not_not.1 (p3 k s D), h.1, h.2⟩, rfl⟩⟩⟩⟩⟩)
theorem aC {n : Nw} (G : Sane n) : ∃ r, G2 n = some r ∧ Ky n = some r ∧ NetRes n r := by
 obtain ⟨r, M, D⟩ := Ze G
 obtain ⟨Z, O, Y⟩ := Z0 G
 obtain rfl := D.uniq Y
 exact ⟨r, M, O, D⟩
theorem Ub : ∀ {l m : Li}, l.Pairwise (· < ·) → m.Pairwise (· < ·) → (∀ x, x ∈ l ↔ x ∈ m) → l = m
 | [], [], _, _, _ => rfl
 | [], b :: m, _, _, h => by have := (h b).2 (by simp); simp at this
 | a :: l, [], _, _, h => by have := (h a).1 (by simp); simp at this
 | a :: l, b :: m, hl, hm, h => by
  have Y := (List.pairwise_cons.1 hl).1
  have Z := (List.pairwise_cons.1 hm).1
  have O : a = b := by
   have D := (h a).1 (by simp)
   have G := (h b).2 (by simp)
   rcases List.mem_cons.1 D with D | D
   ·exact D
   ·rcases List.mem_cons.1 G with G | G
    ·exact G.symm
    ·have := Z a D; have := Y b G; omega
  subst O
  rw [Ub (List.pairwise_cons.1 hl).2 (List.pairwise_cons.1 hm).2 fun x => ?_]
  constructor
  ·intro M
   have := Y x M
   rcases List.mem_cons.1 ((h x).1 (by simp [M])) with e | e
   ·omega
   ·exact e
  ·intro M
   have := Z x M
   rcases List.mem_cons.1 ((h x).2 (by simp [M])) with e | e
   ·omega
   ·exact e
theorem L1 {a b : Int} (hb : 1 ≤ b ∧ b ≤ 1099511627776) (ha : -2305843009213693952 ≤ a ∧ a ≤ 2305843009213693952) : He a b = some (up a b) := by
 have h := Q7 (a := a) (b := b) (by omega)
 have O := Er (a := a) (b := b) (by omega)
 unfold dn at O
 have Y := Int.emod_nonneg a (by omega : b ≠ 0)
 have Z := Int.emod_lt_of_pos a (by omega : 0 < b)
 have : Ok (He a b) fun r => r = up a b := by
  unfold He
  refine Eh (fun h => ?_) fun _ => ?_
  ·simp [Ko] at h; omega
  refine .bind' (.quo (by omega) (.bind' (.rem (by omega) ?_)))
  unfold up He.J1
  by_cases G : a.tmod b < 0
  ·have M := h.1 G
   have h2 := Int.lt_tmod_of_pos a (b := b) (by omega)
   refine As (fun D => by omega) fun _ => .pure ?_
   rw [if_pos (by omega), Ap (by omega)]; omega
  ·have M := h.2 G
   refine As (fun D => .pure ?_) fun D => .pure ?_
   ·rw [if_pos (by omega), Ap (x := a.tdiv b) (by omega), Ap (by omega)]; omega
   ·rw [if_neg (by omega), Ap (by omega)]; omega
 obtain ⟨r, h, rfl⟩ := this
 exact h
theorem H7 {a b : Int} (hb : 1 ≤ b ∧ b ≤ 1099511627776) (Y : -2305843009213693952 ≤ a ∧ a ≤ 2305843009213693952) : Hh a b = some (dn a b) := by
 have h := Q7 (a := a) (b := b) (by omega)
 have O := Er (a := a) (b := b) (by omega)
 unfold dn at O
 have : Ok (Hh a b) fun r => r = dn a b := by
  unfold Hh
  refine Eh (fun h => ?_) fun _ => ?_
  ·simp [Ko] at h; omega
  refine .bind' (.quo (by omega) (.bind' (.rem (by omega) ?_)))
  unfold dn Hh.J1
  by_cases G : a.tmod b < 0
  ·have M := h.1 G
   refine As (fun D => .pure ?_) fun D => by omega
   rw [Ap (x := a.tdiv b) (by omega), Ap (by omega)]; omega
  ·have M := h.2 G
   refine As (fun D => by omega) fun D => .pure ?_
   rw [Ap (by omega)]; omega
 obtain ⟨r, h, rfl⟩ := this
 exact h
theorem Sf {l : Li} (hl : l.Pairwise (· < ·)) (h1 : l.length ≤ 1000) (n : Int) : Ok (Kv l n) fun r => r.Pairwise (· < ·) ∧ (∀ x, x ∈ r ↔ x ∈ l ∨ x = n) ∧ r.length ≤ l.length + 1 := by
 unfold Kv
 refine .bind (Q := fun d : Int => ∃ k : Nat, d = (k : Int) ∧ k ≤ l.length ∧ (∀ j x, j < k → l[j]? = some x → x < n) ∧ ∀ x, l[k]? = some x → n ≤ x) ?_ ?_
 ·refine .loop (fun st : Int => ∃ k : Nat, st = (k : Int) ∧ k ≤ l.length ∧ ∀ j x, j < k → l[j]? = some x → x < n) (fun st => l.length - st.toNat) ⟨0, rfl, by omega, by omega⟩ (by omega) ?_
  rintro _ ⟨k, rfl, hk, hI⟩
  unfold Kv.B4 Kv.J5
  refine As (fun hlt => .bind' (.ix k rfl (by omega) ?_)) fun hn => ?_
  ·have G : l[k]? = some (l[k]'(by omega)) := gq _
   refine As (fun hh => .pure ⟨⟨k + 1, ?_, by omega, fun j x O D => ?_⟩, ?_⟩) fun hh => .pure ⟨k, rfl, hk, hI, fun x D => ?_⟩
   ·rw [Ap (by omega)]; omega
   ·by_cases hjk : j = k
    ·subst hjk; rw [G] at D; cases D; exact hh
    ·exact hI j x (by omega) D
   ·rw [Ap (by omega)]; omega
   ·rw [G] at D; cases D
    dsimp only at hh; omega
  ·refine Bd (fun h => by cases h) fun _ => .pure ⟨k, rfl, hk, hI, fun x D => ?_⟩
   have := (gs D).1; omega
 ·rintro _ ⟨k, rfl, hk, hI, hJ⟩
  have Z : (∀ x, l[k]? = some x → x ≠ n) → Ok (Kv.J2 l n (k : Int) false) fun r => r.Pairwise (· < ·) ∧ (∀ x, x ∈ r ↔ x ∈ l ∨ x = n) ∧ r.length ≤ l.length + 1 := by
   intro hne
   unfold Kv.J2
   refine Bd (fun h => by cases h) fun _ => .bind' (.sub 0 k rfl rfl (by omega) hk (.bind' (.app (by simp; omega) (.bind' (.app (by simp; omega) (.bind' (.sub k l.length rfl rfl hk (Nat.le_refl _) (.bind' (.app (by simp; omega) ?_)))))))))
   unfold Kv.J3
   simp only [List.drop_zero, Nat.sub_zero, List.nil_append]
   rw [List.take_of_length_le (l := l.drop k) (by simp)]
   have hlow : ∀ x, x ∈ l.take k → x < n := fun x G => by
    obtain ⟨j, O⟩ := List.getElem?_of_mem G
    have hjl := (gs O).1
    simp at hjl
    rw [List.getElem?_take_of_lt (by omega)] at O
    exact hI j x (by omega) O
   have M : ∀ x, x ∈ l.drop k → n < x := fun x G => by
    obtain ⟨j, O⟩ := List.getElem?_of_mem G
    rw [List.getElem?_drop] at O
    have hjl := (gs O).1
    have Y : l[k]? = some (l[k]'(by omega)) := gq _
    have h1 := hJ _ Y
    have h2 := hne _ Y
    rcases Nat.eq_zero_or_pos j with rfl | hj0
    ·simp at O; rw [Y] at O; cases O; omega
    ·have := En hl (show k < k + j by omega) Y O
     omega
   refine .pure ⟨?_, fun x => ?_, by simp; omega⟩
   ·rw [List.append_assoc, List.pairwise_append]
    refine ⟨hl.sublist (List.take_sublist _ _), ?_, fun x G y hy => ?_⟩
    ·rw [List.singleton_append, List.pairwise_cons]
     exact ⟨M, hl.sublist (List.drop_sublist _ _)⟩
    ·have := hlow x G
     rcases List.mem_cons.1 hy with rfl | hy
     ·exact this
     ·have := M y hy; omega
   ·have : x ∈ l ↔ x ∈ l.take k ∨ x ∈ l.drop k := by rw [← List.mem_append, List.take_append_drop]
    simp only [List.mem_append, List.mem_cons, List.not_mem_nil, or_false]
    rw [this]
    constructor
    ·rintro ((h | h) | h)
     ·exact .inl (.inl h)
     ·exact .inr h
     ·exact .inl (.inr h)
    ·rintro ((h | h) | h)
     ·exact .inl (.inl h)
     ·exact .inr h
     ·exact .inl (.inr h)
  unfold Kv.J1
  refine As (fun hlt => .bind' (.ix k rfl (by omega) ?_)) fun hn => Z fun x G => by have := (gs G).1; omega
  have G : l[k]? = some (l[k]'(by omega)) := gq _
  dsimp only
  by_cases he : l[k] = n
  ·rw [show (l[k] == n) = true by simpa using he]
   unfold Kv.J2
   refine Bd (fun _ => .pure ⟨hl, fun x => ⟨.inl, fun h => ?_⟩, by omega⟩) fun h => by cases h
   rcases h with h | rfl
   ·exact h
   ·exact he ▸ mg G
  ·rw [show (l[k] == n) = false by simpa using he]
   exact Z fun x D => by rw [G] at D; cases D; exact he
structure SegX (s : Segment) : Prop where
 cap : 1 ≤ s.Capacity ∧ s.Capacity ≤ 1000000
 resist : 0 ≤ s.Resist ∧ s.Resist ≤ 1000
 points : PointsOk s.Capacity s.Points
structure FillX (cap : Int) (l : List Piece) : Prop where
 len : l.length ≤ 200
 vol : ∀ p, p ∈ l → 1 ≤ p.Volume
 bat : ∀ p, p ∈ l → 0 ≤ p.Batch
 sum : Bj l = cap
def gC (l : List Product) : Prop := ∀ y, y ∈ l → (400 ≤ y.Density ∧ y.Density ≤ 1200) ∧ 1 ≤ y.Friction ∧ y.Friction ≤ 2000
theorem Y5 {a b A : Int} (hb : 1000 ≤ b) (G : 0 ≤ A) (h : -(1000 * A) ≤ a ∧ a ≤ 1000 * A) : -A ≤ dn a b ∧ dn a b ≤ A := by
 unfold dn
 have M : b * A ≥ 1000 * A := Int.mul_le_mul_of_nonneg_right hb G
 have D : b * (-A) ≤ a := by rw [Int.mul_neg]; omega
 have O : a ≤ b * A := by omega
 constructor
 ·exact (Int.le_ediv_iff_mul_le (by omega)).2 (by rw [Int.mul_comm]; exact D)
 ·exact Int.le_of_lt_add_one ((Int.ediv_lt_iff_lt_mul (by omega)).2 (by rw [Int.add_mul, Int.mul_comm]; omega))
theorem dV {a b A : Int} (hb : 1000 ≤ b) (D : 0 ≤ A) (h : -(1000 * A) ≤ a ∧ a ≤ 1000 * A) : -A ≤ up a b ∧ up a b ≤ A := by
 rw [dU (by omega)]
 have := Y5 (a := -a) hb D (by omega)
 unfold dn at this
 omega
theorem N7 {s : Sg} {f : List Piece} (h1 : 1 ≤ s.Points.length ∧ s.Points.length ≤ 100) (h2 : f.length ≤ 200) (h3 : ∀ p, p ∈ f → 1 ≤ p.Volume) (h4 : Bj f ≤ 1000000) : Gl s f = some (Dc s f) := by
 have : Ok (Gl s f) fun r => r = Dc s f := by
  unfold Gl
  refine .bind (Q := fun D => D = s.Points.map (·.At)) (.forS (fun k D => D = (s.Points.take k).map (·.At)) (by simp) ?_ fun D h => by rw [h, List.take_of_length_le (Nat.le_refl _)]) ?_
  ·rintro k x _ M rfl
   unfold Gl.B4
   have Z := (gs M).1
   refine .bind' (.app (by simp; omega) (.pure ?_))
   rw [List.take_add_one, M]; simp
  rintro _ rfl
  unfold Gl.J1
  refine .bind (Q := fun D : Li × Int => D.1 = s.Points.map (·.At) ++ ends f 0) (.forS (fun k (D : Li × Int) => D.1 = s.Points.map (·.At) ++ (ends f 0).take k ∧ D.2 = Bj (f.take k)) (by simp [Bj]) ?_ fun D h => by rw [h.1, List.take_of_length_le (by rw [F2]; exact Nat.le_refl _)]) ?_
  ·rintro k x ⟨_, _⟩ M ⟨rfl, rfl⟩
   have Z := (gs M).1
   have hs := Ci h3 (k + 1)
   have e := C4 M
   have hw : wr (Bj (f.take k) + x.Volume) = Bj (f.take (k + 1)) := by rw [← e, Ap (by omega)]
   have Y := Ho f 0 k Z
   rw [Int.zero_add] at Y
   unfold Gl.B3
   dsimp only
   rw [hw]
   refine .bind' (.app (by simp [F2]; omega) (.pure ⟨?_, rfl⟩))
   dsimp only
   rw [List.take_add_one (l := ends f 0), Y]; simp
  rintro ⟨_, c⟩ rfl
  unfold Gl.J2 M0 M7
  dsimp only
  have O : s.Points.map (·.At) ++ ends f 0 ≠ [] := by
   intro h
   have := congrArg List.length h
   rw [List.length_append, List.length_map, List.length_nil] at this; omega
  have G : Ig (s.Points.map (·.At) ++ ends f 0) ≠ [] := by
   intro h
   have := congrArg List.length h
   rw [K6, List.length_append, List.length_map, List.length_nil] at this; omega
  rw [if_neg O]
  refine .bind' (.pure ?_)
  rw [if_neg G]
  exact .bind' (.pure (.pure rfl))
 obtain ⟨r, h, rfl⟩ := this
 exact h
theorem D0 {s : Sg} {f : List Piece} (G : PointsOk s.Capacity s.Points) (hf : FillX s.Capacity f) {x : Int} (h : x ∈ Dc s f) : 0 ≤ x ∧ x ≤ s.Capacity := by
 rcases Fk.1 h with ⟨p, D, rfl⟩ | ⟨k, M, rfl⟩
 ·obtain ⟨i, hi⟩ := List.getElem?_of_mem D
  exact G.at_range hi
 ·have := Ci hf.vol (k + 1)
  have := hf.sum; omega
theorem N6 {s : Sg} {f : List Piece} (D : PointsOk s.Capacity s.Points) (hf : FillX s.Capacity f) : (Dc s f)[0]? = some 0 := by
 have M := D.len
 have g0 : s.Points[0]? = some (s.Points[0]'(by omega)) := gq _
 exact Ru (Ea s f) (Fk.2 (.inl ⟨_, mg g0, D.first _ g0⟩)) fun x G => (D0 D hf G).1
theorem V0 {s : Sg} {f : List Piece} (D : PointsOk s.Capacity s.Points) (hf : FillX s.Capacity f) : (Dc s f)[(Dc s f).length - 1]? = some s.Capacity := by
 have M := D.len
 have g0 : s.Points[s.Points.length - 1]? = some (s.Points[s.Points.length - 1]'(by omega)) := gq _
 exact Uc (Ea s f) (Fk.2 (.inl ⟨_, mg g0, D.last _ g0⟩)) fun x G => (D0 D hf G).2
theorem Js {s : Sg} {f : List Piece} (M : PointsOk s.Capacity s.Points) (hc : 1 ≤ s.Capacity) (hf : FillX s.Capacity f) : 2 ≤ (Dc s f).length := by
 have G := N6 M hf
 have D := V0 M hf
 have := (gs G).1
 by_cases h : (Dc s f).length = 1
 ·rw [h] at D; rw [G] at D; simp at D; omega
 ·omega
structure PartX (s : Segment) (x : gradient_part) : Prop where
 length : 1 ≤ x.length ∧ x.length ≤ 1000000
 width : 1 ≤ x.width ∧ x.width ≤ 1000000
 height : -5500 ≤ x.height ∧ x.height ≤ 5500
 density : 400 ≤ x.liquid.Density ∧ x.liquid.Density ≤ 1200
 friction : 1 ≤ x.liquid.Friction ∧ x.liquid.Friction ≤ 2000
section
variable {s : Sg} {q : Int} {x : gradient_part}
theorem L5 (Y : 0 ≤ s.Resist ∧ s.Resist ≤ 1000) (hq : 1 ≤ q ∧ q ≤ 1000) (D : PartX s x) :
  (0 ≤ s.Resist * x.liquid.Friction ∧ s.Resist * x.liquid.Friction ≤ 2000000) ∧ (0 ≤ s.Resist * x.liquid.Friction * q ∧ s.Resist * x.liquid.Friction * q ≤ 2000000000) ∧
  (0 ≤ s.Resist * x.liquid.Friction * q * q ∧ s.Resist * x.liquid.Friction * q * q ≤ 2000000000000) ∧ 0 ≤ Ga s q x ∧ Ga s q x ≤ 2000000000000000000 := by
 have h1 := D.friction; have h2 := D.length
 have a1 := Dv (a := s.Resist) (b := x.liquid.Friction) (A := 1000) (B := 2000) (by omega) (by omega)
 have G := Int.mul_nonneg Y.1 (show 0 ≤ x.liquid.Friction by omega)
 have a2 := Dv (a := s.Resist * x.liquid.Friction) (b := q) (A := 2000000) (B := 1000) (by omega) (by omega)
 have M := Int.mul_nonneg G (show 0 ≤ q by omega)
 have a3 := Dv (a := s.Resist * x.liquid.Friction * q) (b := q) (A := 2000000000) (B := 1000) (by omega) (by omega)
 have O := Int.mul_nonneg M (show 0 ≤ q by omega)
 have a4 := Dv (a := s.Resist * x.liquid.Friction * q * q) (b := x.length) (A := 2000000000000) (B := 1000000) (by omega) (by omega)
 have Z := Int.mul_nonneg O (show 0 ≤ x.length by omega)
 unfold Ga
 refine ⟨⟨G, by omega⟩, ⟨M, by omega⟩, ⟨O, by omega⟩, Z, by omega⟩
theorem L3 (D : PartX s x) :
  (0 ≤ x.liquid.Density * 9807 ∧ x.liquid.Density * 9807 ≤ 11768400) ∧ (-64726200000 ≤ x.liquid.Density * 9807 * x.height ∧ x.liquid.Density * 9807 * x.height ≤ 64726200000) ∧
  -64726200000000000 ≤ Ib x ∧ Ib x ≤ 64726200000000000 := by
 have O := D.density; have Y := D.length; have Z := D.height
 have G := Dv (a := x.liquid.Density * 9807) (b := x.height) (A := 11768400) (B := 5500) (by omega) (by omega)
 have M := Dv (a := x.liquid.Density * 9807 * x.height) (b := x.length) (A := 64726200000) (B := 1000000) (by omega) (by omega)
 unfold Ib
 refine ⟨⟨by omega, by omega⟩, ⟨by omega, by omega⟩, by omega, by omega⟩
theorem Ft (hc : 1 ≤ s.Capacity) (Y : 0 ≤ s.Resist ∧ s.Resist ≤ 1000) (O : 1 ≤ q ∧ q ≤ 1000) (G : PartX s x) :
  (-3000000000000000 ≤ lo s q x ∧ lo s q x ≤ 3000000000000000) ∧ (-3000000000000000 ≤ hi s q x ∧ hi s q x ≤ 3000000000000000) := by
 have h1 := L5 Y O G
 have h2 := L3 G
 have M : 1000 ≤ Fq s := by unfold Fq; omega
 have D : 1000 ≤ Ia x := by have := G.width; unfold Ia; omega
 have Z := Y5 (a := Ga s q x) (A := 2000000000000000) M (by omega) (by omega)
 have d2 := Y5 (a := Ib x) (A := 64726200000000) D (by omega) (by omega)
 have u1 := dV (a := Ga s q x) (A := 2000000000000000) M (by omega) (by omega)
 have u2 := dV (a := Ib x) (A := 64726200000000) D (by omega) (by omega)
 unfold lo hi; omega
end
theorem R5 {s : Sg} {x : gradient_part} (h : PartX s x) : PartX s (neg x) := ⟨h.length, h.width, by have := h.height; simp only [neg]; omega, h.density, h.friction⟩
theorem Z1 {s : Sg} {q : Int} {x : gradient_part} (hc : 1 ≤ s.Capacity ∧ s.Capacity ≤ 1000000) (Y : 0 ≤ s.Resist ∧ s.Resist ≤ 1000) (O : 1 ≤ q ∧ q ≤ 1000) (D : PartX s x) :
  Ks x s q = some (lo s q x, hi s q x) := by
 have f := L5 Y O D
 have l := L3 D
 have w := D.width
 have b := Ft hc.1 Y O D
 have Z : wr ((wr ((wr ((wr (s.Resist * x.liquid.Friction)) * q)) * q)) * x.length) = Ga s q x := by
  rw [Ap (x := s.Resist * x.liquid.Friction) (by omega), Ap (x := s.Resist * x.liquid.Friction * q) (by omega), Ap (x := s.Resist * x.liquid.Friction * q * q) (by omega)]
  exact Ap (x := Ga s q x) (by omega)
 have e2 : wr ((wr ((wr (x.liquid.Density * 9807)) * x.height)) * x.length) = Ib x := by
  rw [Ap (x := x.liquid.Density * 9807) (by omega), Ap (x := x.liquid.Density * 9807 * x.height) (by omega)]
  exact Ap (x := Ib x) (by omega)
 have e3 : wr (1000 * s.Capacity) = Fq s := Ap (by omega)
 have e4 : wr (1000 * x.width) = Ia x := Ap (by omega)
 have G : 1 ≤ Fq s ∧ Fq s ≤ 1099511627776 := by unfold Fq; omega
 have M : 1 ≤ Ia x ∧ Ia x ≤ 1099511627776 := by unfold Ia; omega
 unfold Ks
 rw [Z, e2, e3, e4, L7 G (by omega), L7 M (by omega), T3 G (by omega), T3 M (by omega)]
 have e5 : wr (dn (Ga s q x) (Fq s) + dn (Ib x) (Ia x)) = lo s q x := Ap (x := lo s q x) (by omega)
 have e6 : wr (up (Ga s q x) (Fq s) + up (Ib x) (Ia x)) = hi s q x := Ap (x := hi s q x) (by omega)
 simp only [Option.bind_some, e5, e6]
theorem IsPart.okX {s : Sg} {f : List Piece} {l : List Product} {i : Nat} {x : gradient_part} (D : SegX s) (hf : FillX s.Capacity f) (hl : ∀ y, y ∈ l → (400 ≤ y.Density ∧ y.Density ≤ 1200) ∧ 1 ≤ y.Friction ∧ y.Friction ≤ 2000) (h : IsPart s f l i x) : PartX s x := by
 obtain ⟨a, b, p, u, v, k, y, G, M, O, Y, h5, h6, _, _, _, h7, rfl⟩ := h
 have hc := D.cap
 have ha := D0 D.points hf (mg G)
 have hb := D0 D.points hf (mg M)
 have hab := En (Ea s f) (Nat.lt_succ_self i) G M
 have hu := D.points.at_range O
 have hv := D.points.at_range Y
 have hh1 := D.points.height u (mg O)
 have hh2 := D.points.height v (mg Y)
 have Z := hl y (mg h7)
 exact ⟨by dsimp only; omega, by dsimp only; omega, by dsimp only; omega, Z.1, Z.2⟩
theorem Vq {s : Sg} {f : List Piece} {l : List Product} (hs : SegX s) (hf : FillX s.Capacity f) (hl : l.length = f.length) : Ok (K0 s f l (Dc s f)) fun W => Parts s f l W := by
 have hc := hs.cap
 have M := hs.points
 have hpl := M.len
 have hfl := hf.len
 have hbl := G3 s f
 have hb2 := Js M hc.1 hf
 have hf0 : 0 < f.length := by
  rcases Nat.eq_zero_or_pos f.length with h | h
  ·have : f = [] := List.eq_nil_of_length_eq_zero h
   subst this
   have := hf.sum
   simp [Bj] at this; omega
  ·exact h
 have hg0 : f[0]? = some (f[0]'hf0) := gq _
 unfold K0
 refine .bind' (.eq (A6 (k := 0) hg0) (.bind (Q := fun W => Parts s f l W) ?_ fun d hd => by unfold K0.J1; exact .pure hd))
 refine .loop (fun st : List gradient_part × Int × Int × Int => ∃ k : Nat, st.2.1 = (k : Int) ∧ k < f.length ∧ st.2.2.1 = Bj (f.take (k + 1)) ∧ st.2.2.2 = ((st.1.length + 1 : Nat) : Int) ∧ st.1.length + 1 ≤ (Dc s f).length ∧
   (∀ b, (Dc s f)[st.1.length + 1]? = some b → Bj (f.take k) < b) ∧ ∀ i x, st.1[i]? = some x → IsPart s f l i x) (fun st => (Dc s f).length - st.1.length)
  ⟨0, rfl, hf0, ?_, rfl, by simp; omega, ?_, by simp⟩ (by dsimp only; simp only [List.length_nil]; omega) ?_
 ·dsimp only; rw [C4 hg0]; simp [Bj]
 ·intro b Y
  have h0 := N6 M hf
  have := En (Ea s f) (by simp) h0 Y
  simpa [Bj] using this
 rintro ⟨G, i1, i2, i3⟩ ⟨k, h1, hk, h2, h3, ho, hlow, O⟩
 dsimp only at h1 h2 h3 ho hlow O
 subst h1 h2 h3
 unfold K0.B2
 dsimp only
 refine As (fun h => ?_) fun h => .pure ⟨by omega, O⟩
 have Y : (Dc s f)[G.length + 1]? = some ((Dc s f)[G.length + 1]'(by omega)) := gq _
 obtain ⟨b, hbe⟩ : ∃ b, b = (Dc s f)[G.length + 1]'(by omega) := ⟨_, rfl⟩
 rw [← hbe] at Y
 have ha : (Dc s f)[G.length]? = some ((Dc s f)[G.length]'(by omega)) := gq _
 obtain ⟨a, hae⟩ : ∃ a, a = (Dc s f)[G.length]'(by omega) := ⟨_, rfl⟩
 rw [← hae] at ha
 have hbr := D0 M hf (mg Y)
 have har := D0 M hf (mg ha)
 have hab := En (Ea s f) (Nat.lt_succ_self _) ha Y
 refine .bind (Q := fun d : Int × Int => ∃ D : Nat, d = ((D : Int), Bj (f.take (D + 1))) ∧ D < f.length ∧ Bj (f.take D) < b ∧ b ≤ Bj (f.take (D + 1))) ?_ ?_
 ·refine .loop (fun d : Int × Int => ∃ D : Nat, d = ((D : Int), Bj (f.take (D + 1))) ∧ D < f.length ∧ Bj (f.take D) < b) (fun d => f.length - d.1.toNat) ⟨k, rfl, hk, hlow b Y⟩ (by dsimp only; omega) ?_
  rintro _ ⟨D, rfl, Z, hl'⟩
  unfold K0.B6
  dsimp only
  refine .bind' (.eq (A6 Y) (As (fun h => ?_) fun h => .pure ⟨D, rfl, Z, hl', by omega⟩))
  have hn : D + 1 < f.length := by
   by_cases hh : D + 1 < f.length
   ·exact hh
   ·rw [List.take_of_length_le (by omega), hf.sum] at h; omega
  have hgn : f[D + 1]? = some (f[D + 1]'hn) := gq _
  have hsn := C4 hgn
  have hsr := Ci hf.vol (D + 1 + 1)
  have hfs := hf.sum
  rw [show wr ((D : Int) + 1) = ((D + 1 : Nat) : Int) by rw [Ap (by omega)]; omega]
  refine .bind' (.eq (A6 hgn) (.pure ⟨⟨D + 1, ?_, hn, h⟩, ?_⟩))
  ·dsimp only; rw [Ap (by omega), ← hsn]
  ·dsimp only; omega
 ·rintro _ ⟨D, rfl, Z, hl1, hl2⟩
  unfold K0.J4
  dsimp only
  refine .bind' (.eq (A6 Y) ?_)
  refine .bind (N1 ⟨hpl.1, by omega⟩ M.asc M.first (e := b) (by omega) fun p hp' => by have := M.last p hp'; omega) ?_
  rintro r ⟨p, u, v, rfl, hu, hv, hub, hbv⟩
  have hpl' := (gs hv).1
  have hur := M.at_range hu
  have hvr := M.at_range hv
  have hh1 := M.height u (mg hu)
  have hh2 := M.height v (mg hv)
  rw [show wr (((p + 1 : Nat) : Int) - 1) = (p : Int) by rw [Ap (by omega)]; omega]
  refine .bind' (.eq (A6 hu) (.bind' (.eq (A6 hv) ?_)))
  unfold K0.J5
  dsimp only
  rw [show wr (((G.length + 1 : Nat) : Int) - 1) = (G.length : Int) by rw [Ap (by omega)]; omega]
  have hly : l[D]? = some (l[D]'(by omega)) := gq _
  refine .bind' (.eq (A6 ha) (.bind' (.eq (A6 hly) (.bind' (.app (by simp; omega) ?_)))))
  unfold K0.J3
  dsimp only
  rw [Ap (x := b - a) (by omega), Ap (x := v.At - u.At) (by omega), Ap (x := v.Height - u.Height) (by omega), Ap (x := ((G.length + 1 : Nat) : Int) + 1) (by omega)]
  refine .pure ⟨⟨D, rfl, Z, rfl, by simp, by simp; omega, fun b' hb' => ?_, fun i x hx => ?_⟩, ?_⟩
  ·simp only [List.length_append, List.length_singleton] at hb'
   have := En (Ea s f) (Nat.lt_succ_self _) Y hb'
   omega
  ·rw [List.getElem?_append] at hx
   split at hx
   ·exact O i x hx
   ·have hi := (gs hx).1
    simp at hi
    have : i = G.length := by omega
    subst this
    simp at hx
    exact ⟨a, b, p, u, v, D, _, ha, Y, hu, hv, hub, hbv, hl1, hl2, Z, hly, hx.symm⟩
  ·dsimp only; simp only [List.length_append, List.length_singleton]; omega
theorem Zu {s : Sg} {r q : Int} {b : Bounds} {D : Li} {way : List gradient_part} (hc : 1 ≤ s.Capacity ∧ s.Capacity ≤ 1000000) (Z : 0 ≤ s.Resist ∧ s.Resist ≤ 1000) (hq : max r (wr (0 - r)) = q) (M : 1 ≤ q ∧ q ≤ 1000)
  (hl : way.length + 1 = D.length) (hl2 : D.length ≤ 300) (hw : ∀ x, x ∈ way → PartX s x) (h1 : -1125899906842624 ≤ b.Low ∧ b.Low ≤ 1125899906842624) (h2 : -1125899906842624 ≤ b.High ∧ b.High ≤ 1125899906842624) {a : Int} (ha : D[0]? = some a) :
  Ok (forJ (Ex.B4 s r (way, D)) 0 way.length (b.Low, b.High, [⟨a, b⟩])) fun Y => Y.2.2 = Jg s q b D way := by
 refine .forJ (fun k Y => Y.1 = b.Low - Bw (hi s q) (way.take k) ∧ Y.2.1 = b.High - Bw (lo s q) (way.take k) ∧ Y.2.2 = (List.range (k + 1)).map (S3 s q b D way)) ⟨by simp [Bw], by simp [Bw], ?_⟩ ?_ ?_
 ·simp [S3, List.range_succ, List.getD, ha, Bw]
 ·rintro k ⟨x1, x2, out⟩ hk ⟨i1, i2, O⟩
  dsimp only at i1 i2 O
  subst i1 i2 O
  have G : way[k]? = some (way[k]'hk) := gq _
  have hm := hw _ (mg G)
  have bd : ∀ x, x ∈ way.take (k + 1) → PartX s x := fun x G => hw x (List.mem_of_mem_take G)
  have bd0 : ∀ x, x ∈ way.take k → PartX s x := fun x G => hw x (List.mem_of_mem_take G)
  have s1 := Dn (g := lo s q) (B := 3000000000000000) (l := way.take (k + 1)) fun x G => (Ft hc.1 Z M (bd x G)).1
  have s2 := Dn (g := hi s q) (B := 3000000000000000) (l := way.take (k + 1)) fun x G => (Ft hc.1 Z M (bd x G)).2
  have t1 := Dz (lo s q) G
  have t2 := Dz (hi s q) G
  simp only [List.length_take] at s1 s2
  unfold Ex.B4
  refine .bind' (.ix k rfl hk (.bind' (.eq (by rw [hq]; exact Z1 hc Z M hm) (.bind' (.ix (k + 1) rfl (by dsimp only; omega) (.bind' (.app (by simp; omega) (.pure ⟨?_, ?_, ?_⟩))))))))
  ·dsimp only; rw [t2, Ap (by omega)]; omega
  ·dsimp only; rw [t1, Ap (by omega)]; omega
  ·dsimp only
   rw [List.range_succ (n := k + 1), List.map_append]
   have e1 : wr (b.Low - Bw (hi s q) (way.take k) - hi s q way[k]) = b.Low - Bw (hi s q) (way.take (k + 1)) := by rw [t2, Ap (by omega)]; omega
   have e2 : wr (b.High - Bw (lo s q) (way.take k) - lo s q way[k]) = b.High - Bw (lo s q) (way.take (k + 1)) := by rw [t1, Ap (by omega)]; omega
   rw [e1, e2]
   simp [S3, List.getD, gq (show k + 1 < D.length by omega)]
 ·rintro ⟨x1, x2, out⟩ ⟨i1, i2, O⟩
  dsimp only at O ⊢
  rw [O, hl]; rfl
theorem V3 {s : Sg} {f : List Piece} {bs : List Batch} {p l : List Product} (hs : SegX s) (hf : FillX s.Capacity f) (hfi : G0 s f = some 0) (hpc : Gy p = some 0) (hp : gC p) (hliq : Fg f bs p = some (l, 0)) (hlen : l.length = f.length) (hmem : ∀ y, y ∈ l → y ∈ p) :
  ∃ W, Parts s f l W ∧ (∀ x, x ∈ W → PartX s x) ∧ ∀ (r : Int) (b : Bounds), r ≠ 0 → -1000 ≤ r → r ≤ 1000 → b.Low ≤ b.High → -1125899906842624 ≤ b.Low → b.High ≤ 1125899906842624 → Ex s f bs p r b = some (Fi s f W r b, 0) := by
 obtain ⟨W, hW, hP⟩ := Vq hs hf hlen
 have M : ∀ x, x ∈ W → PartX s x := fun x hx => by
  obtain ⟨i, hi⟩ := List.getElem?_of_mem hx
  exact (hP.all i x hi).okX hs hf fun y hy => hp y (hmem y hy)
 refine ⟨W, hP, M, fun r b hr0 hr1 hr2 hb1 hb2 hb3 => ?_⟩
 have hc := hs.cap
 have hpl := hs.points.len
 have hfl := hf.len
 have hbl := G3 s f
 have hb2' := Js hs.points hc.1 hf
 have hWl := hP.len
 have O : Ff b = true := by unfold Ff; simp; omega
 have Z : ((r == 0) || (decide (r < (-1000)) || (decide (r > 1000) || (!(Ff b))))) = false := by rw [O]; simp; omega
 have e1 : Is (Dc s f) = some (Dc s f) := by
  unfold Is
  rw [Q8 (by simp; omega)]; rfl
 unfold Ex
 rw [hfi, hpc, hliq, N7 ⟨by omega, by omega⟩ hfl hf.vol (by have := hf.sum; omega)]
 simp only [Option.bind_some, Z, bne_self_eq_false, Bool.false_eq_true, if_false, Option.bind_some, hW, e1]
 have Y : ∀ (D : Li) (G : List gradient_part), G.length + 1 = D.length → D.length = (Dc s f).length → (∀ x, x ∈ G → PartX s x) →
   Ex.J1 s r b (G, D) = (if decide (r < 0) = true then some ((Jg s (-r) b D G).reverse, 0) else some (Jg s r b D G, 0)) := by
  intro D G h1 h2 h3
  have h0 : D[0]? = some (D[0]'(by omega)) := gq _
  have hq : max r (wr (0 - r)) = if r < 0 then -r else r := by rw [Ap (by omega)]; split <;> omega
  obtain ⟨st, g1, g2⟩ := Zu (s := s) (r := r) (b := b) hc hs.resist hq (by split <;> omega) h1 (by omega) h3 (by omega) (by omega) h0
  unfold Ex.J1
  have h0' : ix D 0 = some (0, D[0]) := A6 h0
  rw [h0']
  simp only [Option.bind_some, g1, Ex.J2, Ex.J3, g2]
  by_cases hr : r < 0
  ·simp only [hr, decide_true, if_true]
   rw [O8 (by rw [Gs]; omega)]; rfl
  ·simp only [hr, decide_false, if_false, Bool.false_eq_true]
 unfold Fi
 by_cases hr : r < 0
 ·simp only [hr, decide_true, if_true]
  rw [Ue (by omega), Rz (by omega)]
  simp only [Option.bind_some]
  have hneg : forJ Ex.B5 0 W.reverse.length W.reverse = some (W.reverse.map neg) := Us _ fun k m x hx hm => by
   have hb := (M x (List.mem_reverse.1 (mg hx))).height
   unfold Ex.B5
   rw [A6 hm]
   simp only [Option.bind_some]
   rw [Ap (by omega), Int.zero_sub]; rfl
  rw [hneg]
  simp only [Option.bind_some]
  rw [Y _ _ (by simp; omega) (by simp) (by
   intro x hx
   simp only [List.mem_map, List.mem_reverse] at hx
   obtain ⟨y, hy, rfl⟩ := hx
   exact R5 (M y hy))]
  simp only [hr, decide_true, if_true]
 ·simp only [hr, decide_false, if_false, Bool.false_eq_true]
  rw [Y _ _ (by omega) rfl M]
  simp only [hr, decide_false, if_false, Bool.false_eq_true]
theorem G6 {s : Sg} {f : List Piece} (h1 : s.Points.length ≤ 100) (h2 : f.length ≤ 200) (h3 : ∀ p, p ∈ f → 1 ≤ p.Volume) (h4 : Bj f ≤ 1000000) : Ix s f = some (Dc s f) := by
 have : Ok (Ix s f) fun r => r = Dc s f := by
  unfold Ix
  refine .bind (.forS (fun k D => D.Pairwise (· < ·) ∧ (∀ x, x ∈ D ↔ ∃ p, p ∈ s.Points.take k ∧ p.At = x) ∧ D.length ≤ k) ⟨.nil, by simp, by simp⟩ ?_ fun D h => h) ?_
  ·rintro k p D O ⟨G, M, i3⟩
   have hk := (gs O).1
   unfold Ix.B4
   refine .bind (Sf G (by omega) p.At) ?_
   rintro r ⟨r1, r2, r3⟩
   refine .pure ⟨r1, fun x => ?_, by omega⟩
   rw [r2, M, List.take_add_one, O]
   simp only [Option.toList_some, List.mem_append, List.mem_cons, List.not_mem_nil, or_false]
   constructor
   ·rintro (⟨q, hq, rfl⟩ | rfl)
    ·exact ⟨q, .inl hq, rfl⟩
    ·exact ⟨p, .inr rfl, rfl⟩
   ·rintro ⟨q, hq | rfl, rfl⟩
    ·exact .inl ⟨q, hq, rfl⟩
    ·exact .inr rfl
  ·rintro out ⟨o1, o2, o3⟩
   rw [List.take_of_length_le (Nat.le_refl _)] at o2
   unfold Ix.J1
   refine .bind (.forS (fun k D => D.1.Pairwise (· < ·) ∧ (∀ x, x ∈ D.1 ↔ (∃ p, p ∈ s.Points ∧ p.At = x) ∨ ∃ j, j < k ∧ x = Bj (f.take (j + 1))) ∧ D.1.length ≤ s.Points.length + k ∧ D.2 = Bj (f.take k)) ⟨o1, by simpa using o2, by simpa using o3, by simp [Bj]⟩ ?_ fun D h => h) ?_
   ·rintro k p ⟨D, Y⟩ O ⟨G, M, i3, i4⟩
    dsimp only at G M i3 i4
    subst i4
    have hk := (gs O).1
    have e := C4 O
    have b := Ci h3 (k + 1)
    unfold Ix.B3
    dsimp only
    rw [Ap (by omega), ← e]
    refine .bind (Sf G (by omega) _) ?_
    rintro r ⟨r1, r2, r3⟩
    refine .pure ⟨r1, fun x => ?_, by dsimp only; omega, rfl⟩
    dsimp only
    rw [r2, M]
    constructor
    ·rintro ((h | ⟨j, hj, rfl⟩) | rfl)
     ·exact .inl h
     ·exact .inr ⟨j, by omega, rfl⟩
     ·exact .inr ⟨k, by omega, rfl⟩
    ·rintro (h | ⟨j, hj, rfl⟩)
     ·exact .inl (.inl h)
     ·by_cases Z : j = k
      ·subst Z; exact .inr rfl
      ·exact .inl (.inr ⟨j, by omega, rfl⟩)
   ·rintro ⟨D, Y⟩ ⟨G, M, i3, i4⟩
    unfold Ix.J2
    refine .pure (Ub G (Ea s f) fun x => ?_)
    rw [Fk]; exact M x
 obtain ⟨r, h, rfl⟩ := this
 exact h
theorem fQ {cap : Int} {f : List Piece} (hf : FillX cap f) (hc : cap ≤ 1000000) (hv : Fw f = some true) {a : Int} {k : Nat} {x : Piece} (O : f[k]? = some x) (h1 : 0 ≤ a) (h2 : Bj (f.take k) ≤ a) (h3 : a < Bj (f.take (k + 1))) : Kq f a = some x.Batch := by
 have : Ok (Kq f a) fun r => r = x.Batch := by
  unfold Kq
  rw [hv]
  refine .bind' (.pure (Eh (fun h => by cases h) fun _ => ?_))
  rw [show decide (a < 0) = false by simp; omega]
  unfold Kq.J1
  refine Bd (fun h => by cases h) fun _ => .bind (Q := Sum.elim (fun _ : Int => False) fun r : Int => r = x.Batch) (.forL (fun j st => j ≤ k ∧ st = a - Bj (f.take j)) (fun r => r = x.Batch) ⟨Nat.zero_le _, by simp [Bj]⟩ ?_ ?_ fun _ h => h) ?_
  ·rintro j y _ G ⟨hj, rfl⟩
   have e := C4 G
   unfold Kq.B3
   refine As (fun Z => .pure ?_) fun Z => .pure ?_
   ·have : j = k := by
     rcases Nat.lt_or_ge j k with D | Y
     ·have := Vj hf.vol (show j + 1 ≤ k from D); omega
     ·omega
    subst this
    rw [O] at G; cases G
    rfl
   ·have aa : j ≠ k := by
     rintro rfl
     omega
    have b1 := Ci hf.vol (j + 1)
    have b2 := hf.sum
    have b3 := Ci hf.vol (k + 1)
    exact ⟨by omega, by rw [Ap (by omega)]; omega⟩
  ·rintro _ ⟨hk, rfl⟩
   have := (gs O).1
   omega
  ·rintro (_ | r) M
   ·exact M.elim
   ·exact .pure M
 obtain ⟨r, h, rfl⟩ := this
 exact h
theorem Uj {s : Sg} {f : List Piece} {bs : List Batch} {p l : List Product} {i : Nat} {x : gradient_part} {r a b : Int} (D : SegX s) (hf : FillX s.Capacity f) (hv : Fw f = some true)
  (hl : ∀ (k : Nat) (x : Piece) (y : Product), f[k]? = some x → l[k]? = some y → ∃ (j : Nat) (c : Batch) (i : Nat), x.Batch = (j : Int) ∧ bs[j]? = some c ∧ c.Product = (i : Int) ∧ p[i]? = some y)
  (hx : IsPart s f l i x) (aa : PartX s x) (Y : (Dc s f)[i]? = some a) (hb : (Dc s f)[i + 1]? = some b) (hr : -1000 ≤ r ∧ r ≤ 1000) :
  Kr s f bs p r a b = some (Ga s r x, Fq s, Ib x, Ia x) := by
 have hc := D.cap
 have hpl := D.points.len
 obtain ⟨a', b', q, u, v, k, y, h1, h2, G, O, h5, h6, h7, h8, h9, h10, rfl⟩ := hx
 rw [Y] at h1; cases h1
 rw [hb] at h2; cases h2
 have Z : f[k]? = some (f[k]'h9) := gq _
 obtain ⟨j, c, i', e1, e2, e3, e4⟩ := hl k _ y Z h10
 have hab := En (Ea s f) (Nat.lt_succ_self i) Y hb
 have har := D0 D.points hf (mg Y)
 have hbr := D0 D.points hf (mg hb)
 have hua : u.At ≤ a := Sd Y hb (Fk.2 (.inl ⟨u, mg G, rfl⟩)) h5
 have hka : Bj (f.take k) ≤ a := by
  rcases Nat.eq_zero_or_pos k with rfl | hk0
  ·simp [Bj]; omega
  ·exact Sd Y hb (Fk.2 (.inr ⟨k - 1, by omega, by rw [show k - 1 + 1 = k by omega]⟩)) h7
 have hq : q + 1 < s.Points.length := (gs O).1
 have huR := D.points.at_range G
 have hvR := D.points.at_range O
 have hh1 := D.points.height u (mg G)
 have hh2 := D.points.height v (mg O)
 have fr := aa.friction; have de := aa.density
 dsimp only at fr de
 have hlen : wr (b - a) = b - a := Ap (by omega)
 have m1 := Dv (a := s.Resist) (b := y.Friction) (A := 1000) (B := 2000) (by have := D.resist; omega) (by omega)
 have m2 := Dv (a := s.Resist * y.Friction) (b := r) (A := 2000000) (B := 1000) (by omega) (by omega)
 have m3 := Dv (a := s.Resist * y.Friction * r) (b := r) (A := 2000000000) (B := 1000) (by omega) (by omega)
 have m4 := Dv (a := s.Resist * y.Friction * r * r) (b := b - a) (A := 2000000000000) (B := 1000000) (by omega) (by omega)
 have n1 := Dv (a := y.Density * 9807) (b := v.Height - u.Height) (A := 12000000) (B := 5500) (by omega) (by omega)
 have n2 := Dv (a := y.Density * 9807 * (v.Height - u.Height)) (b := b - a) (A := 66000000000) (B := 1000000) (by omega) (by omega)
 have : Ok (Kr s f bs p r a b) fun t => t = (Ga s r ⟨b - a, v.At - u.At, v.Height - u.Height, y⟩, Fq s, Ib ⟨b - a, v.At - u.At, v.Height - u.Height, y⟩, Ia ⟨b - a, v.At - u.At, v.Height - u.Height, y⟩) := by
  unfold Kr
  rw [fQ hf hc.2 hv Z har.1 hka (by omega), e1]
  refine .bind' (.pure (.bind' (.eq (A6 e2) ?_)))
  dsimp only
  rw [e3]
  refine .bind' (.eq (A6 e4) (.bind (Q := fun d : Int => d = (q : Int)) ?_ ?_))
  ·refine .loop (fun st : Int => ∃ m : Nat, st = (m : Int) ∧ m ≤ q) (fun st => q - st.toNat) ⟨0, rfl, Nat.zero_le _⟩ (by omega) ?_
   rintro _ ⟨m, rfl, hm⟩
   have M : s.Points[m + 1]? = some (s.Points[m + 1]'(by omega)) := gq _
   unfold Kr.B3
   rw [Ap (by omega)]
   refine .bind' (.eq (by rw [show (m : Int) + 1 = ((m + 1 : Nat) : Int) by omega]; exact A6 M) ?_)
   dsimp only
   by_cases hmq : m = q
   ·subst hmq
    rw [O] at M
    rw [← Option.some.inj M]
    exact As (fun hh => by omega) fun _ => .pure rfl
   ·have hle : s.Points[m + 1].At ≤ u.At := by
     rcases Nat.lt_or_ge (m + 1) q with hlt | hge
     ·have := D.points.asc _ _ _ _ hlt M G; omega
     ·have : m + 1 = q := by omega
      subst this
      rw [G] at M; rw [← Option.some.inj M]; omega
    exact As (fun hh => .pure ⟨⟨m + 1, by omega, by omega⟩, by omega⟩) fun hh => by omega
  ·rintro _ rfl
   unfold Kr.J1
   refine .bind' (.eq (A6 G) ?_)
   rw [Ap (by omega)]
   refine .bind' (.eq (by rw [show (q : Int) + 1 = ((q + 1 : Nat) : Int) by omega]; exact A6 O) ?_)
   unfold Kr.J2
   dsimp only
   refine .pure ?_
   unfold Ga Fq Ib Ia
   dsimp only
   rw [Ap (x := b - a) (by omega), Ap (x := s.Resist * y.Friction) (by omega), Ap (x := s.Resist * y.Friction * r) (by omega), Ap (x := s.Resist * y.Friction * r * r) (by omega), Ap (x := s.Resist * y.Friction * r * r * (b - a)) (by omega),
    Ap (x := 1000 * s.Capacity) (by omega), Ap (x := y.Density * 9807) (by omega), Ap (x := v.Height - u.Height) (by omega), Ap (x := y.Density * 9807 * (v.Height - u.Height)) (by omega),
    Ap (x := y.Density * 9807 * (v.Height - u.Height) * (b - a)) (by omega), Ap (x := v.At - u.At) (by omega), Ap (x := 1000 * (v.At - u.At)) (by omega)]
 obtain ⟨t, h, rfl⟩ := this
 exact h
theorem aJ {s : Sg} {f : List Piece} {bs : List Batch} {p l : List Product} {W : List gradient_part} (M : SegX s) (hf : FillX s.Capacity f) (hv : Fw f = some true) (hfi : Hg s f = some 0) (hpc : Iy p = some 0) (hkn : G1 f bs p = some true)
  (hl : ∀ (k : Nat) (x : Piece) (y : Product), f[k]? = some x → l[k]? = some y → ∃ (j : Nat) (c : Batch) (i : Nat), x.Batch = (j : Int) ∧ bs[j]? = some c ∧ c.Product = (i : Int) ∧ p[i]? = some y)
  (hW : Parts s f l W) (hP : ∀ x, x ∈ W → PartX s x) {r : Int} {b : Bounds} (hr : 1 ≤ r ∧ r ≤ 1000) (hb1 : b.Low ≤ b.High) (hb2 : -1125899906842624 ≤ b.Low) (hb3 : b.High ≤ 1125899906842624) :
  Ej s f bs p r b = some (Fi s f W r b, 0) := by
 have hc := M.cap
 have hpl := M.points.len
 have hfl := hf.len
 have hbl := G3 s f
 have hb2' := Js M.points hc.1 hf
 have hWl := hW.len
 have Z : Fv b = true := by unfold Fv; simp; omega
 have Y : ((r == 0) || (decide (r < (-1000)) || (decide (r > 1000) || (!(Fv b))))) = false := by rw [Z]; simp; omega
 have e0 : Fi s f W r b = Jg s r b (Dc s f) W := by unfold Fi; rw [if_neg (by omega)]
 have : Ok (Ej s f bs p r b) fun t => t = (Fi s f W r b, 0) := by
  unfold Ej
  rw [hfi, hpc, hkn, Y]
  refine .bind' (.pure (Eo (fun h => absurd rfl h) fun _ => .bind' (.pure (Eo (fun h => absurd rfl h) fun _ => .bind' (.pure (Eh (fun h => by cases h) fun _ => Bd (fun h => by cases h) fun _ => ?_))))))
  rw [G6 (by omega) hfl hf.vol (by have := hf.sum; omega)]
  refine .bind' (.pure (.bind' (.mk (Dc s f).length rfl (by omega) (As (fun _ => ?_) fun h => by omega))))
  have h0 : (Dc s f)[0]? = some ((Dc s f)[0]'(by omega)) := gq _
  have h0' : ix (Dc s f) 0 = some (0, (Dc s f)[0]'(by omega)) := A6 h0
  rw [h0']
  refine .bind' (.pure (.bind' (.ix 0 rfl (by simp; omega) ?_)))
  dsimp only
  refine .bind (Q := fun d => d = Jg s r b (Dc s f) W) ?_ (by rintro _ rfl; unfold Ej.J4; exact .pure (by rw [e0]))
  refine .loop (fun st : List Level × Int × Int × Int => ∃ k : Nat, st.2.2.2 = ((k + 1 : Nat) : Int) ∧ k + 1 ≤ (Dc s f).length ∧ st.2.1 = b.Low - Bw (hi s r) (W.take k) ∧ st.2.2.1 = b.High - Bw (lo s r) (W.take k) ∧ st.1.length = (Dc s f).length ∧
   ∀ j, j ≤ k → st.1[j]? = some (S3 s r b (Dc s f) W j)) (fun st => (Dc s f).length - st.2.2.2.toNat) ⟨0, rfl, by omega, by simp [Bw], by simp [Bw], by simp, fun j hj => ?_⟩ (by dsimp only; omega) ?_
  ·have : j = 0 := by omega
   subst this
   rw [List.getElem?_set_self (by simp; omega)]
   simp [S3, List.getD, h0, Bw]
  ·rintro ⟨out, If, high, i⟩ ⟨k, h1, h2, h3, h4, h5, h6⟩
   dsimp only at h1 h2 h3 h4 h5 h6 ⊢
   subst h1 h3 h4
   unfold Ej.B5
   dsimp only
   refine As (fun hlt => ?_) fun hn => .pure ?_
   ·have D : k < W.length := by omega
    have G : W[k]? = some (W[k]'D) := gq _
    have hm := hP _ (mg G)
    have ha : (Dc s f)[k]? = some ((Dc s f)[k]'(by omega)) := gq _
    have O : (Dc s f)[k + 1]? = some ((Dc s f)[k + 1]'(by omega)) := gq _
    have bd : ∀ x, x ∈ W.take (k + 1) → PartX s x := fun x G => hP x (List.mem_of_mem_take G)
    have s1 := Dn (g := lo s r) (B := 3000000000000000) (l := W.take (k + 1)) fun x G => (Ft hc.1 M.resist hr (bd x G)).1
    have s2 := Dn (g := hi s r) (B := 3000000000000000) (l := W.take (k + 1)) fun x G => (Ft hc.1 M.resist hr (bd x G)).2
    have t1 := Dz (lo s r) G
    have t2 := Dz (hi s r) G
    simp only [List.length_take] at s1 s2
    have fA := L5 M.resist hr hm
    have lA := L3 hm
    have hw := hm.width
    have b1 : 1 ≤ Fq s ∧ Fq s ≤ 1099511627776 := by unfold Fq; omega
    have b2 : 1 ≤ Ia (W[k]'D) ∧ Ia (W[k]'D) ≤ 1099511627776 := by unfold Ia; omega
    have d1 := Er (a := Ga s r (W[k]'D)) (b := Fq s) (by omega)
    have d2 := Jl (a := Ga s r (W[k]'D)) (b := Fq s) (by omega)
    rw [Ap (x := ((k + 1 : Nat) : Int) - 1) (by omega), show ((k + 1 : Nat) : Int) - 1 = (k : Int) by omega, A6 ha, A6 O]
    simp only [Option.bind_some]
    rw [Uj M hf hv hl (hW.all k _ G) hm ha O (by omega)]
    simp only [Option.bind_some]
    rw [L1 b1 (by omega), L1 b2 (by omega), H7 b1 (by omega), H7 b2 (by omega)]
    simp only [Option.bind_some]
    have hlo : lo s r (W[k]'D) = dn (Ga s r (W[k]'D)) (Fq s) + dn (Ib (W[k]'D)) (Ia (W[k]'D)) := rfl
    have hhi : hi s r (W[k]'D) = up (Ga s r (W[k]'D)) (Fq s) + up (Ib (W[k]'D)) (Ia (W[k]'D)) := rfl
    have s1' := Dn (g := lo s r) (B := 3000000000000000) (l := W.take k) fun x G => (Ft hc.1 M.resist hr (hP x (List.mem_of_mem_take G))).1
    have s2' := Dn (g := hi s r) (B := 3000000000000000) (l := W.take k) fun x G => (Ft hc.1 M.resist hr (hP x (List.mem_of_mem_take G))).2
    simp only [List.length_take] at s1' s2'
    refine .bind' (.ix (k + 1) rfl (by omega) (.pure ⟨⟨k + 1, ?_, by omega, ?_, ?_, by simp [h5], fun j hj => ?_⟩, ?_⟩))
    ·dsimp only; rw [Ap (by omega)]; omega
    ·dsimp only; rw [t2, hhi, Ap (x := b.Low - Bw (hi s r) (W.take k) - up (Ga s r (W[k]'D)) (Fq s)) (by omega), Ap (by omega)]; omega
    ·dsimp only; rw [t1, hlo, Ap (x := b.High - Bw (lo s r) (W.take k) - dn (Ga s r (W[k]'D)) (Fq s)) (by omega), Ap (by omega)]; omega
    ·dsimp only
     by_cases hjk : j = k + 1
     ·subst hjk
      rw [List.getElem?_set_self (by omega)]
      simp only [S3, List.getD, O, Option.getD_some, t1, t2]
      rw [hlo, hhi, Ap (x := b.Low - Bw (hi s r) (W.take k) - up (Ga s r (W[k]'D)) (Fq s)) (by omega), Ap (x := b.Low - Bw (hi s r) (W.take k) - up (Ga s r (W[k]'D)) (Fq s) - _) (by omega),
       Ap (x := b.High - Bw (lo s r) (W.take k) - dn (Ga s r (W[k]'D)) (Fq s)) (by omega), Ap (by omega)]
      congr 3 <;> omega
     ·rw [List.getElem?_set_ne (by omega)]
      exact h6 j (by omega)
    ·dsimp only; rw [Ap (by omega)]; omega
   ·have hk : k + 1 = (Dc s f).length := by omega
    apply List.ext_getElem?
    intro j
    by_cases hj : j < (Dc s f).length
    ·rw [h6 j (by omega), Nl _ _ _ _ hj]
    ·rw [List.getElem?_eq_none (by omega), List.getElem?_eq_none (by rw [Gs]; omega)]
 obtain ⟨t, h, rfl⟩ := this
 exact h
theorem Vx (s : Sg) (r : Int) (x : gradient_part) : Ga s r x = Ga s (-r) x := by
 unfold Ga
 simp only [Int.mul_neg, Int.neg_mul, Int.neg_neg]
theorem V5 {s : Sg} {f : List Piece} {bs : List Batch} {p l : List Product} {W : List gradient_part} (Z : SegX s) (hf : FillX s.Capacity f) (hv : Fw f = some true) (hfi : Hg s f = some 0) (hpc : Iy p = some 0) (hkn : G1 f bs p = some true)
  (hl : ∀ (k : Nat) (x : Piece) (y : Product), f[k]? = some x → l[k]? = some y → ∃ (j : Nat) (c : Batch) (i : Nat), x.Batch = (j : Int) ∧ bs[j]? = some c ∧ c.Product = (i : Int) ∧ p[i]? = some y)
  (hW : Parts s f l W) (hP : ∀ x, x ∈ W → PartX s x) {r : Int} {b : Bounds} (hr : -1000 ≤ r ∧ r ≤ -1) (hb1 : b.Low ≤ b.High) (hb2 : -1125899906842624 ≤ b.Low) (hb3 : b.High ≤ 1125899906842624) :
  Ej s f bs p r b = some (Fi s f W r b, 0) := by
 have hc := Z.cap
 have hpl := Z.points.len
 have hfl := hf.len
 have hbl := G3 s f
 have hb2' := Js Z.points hc.1 hf
 have hWl := hW.len
 obtain ⟨q, hq⟩ : ∃ q, q = -r := ⟨_, rfl⟩
 have O : 1 ≤ q ∧ q ≤ 1000 := by omega
 obtain ⟨m, hm⟩ : ∃ m, m = (Dc s f).length := ⟨_, rfl⟩
 obtain ⟨V, hV⟩ : ∃ V, V = T2 W r := ⟨_, rfl⟩
 have ab : V = W.reverse.map neg := by rw [hV]; unfold T2; rw [if_pos (by omega)]
 have hVl : V.length = m - 1 := by rw [ab]; simp; omega
 have aa : ∀ x, x ∈ V → PartX s x := fun x G => by
  rw [ab] at G
  simp only [List.mem_map, List.mem_reverse] at G
  obtain ⟨y, hy, rfl⟩ := G
  exact R5 (hP y hy)
 have hpla : Jo s f r = (Dc s f).reverse := by unfold Jo; rw [if_pos (by omega)]
 have habs : bX r = q := by unfold bX; rw [if_pos (by omega), hq]
 have ad : Fv b = true := by unfold Fv; simp; omega
 have ac : ((r == 0) || (decide (r < (-1000)) || (decide (r > 1000) || (!(Fv b))))) = false := by rw [ad]; simp; omega
 have this : Ok (Ej s f bs p r b) fun t => t = (Fi s f W r b, 0) := by
  unfold Ej
  rw [hfi, hpc, hkn, ac]
  refine .bind' (.pure (Eo (fun h => absurd rfl h) fun _ => .bind' (.pure (Eo (fun h => absurd rfl h) fun _ => .bind' (.pure (Eh (fun h => by cases h) fun _ => Bd (fun h => by cases h) fun _ => ?_))))))
  rw [G6 (by omega) hfl hf.vol (by have := hf.sum; omega)]
  refine .bind' (.pure (.bind' (.mk (Dc s f).length rfl (by omega) (As (fun h => by omega) fun _ => ?_))))
  unfold Ej.J1
  rw [← hm, Ap (x := (m : Int) - 1) (by omega), show (m : Int) - 1 = ((m - 1 : Nat) : Int) by omega]
  have M : (Dc s f)[m - 1]? = some ((Dc s f)[m - 1]'(by omega)) := gq _
  refine .bind' (.eq (A6 M) (.bind' (.ix (m - 1) rfl (by simp; omega) ?_)))
  dsimp only
  rw [Ap (by omega)]
  refine .bind (Q := fun d => d = Fi s f W r b) ?_ (by rintro _ rfl; unfold Ej.J2; exact .pure rfl)
  refine .loop (fun st : List Level × Int × Int × Int => ∃ k : Nat, st.2.2.2 = (m : Int) - 2 - (k : Int) ∧ k + 1 ≤ m ∧ st.2.1 = b.Low - Bw (hi s q) (V.take k) ∧ st.2.2.1 = b.High - Bw (lo s q) (V.take k) ∧ st.1.length = m ∧
   ∀ j, j ≤ k → st.1[m - 1 - j]? = some (S3 s q b (Dc s f).reverse V j)) (fun st => (st.2.2.2 + 1).toNat) ⟨0, by dsimp only; omega, by omega, by simp [Bw], by simp [Bw], by simp, fun j hj => ?_⟩ (by dsimp only; omega) ?_
  ·have : j = 0 := by omega
   subst this
   rw [Nat.sub_zero, List.getElem?_set_self (by simp; omega)]
   have : (Dc s f).reverse[0]? = some ((Dc s f)[m - 1]'(by omega)) := by rw [List.getElem?_reverse (by omega), show (Dc s f).length - 1 - 0 = m - 1 by omega, M]
   simp [S3, List.getD, this, Bw]
  ·rintro ⟨out, If, high, i⟩ ⟨k, h1, h2, h3, h4, h5, h6⟩
   dsimp only at h1 h2 h3 h4 h5 h6 ⊢
   subst h1 h3 h4
   unfold Ej.B3
   dsimp only
   refine As (fun hge => ?_) fun hn => .pure ?_
   ·obtain ⟨i, hi_⟩ : ∃ i : Nat, i = m - 2 - k := ⟨_, rfl⟩
    have hie : (m : Int) - 2 - (k : Int) = (i : Int) := by omega
    have D : i < W.length := by omega
    have G : W[i]? = some (W[i]'D) := gq _
    have Y := hP _ (mg G)
    have hvx : V[k]? = some (neg (W[i]'D)) := by
     rw [ab, List.getElem?_map, List.getElem?_reverse (by omega), show W.length - 1 - k = i by omega, G]; rfl
    have ha : (Dc s f)[i]? = some ((Dc s f)[i]'(by omega)) := gq _
    have hbb : (Dc s f)[i + 1]? = some ((Dc s f)[i + 1]'(by omega)) := gq _
    have bd : ∀ x, x ∈ V.take (k + 1) → PartX s x := fun x G => aa x (List.mem_of_mem_take G)
    have s1 := Dn (g := lo s q) (B := 3000000000000000) (l := V.take (k + 1)) fun x G => (Ft hc.1 Z.resist O (bd x G)).1
    have s2 := Dn (g := hi s q) (B := 3000000000000000) (l := V.take (k + 1)) fun x G => (Ft hc.1 Z.resist O (bd x G)).2
    have t1 := Dz (lo s q) hvx
    have t2 := Dz (hi s q) hvx
    simp only [List.length_take] at s1 s2
    have fA := L5 Z.resist O Y
    have lA := L3 Y
    have hw := Y.width
    have b1 : 1 ≤ Fq s ∧ Fq s ≤ 1099511627776 := by unfold Fq; omega
    have b2 : 1 ≤ Ia (W[i]'D) ∧ Ia (W[i]'D) ≤ 1099511627776 := by unfold Ia; omega
    have d1 := Er (a := Ga s q (W[i]'D)) (b := Fq s) (by omega)
    have d2 := Jl (a := Ga s q (W[i]'D)) (b := Fq s) (by omega)
    rw [hie, Ap (x := (i : Int) + 1) (by omega), show (i : Int) + 1 = ((i + 1 : Nat) : Int) by omega, A6 ha, A6 hbb]
    simp only [Option.bind_some]
    rw [Uj Z hf hv hl (hW.all i _ G) Y ha hbb (by omega)]
    simp only [Option.bind_some]
    rw [Vx s r, ← hq, Ap (x := 0 - Ib _) (by omega), show 0 - Ib (W[i]'D) = -Ib (W[i]'D) by omega]
    rw [L1 b1 (by omega), L1 b2 (by omega), H7 b1 (by omega), H7 b2 (by omega)]
    simp only [Option.bind_some]
    have hlo : lo s q (neg (W[i]'D)) = dn (Ga s q (W[i]'D)) (Fq s) + dn (-Ib (W[i]'D)) (Ia (W[i]'D)) := by unfold lo; rw [Un]; rfl
    have hhi : hi s q (neg (W[i]'D)) = up (Ga s q (W[i]'D)) (Fq s) + up (-Ib (W[i]'D)) (Ia (W[i]'D)) := by unfold hi; rw [Un]; rfl
    have s1' := Dn (g := lo s q) (B := 3000000000000000) (l := V.take k) fun x G => (Ft hc.1 Z.resist O (aa x (List.mem_of_mem_take G))).1
    have s2' := Dn (g := hi s q) (B := 3000000000000000) (l := V.take k) fun x G => (Ft hc.1 Z.resist O (aa x (List.mem_of_mem_take G))).2
    simp only [List.length_take] at s1' s2'
    refine .bind' (.ix i rfl (by omega) (.pure ⟨⟨k + 1, ?_, by omega, ?_, ?_, by simp [h5], fun j hj => ?_⟩, ?_⟩))
    ·dsimp only; rw [Ap (by omega)]; omega
    ·dsimp only; rw [t2, hhi, Ap (x := b.Low - Bw (hi s q) (V.take k) - up (Ga s q (W[i]'D)) (Fq s)) (by omega), Ap (by omega)]; omega
    ·dsimp only; rw [t1, hlo, Ap (x := b.High - Bw (lo s q) (V.take k) - dn (Ga s q (W[i]'D)) (Fq s)) (by omega), Ap (by omega)]; omega
    ·dsimp only
     by_cases hjk : j = k + 1
     ·subst hjk
      have hp1 : (Dc s f).reverse[k + 1]? = some ((Dc s f)[i]'(by omega)) := by rw [List.getElem?_reverse (by omega), show (Dc s f).length - 1 - (k + 1) = i by omega, ha]
      rw [show m - 1 - (k + 1) = i by omega, List.getElem?_set_self (by omega)]
      simp only [S3, List.getD, hp1, Option.getD_some, t1, t2]
      rw [hlo, hhi, Ap (x := b.Low - Bw (hi s q) (V.take k) - up (Ga s q (W[i]'D)) (Fq s)) (by omega), Ap (x := b.Low - Bw (hi s q) (V.take k) - up (Ga s q (W[i]'D)) (Fq s) - _) (by omega),
       Ap (x := b.High - Bw (lo s q) (V.take k) - dn (Ga s q (W[i]'D)) (Fq s)) (by omega), Ap (by omega)]
      congr 3 <;> omega
     ·rw [List.getElem?_set_ne (by omega)]
      exact h6 j (by omega)
    ·dsimp only; rw [Ap (by omega)]; omega
   ·have hk : k + 1 = m := by omega
    apply List.ext_getElem?
    intro j
    by_cases hj : j < (Dc s f).length
    ·have := h6 (m - 1 - j) (by omega)
     rw [show m - 1 - (m - 1 - j) = j by omega] at this
     rw [this, V4 _ _ _ _ _ hj, habs, hpla, ← hV]
     unfold eD
     rw [if_pos (by omega), ← hm]
    ·rw [List.getElem?_eq_none (by omega), List.getElem?_eq_none (by rw [Pl]; omega)]
 obtain ⟨t, h, rfl⟩ := this
 exact h
theorem cH {s : Sg} (hl : s.Points.length ≤ 1000) : Sane (Fs s) := by
 refine ⟨by simp [Fs], by simp [Fs], by simp [Fs], by simp [Fs], fun k x D => ?_⟩
 unfold Fs at D
 rcases k with _ | k
 ·simp at D; subst D; exact hl
 ·simp at D
theorem Zc {s : Sg} (hl : s.Points.length ≤ 1000) : ∃ b : Bool, It s = some (if b = true then 0 else 9) ∧ M8 s = some b ∧ (b = true → SegX s) := by
 obtain ⟨r, Z, h2, h3⟩ := aC (cH hl)
 unfold Fs at Z h2
 unfold It M8
 rw [Z, h2]
 refine ⟨r == 0, ?_, rfl, fun hb => ?_⟩
 ·by_cases G : r = 0
  ·subst G; rfl
  ·simp [G]
 have G : r = 0 := by simpa using hb
 subst G
 obtain ⟨a, _, _, _, e⟩ := h3.good
 have hs : (Fs s).Segments[0]? = some ⟨s.Name, 0, 1, s.Capacity, s.Resist, s.Wave, s.Points⟩ := rfl
 have D := e.segs 0 _ hs
 have hl := a.2 0 _ hs
 refine ⟨D.cap, D.resist, hl, D.first, D.last, fun i p q Y hq => ?_, fun p O => ?_, fun p O => ?_⟩
 ·have := D.pts (i + 1) q hq
  exact Int.not_le.1 fun h => this (.inr ⟨p, by omega, Y, h⟩)
 ·obtain ⟨k, M⟩ := List.getElem?_of_mem O
  exact (Classical.not_not.1 fun h => D.pts k p M (.inl h) : Rt p).1
 ·obtain ⟨k, M⟩ := List.getElem?_of_mem O
  exact (Classical.not_not.1 fun h => D.pts k p M (.inl h) : Rt p).2
def Gb (f : List Piece) (k : Nat) (x : Piece) : Prop := ¬ ((0 ≤ x.Batch ∧ x.Batch < 1000) ∧ 1 ≤ x.Volume ∧ x.Volume ≤ 1000000) ∨ ∃ q, 0 < k ∧ f[k - 1]? = some q ∧ q.Batch = x.Batch
def Nx (f : List Piece) : Prop := f.length ≤ 200 ∧ (∀ (k : Nat) (x : Piece), f[k]? = some x → ¬ Gb f k x) ∧ Bj f ≤ 1000000
theorem L0 {f : List Piece} (h : ∀ p, p ∈ f → 1 ≤ p.Volume ∧ p.Volume ≤ 1000000) : ∀ k : Nat, 0 ≤ Bj (f.take k) ∧ Bj (f.take k) ≤ 1000000 * (k : Int)
 | 0 => by simp [Bj]
 | k + 1 => by
  have D := L0 h k
  rw [List.take_add_one]
  cases hx : f[k]? with
  | none => simp only [Option.toList_none, List.append_nil]; omega
  | some x =>
   rw [Option.toList_some, E8]
   have := h x (mg hx)
   simp only [Bj]; omega
theorem Oz {f : List Piece} (h : ∀ p, p ∈ f → 1 ≤ p.Volume ∧ p.Volume ≤ 1000000) (hl : f.length ≤ 200) : Gj f = some (Bj f) ∧ Km f = some (Bj f) := by
 have a : Ok (Gj f) fun r => r = Bj f := by
  unfold Gj
  refine .bind (.forS (fun k G => G = Bj (f.take k)) (by simp [Bj]) ?_ fun G h => h) ?_
  ·rintro k x _ D rfl
   have Y := (gs D).1
   unfold Gj.B2
   have := L0 h (k + 1)
   rw [C4 D] at this ⊢
   exact .pure (by rw [Ap (by omega)])
  ·rintro _ rfl
   unfold Gj.J1
   exact .pure (by rw [List.take_of_length_le (Nat.le_refl _)])
 have b : Ok (Km f) fun r => r = Bj f := by
  unfold Km
  refine .bind (.forS (fun k G => G = Bj (f.take k)) (by simp [Bj]) ?_ fun G h => h) ?_
  ·rintro k x _ D rfl
   have Y := (gs D).1
   unfold Km.B2
   have := L0 h (k + 1)
   rw [C4 D] at this ⊢
   exact .pure (by rw [Ap (by omega)])
  ·rintro _ rfl
   unfold Km.J1
   exact .pure (by rw [List.take_of_length_le (Nat.le_refl _)])
 obtain ⟨r, M, rfl⟩ := a
 obtain ⟨Z, O, rfl⟩ := b
 exact ⟨M, O⟩
theorem Ug {f : List Piece} (hl : f.length ≤ 200) {k : Nat} {x : Piece} (G : f[k]? = some x) (M : 0 < k) : ∃ q, f[k - 1]? = some q ∧ ix f (wr ((k : Int) - 1)) = some (k - 1, q) := by
 have O := (gs G).1
 have D : f[k - 1]? = some (f[k - 1]'(by omega)) := gq _
 refine ⟨_, D, ?_⟩
 rw [Ap (by omega), show ((k : Int) - 1) = ((k - 1 : Nat) : Int) by omega]
 exact A6 D
theorem Zj {f : List Piece} (h : ∀ (k : Nat) (x : Piece), f[k]? = some x → ¬ Gb f k x) : ∀ p, p ∈ f → (0 ≤ p.Batch ∧ p.Batch < 1000) ∧ 1 ≤ p.Volume ∧ p.Volume ≤ 1000000 := fun p M => by
 obtain ⟨k, D⟩ := List.getElem?_of_mem M
 exact Classical.not_not.1 fun G => h k p D (.inl G)
theorem cO {f : List Piece} : Ok (Gz f) fun b => b = true ↔ Nx f := by
 unfold Gz
 refine As (fun h => .pure ⟨fun h => (by cases h), fun G => by have := G.1; omega⟩) fun hl => .bind (hG (d := false) (P := Gb f) fun k x hx => ?_) ?_
 ·have Z : ∀ b : Bool, (b = true ↔ Gb f k x) → Ok (Gz.J3 b) fun o => (Gb f k x ∧ o = .inr false) ∨ (¬ Gb f k x ∧ o = .inl ()) := fun b h => by unfold Gz.J3; exact .test h
  have e : (!(Iv x)) = true ↔ ¬ ((0 ≤ x.Batch ∧ x.Batch < 1000) ∧ 0 ≤ x.Volume ∧ x.Volume ≤ 1000000) := by unfold Iv; simp; omega
  unfold Gz.B2
  refine Cd e (fun h => Z _ ⟨fun _ => .inl fun M => h ⟨M.1, by omega, M.2.2⟩, fun _ => rfl⟩) fun Y => Hz (fun h => Z _ ⟨fun _ => .inl fun M => by omega, fun _ => rfl⟩) fun h2 => ?_
  have Y := Classical.not_not.1 Y
  have M : (0 ≤ x.Batch ∧ x.Batch < 1000) ∧ 1 ≤ x.Volume ∧ x.Volume ≤ 1000000 := ⟨Y.1, by omega, Y.2.2⟩
  refine As (fun h0 => ?_) fun h0 => Z _ ⟨fun h => (by cases h), fun D => ?_⟩
  ·obtain ⟨q, hq, hi⟩ := Ug (by omega) hx (by omega)
   refine .bind' (.eq hi (Z _ ?_))
   rw [beq_iff_eq]
   refine ⟨fun h => .inr ⟨q, by omega, hq, h⟩, fun D => ?_⟩
   rcases D with D | ⟨q', _, O, D⟩
   ·exact absurd M D
   ·rw [hq] at O; cases O; exact D
  ·rcases D with D | ⟨q, hk, _⟩
   ·exact absurd M D
   ·omega
 ·rintro _ (⟨⟨k, x, hx, D⟩, rfl⟩ | ⟨h, rfl⟩)
  ·exact .pure ⟨fun h => (by cases h), fun G => absurd D (G.2.1 k x hx)⟩
  ·simp only [Sum.elim_inl]
   unfold Gz.J1
   refine .bind' (.eq (Oz (fun p G => (Zj h p G).2) (by omega)).1 (.pure ?_))
   rw [decide_eq_true_eq]
   exact ⟨fun hs => ⟨by omega, h, hs⟩, fun G => G.2.2⟩
theorem Vp {f : List Piece} : Ok (Fw f) fun b => b = true ↔ Nx f := by
 unfold Fw
 refine As (fun h => .pure ⟨fun h => (by cases h), fun O => by have := O.1; omega⟩) fun hl => ?_
 refine .bind (Q := Sum.elim (fun Y : Int => Y = Bj f ∧ ∀ (k : Nat) (x : Piece), f[k]? = some x → ¬ Gb f k x) fun b : Bool => b = false ∧ ∃ (k : Nat) (x : Piece), f[k]? = some x ∧ Gb f k x) (.forL (fun k Y => Y = Bj (f.take k) ∧ ∀ (j : Nat) (x : Piece), j < k → f[j]? = some x → ¬ Gb f j x) (fun b => b = false ∧ ∃ (k : Nat) (x : Piece), f[k]? = some x ∧ Gb f k x) ⟨by simp [Bj], fun j x h => absurd h (Nat.not_lt_zero _)⟩ ?_ ?_ fun b h => h) ?_
 ·rintro k x _ G ⟨rfl, hI⟩
  have hk := (gs G).1
  have j3 : ∀ b : Bool, (b = true ↔ Gb f k x) → Ok (Fw.J3 x (Bj (f.take k)) b) (Sum.elim (fun Y : Int => Y = Bj (f.take (k + 1)) ∧ ∀ (j : Nat) (x : Piece), j < k + 1 → f[j]? = some x → ¬ Gb f j x) fun b : Bool => b = false ∧ ∃ (k : Nat) (x : Piece), f[k]? = some x ∧ Gb f k x) := fun b D => by
   unfold Fw.J3
   refine Cd D (fun h => .pure ⟨rfl, k, x, G, h⟩) fun h => .pure ?_
   have Z : ∀ (j : Nat) (y : Piece), j < k + 1 → f[j]? = some y → ¬ Gb f j y := fun j y hj hy => by
    by_cases hjk : j = k
    ·subst hjk; rw [G] at hy; cases hy; exact h
    ·exact hI j y (by omega) hy
   refine ⟨?_, Z⟩
   have g := L0 (f := f.take (k + 1)) (fun p O => by
    obtain ⟨j, hj⟩ := List.getElem?_of_mem O
    have hjl := (gs hj).1
    simp at hjl
    rw [List.getElem?_take_of_lt (by omega)] at hj
    exact (Classical.not_not.1 fun M => Z j p (by omega) hj (.inl M) : (0 ≤ p.Batch ∧ p.Batch < 1000) ∧ 1 ≤ p.Volume ∧ p.Volume ≤ 1000000).2) (k + 1)
   rw [List.take_take, Nat.min_self, C4 G] at g
   rw [C4 G, Ap (by omega)]
  unfold Fw.B2
  have e : (!(K1 x.Batch)) = true ↔ ¬ (0 ≤ x.Batch ∧ x.Batch < 1000) := by unfold K1; simp; omega
  refine Cd e (fun h => j3 _ ⟨fun _ => .inl fun M => h M.1, fun _ => rfl⟩) fun h1 => As (fun h => j3 _ ⟨fun _ => .inl fun M => by omega, fun _ => rfl⟩) fun h2 => As (fun h => j3 _ ⟨fun _ => .inl fun M => by omega, fun _ => rfl⟩) fun h3 => ?_
  have M : (0 ≤ x.Batch ∧ x.Batch < 1000) ∧ 1 ≤ x.Volume ∧ x.Volume ≤ 1000000 := ⟨Classical.not_not.1 h1, by omega, by omega⟩
  refine As (fun h0 => ?_) fun h0 => j3 _ ⟨fun h => (by cases h), fun D => ?_⟩
  ·obtain ⟨q, hq, hi⟩ := Ug (by omega) G (by omega)
   refine .bind' (.eq hi (j3 _ ?_))
   rw [beq_iff_eq]
   refine ⟨fun h => .inr ⟨q, by omega, hq, h.symm⟩, fun D => ?_⟩
   rcases D with D | ⟨q', _, hq', D⟩
   ·exact absurd M D
   ·rw [hq] at hq'; cases hq'; exact D.symm
  ·rcases D with D | ⟨q, hk, _⟩
   ·exact absurd M D
   ·omega
 ·rintro _ ⟨rfl, h⟩
  exact ⟨by rw [List.take_of_length_le (Nat.le_refl _)], fun k x G => h k x (gs G).1 G⟩
 ·rintro (Y | b) hq
  ·obtain ⟨rfl, h⟩ := hq
   simp only [Sum.elim_inl]
   unfold Fw.J1
   refine .pure ?_
   rw [decide_eq_true_eq]
   exact ⟨fun hs => ⟨by omega, h, hs⟩, fun O => O.2.2⟩
  ·obtain ⟨rfl, k, x, G, D⟩ := hq
   exact .pure ⟨fun h => (by cases h), fun O => absurd D (O.2.1 k x G)⟩
theorem Zy (f : List Piece) : ∃ b : Bool, Gz f = some b ∧ Fw f = some b ∧ (b = true ↔ Nx f) := by
 obtain ⟨b, G, D⟩ := cO (f := f)
 obtain ⟨b', M, O⟩ := Vp (f := f)
 have : b = b' := by
  have := D.trans O.symm
  cases b <;> cases b' <;> simp_all
 subst this
 exact ⟨b, G, M, D⟩
theorem Zp {s : Sg} (hl : s.Points.length ≤ 1000) (f : List Piece) : ∃ e, G0 s f = some e ∧ Hg s f = some e ∧ (e = 0 → SegX s ∧ FillX s.Capacity f ∧ Fw f = some true) := by
 obtain ⟨b, h1, h2, h3⟩ := Zc hl
 obtain ⟨c, O, Z, g3⟩ := Zy f
 unfold G0 Hg
 rw [h1, h2]
 cases b with
 | false => exact ⟨9, by simp [G0.J1], by simp [Hg.J1], fun h => by cases h⟩
 | true =>
  simp only [Option.bind_some, if_true, bne_self_eq_false, Bool.false_eq_true, if_false, Bool.not_true, O, Z]
  cases c with
  | false => exact ⟨9, by simp [G0.J1], by simp [Hg.J1], fun h => by cases h⟩
  | true =>
   have D := g3.1 rfl
   have M := Zj D.2.1
   have Y := Oz (fun p D => (M p D).2) D.1
   unfold G0.J1 Hg.J1 Qm
   rw [O, Y.2]
   simp only [Option.bind_some, Bool.not_true, Bool.false_eq_true, if_false, Y.1]
   by_cases G : Bj f = s.Capacity
   ·exact ⟨0, by simp [G], by simp [G], fun _ => ⟨h3 rfl, ⟨D.1, fun p D => (M p D).2.1, fun p D => (M p D).1.1, G⟩, trivial⟩⟩
   ·exact ⟨14, by simp [G], by simp [G], fun h => by cases h⟩
def Lx (pts : List Point) (x : Int) : Nat → Int
 | 0 => 100000000
 | k + 1 => match pts[k]?, pts[k + 1]? with
  | some a, some b => if a.At ≤ x ∧ x ≤ b.At then min (min (Lx pts x k) a.Limit) b.Limit else Lx pts x k
  | _, _ => Lx pts x k
def bS (pts : List Point) (x : Int) : Int := Lx pts x (pts.length - 1)
theorem Pd {pts : List Point} {x : Int} {k : Nat} {a b : Point} (D : pts[k]? = some a) (hb : pts[k + 1]? = some b) :
  Lx pts x (k + 1) = if a.At ≤ x ∧ x ≤ b.At then min (min (Lx pts x k) a.Limit) b.Limit else Lx pts x k := by
 simp only [Lx, D, hb]
theorem Z2 {s : Sg} (h1 : 1 ≤ s.Points.length ∧ s.Points.length ≤ 1000) (x : Int) : Ku s x = some (bS s.Points x) := by
 have : Ok (Ku s x) fun r => r = bS s.Points x := by
  unfold Ku
  refine .bind (Q := fun d : Int => d = bS s.Points x) ?_ (by rintro _ rfl; unfold Ku.J1; exact .pure rfl)
  refine .loop (fun G : Int × Int => ∃ k : Nat, G.2 = ((k + 1 : Nat) : Int) ∧ k + 1 ≤ s.Points.length ∧ G.1 = Lx s.Points x k) (fun G => s.Points.length - G.2.toNat) ⟨0, rfl, by omega, rfl⟩ (by dsimp only; omega) ?_
  rintro ⟨m, i⟩ ⟨k, M, e2, O⟩
  dsimp only at M e2 O
  subst M O
  unfold Ku.B2
  dsimp only
  refine As (fun hlt => ?_) fun hn => .pure ?_
  ·have Y : s.Points[k]? = some (s.Points[k]'(by omega)) := gq _
   have Z : s.Points[k + 1]? = some (s.Points[k + 1]'(by omega)) := gq _
   have e := Pd (x := x) Y Z
   rw [Ap (by omega), show ((k + 1 : Nat) : Int) - 1 = (k : Int) by omega, A6 Y, A6 Z]
   simp only [Option.bind_some]
   unfold Ku.J4 Ku.J3
   dsimp only
   rw [Ap (by omega)]
   refine Bd (fun D => .pure ⟨⟨k + 1, by dsimp only; omega, by omega, ?_⟩, by dsimp only; omega⟩) fun D => .pure ⟨⟨k + 1, by dsimp only; omega, by omega, ?_⟩, by dsimp only; omega⟩
   ·simp at D
    dsimp only; rw [e, if_pos D]
   ·simp at D
    dsimp only; rw [e, if_neg (by omega)]
  ·unfold bS
   rw [show s.Points.length - 1 = k by omega]; rfl
 obtain ⟨r, h, rfl⟩ := this
 exact h
theorem cT {s : Sg} (h1 : 1 ≤ s.Points.length ∧ s.Points.length ≤ 1000) (x : Int) : Kw s x = some (bS s.Points x) := by
 have : Ok (Kw s x) fun r => r = bS s.Points x := by
  unfold Kw
  refine .bind (Q := fun d : Int => d = bS s.Points x) ?_ (by rintro _ rfl; unfold Kw.J1; exact .pure rfl)
  refine .loop (fun D : Int × Int => ∃ k : Nat, D.2 = ((k + 1 : Nat) : Int) ∧ k + 1 ≤ s.Points.length ∧ D.1 = Lx s.Points x k) (fun D => s.Points.length - D.2.toNat) ⟨0, rfl, by omega, rfl⟩ (by dsimp only; omega) ?_
  rintro ⟨m, i⟩ ⟨k, Y, e2, Z⟩
  dsimp only at Y e2 Z
  subst Y Z
  unfold Kw.B2
  dsimp only
  refine As (fun hlt => ?_) fun hn => .pure ?_
  ·have M : s.Points[k]? = some (s.Points[k]'(by omega)) := gq _
   have O : s.Points[k + 1]? = some (s.Points[k + 1]'(by omega)) := gq _
   have e := Pd (x := x) M O
   have no : ¬ (s.Points[k].At ≤ x ∧ x ≤ s.Points[k + 1].At) → Ok (Kw.J4 s (Lx s.Points x k, ((k + 1 : Nat) : Int)) false) (Sum.elim (fun D : Int × Int => (∃ k : Nat, D.2 = ((k + 1 : Nat) : Int) ∧ k + 1 ≤ s.Points.length ∧ D.1 = Lx s.Points x k) ∧ s.Points.length - D.2.toNat < s.Points.length - (((k + 1 : Nat) : Int)).toNat) fun d : Int => d = bS s.Points x) := by
    intro hh
    unfold Kw.J4 Kw.J3
    refine Bd (fun h => by cases h) fun _ => .pure ⟨⟨k + 1, ?_, by omega, ?_⟩, ?_⟩
    ·dsimp only; rw [Ap (by omega)]; omega
    ·dsimp only; rw [e, if_neg hh]
    ·dsimp only; rw [Ap (by omega)]; omega
   rw [Ap (by omega), show ((k + 1 : Nat) : Int) - 1 = (k : Int) by omega, A6 M, A6 O]
   simp only [Option.bind_some]
   refine As (fun h2 => ?_) fun h2 => no (by omega)
   by_cases G : x ≤ s.Points[k + 1].At
   ·rw [show decide (x ≤ s.Points[k + 1].At) = true by simpa using G]
    unfold Kw.J4 Kw.J3
    refine Bd (fun _ => ?_) fun h => by cases h
    dsimp only
    rw [Ap (x := ((k + 1 : Nat) : Int) - 1) (by omega), show ((k + 1 : Nat) : Int) - 1 = (k : Int) by omega, A6 M, A6 O]
    refine .bind' (.pure (.bind' (.pure (.pure ⟨⟨k + 1, ?_, by omega, ?_⟩, ?_⟩))))
    ·dsimp only; rw [Ap (by omega)]; omega
    ·dsimp only; rw [e, if_pos ⟨h2, G⟩]
    ·dsimp only; rw [Ap (by omega)]; omega
   ·rw [show decide (x ≤ s.Points[k + 1].At) = false by simpa using G]
    exact no (by omega)
  ·unfold bS
   rw [show s.Points.length - 1 = k by omega]; rfl
 obtain ⟨r, h, rfl⟩ := this
 exact h
end Go.Proofs.YtkhcdkioehdndaaGreatDoor
