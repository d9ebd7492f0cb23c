/- Plain proofs. No condition. -/
import Derived.Test.YtaoclefkknloiaaGreatZvP2
import Derived.Test.YtaoclefkknloiaaGreatZvD
import Derived.Test.YtaoclefkknloiaaGreatZvP0
import Derived.Test.YtaoclefkknloiaaGreatZvP1
import Derived.KernelRfl
import Derived.Test.YtaoclefkknloiaaGreatZvB1
import Derived.ProofKit
import Derived.SizedLaws
import Derived.Carry
set_option maxRecDepth 100000
namespace Go.Proofs.YtaoclefkknloiaaGreat
set_option linter.unusedVariables false
set_option linter.unusedSimpArgs false
open Go.Aw
theorem Ui {f : List Piece} (hf : ∀ p, p ∈ f → 0 ≤ p.Volume) (hl : vol f ≤ 1000000000) : Rr f = some (vol f) := by
 unfold Rr Ws
 rw [Sf (B := Ws.B2 _) (fun _ _ _ => rfl) hf hl]; rfl
def E0 (b : Int) (L : Li) : Int × Bool := if b ∈ L then ((L.idxOf b : Int), true) else (0, false)
theorem tG {b : Int} {A B : Li} (h : b ∉ A) : (A ++ B).idxOf b = A.length + B.idxOf b := by rw [List.idxOf_append, if_neg h, Nat.add_comm]
theorem Sx {b : Int} {A B : Li} (h : b ∉ A) (G : B.head? = some b) : (A ++ B).idxOf b = A.length := by
 cases B with
 | nil => simp at G
 | cons x B =>
  simp at G; subst G
  rw [tG h]; simp
theorem bJ {f : List Piece} (hv : Vd f) (b : Int) : G5 f b true = some (E0 b (lit f)) := by
 have hvol := hv.vol
 have : Ok (G5 f b true) fun r => r = E0 b (lit f) := by
  unfold G5
  rw [if_pos rfl]
  refine .bind' (.forL (fun k _ => b ∉ lit (f.take k)) (fun r => r = E0 b (lit f)) (by simp [Em]) ?_ ?_ fun r h => .pure h)
  ·intro k x _ O G
   have hk := (gs O).1
   have M := hv.piece (mg O)
   unfold G5.B5
   refine Dc (fun Y => ?_) fun Y => .pure ?_
   ·refine .bind' (.sub 0 k rfl rfl (by omega) (by omega) ?_)
    rw [List.drop_zero, Nat.sub_zero]
    have h4 : ∀ p, p ∈ f.take k → 0 ≤ p.Volume := fun p M => hv.nn p (List.mem_of_mem_take M)
    have W := D3 h4
    have h2 : vol f = vol (f.take k) + vol (f.drop k) := by rw [← Ev, List.take_append_drop]
    have h3 := Eu (f := f.drop k) fun p M => hv.nn p (List.mem_of_mem_drop M)
    refine .bind' (.eq (Ui h4 (by omega)) (.pure ?_))
    show (vol (f.take k), true) = E0 b (lit f)
    have e : lit f = lit (f.take k) ++ lit (f.drop k) := by rw [← Db, List.take_append_drop]
    have e2 : (lit (f.drop k)).head? = some b := by
     rw [List.drop_eq_getElem_cons hk, (gs O).2, H4]
     obtain ⟨v, Z⟩ : ∃ v, x.Volume.toNat = v + 1 := ⟨x.Volume.toNat - 1, by omega⟩
     rw [Z, List.replicate_succ, Y]; rfl
    unfold E0
    have hm : b ∈ lit f := by rw [e]; exact List.mem_append.2 (.inr (List.mem_of_head? e2))
    rw [if_pos hm, e, Sx G e2, W]
   ·show b ∉ lit (f.take (k + 1))
    rw [List.take_add_one, O]
    simp [Db, Dz, G]
    intro _ h; exact Y h.symm
  ·intro _ G
   rw [List.take_length] at G
   unfold E0
   rw [if_neg G]; exact .pure rfl
 obtain ⟨r, W, rfl⟩ := this
 exact W
theorem bI {f : List Piece} (hv : Vd f) (b : Int) : G5 f b false = some (E0 b (lit f).reverse) := by
 have hvol := hv.vol; have hlen := hv.len
 have : Ok (G5 f b false) fun r => r = E0 b (lit f).reverse := by
  unfold G5
  rw [if_neg (by simp)]
  unfold G5.J1
  rw [Be (by omega)]
  refine .bind (Q := Sum.elim (fun r : Int × Bool => r = E0 b (lit f).reverse) fun _ : Unit => b ∉ lit f) (.loop (fun st => ∃ k : Nat, k ≤ f.length ∧ st = (k : Int) - 1 ∧ b ∉ lit (f.drop k)) (fun st => (st + 1).toNat) ⟨f.length, by omega, rfl, by simp [Em]⟩ (by omega) ?_) ?_
  ·rintro _ ⟨k, hk, rfl, O⟩
   unfold G5.B3
   refine A8 (fun h => ?_) fun h => .pure ?_
   ·obtain ⟨j, rfl⟩ : ∃ j, k = j + 1 := ⟨k - 1, by omega⟩
    rw [show ((j + 1 : Nat) : Int) - 1 = (j : Int) by omega]
    obtain ⟨x, G⟩ := Cn (l := f) (k := j) (by omega)
    have hj := (gs G).1
    have W := hv.piece (mg G)
    have ed : f.drop j = x :: f.drop (j + 1) := by rw [List.drop_eq_getElem_cons hj, (gs G).2]
    refine .bind' (.eq (A1 G) (Dc (fun M => ?_) fun M => .pure ⟨⟨j, by omega, ?_, ?_⟩, ?_⟩))
    ·dsimp only at M
     rw [Be (by omega)]
     refine .bind' (.sub (j + 1) f.length (by omega) rfl (by omega) (by omega) ?_)
     have e0 : (f.drop (j + 1)).take (f.length - (j + 1)) = f.drop (j + 1) := List.take_of_length_le (by simp)
     rw [e0]
     have h4 : ∀ p, p ∈ f.drop (j + 1) → 0 ≤ p.Volume := fun p W => hv.nn p (List.mem_of_mem_drop W)
     have Y := D3 h4
     have h2 : vol f = vol (f.take (j + 1)) + vol (f.drop (j + 1)) := by rw [← Ev, List.take_append_drop]
     have h3 := Eu (f := f.take (j + 1)) fun p W => hv.nn p (List.mem_of_mem_take W)
     refine .bind' (.eq (Ui h4 (by omega)) (.pure ?_))
     show (vol (f.drop (j + 1)), true) = E0 b (lit f).reverse
     have e : (lit f).reverse = (lit (f.drop (j + 1))).reverse ++ (lit (f.take (j + 1))).reverse := by rw [← List.reverse_append, ← Db, List.take_append_drop]
     have e2 : ((lit (f.take (j + 1))).reverse).head? = some b := by
      rw [List.take_add_one, G, Db, List.reverse_append, Option.toList_some, Dz, List.reverse_replicate]
      obtain ⟨v, Z⟩ : ∃ v, x.Volume.toNat = v + 1 := ⟨x.Volume.toNat - 1, by omega⟩
      rw [Z, List.replicate_succ, M]; rfl
     unfold E0
     have hm : b ∈ (lit f).reverse := by rw [e]; exact List.mem_append.2 (.inr (List.mem_of_head? e2))
     rw [if_pos hm, e, Sx (by simpa using O) e2, List.length_reverse, Y]
    ·rw [Be (by omega)]
    ·rw [ed, H4]
     simp [O]
     intro _ h; exact M h.symm
    ·rw [Be (by omega)]; omega
   ·obtain rfl : k = 0 := by omega
    rw [List.drop_zero] at O; exact O
  ·rintro (r | _) h
   ·exact .pure h
   ·unfold E0
    rw [if_neg (by simpa using h)]; exact .pure rfl
 obtain ⟨r, Y, rfl⟩ := this
 exact Y
def gq (f : List Piece) (G : Bool) : List Piece := if G = true then f else f.reverse
theorem qQ {f : List Piece} (hv : Vd f) (G : Bool) : Vd (gq f G) := by
 cases G
 ·exact hv.rev
 ·exact hv
theorem Y4 {f : List Piece} (hv : Vd f) (b : Int) (G : Bool) : G5 f b G = some (E0 b (lit (gq f G))) := by
 cases G
 ·rw [bI hv, ← Xj]; rfl
 ·exact bJ hv b
theorem dC {f : List Piece} (hv : Vd f) (b : Int) (G : Bool) : N2 f b G = some (E0 b (lit (gq f G))) := by
 have O := qQ hv G
 have hl : (gq f G).length = f.length := by cases G <;> simp [gq]
 have hlen := hv.len
 have W : ∀ (k : Nat) (x : Piece), (gq f G)[k]? = some x → ∀ {β : Type} (K : Int → Option β), (if G = true then K (k : Int) else K (wr ((wr ((f.length : Int) - 1)) - (k : Int)))) = K (if G = true then (k : Int) else ((f.length - 1 - k : Nat) : Int)) ∧ ix f (if G = true then (k : Int) else ((f.length - 1 - k : Nat) : Int)) = some ((if G = true then k else f.length - 1 - k), x) := fun k x M β K => by
  have hk := (gs M).1
  cases G
  ·simp only [Bool.false_eq_true, if_false]
   rw [Be (by omega : _ ≤ (f.length : Int) - 1 ∧ _), Be (by omega), show ((f.length : Int) - 1 - (k : Int)) = ((f.length - 1 - k : Nat) : Int) by omega]
   refine ⟨rfl, A1 ?_⟩
   simp only [gq, Bool.false_eq_true, if_false] at M
   rw [List.getElem?_reverse (by omega)] at M
   exact M
  ·simp only [if_true]
   exact ⟨trivial, A1 (by simpa [gq] using M)⟩
 generalize gq f G = g at O hl W
 have hvol := O.vol
 refine Z5 ?_
 unfold N2
 refine .bind (Q := Sum.elim (fun r : Int × Bool => r = E0 b (lit g)) fun _ : Unit => b ∉ lit g) (.loop (fun st => ∃ k : Nat, k ≤ g.length ∧ st.2 = (k : Int) ∧ st.1 = vol (g.take k) ∧ b ∉ lit (g.take k)) (fun st => ((f.length : Int) - st.2).toNat) ⟨0, by omega, rfl, rfl, by simp [Em]⟩ (by dsimp only; omega) ?_) ?_
 ·rintro ⟨_, _⟩ ⟨k, hk, rfl, rfl, Y⟩
  unfold N2.B2
  refine A8 (fun h => ?_) fun h => .pure ?_
  ·dsimp only at h ⊢
   obtain ⟨x, M⟩ := Cn (l := g) (k := k) (by omega)
   have Z := O.piece (mg M)
   obtain ⟨i1, i2⟩ := W k x M (N2.J3 f b (vol (g.take k), (k : Int)))
   rw [i1]
   unfold N2.J3
   have h4 : ∀ p, p ∈ g.take k → 0 ≤ p.Volume := fun p Z => O.nn p (List.mem_of_mem_take Z)
   have h1 := D3 h4
   have h2 := D8 M
   have h3 := Eu (f := g.drop (k + 1)) fun p Z => O.nn p (List.mem_of_mem_drop Z)
   have h5 : vol g = vol (g.take (k + 1)) + vol (g.drop (k + 1)) := by rw [← Ev, List.take_append_drop]
   have hkl := (gs M).1
   have ed : g.drop k = x :: g.drop (k + 1) := by rw [List.drop_eq_getElem_cons hkl, (gs M).2]
   refine .bind' (.eq i2 (Dc (fun hb => .pure ?_) fun hb => .pure ⟨⟨k + 1, by omega, ?_, ?_, ?_⟩, ?_⟩))
   ·show (vol (g.take k), true) = E0 b (lit g)
    have e : lit g = lit (g.take k) ++ lit (g.drop k) := by rw [← Db, List.take_append_drop]
    have e2 : (lit (g.drop k)).head? = some b := by
     rw [ed, H4]
     obtain ⟨v, hv'⟩ : ∃ v, x.Volume.toNat = v + 1 := ⟨x.Volume.toNat - 1, by omega⟩
     rw [hv', List.replicate_succ]; simp [← hb]
    unfold E0
    have hm : b ∈ lit g := by rw [e]; exact List.mem_append.2 (.inr (List.mem_of_head? e2))
    rw [if_pos hm, e, Sx Y e2, h1]
   ·dsimp only; rw [Be (by omega)]; omega
   ·dsimp only; rw [h2, Be (by omega)]
   ·rw [List.take_add_one, M]
    simp [Db, Dz, Y]
    intro _ h; exact hb h.symm
   ·dsimp only; rw [Be (by omega)]; omega
  ·dsimp only at h
   obtain rfl : k = g.length := by omega
   rw [List.take_length] at Y; exact Y
 ·rintro (r | _) h
  ·exact .pure h
  ·unfold E0
   rw [if_neg (by simpa using h)]; exact .pure rfl
theorem oF (f : List Piece) (b : Int) (G : Bool) : ∃ q, Wn f b G = some q ∧ Wm f b G = some q := by
 obtain ⟨r, W, O⟩ := Ub f
 obtain ⟨r', Y, Z⟩ := Po f
 have e : r = r' := by rw [← Bool.eq_iff_iff.2 (O.trans Z.symm)]
 subst e
 unfold Wn Wm
 rw [W, Y]
 simp only [Option.bind_some]
 by_cases M : Vd f
 ·rw [O.2 M, Y4 M, dC M]
  exact ⟨_, rfl, rfl⟩
 ·have : r = false := by cases r; rfl; exact absurd (O.1 rfl) M
  subst this
  exact ⟨_, rfl, rfl⟩
section
variable {n : Nw} {fs : List (List Piece)} {F0 : Nat → Li} {way : List Hop}
def hE (n : Nw) (h : Hop) : Int × Int := match n.Segments[h.Segment.toNat]? with | some s => if h.Back = true then (s.To, s.From) else (s.From, s.To) | none => (0, 0)
def V5 (n : Nw) (h : Hop) : Prop := 0 ≤ h.Segment ∧ h.Segment < (n.Segments.length : Int)
theorem qP (G : NetC n) (h : Hop) : 0 ≤ (hE n h).1 ∧ 0 ≤ (hE n h).2 := by
 unfold hE
 split
 ·rename_i s M
  have := (G.segs _ s M).1
  split <;> dsimp only <;> omega
 ·simp
theorem Wd {h : Hop} (hi : V5 n h) : Lr n h = some (hE n h) := by
 obtain ⟨k, M⟩ := Et hi.1
 have := hi.2
 obtain ⟨s, G⟩ := Cn (l := n.Segments) (k := k) (by omega)
 unfold Lr hE
 rw [M, A1 G, Option.bind_some, Int.toNat_natCast, G]
 dsimp only
 split <;> rfl
structure Leads (n : Network) (way : List Hop) : Prop where
 len : way.length ≤ 32
 ins : ∀ (k : Nat) (h : Hop), way[k]? = some h → V5 n h
 chain : ∀ (k : Nat) (h h' : Hop), way[k]? = some h → way[k + 1]? = some h' → (hE n h).2 = (hE n h').1
theorem eO (hn : NetC n) (way : List Hop) : Ok (R9 n way) fun r => r = true ↔ Leads n way := by
 unfold R9
 refine .bind' (.forL (fun k st => (k = 0 ∧ st = -1 ∨ ∃ h, 0 < k ∧ way[k - 1]? = some h ∧ st = (hE n h).2) ∧ (∀ (j : Nat) (h : Hop), j < k → way[j]? = some h → V5 n h) ∧ ∀ (j : Nat) (h G : Hop), j + 1 < k → way[j]? = some h → way[j + 1]? = some G → (hE n h).2 = (hE n G).1) (fun b => b = false ∧ ¬ Leads n way)
  ⟨.inl ⟨rfl, rfl⟩, fun j h hj => by omega, fun j h G hj => by omega⟩ ?_ ?_ ?_)
 ·rintro k x st hx ⟨h1, h2, h3⟩
  have hk := (gs hx).1
  unfold R9.B2
  refine Cw (Q := ¬ V5 n x) (by unfold V5; simp; omega) (fun h => .pure ⟨rfl, fun hl => h (hl.ins k x hx)⟩) fun hi => ?_
  have hi := Classical.not_not.1 hi
  have W := Wd hi
  have hnn := qP hn x
  unfold Lr at W
  obtain ⟨m, hm⟩ := Et hi.1
  have hi2 := hi.2
  obtain ⟨s, hs⟩ := Cn (l := n.Segments) (k := m) (by omega)
  rw [hm, A1 hs, Option.bind_some] at W
  rw [hm]
  refine .bind' (.eq (A1 hs) ?_)
  dsimp only at W ⊢
  have Z : Ok (R9.J3 st (hE n x)) (Sum.elim (fun st => (k + 1 = 0 ∧ st = -1 ∨ ∃ h, 0 < k + 1 ∧ way[k + 1 - 1]? = some h ∧ st = (hE n h).2) ∧ (∀ (j : Nat) (h : Hop), j < k + 1 → way[j]? = some h → V5 n h) ∧ ∀ (j : Nat) (h G : Hop), j + 1 < k + 1 → way[j]? = some h → way[j + 1]? = some G → (hE n h).2 = (hE n G).1) fun b => b = false ∧ ¬ Leads n way) := by
   unfold R9.J3
   have Y : (∀ h, 0 < k → way[k - 1]? = some h → (hE n h).2 = (hE n x).1) → (k + 1 = 0 ∧ (hE n x).2 = -1 ∨ ∃ h, 0 < k + 1 ∧ way[k + 1 - 1]? = some h ∧ (hE n x).2 = (hE n h).2) ∧ (∀ (j : Nat) (h : Hop), j < k + 1 → way[j]? = some h → V5 n h) ∧ ∀ (j : Nat) (h G : Hop), j + 1 < k + 1 → way[j]? = some h → way[j + 1]? = some G → (hE n h).2 = (hE n G).1 := fun hc => by
    refine ⟨.inr ⟨x, by omega, hx, rfl⟩, fun j h hj M => ?_, fun j h G hj M O => ?_⟩
    ·by_cases e : j = k
     ·subst e; rw [hx] at M; cases M; exact hi
     ·exact h2 j h (by omega) M
    ·by_cases e : j + 1 = k
     ·subst e; rw [hx] at O; cases O; exact hc h (by omega) M
     ·exact h3 j h G (by omega) M O
   rcases h1 with ⟨rfl, rfl⟩ | ⟨h, h0, hh, rfl⟩
   ·rw [if_neg (by simp)]
    exact .pure (Y fun h h0 => by omega)
   ·have hnh := qP hn h
    refine Cw (Q := (hE n h).2 ≠ (hE n x).1) (by simp; omega) (fun hne => .pure ⟨rfl, fun hl => hne (hl.chain (k - 1) h x hh (by rw [show k - 1 + 1 = k by omega]; exact hx))⟩) fun W => .pure (Y fun G _ hh' => ?_)
    rw [hh] at hh'; cases hh'
    exact Classical.not_not.1 W
  by_cases hb : x.Back = true
  ·rw [if_pos hb] at W ⊢; rw [Option.some.inj W]; exact Z
  ·rw [if_neg hb] at W ⊢; rw [Option.some.inj W]; exact Z
 ·rintro st ⟨_, h2, h3⟩
  simp only [Sum.elim_inl]
  unfold R9.J1
  refine .pure ?_
  rw [decide_eq_true_eq]
  exact ⟨fun hl => ⟨by omega, fun k h hk => h2 k h (gs hk).1 hk, fun k h G hk hk' => h3 k h G (gs hk').1 hk hk'⟩, fun hl => by have := hl.len; omega⟩
 ·rintro b ⟨rfl, hb⟩
  exact .pure (by simp only [Bool.false_eq_true, false_iff]; exact hb)
theorem tD (way : List Hop) : Ok (Wo n way) fun r => (Leads n way ∧ r = 0) ∨ (¬ Leads n way ∧ r = 11) := by
 unfold Wo
 refine A8 (fun h => .pure (.inr ⟨fun hl => by have := hl.len; omega, rfl⟩)) fun hlen => ?_
 refine .bind (Q := Sum.elim (fun r : Int => r = 11 ∧ ¬ Leads n way) fun _ : Unit => ∀ (k : Nat) (h : Hop), way[k]? = some h → V5 n h) (.loop (fun M => ∃ k : Nat, k ≤ way.length ∧ M = (k : Int) ∧ ∀ (j : Nat) (h : Hop), j < k → way[j]? = some h → V5 n h) (fun M => ((way.length : Int) - M).toNat) ⟨0, by omega, rfl, fun j h W => by omega⟩ (by omega) ?_) ?_
 ·rintro _ ⟨k, hk, rfl, hI⟩
  unfold Wo.B4
  refine A8 (fun h => ?_) fun h => .pure fun j Y W => hI j Y (by have := (gs W).1; omega) W
  obtain ⟨x, O⟩ := Cn (l := way) (k := k) (by omega)
  have bad : ¬ V5 n x → Ok (Wo.J5 (k : Int) true) (Sum.elim (fun M => (∃ k : Nat, k ≤ way.length ∧ M = (k : Int) ∧ ∀ (j : Nat) (h : Hop), j < k → way[j]? = some h → V5 n h) ∧ ((way.length : Int) - M).toNat < ((way.length : Int) - (k : Int)).toNat) (Sum.elim (fun r : Int => r = 11 ∧ ¬ Leads n way) fun _ : Unit => ∀ (k : Nat) (h : Hop), way[k]? = some h → V5 n h)) := fun hn => .pure ⟨rfl, fun hl => hn (hl.ins k x O)⟩
  refine .bind' (.eq (A1 O) ?_)
  dsimp only
  refine A8 (fun h0 => bad fun hi => by have := hi.1; omega) fun h0 => ?_
  by_cases h1 : x.Segment ≥ (n.Segments.length : Int)
  ·rw [decide_eq_true h1]; exact bad fun hi => by have := hi.2; omega
  ·rw [decide_eq_false h1]
   unfold Wo.J5
   rw [if_neg (by simp), Be (by omega)]
   refine .pure ⟨⟨k + 1, by omega, by omega, fun j Y W ab => ?_⟩, by omega⟩
   by_cases e : j = k
   ·subst e; rw [O] at ab; cases ab; exact ⟨by omega, by omega⟩
   ·exact hI j Y (by omega) ab
 rintro (r | _) G
 ·exact .pure (.inr ⟨G.2, G.1⟩)
 have G : ∀ (k : Nat) (h : Hop), way[k]? = some h → V5 n h := G
 simp only [Sum.elim_inr]
 unfold Wo.J1
 refine .bind (Q := Sum.elim (fun r : Int => r = 11 ∧ ¬ Leads n way) fun _ : Unit => Leads n way) (.loop (fun M => ∃ k : Nat, 1 ≤ k ∧ M = (k : Int) ∧ (k ≤ way.length ∨ k = 1) ∧ ∀ (j : Nat) (h Y : Hop), j + 1 < k → way[j]? = some h → way[j + 1]? = some Y → (hE n h).2 = (hE n Y).1) (fun M => ((way.length : Int) - M).toNat) ⟨1, by omega, rfl, .inr rfl, fun j h Y W => by omega⟩ (by omega) ?_) ?_
 ·rintro _ ⟨k, hk, rfl, hk2, hI⟩
  unfold Wo.B3
  refine A8 (fun h => ?_) fun h => .pure ⟨by omega, G, fun j h1 h2 W hj' => hI j h1 h2 (by have := (gs hj').1; omega) W hj'⟩
  obtain ⟨x, O⟩ := Cn (l := way) (k := k - 1) (by omega)
  obtain ⟨y, hy⟩ := Cn (l := way) (k := k) (by omega)
  rw [Be (by omega), show (k : Int) - 1 = ((k - 1 : Nat) : Int) by omega]
  refine .bind' (.eq (A1 O) (.bind' (.eq (Wd (G _ x O)) (.bind' (.eq (A1 hy) (.bind' (.eq (Wd (G _ y hy)) ?_)))))))
  refine Ec (fun hne => .pure ⟨rfl, fun hl => hne (hl.chain (k - 1) x y O (by rw [show k - 1 + 1 = k by omega]; exact hy))⟩) fun he => ?_
  rw [Be (by omega)]
  refine .pure ⟨⟨k + 1, by omega, by omega, .inl (by omega), fun j h1 h2 W Z aa => ?_⟩, by omega⟩
  by_cases e : j + 1 = k
  ·subst e
   rw [hy] at aa; cases aa
   rw [Nat.add_sub_cancel] at O
   rw [O] at Z; cases Z
   exact he
  ·exact hI j h1 h2 (by omega) Z aa
 ·rintro (r | _) G
  ·exact .pure (.inr ⟨G.2, G.1⟩)
  ·exact .pure (.inl ⟨G, rfl⟩)
def dd (n : Nw) (fs : List (List Piece)) (way : List Hop) (b : Int) : Nat → Int → Int × Bool
 | 0, _ => (0, false)
 | k + 1, acc => match way[k]? with
  | some h => let a := E0 b (lit (gq (fs.getD h.Segment.toNat []) h.Back))
   if a.2 = true then (acc + a.1, true) else match n.Segments[h.Segment.toNat]? with | some s => dd n fs way b k (acc + s.Capacity) | none => (0, false)
  | none => (0, false)
theorem Ul (hn : NetC n) (hF : Fil n fs F0) (hw : Leads n way) (b : Int) {B : Int × Int → Option ((Int × Int) ⊕ ((Int × Bool × Int) ⊕ Unit))}
  (hE : ∀ st, st.2 < 0 → B st = some (.inr (.inr ())))
  (hB : ∀ (a : Int) (k m : Nat) (h : Hop) (f : List Piece) (s : Sg), way[k]? = some h → h.Segment = (m : Int) → fs[m]? = some f → Vd f → n.Segments[m]? = some s → 0 ≤ a ∧ a ≤ 1000000000 → B (a, (k : Int)) = if (E0 b (lit (gq f h.Back))).2 = true then some (.inr (.inl (a + (E0 b (lit (gq f h.Back))).1, true, 0))) else some (.inl (wr (a + s.Capacity), wr ((k : Int) - 1)))) :
  Ok (C4 B Ek (0, wr ((way.length : Int) - 1))) (Sum.elim (fun d => d = ((dd n fs way b way.length 0).1, (dd n fs way b way.length 0).2, 0)) fun _ => dd n fs way b way.length 0 = (0, false)) := by
 have hlen := hw.len
 rw [Be (by omega)]
 refine .loop (fun st => ∃ k : Nat, k ≤ way.length ∧ st.2 = (k : Int) - 1 ∧ 0 ≤ st.1 ∧ st.1 ≤ 1000000 * ((way.length : Int) - k) ∧ dd n fs way b k st.1 = dd n fs way b way.length 0) (fun st => (st.2 + 1).toNat) ⟨way.length, by omega, rfl, by simp, by dsimp only; omega, rfl⟩ (by dsimp only; omega) ?_
 rintro ⟨a, _⟩ ⟨k, hk, rfl, h1, h2, G⟩
 dsimp only at h1 h2 G
 cases k with
 | zero =>
  rw [hE _ (by dsimp only; omega)]
  exact .pure (by rw [← G]; rfl)
 | succ k =>
  obtain ⟨h, W⟩ := Cn (l := way) (k := k) (by omega)
  have hi := hw.ins k h W
  obtain ⟨m, Y⟩ := Et hi.1
  have hi2 := hi.2
  obtain ⟨s, Z⟩ := Cn (l := n.Segments) (k := m) (by omega)
  have hf := hF.rp.get m (by omega)
  have O : fs.getD h.Segment.toNat [] = Cm (F0 m) := by rw [Y, Int.toNat_natCast, List.getD_eq_getElem?_getD, hf]; rfl
  have hc := (hn.segs m s Z).2
  rw [show ((k + 1 : Nat) : Int) - 1 = (k : Int) by omega, hB a k m h _ s W Y hf (hF.vd m (by omega)) Z (by omega)]
  rw [dd, W] at G
  dsimp only at G
  rw [O, show n.Segments[h.Segment.toNat]? = some s by rw [Y, Int.toNat_natCast]; exact Z] at G
  dsimp only at G
  refine Bo (fun M => .pure ?_) fun M => .pure ⟨⟨k, by omega, ?_, ?_, ?_, ?_⟩, ?_⟩
  ·rw [if_pos M] at G
   rw [← G]; rfl
  ·dsimp only; rw [Be (by omega)]
  ·dsimp only; rw [Be (by omega)]; omega
  ·dsimp only; rw [Be (by omega)]; omega
  ·rw [if_neg (by simp [M])] at G
   dsimp only; rw [Be (by omega)]; exact G
  ·dsimp only; rw [Be (by omega)]; omega
theorem Ze {f : List Piece} (hv : Vd f) (b : Int) (G : Bool) : 0 ≤ (E0 b (lit (gq f G))).1 ∧ (E0 b (lit (gq f G))).1 ≤ 1000000 := by
 have M := qQ hv G
 have W := D3 M.nn
 have Y := M.vol
 unfold E0
 split
 ·rename_i O
  have := List.idxOf_lt_length_of_mem O
  dsimp only; omega
 ·simp
theorem Zx (n : Nw) (fs : List (List Piece)) (way : List Hop) (b : Int) : ∃ q, Rq n fs way b = some q ∧ W7 n fs way b = some q := by
 obtain ⟨e, n1, n2, _⟩ := Kn n
 obtain ⟨f, f1, f2, f3⟩ := aG n fs
 have M : ∀ {x : Int}, x ≠ 0 → (x != 0) = true := fun h => by simpa using h
 unfold Rq W7
 rw [n1, n2, f1, f2]
 simp only [Option.bind_some]
 by_cases he : e = 0
 case neg => simp only [M he, if_true]; exact ⟨_, rfl, rfl⟩
 subst he
 by_cases G : f = 0
 case neg => simp only [bne_self_eq_false, Bool.false_eq_true, if_false, M G, if_true]; exact ⟨_, rfl, rfl⟩
 subst G
 obtain ⟨hn, F0, hF⟩ := f3 rfl
 obtain ⟨r, r1, r2⟩ := eO hn way
 obtain ⟨w, w1, w2⟩ := tD (n := n) way
 simp only [bne_self_eq_false, Bool.false_eq_true, if_false, r1, w1, Option.bind_some]
 rcases w2 with ⟨W, rfl⟩ | ⟨W, rfl⟩
 ·rw [r2.2 W]
  simp only [bne_self_eq_false, Bool.false_eq_true, if_false, Bool.not_true]
  obtain ⟨o, o1, o2⟩ := Ul hn hF W b (B := Rq.B2 n fs way b) (fun st h => by unfold Rq.B2; rw [if_neg (by simp; omega)]) fun a k m h f s Z hm G O hs ha => by
   have := Ze O b h.Back
   unfold Rq.B2
   rw [if_pos (by simp), A1 Z, Option.bind_some]
   dsimp only
   rw [hm, A1 G, Option.bind_some]
   dsimp only
   rw [Y4 O, Option.bind_some]
   split
   ·rw [Be (by omega)]
   ·rw [A1 hs, Option.bind_some]
  obtain ⟨o', o1', o2'⟩ := Ul hn hF W b (B := W7.B2 n fs way b) (fun st h => by unfold W7.B2; rw [if_neg (by simp; omega)]) fun a k m h f s Z hm G O hs ha => by
   have := Ze O b h.Back
   unfold W7.B2
   rw [if_pos (by simp), A1 Z, Option.bind_some]
   dsimp only
   rw [hm, A1 G, Option.bind_some]
   dsimp only
   rw [dC O, Option.bind_some]
   split
   ·rw [Be (by omega), Int.add_comm]
   ·rw [A1 hs, Option.bind_some]
  rw [o1, o1']
  simp only [Option.bind_some]
  have Y : ∀ {o : (Int × Bool × Int) ⊕ Unit} {J : Unit → Option (Int × Bool × Int)}, J () = some (0, false, 0) → Sum.elim (fun d => d = ((dd n fs way b way.length 0).1, (dd n fs way b way.length 0).2, (0 : Int))) (fun _ => dd n fs way b way.length 0 = (0, false)) o → Sum.elim (fun d => some d) (fun d => J d) o = some ((dd n fs way b way.length 0).1, (dd n fs way b way.length 0).2, 0) := fun {o J} hJ h => by
   rcases o with d | d
   ·rw [show d = _ from h]; rfl
   ·have h : dd n fs way b way.length 0 = (0, false) := h
    rw [h]; exact hJ
  exact ⟨_, Y rfl o2, Y rfl o2'⟩
 ·have : r = false := by cases r; rfl; exact absurd (r2.1 rfl) W
  subst this
  exact ⟨_, rfl, rfl⟩
theorem Zh (d r : Int) : ∃ q, Il d r = some q ∧ Np d r = some q := by
 have e : Np d r = Il d r := rfl
 rw [e]
 have : Ok (Il d r) fun _ => True := by
  unfold Il
  refine Cw (Q := d < 0 ∨ d > 1099511627776 ∨ r < 1 ∨ r > 1000) (by simp) (fun _ => .pure trivial) fun h => .bind' (.quo (by omega) (.pure trivial))
 obtain ⟨q, h, _⟩ := this
 exact ⟨q, h, h⟩
end
def Fl (k : Int) (l : List Lot) (x : Piece) : List Lot :=
 match l.getLast? with
 | some q => if q.Batch = x.Batch then l.dropLast ++ [⟨q.Batch, q.Volume + x.Volume, q.Done⟩] else l ++ [⟨x.Batch, x.Volume, k⟩]
 | none => [⟨x.Batch, x.Volume, k⟩]
theorem Sv (k : Int) (x : Piece) : Fl k [] x = [⟨x.Batch, x.Volume, k⟩] := rfl
theorem Km (k : Int) (l : List Lot) (q : Lot) (x : Piece) : Fl k (l ++ [q]) x = if q.Batch = x.Batch then l ++ [⟨q.Batch, q.Volume + x.Volume, q.Done⟩] else l ++ [q] ++ [⟨x.Batch, x.Volume, k⟩] := by simp [Fl]
def Hv (l : List Lot) : Int := (l.map (·.Volume)).sum
theorem Su (l m : List Lot) : Hv (l ++ m) = Hv l + Hv m := by simp [Hv]
theorem mB (k : Int) (l : List Lot) (x : Piece) : Hv (Fl k l x) = Hv l + x.Volume := by
 rcases Dq l with rfl | ⟨a, q, rfl⟩
 ·simp [Sv, Hv]
 ·rw [Km]
  split
  ·rw [Su, Su]; simp [Hv]; omega
  ·rw [Su]; simp [Hv]
theorem Ss : ∀ (l : List Lot), (∀ p, p ∈ l → 1 ≤ p.Volume) → (l.length : Int) ≤ Hv l ∧ ∀ p, p ∈ l → p.Volume ≤ Hv l
 | [], _ => ⟨by simp [Hv], by simp⟩
 | x :: l, h => by
  have W := h x (by simp)
  obtain ⟨O, M⟩ := Ss l fun p G => h p (by simp [G])
  have e : Hv (x :: l) = x.Volume + Hv l := by simp [Hv]
  rw [e]
  refine ⟨by rw [List.length_cons]; omega, fun p G => ?_⟩
  rcases List.mem_cons.1 G with rfl | G
  ·omega
  ·have := M p G; omega
theorem mC (k : Int) {l : List Lot} {x : Piece} (h : ∀ p, p ∈ l → 1 ≤ p.Volume) (M : 1 ≤ x.Volume) : ∀ p, p ∈ Fl k l x → 1 ≤ p.Volume := by
 rcases Dq l with rfl | ⟨a, q, rfl⟩
 ·simp [Sv]; exact M
 ·have O := h q (by simp)
  rw [Km]
  split <;> intro p G <;> rcases List.mem_append.1 G with G | G
  ·exact h p (by simp [G])
  ·simp at G; subst G; dsimp only; omega
  ·exact h p G
  ·simp at G; subst G; exact M
theorem Mz (k : Int) : ∀ (f : List Piece) (l : List Lot), (∀ p, p ∈ f → 1 ≤ p.Volume) → (∀ p, p ∈ l → 1 ≤ p.Volume) → (∀ p, p ∈ f.foldl (Fl k) l → 1 ≤ p.Volume) ∧ Hv (f.foldl (Fl k) l) = Hv l + vol f
 | [], l, _, hl => ⟨hl, by simp [cN]⟩
 | x :: f, l, h, hl => by
  obtain ⟨G, M⟩ := Mz k f (Fl k l x) (fun p O => h p (by simp [O])) (mC k hl (h x (by simp)))
  exact ⟨G, by rw [List.foldl_cons, M, mB, Hw]; omega⟩
theorem Y1 {β : Type} {st : List Lot} {x : Piece} {k : Int} {K : Bool → Option β} {R : List Lot → Option β} (Z : ∀ p, p ∈ st → 1 ≤ p.Volume) (hb : Hv st + x.Volume ≤ 1000000000) (hx : 1 ≤ x.Volume)
  (hT : K true = Option.bind (ix st (wr ((st.length : Int) - 1))) fun p => R (st.set p.1 (⟨p.2.Batch, wr (p.2.Volume + x.Volume), p.2.Done⟩ : Lot))) (W : K false = Option.bind (Cp st ([(⟨x.Batch, x.Volume, k⟩ : Lot)] : List Lot)) R) :
  (if decide ((wr ((st.length : Int) - 1)) ≥ 0) = true then Option.bind (ix st (wr ((st.length : Int) - 1))) fun p => K (p.2.Batch == x.Batch) else K false) = R (Fl k st x) := by
 obtain ⟨M, b2⟩ := Ss st Z
 rcases Dq st with rfl | ⟨a, q, rfl⟩
 ·rw [if_neg (by simp; rw [Be (by omega)]; omega), W, F9 (by simp)]; rfl
 ·have hq := b2 q (by simp); have hq1 := Z q (by simp)
  have O : wr (((a ++ [q]).length : Int) - 1) = (a.length : Int) := by
   rw [List.length_append, List.length_singleton] at M ⊢; rw [Be (by omega)]; omega
  have Y : ix (a ++ [q]) (wr (((a ++ [q]).length : Int) - 1)) = some (a.length, q) := by rw [O]; exact A1 (by simp)
  rw [if_pos (by rw [O]; simp), Y, Option.bind_some, Km]
  by_cases G : q.Batch = x.Batch
  ·rw [show (q.Batch == x.Batch) = true by simp [G], hT, Y, Option.bind_some, if_pos G]
   dsimp only
   rw [Be (by omega)]
   simp
  ·rw [show (q.Batch == x.Batch) = false by simp [G], W, if_neg G, F9 (by simp at M ⊢; omega)]; rfl
section
variable {n : Nw} {p : Plan} {g : Li} {fs fs0 : List (List Piece)} {port : Nat}
inductive Arr (n : Network) (p : Plan) (g : List Int) (fs0 : List (List Piece)) (port : Nat) : Nat → List (List Piece) → List Lot → Prop
 | zero : Arr n p g fs0 port 0 fs0 []
 | succ {k : Nat} {fs fs' os : List (List Piece)} {l : List Lot} {f : List Piece} : Arr n p g fs0 port k fs l → Fx n fs p g = some (fs', os, 0) → os[port]? = some f →
   Arr n p g fs0 port (k + 1) fs' (f.foldl (Fl k) l)
theorem Arr.det {k : Nat} {l : List Lot} (h : Arr n p g fs0 port k fs l) : ∀ {G : List (List Piece)} {l1 : List Lot}, Arr n p g fs0 port k G l1 → fs = G ∧ l = l1 := by
 induction h with
 | zero => intro _ _ M; cases M; exact ⟨rfl, rfl⟩
 | succ h t1 f1 ih =>
  intro _ _ M
  cases M with
  | succ h2 t2 f2 =>
   obtain ⟨rfl, rfl⟩ := ih h2
   rw [t1] at t2; cases t2
   rw [f1] at f2; cases f2
   exact ⟨rfl, rfl⟩
theorem Arr.pre {t : Nat} {l : List Lot} (h : Arr n p g fs0 port t fs l) {k : Nat} (M : k < t) : ∃ fs' G r, Arr n p g fs0 port k fs' G ∧ Fx n fs' p g = some r ∧ r.2.2 = 0 := by
 induction h with
 | zero => omega
 | @succ m fs fs' os l f h t1 f1 ih =>
  by_cases e : k = m
  ·subst e; exact ⟨fs, l, _, h, t1, rfl⟩
  ·exact ih (by omega)
theorem Arr.pos {k : Nat} {l : List Lot} (h : Arr n p g fs0 port k fs l) : (∀ p, p ∈ l → 1 ≤ p.Volume) ∧ Hv l ≤ 56000 * k := by
 induction h with
 | zero => simp [Hv]
 | @succ k fs fs' os l f h t1 f1 ih =>
  obtain ⟨q, _, G, M⟩ := Yg n fs p g
  rw [t1] at G; cases G
  obtain ⟨O, Z⟩ := (M rfl).2 f (mg f1)
  obtain ⟨W, Y⟩ := Mz k f l O ih.1
  exact ⟨W, by rw [Y]; have := ih.2; omega⟩
def ArA (n : Nw) (p : Plan) (g : Li) (fs0 : List (List Piece)) (port t : Nat) (e : Int) (l : List Lot) : Prop :=
 (∃ k fs G r, k < t ∧ Arr n p g fs0 port k fs G ∧ Fx n fs p g = some r ∧ r.2.2 ≠ 0 ∧ e = r.2.2 ∧ l = []) ∨ (∃ fs, Arr n p g fs0 port t fs l) ∧ e = 0
theorem ArA.uniq {t : Nat} {e e' : Int} {l l' : List Lot} (h : ArA n p g fs0 port t e l) (h' : ArA n p g fs0 port t e' l') : e = e' ∧ l = l' := by
 have no : ∀ {fs l k G l' r}, Arr n p g fs0 port t fs l → k < t → Arr n p g fs0 port k G l' → Fx n G p g = some r → r.2.2 = 0 := fun {fs l k G l' r} ha Y hb hr => by
  obtain ⟨f2, l2, r2, M, W, Z⟩ := ha.pre Y
  obtain ⟨rfl, rfl⟩ := M.det hb
  rw [hr] at W; cases W; exact Z
 have ab : ∀ {k k' fs G l l' r r'}, Arr n p g fs0 port k fs l → Arr n p g fs0 port k' G l' → Fx n fs p g = some r → Fx n G p g = some r' → r.2.2 ≠ 0 → r'.2.2 ≠ 0 → r = r' := fun {k k' fs G l l' r r'} ha hb hr aa h0 h0' => by
  rcases Nat.lt_trichotomy k k' with Y | Y | Y
  ·obtain ⟨f2, l2, r2, M, W, Z⟩ := hb.pre Y
   obtain ⟨rfl, rfl⟩ := M.det ha
   rw [hr] at W; cases W; exact absurd Z h0
  ·subst Y
   obtain ⟨rfl, rfl⟩ := ha.det hb
   rw [hr] at aa; cases aa; rfl
  ·obtain ⟨f2, l2, r2, M, W, Z⟩ := ha.pre Y
   obtain ⟨rfl, rfl⟩ := M.det hb
   rw [aa] at W; cases W; exact absurd Z h0'
 rcases h with ⟨k, fs, l1, r, Y, M, W, Z, rfl, rfl⟩ | ⟨⟨fs, M⟩, rfl⟩ <;> rcases h' with ⟨k', G, l1', r', hk', O, ac, ad, rfl, rfl⟩ | ⟨⟨G, O⟩, rfl⟩
 ·rw [ab M O W ac Z ad]; exact ⟨rfl, rfl⟩
 ·exact absurd (no O Y M W) Z
 ·exact absurd (no M hk' O ac) ad
 ·exact ⟨rfl, (M.det O).2⟩
def Tt (b : Int) (l : List Lot) : Int × Bool := match l.find? fun x => x.Batch == b with | some x => (x.Done, true) | none => (0, false)
theorem mU (b k : Int) (l : List Lot) (x : Piece) : Tt b (Fl k l x) = if (Tt b l).2 = false ∧ x.Batch = b then (k, true) else Tt b l := by
 rcases Dq l with rfl | ⟨a, q, rfl⟩
 ·rw [Sv]
  unfold Tt
  by_cases h : x.Batch = b <;> simp [h]
 ·rw [Km]
  unfold Tt
  by_cases G : q.Batch = x.Batch
  ·rw [if_pos G, List.find?_append, List.find?_append]
   by_cases h : x.Batch = b
   ·cases ha : a.find? fun x => x.Batch == b <;> simp [G, h, ha]
   ·cases ha : a.find? fun x => x.Batch == b <;> simp [G, h, ha]
  ·rw [if_neg G, List.find?_append (xs := a ++ [q])]
   by_cases h : x.Batch = b
   ·cases ha : (a ++ [q]).find? fun x => x.Batch == b <;> simp [h, ha]
   ·cases ha : (a ++ [q]).find? fun x => x.Batch == b <;> simp [h, ha]
theorem dI (n : Nw) (fs : List (List Piece)) (p : Plan) (g : Li) (port t : Int) : ∃ r, Ls n fs port t = some r ∧ (r ≠ 0 → Lv n fs p g port t = some ([], r)) ∧
  (r = 0 → (0 ≤ port ∧ port < (n.Ports.length : Int)) ∧ (0 ≤ t ∧ t ≤ 400) ∧ Lv n fs p g port t = Option.bind (C4 (Lv.B2 n p g port t) Ek (fs, [], 0)) fun Y => Sum.elim (fun O => some O) (fun W => Lv.J1 W) Y) := by
 obtain ⟨e, n1, n2, _⟩ := Kn n
 obtain ⟨f, f1, f2, _⟩ := aG n fs
 have M : ∀ {x : Int}, x ≠ 0 → (x != 0) = true := fun h => by simpa using h
 unfold Ls Lv
 rw [n1, n2, f1, f2]
 simp only [Option.bind_some]
 by_cases Z : e = 0
 case neg => simp only [M Z, if_true]; exact ⟨e, rfl, fun _ => rfl, fun h => absurd h Z⟩
 subst Z
 by_cases hf : f = 0
 case neg => simp only [bne_self_eq_false, Bool.false_eq_true, if_false, M hf, if_true]; exact ⟨f, rfl, fun _ => rfl, fun h => absurd h hf⟩
 subst hf
 simp only [bne_self_eq_false, Bool.false_eq_true, if_false]
 by_cases hp : 0 ≤ port ∧ port < (n.Ports.length : Int)
 case neg =>
  have G : (decide (port < 0) || decide (port ≥ (n.Ports.length : Int))) = true := by simp; omega
  simp only [G, if_true]
  exact ⟨8, rfl, fun _ => rfl, fun h => by cases h⟩
 have G : (decide (port < 0) || decide (port ≥ (n.Ports.length : Int))) = false := by simp; omega
 simp only [G, Bool.false_eq_true, if_false]
 by_cases ht : 0 ≤ t ∧ t ≤ 400
 case neg =>
  have G : (decide (t < 0) || decide (t > 400)) = true := by simp; omega
  simp only [G, if_true]
  exact ⟨1, rfl, fun _ => rfl, fun h => by cases h⟩
 have G : (decide (t < 0) || decide (t > 400)) = false := by simp; omega
 simp only [G, Bool.false_eq_true, if_false]
 exact ⟨0, rfl, fun h => absurd rfl h, fun _ => ⟨hp, ht, trivial⟩⟩
theorem Oh (hp : port < n.Ports.length) (fs : List (List Piece)) : ∃ r, Jt n fs p g = some r ∧ Fx n fs p g = some r ∧ (r.2.2 = 0 → ∃ f, r.2.1[port]? = some f ∧ (∀ x, x ∈ f → 1 ≤ x.Volume) ∧ vol f ≤ 56000) := by
 obtain ⟨r, O, W, Y⟩ := Yg n fs p g
 refine ⟨r, O, W, fun M => ?_⟩
 obtain ⟨h4, Z⟩ := Y M
 obtain ⟨f, G⟩ := Cn (l := r.2.1) (k := port) (by omega)
 exact ⟨f, G, Z f (mg G)⟩
theorem Tl (hp : port < n.Ports.length) {t : Nat} (ht : t ≤ 400) : Ok (Option.bind (C4 (Lv.B2 n p g (port : Int) (t : Int)) Ek (fs0, [], 0)) fun o593 => Sum.elim (fun O => some O) (fun W => Lv.J1 W) o593) fun q => ArA n p g fs0 port t q.2 q.1 := by
 refine .bind (.loop (P := Sum.elim (fun q : List Lot × Int => ArA n p g fs0 port t q.2 q.1) fun l => ArA n p g fs0 port t 0 l) (fun st : List (List Piece) × List Lot × Int => ∃ k : Nat, k ≤ t ∧ st.2.2 = (k : Int) ∧ Arr n p g fs0 port k st.1 st.2.1) (fun st => ((t : Int) - st.2.2).toNat) ⟨0, by omega, rfl, .zero⟩ (by dsimp only; omega) ?_) ?_
 ·rintro ⟨f1, M, _⟩ ⟨k, hk, rfl, Z⟩
  dsimp only at Z
  obtain ⟨p1, p2⟩ := Z.pos
  unfold Lv.B2
  refine A8 (fun G => ?_) fun G => .pure ?_
  ·dsimp only at G ⊢
   obtain ⟨r, _, r1, r2⟩ := Oh (p := p) (g := g) hp f1
   refine .bind' (.eq r1 (Ec (fun Y => .pure (.inl ⟨k, f1, M, r, by omega, Z, r1, Y, rfl, rfl⟩)) fun Y => ?_))
   obtain ⟨f, e1, e2, e3⟩ := r2 Y
   obtain ⟨fs', os, e⟩ := r
   dsimp only at Y e1
   subst Y
   have hfl := P3 e2
   refine .bind (Q := fun d : List (List Piece) × List Lot => d = (fs', f.foldl (Fl k) M)) (.loop (fun st => ∃ i : Nat, i ≤ f.length ∧ st.2 = (i : Int) ∧ st.1 = (f.take i).foldl (Fl k) M) (fun st => ((f.length : Int) - st.2).toNat) ⟨0, by omega, rfl, rfl⟩ (by dsimp only; omega) ?_) ?_
   ·rintro ⟨_, _⟩ ⟨i, hi, rfl, rfl⟩
    unfold Lv.B4
    refine .bind' (.eq (A1 e1) (A8 (fun G => ?_) fun G => .pure ?_))
    ·dsimp only at G ⊢
     obtain ⟨x, hx⟩ := Cn (l := f) (k := i) (by omega)
     have hx1 := e2 x (mg hx)
     refine .bind' (.eq (A1 hx) ?_)
     obtain ⟨g1, g2⟩ := Mz k (f.take i) M (fun p hp => e2 p (List.mem_of_mem_take hp)) p1
     have h3 : vol f = vol (f.take (i + 1)) + vol (f.drop (i + 1)) := by rw [← Ev, List.take_append_drop]
     have h4 := Eu (f := f.drop (i + 1)) fun p hp => by have := e2 p (List.mem_of_mem_drop hp); omega
     have h5 := D8 hx
     have e : (f.take (i + 1)).foldl (Fl k) M = Fl k ((f.take i).foldl (Fl k) M) x := by rw [List.take_add_one, hx]; simp [List.foldl_append]
     generalize (f.take i).foldl (Fl k) M = st at g1 g2 e
     dsimp only
     have hs := Y1 (st := st) (x := x) (k := (k : Int)) (K := Lv.J6 (f1, M, (k : Int)) (st, (i : Int)) (i, x)) (R := Lv.J5 (st, (i : Int))) g1 (by omega) hx1 rfl rfl
     rw [hs]
     unfold Lv.J5
     refine .pure ⟨⟨i + 1, by omega, ?_, by dsimp only; rw [e]⟩, ?_⟩
     ·dsimp only; rw [Be (by omega)]; omega
     ·dsimp only; rw [Be (by omega)]; omega
    ·dsimp only at G
     obtain rfl : i = f.length := by omega
     rw [List.take_length]; rfl
   ·rintro _ rfl
    unfold Lv.J3
    refine .pure ⟨⟨k + 1, by omega, ?_, Z.succ r1 e1⟩, ?_⟩
    ·dsimp only; rw [Be (by omega)]; omega
    ·dsimp only; rw [Be (by omega)]; omega
  ·dsimp only at G
   obtain rfl : k = t := by omega
   exact .inr ⟨⟨f1, Z⟩, rfl⟩
 ·rintro (q | l) hq
  ·exact .pure hq
  ·exact .pure hq
theorem eV (O : port < n.Ports.length) {t : Nat} (ht : t ≤ 400) (hc : Ls n fs0 (port : Int) (t : Int) = some 0) : Ok (Nu n fs0 p g (port : Int) (t : Int)) fun q => ArA n p g fs0 port t q.2 q.1 := by
 unfold Nu
 refine .bind' (.eq hc ?_)
 rw [if_neg (by simp)]
 refine .bind' (.chk (by omega) ?_)
 rw [show ((t : Int).toNat) = t by omega]
 refine .bind' (.forI (fun k st => Arr n p g fs0 port k st.1 st.2) (fun q => ArA n p g fs0 port t q.2 q.1) .zero ?_ (fun st h => .pure (.inr ⟨⟨st.1, h⟩, rfl⟩)) fun q hq => .pure hq)
 rintro k ⟨f1, G⟩ hk W
 dsimp only at W
 obtain ⟨p1, p2⟩ := W.pos
 unfold Nu.B2
 obtain ⟨r, r0, r1, r2⟩ := Oh (p := p) (g := g) O f1
 refine .bind' (.eq r0 (Ec (fun M => .pure (.inl ⟨k, f1, G, r, by omega, W, r1, M, rfl, rfl⟩)) fun M => ?_))
 obtain ⟨f, Y, Z, e3⟩ := r2 M
 obtain ⟨fs', os, e⟩ := r
 dsimp only at M Y
 subst M
 refine .bind' (.eq (A1 Y) ?_)
 dsimp only
 refine .bind (Q := fun d => d = f.foldl (Fl k) G) (.forS (fun i st => st = (f.take i).foldl (Fl k) G) rfl ?_ fun st h => by rw [h, List.take_length]) ?_
 ·rintro i x _ hx rfl
  have hx1 := Z x (mg hx)
  obtain ⟨g1, g2⟩ := Mz k (f.take i) G (fun p O => Z p (List.mem_of_mem_take O)) p1
  have h3 : vol f = vol (f.take (i + 1)) + vol (f.drop (i + 1)) := by rw [← Ev, List.take_append_drop]
  have h4 := Eu (f := f.drop (i + 1)) fun p O => by have := Z p (List.mem_of_mem_drop O); omega
  have h5 := D8 hx
  have e : (f.take (i + 1)).foldl (Fl k) G = Fl k ((f.take i).foldl (Fl k) G) x := by rw [List.take_add_one, hx]; simp [List.foldl_append]
  rw [e]
  generalize (f.take i).foldl (Fl k) G = st at g1 g2
  have hs := Y1 (st := st) (x := x) (k := (k : Int)) (K := Nu.J7 k x st) (R := Nu.J6) g1 (by omega) hx1 rfl (by unfold Nu.J7; rw [if_neg (by simp), if_pos (by simp; omega)])
  unfold Nu.B5
  rw [hs]
  exact .pure rfl
 ·rintro _ rfl
  exact .pure (W.succ r1 Y)
theorem ArA.len {t : Nat} (O : t ≤ 400) {e : Int} {l : List Lot} (h : ArA n p g fs0 port t e l) : l.length ≤ 100000000 := by
 rcases h with ⟨_, _, _, _, _, _, _, _, _, rfl⟩ | ⟨⟨G, M⟩, _⟩
 ·simp
 ·have := M.pos; have := (Ss l this.1).1; omega
theorem Zy (n : Nw) (fs : List (List Piece)) (p : Plan) (g : Li) (port t : Int) : ∃ q, Nu n fs p g port t = some q ∧ Lv n fs p g port t = some q ∧ q.1.length ≤ 100000000 := by
 obtain ⟨r, O, h2, h3⟩ := dI n fs p g port t
 by_cases G : r = 0
 case neg =>
  refine ⟨_, ?_, h2 G, by simp⟩
  unfold Nu
  rw [O, Option.bind_some, if_pos (by simpa using G)]
 subst G
 obtain ⟨hp, ht, h4⟩ := h3 rfl
 obtain ⟨port, rfl⟩ := Et hp.1
 obtain ⟨t, rfl⟩ := Et ht.1
 obtain ⟨q, Y, Z⟩ := eV (p := p) (g := g) (by omega) (by omega) O
 obtain ⟨W, b1, M⟩ := Tl (n := n) (p := p) (g := g) (fs0 := fs) (port := port) (by omega) (t := t) (by omega)
 have := Z.uniq M
 rw [h4, Y, b1]
 exact ⟨W, by rw [show q = W from Prod.ext this.2 this.1], rfl, M.len (by omega)⟩
theorem pY (hp : port < n.Ports.length) {t : Nat} (ht : t ≤ 400) (hc : Ls n fs0 (port : Int) (t : Int) = some 0) (b : Int) : Ok (Lu n fs0 p g (port : Int) b (t : Int)) fun q => ∃ e l, ArA n p g fs0 port t e l ∧ q = if e = 0 then ((Tt b l).1, (Tt b l).2, 0) else (0, false, e) := by
 unfold Lu
 refine .bind' (.eq hc ?_)
 rw [if_neg (by simp)]
 refine .bind' (.chk (by omega) ?_)
 rw [show ((t : Int).toNat) = t by omega]
 refine .bind' (.forI (fun k M => ∃ l, Arr n p g fs0 port k M.1 l ∧ M.2 = Tt b l) (fun q => ∃ e l, ArA n p g fs0 port t e l ∧ q = if e = 0 then ((Tt b l).1, (Tt b l).2, 0) else (0, false, e)) ⟨[], .zero, rfl⟩ ?_ ?_ fun q hq => .pure hq)
 ·rintro k ⟨Z, a1, a2⟩ hk ⟨G, W, Y⟩
  dsimp only at W Y
  unfold Lu.B2
  obtain ⟨r, r0, r1, r2⟩ := Oh (p := p) (g := g) hp Z
  refine .bind' (.eq r0 (Ec (fun O => .pure ⟨r.2.2, [], .inl ⟨k, Z, G, r, by omega, W, r1, O, rfl, rfl⟩, by rw [if_neg O]⟩) fun O => ?_))
  obtain ⟨f, e1, e2, e3⟩ := r2 O
  obtain ⟨fs', os, e⟩ := r
  dsimp only at O e1
  subst O
  refine .bind' (.eq (A1 e1) ?_)
  dsimp only
  refine .bind (Q := fun d => d = Tt b (f.foldl (Fl k) G)) (.forS (fun i M => M = Tt b ((f.take i).foldl (Fl k) G)) Y ?_ fun M h => by rw [h, List.take_length]) ?_
  ·rintro i x _ hx rfl
   have hx1 := e2 x (mg hx)
   have e : (f.take (i + 1)).foldl (Fl k) G = Fl k ((f.take i).foldl (Fl k) G) x := by rw [List.take_add_one, hx]; simp [List.foldl_append]
   rw [e, mU]
   generalize (f.take i).foldl (Fl k) G = M
   unfold Lu.B5 Lu.J6
   refine Cw (Q := (Tt b M).2 = false ∧ x.Batch = b) (by simp; omega) (fun h => .pure (by rw [if_pos h])) fun h => .pure (by rw [if_neg h])
  ·rintro _ rfl
   exact .pure ⟨_, W.succ r1 e1, rfl⟩
 ·rintro ⟨Z, a1, a2⟩ ⟨G, W, Y⟩
  dsimp only at W Y
  refine .pure ⟨0, G, .inr ⟨⟨Z, W⟩, rfl⟩, ?_⟩
  rw [if_pos rfl, ← Y]
theorem jM (n : Nw) (fs : List (List Piece)) (p : Plan) (g : Li) (port b t : Int) : ∃ q, Lu n fs p g port b t = some q ∧ Rv n fs p g port b t = some q := by
 obtain ⟨r, h1, h2, h3⟩ := dI n fs p g port t
 by_cases M : r = 0
 case neg =>
  refine ⟨(0, false, r), ?_, ?_⟩
  ·unfold Lu
   rw [h1, Option.bind_some, if_pos (by simpa using M)]
  ·unfold Rv
   rw [h2 M, Option.bind_some, if_pos (by simpa using M)]
 subst M
 obtain ⟨hp, ht, h4⟩ := h3 rfl
 obtain ⟨port, rfl⟩ := Et hp.1
 obtain ⟨t, rfl⟩ := Et ht.1
 obtain ⟨q, a1, e, l, a2, rfl⟩ := pY (p := p) (g := g) (by omega) (by omega) h1 b
 obtain ⟨⟨l', e'⟩, b1, b2⟩ := Tl (n := n) (p := p) (g := g) (fs0 := fs) (port := port) (by omega) (t := t) (by omega)
 obtain ⟨rfl, rfl⟩ := a2.uniq b2
 refine ⟨_, a1, ?_⟩
 unfold Rv
 rw [h4, b1, Option.bind_some]
 by_cases W : e = 0
 case neg => rw [if_pos (by simpa using W), if_neg W]
 subst W
 rw [if_neg (by simp), if_pos rfl]
 have hl := a2.len (by omega)
 refine Z5 ?_
 refine .bind (Q := Sum.elim (fun d : Int × Bool × Int => d = ((Tt b l).1, (Tt b l).2, 0)) fun _ : Unit => Tt b l = (0, false)) (.loop (fun Z => ∃ k : Nat, k ≤ l.length ∧ Z = (k : Int) ∧ (l.take k).find? (fun x => x.Batch == b) = none) (fun Z => ((l.length : Int) - Z).toNat) ⟨0, by omega, rfl, by simp⟩ (by omega) ?_) ?_
 ·rintro _ ⟨k, hk, rfl, O⟩
  unfold Rv.B2
  dsimp only
  refine A8 (fun h => ?_) fun h => .pure ?_
  ·obtain ⟨x, Y⟩ := Cn (l := l) (k := k) (by omega)
   have el : l = l.take k ++ x :: l.drop (k + 1) := by
    rw [← (gs Y).2, ← List.drop_eq_getElem_cons, List.take_append_drop]
   refine .bind' (.eq (A1 Y) (Dc (fun G => .pure ?_) fun G => .pure ⟨⟨k + 1, by omega, ?_, ?_⟩, ?_⟩))
   ·have : Tt b l = (x.Done, true) := by
     unfold Tt
     rw [el, List.find?_append, O]
     dsimp only at G
     simp [G]
    show (x.Done, true, (0 : Int)) = _
    rw [this]
   ·rw [Be (by omega)]; omega
   ·dsimp only at G
    rw [List.take_add_one, Y, List.find?_append, O]
    simp [G]
   ·rw [Be (by omega)]; omega
  ·obtain rfl : k = l.length := by omega
   rw [List.take_length] at O
   show Tt b l = (0, false)
   unfold Tt; rw [O]
 ·rintro (d | _) h
  ·exact .pure h
  ·have h : Tt b l = (0, false) := h
   unfold Rv.J1
   exact .pure (by rw [h])
end
theorem Zn (a : List Lot) (O : a.length ≤ 1000000000) : Wy a a = some true := by
 refine Z5 ?_
 unfold Wy
 rw [if_neg (by simp)]
 refine .bind (Q := Sum.elim (fun _ : Bool => False) fun _ : Unit => True) (.loop (fun G => ∃ k : Nat, k ≤ a.length ∧ G = (k : Int)) (fun G => ((a.length : Int) - G).toNat) ⟨0, by omega, rfl⟩ (by omega) ?_) ?_
 ·rintro _ ⟨k, W, rfl⟩
  unfold Wy.B2
  refine A8 (fun h => ?_) fun h => .pure trivial
  obtain ⟨x, M⟩ := Cn (l := a) (k := k) (by omega)
  refine .bind' (.eq (A1 M) (.bind' (.eq (A1 M) ?_)))
  rw [if_neg (by simp), Be (by omega)]
  exact .pure ⟨⟨k + 1, by omega, by omega⟩, by omega⟩
 ·rintro (r | _) h
  ·exact h.elim
  ·exact .pure rfl
section
variable {n : Nw} {rates ports : Li}
theorem bE (Y : rates.length = n.Segments.length) (hl : rates.length ≤ 1000) (at_ : Int) : Ok (R5 n rates at_) fun r => r.2 = true → V5 n r.1 := by
 unfold R5
 refine .bind (Q := Sum.elim (fun r : Hop × Bool => r.2 = true → V5 n r.1) fun _ : Unit => True) (.loop (fun G => ∃ k : Nat, k ≤ rates.length ∧ G = (k : Int)) (fun G => ((rates.length : Int) - G).toNat) ⟨0, by omega, rfl⟩ (by omega) ?_) ?_
 ·rintro _ ⟨k, W, rfl⟩
  unfold R5.B2
  refine A8 (fun h => ?_) fun h => .pure trivial
  obtain ⟨x, O⟩ := Cn (l := rates) (k := k) (by omega)
  obtain ⟨s, M⟩ := Cn (l := n.Segments) (k := k) (by omega)
  have J : ∀ b : Bool, Ok (R5.J3 rates (k : Int) b) (Sum.elim (fun G => (∃ k : Nat, k ≤ rates.length ∧ G = (k : Int)) ∧ ((rates.length : Int) - G).toNat < ((rates.length : Int) - (k : Int)).toNat) (Sum.elim (fun r : Hop × Bool => r.2 = true → V5 n r.1) fun _ : Unit => True)) := fun b => by
   unfold R5.J3
   refine Bo (fun _ => .bind' (.eq (A1 O) (.pure fun _ => ⟨by dsimp only; omega, by dsimp only; omega⟩))) fun _ => .pure ⟨⟨k + 1, by omega, ?_⟩, ?_⟩
   ·rw [Be (by omega)]; omega
   ·rw [Be (by omega)]; omega
  refine .bind' (.eq (A1 O) (Bo (fun _ => .bind' (.eq (A1 M) (Bo (fun _ => J _) fun _ => Bo (fun _ => J _) fun _ => J _))) fun _ => Bo (fun _ => .bind' (.eq (A1 M) (J _))) fun _ => J _))
 ·rintro (r | _) h
  ·exact .pure h
  ·exact .pure fun h => by cases h
structure Fol (n : Network) (ports : List Int) (i : Nat) (r : Path × Bool) : Prop where
 in_ : r.1.In = (i : Int)
 out : r.2 = true → 0 ≤ r.1.Out ∧ r.1.Out < (ports.length : Int)
 hops : ∀ h, h ∈ r.1.Hops → V5 n h
 len : r.1.Hops.length ≤ 100
theorem bK (hn : n.Nodes.length ≤ 24) (hr : rates.length = n.Segments.length) (hp : ports.length = n.Ports.length) (hl : rates.length ≤ 1000) (hl2 : ports.length ≤ 1000) {i : Nat} (hi : i < ports.length) : Ok (Wp n rates ports (i : Int)) (Fol n ports i) := by
 obtain ⟨x0, hx0⟩ := Cn hi
 obtain ⟨p0, hp0⟩ := Cn (l := n.Ports) (k := i) (by omega)
 unfold Wp
 refine .bind' (.eq (A1 hx0) (.bind' (.eq (A1 hp0) ?_)))
 refine .bind (Q := Sum.elim (fun r : Path × Bool => Fol n ports i r) fun d : List Hop × Int => (∀ h, h ∈ d.1 → V5 n h) ∧ d.1.length ≤ 100) (.loop (fun G : List Hop × Int × Int × Int => ∃ k : Nat, k ≤ n.Nodes.length + 1 ∧ G.2.2.2 = (k : Int) ∧ G.1.length ≤ k ∧ ∀ h, h ∈ G.1 → V5 n h) (fun G => ((n.Nodes.length : Int) + 1 - G.2.2.2).toNat) ⟨0, by omega, rfl, by simp, by simp⟩ (by dsimp only; omega) ?_) ?_
 ·rintro ⟨O, W, Z, _⟩ ⟨k, hk, rfl, h1, h2⟩
  dsimp only at h1 h2
  unfold Wp.B2
  refine A8 (fun h => ?_) fun h => .pure ⟨h2, by dsimp only; omega⟩
  dsimp only at h
  refine .bind (Q := Sum.elim (fun r : Path × Bool => Fol n ports i r) fun _ : Unit => True) (.loop (fun G => ∃ j : Nat, j ≤ ports.length ∧ G = (j : Int)) (fun G => ((ports.length : Int) - G).toNat) ⟨0, by omega, rfl⟩ (by omega) ?_) ?_
  ·rintro _ ⟨j, hj, rfl⟩
   unfold Wp.B5
   refine A8 (fun h => ?_) fun h => .pure trivial
   obtain ⟨y, hy⟩ := Cn (l := ports) (k := j) (by omega)
   obtain ⟨q, hq⟩ := Cn (l := n.Ports) (k := j) (by omega)
   have J : ∀ b : Bool, Ok (Wp.J6 ports (i : Int) (O, W, Z, (k : Int)) (j : Int) b) (Sum.elim (fun G => (∃ j : Nat, j ≤ ports.length ∧ G = (j : Int)) ∧ ((ports.length : Int) - G).toNat < ((ports.length : Int) - (j : Int)).toNat) (Sum.elim (fun r : Path × Bool => Fol n ports i r) fun _ : Unit => True)) := fun b => by
    unfold Wp.J6
    refine Bo (fun _ => .bind' (.eq (A1 hy) (.pure ⟨rfl, fun _ => ⟨by dsimp only; omega, by dsimp only; omega⟩, h2, by dsimp only; omega⟩))) fun _ => .pure ⟨⟨j + 1, by omega, ?_⟩, ?_⟩
    ·rw [Be (by omega)]; omega
    ·rw [Be (by omega)]; omega
   exact .bind' (.eq (A1 hq) (Bo (fun _ => .bind' (.eq (A1 hy) (J _))) fun _ => J _))
  rintro (r | _) hr1
  ·exact .pure hr1
  simp only [Sum.elim_inr]
  unfold Wp.J4
  refine .bind (bE hr hl Z) fun lv hlv => P8 (fun _ => .pure ⟨rfl, fun h => (by cases h), h2, by dsimp only; omega⟩) fun h0 => ?_
  have M := hlv h0
  refine .bind' (.app (by simp; omega) (.bind' (.ix' M.1 (by have := M.2; omega) fun a b _ _ => .bind' (.eq (Wd M) ?_))))
  unfold Wp.J3
  refine .pure ⟨⟨k + 1, by omega, ?_, by simp; omega, fun h' Y => ?_⟩, ?_⟩
  ·dsimp only; rw [Be (by omega)]; omega
  ·rcases List.mem_append.1 Y with Y | Y
   ·exact h2 h' Y
   ·simp at Y; subst Y; exact M
  ·dsimp only; rw [Be (by omega)]; omega
 ·rintro (r | ⟨O, W⟩) h
  ·exact .pure h
  ·unfold Wp.J1
   exact .pure ⟨rfl, fun h => (by cases h), h.1, h.2⟩
structure Pths (n : Network) (l : List Path) : Prop where
 len : l.length ≤ 64
 hops : ∀ x, x ∈ l → x.Hops.length ≤ 32
theorem bL (hn : NetC n) {p : Plan} (hr : p.Rates.length = n.Segments.length) (hp : p.Ports.length = n.Ports.length) : Ok (Wj n p) fun r => Pths n r.1 := by
 have h1 := hn.nodes; have h2 := hn.segs1; have h3 := hn.ports1
 obtain ⟨e, _, f2, _⟩ := S3 n p
 have nil : Pths n [] := ⟨by simp, by simp⟩
 unfold Wj
 refine .bind' (.eq f2 (Ec (fun _ => .pure nil) fun _ => .bind' (.app (by simp; omega) (.bind' (.app (by simp; omega) ?_)))))
 simp only [List.nil_append]
 refine .bind (Q := Sum.elim (fun r : List Path × Int => Pths n r.1) fun l : List Path => Pths n l) (.loop (fun G : Li × Li × List Path × Int => G.1.length = n.Segments.length ∧ G.2.1.length = n.Ports.length ∧ Pths n G.2.2.1 ∧ ∃ k : Nat, k ≤ n.Ports.length ∧ G.2.2.2 = (k : Int)) (fun G => ((n.Ports.length : Int) - G.2.2.2).toNat) ⟨hr, hp, nil, 0, by omega, rfl⟩ (by dsimp only; omega) ?_) ?_
 ·rintro ⟨R, P, O, _⟩ ⟨g1, g2, g3, k, hk, rfl⟩
  dsimp only at g1 g2 g3
  unfold Wj.B2
  refine A8 (fun M => ?_) fun M => .pure g3
  dsimp only at M ⊢
  refine .bind (Q := Sum.elim (fun r : List Path × Int => Pths n r.1) fun d : Li × Li × List Path => d.1.length = n.Segments.length ∧ d.2.1.length = n.Ports.length ∧ Pths n d.2.2) (.loop (fun G : Li × Li × List Path => G.1.length = n.Segments.length ∧ G.2.1.length = n.Ports.length ∧ Pths n G.2.2) (fun G => 64 - G.2.2.length) ⟨g1, g2, g3⟩ (by dsimp only; omega) ?_) ?_
  ·rintro ⟨R', P', O'⟩ ⟨Y, Z, e3⟩
   dsimp only at Y Z e3
   unfold Wj.B4
   obtain ⟨x, W⟩ := Cn (l := P') (k := k) (by omega)
   refine .bind' (.eq (A1 W) (Bo (fun _ => ?_) fun _ => .pure ⟨Y, Z, e3⟩))
   refine .bind (bK (by omega) Y Z (by omega) (by omega) (by omega)) fun r hr => ?_
   have hin := hr.in_
   refine Bo (fun _ => .pure nil) fun hb => ?_
   simp only [Bool.or_eq_false_iff, Bool.not_eq_false', beq_eq_false_iff_ne, decide_eq_false_iff_not] at hb
   obtain ⟨b1, b2, b3⟩ := hb
   obtain ⟨o1, o2⟩ := hr.out b1
   have hol := e3.len
   rw [hin]
   refine .bind' (.eq (A1 W) (.bind' (.ix' o1 (by simp; omega) fun a y ha hy => ?_)))
   dsimp only
   refine .bind (Q := fun d : Li => d.length = n.Segments.length) (.loop (fun G : Li × Int => G.1.length = n.Segments.length ∧ ∃ j : Nat, j ≤ r.1.Hops.length ∧ G.2 = (j : Int)) (fun G => ((r.1.Hops.length : Int) - G.2).toNat) ⟨Y, 0, by omega, rfl⟩ (by dsimp only; omega) ?_) ?_
   ·rintro ⟨R2, _⟩ ⟨c1, j, hj, rfl⟩
    dsimp only at c1
    unfold Wj.B6
    refine A8 (fun M => ?_) fun M => .pure c1
    dsimp only at M
    obtain ⟨h, hh⟩ := Cn (l := r.1.Hops) (k := j) (by omega)
    have hi := hr.hops h (mg hh)
    have J : ∀ R3 : Li, R3.length = n.Segments.length → Ok (Wj.J7 (R2, (j : Int)) R3) (Sum.elim (fun G => (G.1.length = n.Segments.length ∧ ∃ j : Nat, j ≤ r.1.Hops.length ∧ G.2 = (j : Int)) ∧ ((r.1.Hops.length : Int) - G.2).toNat < ((r.1.Hops.length : Int) - (j : Int)).toNat) fun d : Li => d.length = n.Segments.length) := fun R3 h3 => by
     unfold Wj.J7
     refine .pure ⟨⟨h3, j + 1, by omega, ?_⟩, ?_⟩
     ·dsimp only; rw [Be (by omega)]; omega
     ·dsimp only; rw [Be (by omega)]; omega
    refine .bind' (.eq (A1 hh) (Bo (fun _ => .bind' (.ix' hi.1 (by have := hi.2; dsimp only; omega) fun a y _ _ => J _ (by simp [c1]))) fun _ => .bind' (.ix' hi.1 (by have := hi.2; dsimp only; omega) fun a y _ _ => J _ (by simp [c1]))))
   ·intro d hd
    unfold Wj.J5
    dsimp only
    refine .bind' (.app (by simp; omega) (.pure ⟨⟨hd, by simp [Z], ⟨by simp; omega, fun x W => ?_⟩⟩, by simp; omega⟩))
    rcases List.mem_append.1 W with W | W
    ·exact e3.hops x W
    ·simp at W; subst W; omega
  ·rintro (q | ⟨R', P', O'⟩) h
   ·exact .pure h
   ·obtain ⟨Y, Z, e3⟩ := h
    unfold Wj.J3
    refine .pure ⟨⟨Y, Z, e3, k + 1, by omega, ?_⟩, ?_⟩
    ·dsimp only; rw [Be (by omega)]; omega
    ·dsimp only; rw [Be (by omega)]; omega
 ·rintro (q | l) h
  ·exact .pure h
  ·exact .pure h
end
def Mc (m : Int) (X : Li) : Prop := ∀ b, b ∈ X → 0 ≤ b ∧ b < m
theorem pN {s : V4} (hs : SrcOk s) {v m : Int} (hv : 0 ≤ v ∧ v ≤ 1000) (hm : 1 ≤ m ∧ m ≤ 1000) : Ok (Rt s v m) fun r => SrcOk r.2 ∧ ∃ X, r.1 = Cm X ∧ (X.length : Int) = v ∧ Mc m X ∧ (Cm X).length ≤ 12 := by
 let I : Li × Int × Int × List Piece → Prop := fun st => SrcOk ⟨st.1, st.2.1⟩ ∧ ∃ X, st.2.2.2 = Cm X ∧ (X.length : Int) + st.2.2.1 = v ∧ 0 ≤ st.2.2.1 ∧ Mc m X ∧ (Cm X).length ≤ 12 ∧ ((Cm X).length = 12 → st.2.2.1 = 0)
 let R : Li × Int × List Piece → Prop := fun r => SrcOk ⟨r.1, r.2.1⟩ ∧ ∃ X, r.2.2 = Cm X ∧ (X.length : Int) = v ∧ Mc m X ∧ (Cm X).length ≤ 12
 let μ : Li × Int × Int × List Piece → Nat := fun st => st.2.2.1.toNat
 unfold Rt
 refine .bind (Q := R) (.loop I μ ⟨hs, [], rfl, by simp, by dsimp only; omega, by simp [Mc], by simp [Iu], by simp [Iu]⟩ (by dsimp only [μ]; omega) ?_) fun r hr => .pure hr
 rintro ⟨l, a, rem, ps⟩ ⟨h1, X, rfl, h3, h4, h5, h6, h7⟩
 dsimp only at h1 h3 h4 h7
 unfold Rt.B2
 dsimp only
 refine Bo (fun hc => ?_) fun hc => ?_
 ·simp at hc
  refine .bind (E4 h1 hm.1 (by omega)) fun O hr => ?_
  have hq : 0 ≤ (rem * 2).tdiv 3 ∧ (rem * 2).tdiv 3 ≤ rem := by
   rw [Int.tdiv_eq_ediv_of_nonneg (by omega)]; omega
  rw [Be (by omega : _ ≤ rem * 2 ∧ _), Be (by omega)]
  refine .bind (Gf hr.1 (by omega) (by omega) (by omega)) fun G hr2 => ?_
  have take : ∀ (k : Int) (Y : Li), 1 ≤ k → k ≤ rem → (Y.length : Int) = X.length + k → Mc m Y → (Cm Y).length ≤ (Cm X).length + 1 → ((Cm X).length = 11 → k = rem) → I (G.2.L_, G.2.At, wr (rem - k), Cm Y) ∧ μ (G.2.L_, G.2.At, wr (rem - k), Cm Y) < μ (l, a, rem, Cm X) := by
   intro k Y k1 k2 y1 y2 y3 y4
   rw [Be (by omega)]
   exact ⟨⟨hr2.1, Y, rfl, by dsimp only; omega, by dsimp only; omega, y2, by omega, fun h => by have := y4 (by omega); dsimp only; omega⟩, by dsimp only [μ]; omega⟩
  have rep : ∀ (b k : Int), 0 ≤ b ∧ b < m → 1 ≤ k → Mc m (X ++ List.replicate k.toNat b) := fun b k hb hk c hcm => by
   rcases List.mem_append.1 hcm with h | h
   ·exact h5 c h
   ·obtain ⟨_, rfl⟩ := List.mem_replicate.1 h; exact hb
  have aa : ∀ (b k : Int), 1 ≤ k → (Cm (X ++ List.replicate k.toNat b)).length ≤ (Cm X).length + 1 := fun b k hk => by
   have := cV (Cm X) ⟨b, k⟩
   rw [It (by exact hk)] at this; exact this
  have Z : ∀ M, 1 ≤ M → ((Cm X).length = 11 → M = rem) → Ok (Rt.J3 m (l, a, rem, Cm X) O G M) (Sum.elim (fun s => I s ∧ μ s < μ (l, a, rem, Cm X)) R) := by
   intro j hj1 hj2
   have app : ∀ b, 0 ≤ b ∧ b < m → V3 (Cm X) ⟨b, min j rem⟩ = Cm X ++ [⟨b, min j rem⟩] → Ok (Rt.J4 (l, a, rem, Cm X) G j b) (Sum.elim (fun s => I s ∧ μ s < μ (l, a, rem, Cm X)) R) := by
    intro b hb W
    unfold Rt.J4
    refine .bind' (.app (by simp; omega) (.pure ?_))
    dsimp only
    rw [← W, It (by dsimp only; omega)]
    exact take (min j rem) (X ++ List.replicate (min j rem).toNat b) (by omega) (by omega) (by rw [List.length_append, List.length_replicate]; omega) (rep b (min j rem) hb (by omega)) (aa b (min j rem) (by omega)) (fun h => by have := hj2 h; omega)
   unfold Rt.J3
   dsimp only
   rcases Dq (Cm X) with W | ⟨c, q, W⟩
   ·refine A8 (fun h => by rw [W] at h; simp at h) fun _ => ?_
    unfold Rt.J5
    rw [if_neg (by simp)]
    exact app _ hr.2 (by rw [W]; rfl)
   ·have hl : (Cm X).length = c.length + 1 := by rw [W]; simp
    have hg : (Cm X)[c.length]? = some q := by rw [W]; simp
    have hw : wr (((Cm X).length : Int) - 1) = (c.length : Int) := by rw [hl, Be (by omega)]; omega
    have hq1 := (El X).pos q (mg hg)
    have hq2 := Iq (fun p hp => by have := (El X).pos p hp; omega) (mg hg)
    rw [C5] at hq2
    refine A8 (fun _ => ?_) fun h => by rw [hl] at h; omega
    rw [hw]
    refine .bind' (.eq (A1 hg) ?_)
    unfold Rt.J5
    dsimp only
    refine Dc (fun hb => ?_) fun hb => app _ hr.2 (by rw [W, En, if_neg (by exact hb)])
    rw [hw, Be (by omega)]
    have ht : 0 ≤ (O.1 + 1).tmod m ∧ (O.1 + 1).tmod m < m := by
     rw [Int.tmod_eq_emod_of_nonneg (by omega)]
     exact ⟨Int.emod_nonneg _ (by omega), Int.emod_lt_of_pos _ (by omega)⟩
    refine .bind' (.rem (by omega) (.bind' (.eq (A1 hg) ?_)))
    dsimp only
    refine Dc (fun hb2 => ?_) fun hb2 => app _ ht (by rw [W, En, if_neg (by exact hb2)])
    have e : (Cm X).set c.length (⟨q.Batch, wr (q.Volume + min j rem)⟩ : Piece) = V3 (Cm X) ⟨q.Batch, min j rem⟩ := by
     rw [Be (by omega), W, En, if_pos rfl]; simp
    rw [e, It (by dsimp only; omega)]
    have hqb := h5 _ (Ue (mg hg))
    exact .pure (take (min j rem) (X ++ List.replicate (min j rem).toNat q.Batch) (by omega) (by omega) (by rw [List.length_append, List.length_replicate]; omega) (rep q.Batch (min j rem) hqb (by omega)) (aa q.Batch (min j rem) (by omega)) (fun h => by have := hj2 h; omega))
  exact Dc (fun h => Z _ (by omega) fun _ => rfl) fun h => Z _ (by omega) fun h' => by omega
 ·refine .pure ⟨h1, X, rfl, ?_, h5, h6⟩
  by_cases h0 : rem = 0
  ·subst h0; omega
  ·have : ¬ (Cm X).length = 12 := fun h => h0 (h7 h)
   simp at hc
   have := hc (by omega)
   omega
theorem mK {n : Nw} (hn : NetG n) {s : V4} (Z : SrcOk s) {m : Int} (hm : 1 ≤ m ∧ m ≤ 1000) : Ok (R4 s n m) fun r => SrcOk r.2 ∧ ∃ F, Fil n r.1 F ∧ ∀ i, i < n.Segments.length → Mc m (F i) ∧ (Cm (F i)).length ≤ 12 := by
 have s1 := hn.segs1
 unfold R4
 refine .bind (Q := fun W : Li × Int × List (List Piece) => SrcOk ⟨W.1, W.2.1⟩ ∧ W.2.2.length = n.Segments.length ∧ ∀ (i : Nat) (s : Sg) (f : List Piece), n.Segments[i]? = some s → W.2.2[i]? = some f → ∃ X, f = Cm X ∧ (X.length : Int) = s.Capacity ∧ Mc m X ∧ (Cm X).length ≤ 12)
  (.forS (fun k W => SrcOk ⟨W.1, W.2.1⟩ ∧ W.2.2.length = k ∧ ∀ (i : Nat) (s : Sg) (f : List Piece), n.Segments[i]? = some s → W.2.2[i]? = some f → ∃ X, f = Cm X ∧ (X.length : Int) = s.Capacity ∧ Mc m X ∧ (Cm X).length ≤ 12) ⟨Z, rfl, by simp⟩ ?_ fun _ h => h) ?_
 ·rintro k x ⟨l, a, fs⟩ hx ⟨h1, Y, h3⟩
  dsimp only at h1 Y h3
  have hk := (gs hx).1
  have hc := (hn.segs k x hx).cap
  unfold R4.B2
  refine .bind (pN h1 (by omega) hm) ?_
  rintro ⟨f, d⟩ ⟨g1, X, rfl, g2, g3, g4⟩
  refine .bind' (.app (by dsimp only; rw [Y]; simp; omega) (.pure ⟨g1, by simp [Y], fun i s f G M => ?_⟩))
  dsimp only at M
  rw [List.getElem?_append] at M
  split at M
  ·exact h3 i s f G M
  ·have hl := (gs M).1
   simp at hl
   obtain rfl : i = k := by omega
   simp [Y] at M
   rw [hx] at G; cases G
   exact ⟨X, M.symm, g2, g3, g4⟩
 ·rintro ⟨l, a, fs⟩ ⟨h1, Y, h3⟩
  dsimp only at h1 Y h3
  have O : ∀ i, i < n.Segments.length → ∃ s, n.Segments[i]? = some s ∧ fs[i]? = some (Cm (lit (fs.getD i []))) ∧ ((lit (fs.getD i [])).length : Int) = s.Capacity ∧ Mc m (lit (fs.getD i [])) ∧ (Cm (lit (fs.getD i []))).length ≤ 12 := fun i G => by
   obtain ⟨s, Z⟩ := Cn G
   obtain ⟨f, M⟩ := Cn (l := fs) (k := i) (by omega)
   obtain ⟨X, rfl, x1, x2, x3⟩ := h3 i s f Z M
   rw [List.getD_eq_getElem?_getD, M]
   dsimp only [Option.getD]
   rw [D2]
   exact ⟨s, Z, rfl, x1, x2, x3⟩
  refine .pure ⟨h1, fun i => lit (fs.getD i []), ⟨⟨Y, fun i G => ?_⟩, fun i G => ?_, fun i s Z => ?_⟩, fun i G => ?_⟩
  ·obtain ⟨s, a1, a2, _⟩ := O i G; exact a2
  ·obtain ⟨s, a1, a2, a3, a4, a5⟩ := O i G
   have hc := (hn.segs i s a1).cap
   exact cJ (by omega) (fun b hb => by have := a4 b hb; omega) (by omega)
  ·obtain ⟨s', a1, a2, a3, _⟩ := O i (gs Z).1
   rw [Z] at a1; cases a1; exact a3
  ·obtain ⟨s, a1, a2, a3, a4, a5⟩ := O i G; exact ⟨a4, a5⟩
theorem mL {n : Nw} (hn : NetG n) {s : V4} (hs : SrcOk s) {m : Int} (hm : 1 ≤ m ∧ m ≤ 1000) : Ok (Qz s n m) fun r => SrcOk r.2 ∧ r.1.length = n.Ports.length ∧ Mc m r.1 := by
 have s1 := hn.ports1
 unfold Qz
 refine .bind (Q := fun r : Li × Int × Li => SrcOk ⟨r.1, r.2.1⟩ ∧ r.2.2.length = n.Ports.length ∧ Mc m r.2.2)
  (.loop (fun G => SrcOk ⟨G.1, G.2.1⟩ ∧ (G.2.2.1.length : Int) = G.2.2.2 ∧ G.2.2.2 ≤ n.Ports.length ∧ Mc m G.2.2.1) (fun G => n.Ports.length - G.2.2.1.length) ⟨hs, rfl, by simp, by simp [Mc]⟩ (by dsimp only; omega) ?_) fun r O => .pure O
 rintro ⟨l, a, g, i⟩ ⟨W, Z, h3, Y⟩
 dsimp only at W Z h3 Y
 subst Z
 unfold Qz.B2
 refine A8 (fun h => ?_) fun h => .pure ⟨W, by dsimp only at h ⊢; omega, Y⟩
 dsimp only at h ⊢
 refine .bind (E4 W hm.1 (by omega)) fun r O => .bind' (.app (by simp; omega) (.pure ⟨⟨O.1, ?_, ?_, ?_⟩, ?_⟩))
 ·dsimp only; rw [Be (by omega)]; simp
 ·dsimp only; rw [Be (by omega)]; omega
 ·intro b M
  rcases List.mem_append.1 M with M | M
  ·exact Y b M
  ·simp at M; subst M; exact O.2
 ·simp; omega
theorem pI {s : V4} (hs : SrcOk s) {p : Plan} (h1 : p.Rates.length ≤ 1000) (h2 : p.Ports.length ≤ 1000) (h3 : p.Pumps.length ≤ 1000) : Ok (Ri s p) fun r => SrcOk r.2 := by
 unfold Ri
 refine .bind' (.app (by simp; omega) (.bind' (.app (by simp; omega) (.bind' (.app (by simp; omega) ?_)))))
 simp only [List.nil_append]
 unfold Ri.J1 Ri.J2
 dsimp only
 refine .bind (E4 hs (by decide) (by decide)) fun c M => Bo (fun _ => ?_) fun _ => Bo (fun _ => ?_) fun _ => Bo (fun _ => ?_) fun _ => ?_
 ·exact .bind' (.app (by simp; omega) (.pure M.1))
 ·rw [Be (by omega)]
  refine .bind (E4 M.1 (by omega) (by omega)) fun a G => ?_
  obtain ⟨j, Y⟩ := Et G.2.1
  exact .bind' (.sub 0 j rfl Y (Nat.zero_le _) (by omega) (.pure G.1))
 ·exact A8 (fun Z => .bind (E4 M.1 (by omega) (by omega)) fun a G => .bind' (.ix' (by omega) (by omega) fun i x W hx => .bind (C8 G.1 (by simp) (by simp)) fun b O => .pure O.1)) fun _ => .pure M.1
 ·exact A8 (fun Z => .bind (E4 M.1 (by omega) (by omega)) fun a G => .bind' (.ix' (by omega) (by omega) fun i x W hx => .bind (C8 G.1 (by simp) (by simp)) fun b O => .pure O.1)) fun _ => .pure M.1
theorem Se {s : V4} (h : SrcOk s) {l : List Bt} (h1 : 1 ≤ l.length) (h2 : l.length ≤ 1000) : Ok (Nz s l) fun r => SrcOk r.2 := by
 unfold Nz
 exact .bind (E4 h (by omega) (by omega)) fun r G => .bind' (.ix' (by omega) (by omega) fun _ _ _ _ => .pure G.1)
theorem Yx {f : Bt} (hf : f.size ≤ 100) (n : Int) : Ok (G4 f n) fun r => r.size ≤ 200 := by
 have O : 0 ≤ IntKind.u8.wrap (wr (97 + n.tmod 26)) ∧ IntKind.u8.wrap (wr (97 + n.tmod 26)) ≤ 255 := by
  generalize wr (97 + n.tmod 26) = z
  have G : IntKind.u8.bits = 8 := rfl
  have : IntKind.u8.wrap z = z % 256 := rfl
  omega
 unfold G4
 refine .bind (Q := fun r : Bt => r.size ≤ 100) ?_ fun r M => .bind' (.cat (by omega) (.pure (by rw [ByteArray.size_append]; omega)))
 unfold We
 rw [if_pos (by simp only [List.all_cons, List.all_nil, Bool.and_true, decide_eq_true_eq]; omega)]
 exact ⟨_, rfl, by simp [ByteArray.size]⟩
structure Odd12 (n m : Network) : Prop where
 nodes : 1 ≤ m.Nodes.length ∧ m.Nodes.length ≤ 100
 segs : m.Segments.length = n.Segments.length
 ports : m.Ports.length = n.Ports.length
 sts : m.Stations.length ≤ n.Stations.length + 1
 pts : ∀ (k : Nat) (s : Sg), m.Segments[k]? = some s → s.Points.length ≤ 100
structure Few12 (n : Network) : Prop where
 nodes : 1 ≤ n.Nodes.length ∧ n.Nodes.length ≤ 20
 segs : 1 ≤ n.Segments.length ∧ n.Segments.length ≤ 100
 ports : n.Ports.length ≤ 100
 sts : n.Stations.length ≤ 100
 pts : ∀ (k : Nat) (s : Sg), n.Segments[k]? = some s → s.Points.length ≤ 100
structure WrongR (n m : Network) : Prop where
 odd : Odd12 n m
 seg : ∃ (i : Nat) (x y : Sg), n.Segments[i]? = some x ∧ m.Segments = n.Segments.set i y ∧ y.To = x.To ∧ (y.From = x.From ∨ m.Ports = n.Ports) ∧ (m.Nodes.length = n.Nodes.length ∨ (y.From = x.From ∧ m.Ports = n.Ports ∧ m.Stations = n.Stations))
theorem dZ {s : V4} (hs : SrcOk s) {n : Nw} (hn : Few12 n) : Ok (R6 s n) fun r => WrongR n r.1 ∧ SrcOk r.2 := by
 have Y := hn.nodes; have hn2 := hn.segs; have hn3 := hn.ports; have hn4 := hn.sts
 unfold R6
 refine .bind' (.app (by simp; omega) (.bind' (.app (by simp; omega) (.bind' (.app (by simp; omega) (.bind' (.app (by simp; omega) ?_)))))))
 simp only [List.nil_append]
 refine .bind (E4 hs (by omega) (by omega)) fun k hk => .bind' (.ix' (by omega) (by omega) fun i x hi hx => ?_)
 have hil := (gs hx).1
 have aa := hn.pts i x hx
 refine .bind' (.app (by simp; omega) ?_)
 simp only [List.nil_append]
 refine .bind (E4 hk.1 (by decide) (by decide)) fun c W => ?_
 have O : ∀ (a : Li) (b : Int) (no : List Bt) (po : List Port) (st : List Sn) (va se f ca re wa : Int) (pt : List Point), SrcOk ⟨a, b⟩ → (1 ≤ no.length ∧ no.length ≤ 100) → po.length = n.Ports.length → st.length ≤ n.Stations.length + 1 → pt.length ≤ 100 → (f = x.From ∨ po = n.Ports) → (no.length = n.Nodes.length ∨ (f = x.From ∧ po = n.Ports ∧ st = n.Stations)) →
   Ok (R6.J1 n.Segments (i, x) (a, b, no, po, st, va, se, f, ca, re, wa, pt)) fun r => WrongR n r.1 ∧ SrcOk r.2 := by
  intro a b no po st va se f ca re wa pt h1 h2 h3 h4 h5 h6 h7
  unfold R6.J1
  refine .pure ⟨⟨⟨h2, by simp, h3, h4, fun q z hz => ?_⟩, i, x, _, hx, rfl, rfl, h6, h7⟩, h1⟩
  dsimp only at hz
  rw [List.getElem?_set] at hz
  split at hz
  ·cases hz; exact h5
  ·exact hn.pts q z hz
 have G := fun (a : V4) (M : SrcOk a) (va se f ca re wa : Int) => O a.L_ a.At n.Nodes n.Ports n.Stations va se f ca re wa x.Points M ⟨Y.1, by omega⟩ rfl (by omega) aa (.inr rfl) (.inl rfl)
 refine Bo (fun _ => ?_) fun _ => Bo (fun _ => ?_) fun _ => Bo (fun _ => ?_) fun _ => Bo (fun _ => ?_) fun _ => Bo (fun _ => ?_) fun _ => Bo (fun _ => ?_) fun _ => Bo (fun _ => ?_) fun _ => Bo (fun _ => ?_) fun _ => Bo (fun _ => ?_) fun _ => Bo (fun _ => ?_) fun _ => Bo (fun _ => ?_) fun _ => ?_
 ·exact .bind (E4 W.1 (by omega) (by omega)) fun a M => .bind (Se M.1 (by simp) (by simp)) fun b Z => .bind' (.ix' (by omega) (by omega) fun _ _ _ _ => O _ _ _ _ _ _ _ _ _ _ _ _ Z ⟨by simp; omega, by simp; omega⟩ rfl (by omega) aa (.inl rfl) (.inl (by simp)))
 ·exact .bind (C8 W.1 (by simp) (by simp)) fun a M => G a.2 M.1 _ _ _ _ _ _
 ·exact .bind (C8 W.1 (by simp) (by simp)) fun a M => G a.2 M.1 _ _ _ _ _ _
 ·exact .bind (C8 W.1 (by simp) (by simp)) fun a M => G a.2 M.1 _ _ _ _ _ _
 ·exact .bind (C8 W.1 (by simp) (by simp)) fun a M => G a.2 M.1 _ _ _ _ _ _
 ·exact A8 (fun hp => .bind (E4 W.1 (by omega) (by omega)) fun a M => .bind (C8 M.1 (by simp) (by simp)) fun b Z => .bind' (.ix' (by omega) (by omega) fun _ _ _ _ => O _ _ _ _ _ _ _ _ _ _ _ _ Z.1 ⟨Y.1, by omega⟩ rfl (by omega) (by simp; omega) (.inl rfl) (.inl rfl))) fun _ => G c.2 W.1 _ _ _ _ _ _
 ·have hw : wr ((x.Points.length : Int) + 1) = (x.Points.length : Int) + 1 := Be (by omega)
  rw [hw]
  refine .bind (E4 W.1 (by omega) (by omega)) fun a M => ?_
  obtain ⟨j, hj⟩ := Et M.2.1
  exact .bind' (.sub 0 j rfl hj (Nat.zero_le _) (by omega) (O _ _ _ _ _ _ _ _ _ _ _ _ M.1 ⟨Y.1, by omega⟩ rfl (by omega) (by simp; omega) (.inl rfl) (.inl rfl)))
 ·exact A8 (fun hp => .bind (E4 W.1 (by omega) (by omega)) fun a M => .bind (C8 M.1 (by simp) (by simp)) fun b Z => .bind' (.ix' (by omega) (by omega) fun _ _ _ _ => O _ _ _ _ _ _ _ _ _ _ _ _ Z.1 ⟨Y.1, by omega⟩ rfl (by omega) (by simp; omega) (.inl rfl) (.inl rfl))) fun _ => G c.2 W.1 _ _ _ _ _ _
 ·exact A8 (fun hp => .bind (E4 W.1 (by omega) (by omega)) fun a M => .bind (Se M.1 (by simp) (by simp)) fun b Z => .bind (C8 Z (by simp) (by simp)) fun d hd => .bind (C8 hd.1 (by simp) (by simp)) fun e he => .bind' (.ix' (by omega) (by omega) fun _ _ _ _ => O _ _ _ _ _ _ _ _ _ _ _ _ he.1 ⟨Y.1, by omega⟩ (by simp) (by omega) aa (.inl rfl) (.inl rfl))) fun _ => G c.2 W.1 _ _ _ _ _ _
 ·exact .bind (Se W.1 (by simp) (by simp)) fun b Z => .bind (C8 Z (by simp) (by simp)) fun d hd => .bind (C8 hd.1 (by simp) (by simp)) fun e he => .bind (C8 he.1 (by simp) (by simp)) fun g hg => .bind (C8 hg.1 (by simp) (by simp)) fun z hz => .bind' (.app (by simp; omega) (O _ _ _ _ _ _ _ _ _ _ _ _ hz.1 ⟨Y.1, by omega⟩ rfl (by simp) aa (.inl rfl) (.inl rfl)))
 ·exact .bind (C8 W.1 (by simp) (by simp)) fun a M => .bind (C8 M.1 (by simp) (by simp)) fun b Z => G b.2 Z.1 _ _ _ _ _ _
 ·refine .bind (Q := fun d : Li × Int × (List Bt) × (List Port) × (List Sn) × Int × Int × Int × Int × Int × Int × (List Point) => ∃ (a : Li) (b : Int) (no : List Bt) (va se ca re wa : Int), d = (a, b, no, n.Ports, n.Stations, va, se, x.From, ca, re, wa, x.Points) ∧ SrcOk ⟨a, b⟩ ∧ 1 ≤ no.length ∧ no.length ≤ 100) ?_ ?_
  ·refine .loop (fun st : Li × Int × List Bt => SrcOk ⟨st.1, st.2.1⟩ ∧ 1 ≤ st.2.2.length ∧ st.2.2.length ≤ 25) (fun st => 100 - st.2.2.length) ⟨W.1, Y.1, by dsimp only; omega⟩ (by dsimp only; omega) ?_
   rintro ⟨a, b, no⟩ ⟨h1, h2, h3⟩
   dsimp only at h1 h2 h3
   unfold R6.B2
   dsimp only
   refine .bind (E4 (s := ⟨a, b⟩) h1 (by decide) (by decide)) fun e he => ?_
   rw [Be (x := 23 + e.1) (by omega)]
   refine A8 (fun hh => .bind (Yx (by decide) _) fun y hy => .bind (Yx (by decide) _) fun z hz => .bind' (.cat (by omega) (.bind' (.app (by simp; omega) (.pure ⟨⟨he.1, by simp, by simp; omega⟩, by simp; omega⟩))))) fun hh => .pure ⟨_, _, _, _, _, _, _, _, rfl, he.1, h2, by omega⟩
  ·rintro _ ⟨a, b, no, va, se, ca, re, wa, rfl, h1, h2, h3⟩
   exact O _ _ _ _ _ _ _ _ _ _ _ _ h1 ⟨h2, h3⟩ rfl (by omega) aa (.inl rfl) (.inr ⟨rfl, rfl, rfl⟩)
theorem lK {s : V4} (M : SrcOk s) {n : Nw} (G : Few12 n) : Ok (R6 s n) fun r => Odd12 n r.1 ∧ SrcOk r.2 := (dZ M G).mono fun r h => ⟨h.1.odd, h.2⟩
theorem dK : Qu = some true := by kernel_rfl
theorem Z6 (x : Int) {k : Int} (h : 1 ≤ k ∧ k ≤ 1000000) : ∃ r, Fy x k = some r ∧ 0 ≤ r ∧ r < k := by
 obtain ⟨r, G, M⟩ := kW x h.1 (by omega)
 exact ⟨r, by unfold Fy; rw [G]; rfl, M⟩
theorem rP (odd G : Int) (j : Li × Int × (List (List Piece)) × Li × Li × (List Bool) × Li) (a b : Int × KS)
  (c : (List Bt) × (List Sg) × (List Port) × (List Sn) × Int × Int × (List (List Piece)) × Li × Li × (List Bool) × Int × Int × (List Hop) × (List Piece)) : aT.J3 odd G j a b c = some true := by
 obtain ⟨c1, c2, c3, c4, c5, c6, c7, c8, c9, M, O, W, c13, c14⟩ := c
 unfold aT.J3
 dsimp only
 obtain ⟨q1, a1, a2⟩ := oF c14 a.1 (b.1 == 0)
 obtain ⟨q2, a3, a4⟩ := Zx ⟨c1, c2, c3, c4, c5, c6⟩ c7 c13 a.1
 obtain ⟨m1, a5, _⟩ := Z6 odd (k := 1003) (by omega)
 obtain ⟨m2, a6, _⟩ := Z6 G (k := 5000) (by omega)
 obtain ⟨m3, a7, _⟩ := Z6 odd (k := 90) (by omega)
 obtain ⟨q3, a8, a9⟩ := Zh G (wr (m1 - 1))
 obtain ⟨q4, Y, Z⟩ := Zh m2 (wr (1 + m3))
 obtain ⟨q5, aa, ab, a14⟩ := Zy ⟨c1, c2, c3, c4, c5, c6⟩ c7 ⟨c8, c9, M⟩ j.2.2.2.2.2.2 O W
 obtain ⟨q6, ac, ad⟩ := jM ⟨c1, c2, c3, c4, c5, c6⟩ c7 ⟨c8, c9, M⟩ j.2.2.2.2.2.2 O a.1 W
 simp only [a1, a2, a3, a4, a5, a6, a7, a8, a9, Y, Z, aa, ab, ac, ad, Zn q5.1 (by omega), dK, Option.bind_some, bne_self_eq_false, Bool.or_self, Bool.false_eq_true, if_false, beq_self_eq_true, if_true]
 rfl
theorem NetOk.few12 {n : Nw} (G : NetOk n) : Few12 n := by
 have O := G.nodes; have W := G.segs1; have Y := G.ports1; have Z := G.sts1
 exact ⟨by omega, by omega, by omega, by omega, fun k s M => by have := (G.segs k s M).points.len; omega⟩
theorem Xv (l : Li) (odd O : Int) : aT l odd O = some true := by
 refine Z5 ?_
 unfold aT
 refine P8 (fun _ => by rw [dK]; exact .pure rfl) fun _ => ?_
 refine .bind (sA l) fun d0 hd0 => .bind (sB hd0) ?_
 rintro ⟨n, d1⟩ ⟨W, aa⟩
 dsimp only at W aa ⊢
 refine .bind (mK W.g aa (m := 5) (by omega)) ?_
 rintro ⟨fs, d2⟩ ⟨hd2, F0, hf, _⟩
 refine .bind (pG W hd2) ?_
 rintro ⟨⟨R, P, M⟩, d3⟩ ⟨hp, hd3⟩
 refine .bind (mL W.g hd3 (m := 5) (by omega)) ?_
 rintro ⟨g, d4⟩ ⟨hd4, hg1, hg2⟩
 dsimp only at hf hp hg1 ⊢
 have s0 := W.nodes; have s1 := W.segs1; have s2 := W.ports1; have s3 := W.sts1
 have hl := hf.rp.len
 have hR := hp.rl; have hP := hp.pl; have hM := hp.ml
 dsimp only at hR hP hM
 unfold aT.J1
 dsimp only
 refine .bind (E4 hd4 (by decide) (by decide)) fun r1 hr1 => .bind (E4 hr1.1 (by omega) (by omega)) fun r2 hr2 => .bind (E4 hr2.1 (by decide) (by decide)) fun r3 ad => ?_
 refine .bind (bL W.g.c hR hP) fun ps ac => ?_
 have go : ∀ (A : Li) (B : Int) (way : List Hop), SrcOk ⟨A, B⟩ → way.length ≤ 1000 → Ok (aT.J2 odd O (n, d1) (d4.L_, d4.At, fs, R, P, M, g) r1 r2 r3 (A, B, way)) fun r => r = true := fun A B way hs hw => by
  unfold aT.J2
  dsimp only
  refine .bind (E4 hs (by decide) (by decide)) fun r4 Y => .bind (E4 Y.1 (by omega) (by omega)) fun r5 Z => .bind' (.ix' Z.2.1 (by omega) fun i f _ ab => ?_)
  have hfl : f.length ≤ 1000 := by
   have hil := (gs ab).1
   have e := hf.rp.get i (by omega)
   rw [ab] at e; cases e
   have := (hf.vd i (by omega)).len; omega
  dsimp only
  obtain ⟨m, hm, _⟩ := Z6 odd (k := 14) (by omega)
  have G : ∀ {a b c}, Ok (aT.J3 odd O (d4.L_, d4.At, fs, R, P, M, g) a b c) fun r => r = true := fun {a b c} => .eq (rP _ _ _ _ _ _) rfl
  refine .bind' (.eq hm (Bo (fun _ => .bind (lK Z.1 W.few12) fun r _ => G) fun _ => Bo (fun _ => .bind (pI Z.1 (by dsimp only; omega) (by dsimp only; omega) (by dsimp only; omega)) fun r _ => G) fun _ => Bo (fun _ => ?_) fun _ => Bo (fun _ => ?_) fun _ => Bo (fun _ => A8 (fun h => .bind' (.ix' (by omega) (by omega) fun a b _ _ => G)) fun _ => G) fun _ => Bo (fun _ => ?_) fun _ => Bo (fun _ => .bind' (.app (by simp; omega) G)) fun _ => Bo (fun _ => .bind' (.sub 1 fs.length rfl rfl (by omega) (by omega) G)) fun _ => G))
  ·obtain ⟨z, hz, _⟩ := Z6 O (k := 30) (by omega)
   exact .bind' (.eq hz G)
  ·obtain ⟨z, hz, hz2⟩ := Z6 O (k := 2) (by omega)
   exact .bind' (.eq hz (.bind' (.ix' hz2.1 (by simp; omega) fun a b _ _ => G)))
  ·obtain ⟨z, hz, _⟩ := Z6 O (k := 40) (by omega)
   exact .bind' (.eq hz (.bind' (.app (by simp; omega) G)))
 have hpl := ac.len
 refine A8 (fun h0 => .bind (E4 ad.1 (by omega) (by omega)) fun r4 Y => .bind' (.ix' Y.2.1 (by omega) fun i x _ hx => ?_)) fun _ => go _ _ _ ad.1 (by simp)
 have hxl := ac.hops x (mg hx)
 unfold aS
 refine .bind' (.bind' (.app (by simp; omega) (.pure ?_)))
 exact go _ _ _ Y.1 (by simp; omega)
end Go.Proofs.YtaoclefkknloiaaGreat
namespace Go.Aw
set_option linter.unusedVariables false
set_option linter.unusedSimpArgs false
open Go.ChangeShapes Go.WideShapes Go.ChangeAt Go.RowKit
section
variable {H : Type} {enc : TypeId × Value → H} {P : Program}
theorem Lf (hl : laidOutB P = true) {W W' : World} (hb : Below W.heap.size W W') : ∀ {G : List TypeId} {vs : List Value} {ds : List (DataW H)} {ps : List MemPlace},
  (∀ t, t ∈ G → P.readableRec t = true ∧ t < P.types.size) → (∀ x, x ∈ ps → x.block < W.heap.size) → DataW.TrodAll enc P W 0 (fun _ => true) true G vs ds ps →
  DataW.TrodAll enc P W' 0 (fun b => decide (b < W.heap.size)) true G vs ds ps
 | [], vs, ds, ps, _, _, h => by
  cases vs <;> cases ds <;> simp [DataW.TrodAll] at h ⊢
  exact h
 | t :: G, vs, ds, ps, ht, hlt, h => by
  obtain ⟨v, vs', d, Z, p, q, rfl, rfl, rfl, h1, h2⟩ := trodAll_cons h
  have Y := ht t (by simp)
  exact ⟨p, q, Below.trod hl Y.1 Y.2 h1 hb (fun x O => hlt x (by simp [O])), Lf hl hb (fun t M => ht t (by simp [M])) (fun x O => hlt x (by simp [O])) h2, rfl⟩
theorem mE {f : Func} {s : ChangeSpec} {W W' : World} {args : Array Value} {ds : List (DataW H)} {p : List MemPlace} {t : TypeId} (hW : DataW.Whole enc P f.params.toList s.vars false W args.toList ds [] (p ++ []))
  (hA : DataW.TrodAll enc P W 0 (fun _ => true) true f.params.toList args.toList ds p)
  (O : (s.fn H (ds ++ [])).results = [.lit (.bool true)]) (G : (s.fn H (ds ++ [])).args = ds) (hv : (s.fn H (ds ++ [])).vars = []) (aa : s.vars = [])
  (Y : f.resultTypes.toList = [t]) (hu : P.underlying t = some .bool) (hl : laidOutB P = true) (M : ∀ t, t ∈ f.params.toList → P.readableRec t = true ∧ t < P.types.size)
  (hb : Below W.heap.size W W') : s.post enc P f false true false false W args (.bool true) W' := by
 have Z : ∀ x, x ∈ p → x.block < W.heap.size := fun x hx => hW.lt x (by simp [hx])
 have ab : f.resultTypes.size = 1 := by rw [← Array.length_toList, Y]; rfl
 refine ⟨ds, [], p ++ [], [], p, [], hW, ?_, ?_, ?_, hb.frame _, fun h => by cases h⟩
 ·rw [O, Y, ab]
  exact trodAll_mk1 (shut_bool hu true)
 ·rw [G]
  exact Lf hl hb M Z hA
 ·rw [hv, aa]; rfl
def sZ (k : IntKind) (l : Li) : T := .list 1 (l.map fun n => [.v (.int k n)])
theorem eJ {t e : TypeId} {k : IntKind} {W : World} {base : Nat} {r : Reach} {v : Value} {d : DataW H} {ps : List MemPlace} (ht : P.underlying t = some (.slice e)) (he : P.underlying e = some (.int k)) (hc : P.cellsOf e = 1)
  (hval : Value.okWide P W r base t v) (h : DataW.Trod enc P W 0 (fun _ => true) true t v d ps) :
  ∃ l : Li, (l.length ≤ Ky → VR (fun b => W.heap[b]?) v (sZ k l)) ∧ (∀ n, n ∈ l → (Lit.int k n).wf = true) ∧ (l = [] ∨ ∃ aa ah, d = .slice aa ah ∧ l.length = aa.length) := by
 obtain ⟨a0, len, cap, rfl⟩ := okWide_slice ht hval
 obtain ⟨fuel, hf⟩ := h
 rcases open_ints ht he hc hf with ⟨G, Y⟩ | ⟨a, len', cap', Z, G, _, hl, hm, hz, Y, ab, hwz⟩
 ·simp [Value.cells] at G
  obtain ⟨rfl, rfl, rfl⟩ := G
  exact ⟨[], fun _ => .empty _ _ _, by simp, .inl rfl⟩
 ·simp [Value.cells] at G
  obtain ⟨rfl, rfl, rfl⟩ := G
  simp only [Prod.mk.injEq] at Y
  obtain ⟨rfl, rfl⟩ := Y
  simp only [if_true] at hz
  have hlt : (Z.take len).length = len := by simp; omega
  refine ⟨Z.take len, fun hmax => ?_, fun n hn => hwz n (List.mem_of_mem_take hn), .inr ⟨_, _, rfl, by simp [lits]⟩⟩
  by_cases hl0 : len = 0
  ·subst hl0; simp only [List.take_zero, sZ, List.map_nil]; exact .empty _ _ _
  ·obtain ⟨b, M, spot⟩ := a
   have ag : spot = none := by simpa [Addr.add] using World.cell?_spot (ab 0 (by omega))
   subst ag
   have O : ∀ i, i < Z.length → W.cell? ⟨b, M + i, none⟩ = some (.int k (Z.getD i 0)) := fun i hi => by rw [← Du]; exact ab i hi
   have ae := O 0 (by omega)
   have G : ∃ cs ty fr, W.heap[b]? = some (.cells cs ty fr) := by
    unfold World.cell? at ae
    split at ae
    ·rename_i c ty fr hh; exact ⟨_, _, _, hh⟩
    ·cases ae
   obtain ⟨cs, ty, fr, hh⟩ := G
   have ad : ∀ i, i < Z.length → cs[M + i]? = some (.int k (Z.getD i 0)) := fun i hi => by
    have := O i hi
    simpa [World.cell?, hh] using this
   have ac : ((Z.take len).map fun n => [T.v (.int k n)]).length = len := by rw [List.length_map, hlt]
   have hbig : M + len ≤ cs.size := by
    have := (Array.getElem?_eq_some_iff.1 (ad (len - 1) (by omega))).1
    omega
   have af : ∀ i e, ((Z.take len).map fun n => [T.v (.int k n)])[i]? = some e → ∀ (j : Nat) (x : T), e[j]? = some x → j = 0 ∧ x = .v (.int k (Z.getD i 0)) ∧ cs.getD (M + i * 1 + j) undef = .int k (Z.getD i 0) := by
    intro i e he j x Y
    simp only [List.getElem?_map, Option.map_eq_some_iff] at he
    obtain ⟨n, hn, rfl⟩ := he
    have hil := (gs hn).1
    rw [hlt] at hil
    rw [List.getElem?_take_of_lt hil] at hn
    have hj : j = 0 := by have := (gs Y).1; simp at this; exact this
    subst hj
    simp at Y
    have hzi : Z.getD i 0 = n := by simp [List.getD, hn]
    refine ⟨rfl, by rw [hzi]; exact Y.symm, ?_⟩
    rw [Array.getD_eq_getD_getElem?, show M + i * 1 + 0 = M + i by omega, ad i (by omega)]; rfl
   have := VR.list (H := fun b => W.heap[b]?) b M cap 1 ((Z.take len).map fun n => [T.v (.int k n)]) cs ty fr hh (by rw [ac]; exact hl) (by rw [List.length_map]; exact hmax) (by rw [ac]; omega)
    (fun i e he => by simp only [List.getElem?_map, Option.map_eq_some_iff] at he; obtain ⟨n, _, rfl⟩ := he; rfl)
    (fun i e he j x Y => by rw [(af i e he j x Y).2.2]; rfl) (fun i e he j x Y => by rw [(af i e he j x Y).2.2, (af i e he j x Y).2.1]; exact .v _)
   rw [ac] at this
   exact this
end
theorem kM {n : Int} (h : (Lit.int .i64 n).wf = true) : -9223372036854775808 ≤ n ∧ n ≤ 9223372036854775807 := by
 have G : IntKind.i64.min = -9223372036854775808 := rfl
 have M : IntKind.i64.max = 9223372036854775807 := rfl
 simp only [Lit.wf, Bool.and_eq_true, decide_eq_true_eq] at h
 omega
theorem eP {E : Env} {f : FuncId} {xs : List T} {W : World} {args : Array Value} (M : jZ fun b => W.heap[b]?) (hc : ACalls E f xs [] fun x _ => x = .v (.bool true)) (hsz : args.size = xs.length)
  (hv : ∀ (i : Nat) (x : T), xs[i]? = some x → VR (fun b => W.heap[b]?) (args.getD i undef) x) : Calls E.P f args W fun e W' => e = .returned (.bool true) ∧ Below W.heap.size W W' := by
 refine (hc.2 (fun b => W.heap[b]?) W args hsz hv ⟨fun _ _ h => h, M⟩ (by simp) (by simp)).mono ?_
 rintro e w' ⟨v, x, fp', H', rfl, rfl, O, _, _, _, _, hs, ⟨Y, Z, e3⟩, G⟩
 refine ⟨by rw [O.v_eq], ⟨Y, Z, e3, hs, fun k hk => (G k hk (by simp)).1⟩⟩
end Go.Aw
