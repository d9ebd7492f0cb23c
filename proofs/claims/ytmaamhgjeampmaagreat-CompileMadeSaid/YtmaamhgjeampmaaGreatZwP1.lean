/- Plain proofs. No condition. -/
import Derived.Test.YtmaamhgjeampmaaGreatZwP0
import Derived.Test.YtmaamhgjeampmaaGreatZwD
set_option maxRecDepth 100000
namespace Go.Proofs.YtmaamhgjeampmaaGreat
set_option linter.unusedVariables false
set_option linter.unusedSimpArgs false
open Go.Aw
def Nk {n : Nat} (a : Arr Int n) (v : Nat) : Int := a.l.getD v 0
theorem Qd {n : Nat} {a : Arr Int n} {i v : Nat} {x : Int} (hv : v < n) : Nk (a.set i x) v = if i = v then x else Nk a v := by
 unfold Nk Arr.set
 dsimp only
 rw [List.getD_eq_getElem?_getD, List.getD_eq_getElem?_getD, D9]
 have := a.h
 by_cases h : i = v
 ·rw [if_pos ⟨h, by omega⟩, if_pos h]; rfl
 ·rw [if_neg (fun G => h G.1), if_neg h]
theorem Kf {n : Nat} {a : Arr Int n} {i : Nat} {x : Int} (h : a.l[i]? = some x) : Nk a i = x := by
 unfold Nk; rw [List.getD_eq_getElem?_getD, h]; rfl
theorem Iy {n v : Nat} : Nk (Arr.rep n (0 : Int)) v = 0 := by
 unfold Nk Arr.rep
 dsimp only
 rw [List.getD_eq_getElem?_getD, List.getElem?_replicate]
 split <;> rfl
structure Strm (b : Int) (s : flow_streams) (f : Nat → Int) : Prop where
 come : ∀ v, v < 24 → 0 ≤ Nk s.come v ∧ Nk s.come v ≤ b
 leave : ∀ v, v < 24 → 0 ≤ Nk s.leave v ∧ Nk s.leave v ≤ b
 diff : ∀ v, v < 24 → Nk s.come v - Nk s.leave v = f v
theorem Ex (v : Int) : ind v v = 1 := if_pos rfl
theorem Eh {a v : Int} (h : a ≠ v) : ind a v = 0 := if_neg h
theorem Ww {s : flow_streams} {b : Int} {f : Nat → Int} (h : Strm b s f) (hb : 0 ≤ b ∧ b ≤ 1000000) {G to_ rate : Int} (hf : G < 24) (ht : to_ < 24) (Y : -1 ≤ G ∧ -1 ≤ to_)
  (hr : -1000 ≤ rate ∧ rate ≤ 1000) : Ok (Jk s G to_ rate) fun r => Strm (b + 1000) r fun v => f v + (ind to_ v - ind G v) * rate := by
 have Z : ∀ (G to_ rate : Int), G < 24 → to_ < 24 → -1 ≤ G ∧ -1 ≤ to_ → 0 ≤ rate ∧ rate ≤ 1000 → Ok (Jk.J1 s (G, to_, rate)) fun r => Strm (b + 1000) r fun v => f v + (ind to_ v - ind G v) * rate := by
  intro G to_ rate hf ht Y hr
  have j2 : ∀ (lv : Arr Int 24), (∀ v, v < 24 → 0 ≤ Nk lv v ∧ Nk lv v ≤ b + 1000 ∧ Nk lv v = Nk s.leave v + ind G v * rate) → Ok (Jk.J2 s (G, to_, rate) lv) fun r => Strm (b + 1000) r fun v => f v + (ind to_ v - ind G v) * rate := by
   intro lv O
   unfold Jk.J2
   refine As (fun W => ?_) fun W => .pure ?_
   ·dsimp only at W
    obtain ⟨t, rfl⟩ := E2 W
    have hl := s.come.h
    refine .bind' (.ix t rfl (by omega) ?_)
    have hx : s.come.l[t]? = some s.come.l[t] := gq (by omega)
    have hvx := Kf hx
    have hcx := h.come t (by omega)
    dsimp only
    rw [Bc (by omega)]
    refine .pure ⟨fun v M => ?_, fun v M => ⟨(O v M).1, (O v M).2.1⟩, fun v M => ?_⟩
    ·have := h.come v M
     dsimp only
     rw [Qd M]; split <;> omega
    ·have h1 := h.diff v M
     have h2 := (O v M).2.2
     dsimp only
     rw [Qd M, h2, Int.sub_mul]
     by_cases X : t = v
     ·subst X; rw [if_pos rfl, Ex]; omega
     ·rw [if_neg X, Eh (a := (t : Int)) (by omega)]; omega
   ·dsimp only at W
    refine ⟨fun v M => ?_, fun v M => ⟨(O v M).1, (O v M).2.1⟩, fun v M => ?_⟩
    ·have := h.come v M
     dsimp only; omega
    ·have h1 := h.diff v M
     have h2 := (O v M).2.2
     dsimp only
     rw [h2, Int.sub_mul, Eh (a := to_) (by omega)]; omega
  unfold Jk.J1
  refine As (fun W => ?_) fun W => ?_
  ·dsimp only at W
   obtain ⟨t, rfl⟩ := E2 W
   have hl := s.leave.h
   refine .bind' (.ix t rfl (by omega) ?_)
   have hx : s.leave.l[t]? = some s.leave.l[t] := gq (by omega)
   have hvx := Kf hx
   have hcx := h.leave t (by omega)
   dsimp only
   rw [Bc (by omega)]
   refine j2 _ fun v M => ?_
   have := h.leave v M
   rw [Qd M]
   by_cases X : t = v
   ·subst X; rw [if_pos rfl, Ex]; omega
   ·rw [if_neg X, Eh (by omega)]; omega
  ·dsimp only at W
   refine j2 _ fun v M => ?_
   have := h.leave v M
   rw [Eh (by omega)]; omega
 unfold Jk
 refine As (fun W => ?_) fun W => Z _ _ _ hf ht Y (by omega)
 rw [Bc (by omega)]
 refine (Z to_ G (0 - rate) ht hf ⟨Y.2, Y.1⟩ (by omega)).mono fun r hr => ⟨hr.come, hr.leave, fun v M => ?_⟩
 rw [hr.diff v M]
 have : ∀ a b r : Int, (a - b) * (0 - r) = (b - a) * r := fun a b r => by rw [Int.zero_sub, Int.mul_neg, ← Int.neg_mul]; congr 1; omega
 rw [this]
def Gc (n : Nw) (p : Plan) (G : List Bool) (j : Nat) : Prop :=
 ∃ (i : Nat) (s : Sg) (r : Int) (f : Nat), n.Segments[i]? = some s ∧ p.Rates[i]? = some r ∧ r ≠ 0 ∧ (C4 s r).2 = (j : Int) ∧ (C4 s r).1 = (f : Int) ∧ G[f]? = some false
def Acyc (n : Nw) (p : Plan) : Prop := ∀ G : List Bool, G.length = n.Nodes.length → (∀ j : Nat, G[j]? = some false → Gc n p G j) → ∀ k : Nat, G[k]? ≠ some false
structure FlowOk (n : Network) (p : Plan) : Prop where
 rl : p.Rates.length = n.Segments.length
 pl : p.Ports.length = n.Ports.length
 ml : p.Pumps.length = n.Stations.length
 rng : ∀ (k : Nat) (r : Int) (s : Sg), p.Rates[k]? = some r → n.Segments[k]? = some s → -1000 ≤ r ∧ r ≤ 1000 ∧ -s.Capacity ≤ r ∧ r ≤ s.Capacity
 prt : ∀ (k : Nat) (x : Int), p.Ports[k]? = some x → -1000 ≤ x ∧ x ≤ 1000
 bal : ∀ v : Nat, v < 24 → E0 (wt n v) p.Rates + E0 (wp n v) p.Ports = 0
 acyc : Acyc n p
theorem Wu {s : Sg} {r : Int} (M : r ≠ 0) : C4 s r = (s.To, s.From) ∧ r < 0 ∨ C4 s r = (s.From, s.To) ∧ 0 < r := by
 unfold C4
 by_cases G : r < 0
 ·exact .inl ⟨by rw [if_pos (by simp [G])], G⟩
 ·exact .inr ⟨by rw [if_neg (by simp [G])], by omega⟩
theorem PlanOk.flow {n : Nw} {p : Plan} (h : PlanOk n p) : FlowOk n p := by
 refine ⟨h.rl, h.pl, h.ml, h.rng, h.prt, fun v _ => h.bal v, fun G hl i5 => ?_⟩
 rcases h.dir with hd | hd
 ·intro k
  induction k using Nat.strongRecOn with
  | ind k ih =>
   intro Z
   have hkl := (gs Z).1
   obtain ⟨i, s, r, f, hs, hr, W, O, M, hf⟩ := i5 k Z
   have := hd i r s hr hs
   refine ih f ?_ hf
   rcases Wu (s := s) W with ⟨Y, X⟩ | ⟨Y, X⟩ <;> rw [Y] at O M <;> dsimp only at O M <;> omega
 ·have : ∀ m k : Nat, G.length - k = m → G[k]? ≠ some false := by
   intro m
   induction m using Nat.strongRecOn with
   | ind m ih =>
    intro k hm Z
    have hkl := (gs Z).1
    obtain ⟨i, s, r, f, hs, hr, W, O, M, hf⟩ := i5 k Z
    have hfl := (gs hf).1
    have := hd i r s hr hs
    refine ih (G.length - f) ?_ f rfl hf
    rcases Wu (s := s) W with ⟨Y, X⟩ | ⟨Y, X⟩ <;> rw [Y] at O M <;> dsimp only at O M <;> omega
  exact fun k => this _ k rfl
theorem lS {n : Nw} (Y : NetC n) {p : Plan} (h4 : p.Rates.length = n.Segments.length) (h5 : p.Ports.length = n.Ports.length) (hrng : ∀ (k : Nat) (r : Int), p.Rates[k]? = some r → -1000 ≤ r ∧ r ≤ 1000) (Z : ∀ (k : Nat) (x : Int), p.Ports[k]? = some x → -1000 ≤ x ∧ x ≤ 1000) :
  Ok (Jh n p) fun r => Strm 60000 r fun v => E0 (wt n v) p.Rates + E0 (wp n v) p.Ports := by
 have h1 := Y.nodes; have h2 := Y.segs1; have h3 := Y.ports1
 unfold Jh
 refine .bind (.forS (fun k W => Strm (1000 * k) ⟨W.1, W.2⟩ fun v => E0 (wt n v) (p.Rates.take k)) ⟨fun v G => ?_, fun v G => ?_, fun v G => ?_⟩ ?_ fun W h => h) ?_
 ·dsimp only; rw [Iy]; omega
 ·dsimp only; rw [Iy]; omega
 ·dsimp only; rw [Iy]; simp [Ki]
 ·intro k s W X O
  have hkl := (gs X).1
  have hr : p.Rates[k]? = some p.Rates[k] := gq (by omega)
  have hrr := hrng k _ hr
  have he := (Y.segs k s X).1
  unfold Jh.B4
  refine .bind' (.ix k rfl (by omega) (.bind (Ww O (by omega) (by omega) (by omega) (by omega) (by dsimp only; omega)) fun r M => .pure ?_))
  refine ⟨fun v G => ?_, fun v G => ?_, fun v G => ?_⟩
  ·have := M.come v G; dsimp only; omega
  ·have := M.leave v G; dsimp only; omega
  ·have := M.diff v G
   dsimp only at this ⊢
   rw [this, Ge (w := wt n v) (a := ind s.To v - ind s.From v) (by unfold wt; rw [List.getElem?_map, X]; rfl) hr]
 ·intro W O
  rw [List.take_of_length_le (by omega)] at O
  unfold Jh.J1
  refine .bind (.forS (fun k W => Strm (32000 + 1000 * k) ⟨W.1, W.2⟩ fun v => E0 (wt n v) p.Rates + E0 (wp n v) (p.Ports.take k)) ⟨fun v G => ?_, fun v G => ?_, fun v G => ?_⟩ ?_ fun W h => h) ?_
  ·have := O.come v G; dsimp only at this ⊢; omega
  ·have := O.leave v G; dsimp only at this ⊢; omega
  ·have := O.diff v G; dsimp only at this ⊢; rw [this]; simp [Ki]
  ·intro k s W X O
   have hkl := (gs X).1
   have hr : p.Ports[k]? = some p.Ports[k] := gq (by omega)
   have hrr := Z k _ hr
   have he := (Y.ports k s X)
   unfold Jh.B3
   refine .bind' (.ix k rfl (by omega) (.bind (Ww O (by omega) (by omega) (by omega) (by omega) (by dsimp only; omega)) fun r M => .pure ?_))
   refine ⟨fun v G => ?_, fun v G => ?_, fun v G => ?_⟩
   ·have := M.come v G; dsimp only; omega
   ·have := M.leave v G; dsimp only; omega
   ·have := M.diff v G
    dsimp only at this ⊢
    rw [this, Ge (w := wp n v) (a := ind s.Node v) (by unfold wp; rw [List.getElem?_map, X]; rfl) hr, Eh (a := -1) (by omega), Int.sub_zero]; omega
  ·intro W O
   rw [List.take_of_length_le (by omega)] at O
   unfold Jh.J2
   refine .pure ⟨fun v G => ?_, fun v G => ?_, fun v G => ?_⟩
   ·have := O.come v G; dsimp only at this ⊢; omega
   ·have := O.leave v G; dsimp only at this ⊢; omega
   ·exact O.diff v G
def T3 : List Bool → Nat
 | [] => 0
 | b :: l => (if b = true then 1 else 0) + T3 l
theorem Jg : ∀ l : List Bool, T3 l ≤ l.length
 | [] => Nat.le_refl _
 | b :: l => by have := Jg l; cases b <;> simp [T3] <;> omega
theorem Xy (n : Nat) : T3 (List.replicate n false) = 0 := by induction n with | zero => rfl | succ n ih => simp [List.replicate_succ, T3, ih]
theorem Qm : ∀ {l : List Bool} {k : Nat}, l[k]? = some false → T3 (l.set k true) = T3 l + 1
 | [], k, h => by simp at h
 | b :: l, 0, h => by simp at h; subst h; simp [T3]; omega
 | b :: l, k + 1, h => by simp at h; simp [T3, Qm h]; omega
theorem dQ : ∀ {l : List Bool}, (∀ k : Nat, l[k]? ≠ some false) → T3 l = l.length
 | [], _ => rfl
 | b :: l, h => by
  have G := h 0
  have := dQ (l := l) fun k => by have := h (k + 1); simpa using this
  cases b <;> simp [T3, this] at G ⊢; omega
structure Flw (n : Network) (p : Plan) (i : Nat) (s : Segment) (r : Int) : Prop where
 seg : n.Segments[i]? = some s
 rate : p.Rates[i]? = some r
 ne : r ≠ 0
structure Topo (n : Network) (p : Plan) (l : List Int) : Prop where
 rng : ∀ v, v ∈ l → 0 ≤ v ∧ v < (n.Nodes.length : Int)
 nodup : l.Nodup
 topo : ∀ (k : Nat) (v : Int), l[k]? = some v → ∀ i s r, Flw n p i s r → (C4 s r).2 = v → (C4 s r).1 ∈ l.take k
theorem aA {n : Nw} (hn : NetC n) {p : Plan} (h4 : p.Rates.length = n.Segments.length) : Ok (Rl n p) fun r => Topo n p r ∧ ((∀ v : Nat, v < n.Nodes.length → (v : Int) ∈ r) ∨ ((∃ v : Nat, v < n.Nodes.length ∧ (v : Int) ∉ r) ∧ ¬ Acyc n p)) := by
 have h1 := hn.nodes; have h2 := hn.segs1
 let I : Li × List Bool × Int → Prop := fun Z => Z.2.1.length = n.Nodes.length ∧ (Topo n p Z.1 ∧ ∀ v : Nat, Z.2.1[v]? = some true ↔ (v : Int) ∈ Z.1) ∧ 0 ≤ Z.2.2 ∧ Z.2.2 ≤ (n.Nodes.length : Int) ∧ ∀ j : Nat, (j : Int) < Z.2.2 → Z.2.1[j]? = some false → Gc n p Z.2.1 j
 let R : Li → Prop := fun r => Topo n p r ∧ ((∀ v : Nat, v < n.Nodes.length → (v : Int) ∈ r) ∨ ((∃ v : Nat, v < n.Nodes.length ∧ (v : Int) ∉ r) ∧ ¬ Acyc n p))
 let μ : Li × List Bool × Int → Nat := fun Z => (n.Nodes.length - T3 Z.2.1) * 100 + (n.Nodes.length - Z.2.2.toNat)
 unfold Rl
 refine .bind' (.mk n.Nodes.length rfl (by omega) ?_)
 refine .bind (Q := R) ?_ fun r hr => .pure hr
 refine .loop I μ ⟨by simp, ⟨⟨by simp, by simp, by simp⟩, fun v => ?_⟩, by simp, by simp, fun j hj => by dsimp only at hj; omega⟩ (by simp only [μ]; rw [Xy]; omega) ?_
 ·simp [List.getElem?_replicate]
 rintro ⟨out, G, k⟩ ⟨i1, ⟨i2, Y⟩, i3, i4, i5⟩
 dsimp only at i1 i2 Y i3 i4 i5
 have hc := Jg G
 unfold Rl.B2
 refine As (fun h0 => ?_) fun h0 => ?_
 ·dsimp only at h0
  obtain ⟨M, rfl⟩ := E2 i3
  have hkl : M < G.length := by omega
  have hx : G[M]? = some G[M] := gq hkl
  have next : Gc n p G M ∨ G[M] = true → Ok (Rl.J3 (out, G, (M : Int))) (Sum.elim (fun Z => I Z ∧ μ Z < μ (out, G, (M : Int))) R) := by
   intro hb
   unfold Rl.J3
   dsimp only
   rw [Bc (by omega)]
   refine .pure ⟨⟨i1, ⟨i2, Y⟩, by dsimp only; omega, by dsimp only; omega, fun j hj O => ?_⟩, by simp only [μ]; omega⟩
   dsimp only at hj O
   by_cases hjk : j = M
   ·subst hjk
    rcases hb with hb | hb
    ·exact hb
    ·rw [hx, hb] at O; cases O
   ·exact i5 j (by omega) O
  refine .bind' (.eq (A0 hx) (Ax (fun ht => next (.inr ht)) fun ht => ?_))
  dsimp only at ht
  refine .bind' (.forL (fun i _ => ∀ (j : Nat) (s : Sg) (r : Int), j < i → Flw n p j s r → (C4 s r).2 = (M : Int) → (C4 s r).1 ∈ out) (fun d => d = (out, G, (M : Int)) ∧ Gc n p G M) (fun j s r hj => absurd hj (Nat.not_lt_zero _)) ?_ ?_ ?_)
  ·intro i s _ hs hJ
   have hil := (gs hs).1
   have hr : p.Rates[i]? = some p.Rates[i] := gq (by omega)
   have he := (hn.segs i s hs).1
   have no : (p.Rates[i] ≠ 0 → (C4 s p.Rates[i]).2 = (M : Int) → (C4 s p.Rates[i]).1 ∈ out) → Ok (Rl.J6 (out, G, (M : Int)) false) (Sum.elim (fun _ : Unit => ∀ (j : Nat) (s : Sg) (r : Int), j < i + 1 → Flw n p j s r → (C4 s r).2 = (M : Int) → (C4 s r).1 ∈ out) fun d => d = (out, G, (M : Int)) ∧ Gc n p G M) := by
    intro hq
    unfold Rl.J6
    refine .pure fun j s' r' hj O ht => ?_
    by_cases hji : j = i
    ·subst hji
     have e1 := O.seg; have e2 := O.rate
     rw [hs] at e1; cases e1
     rw [hr] at e2; cases e2
     exact hq O.ne ht
    ·exact hJ j s' r' (by omega) O ht
   unfold Rl.B5
   refine .bind' (.eq (A0 hr) (Cj (fun hr0 => Dl (fun X => ?_) fun X => no fun _ h => absurd h X) fun hr0 => no fun h => absurd hr0 h))
   dsimp only at hr0 X ⊢
   have hfr : 0 ≤ (C4 s p.Rates[i]).1 ∧ (C4 s p.Rates[i]).1 < (n.Nodes.length : Int) := by
    unfold C4
    split <;> dsimp only <;> omega
   refine .bind' (.ix' hfr.1 (by omega) fun f x O hfx => ?_)
   dsimp only
   cases x with
   | false =>
    unfold Rl.J6
    exact .pure ⟨rfl, i, s, p.Rates[i], f, hs, hr, hr0, X, O, hfx⟩
   | true => exact no fun _ _ => by rw [O]; exact (Y f).1 hfx
  ·intro _ hJ
   simp only [Sum.elim_inl]
   unfold Rl.J4
   refine .bind' (.app (by
    have : out.length ≤ 24 := by
     have := i2.nodup.length_le_of_subset (l₂ := (List.range n.Nodes.length).map fun v : Nat => (v : Int)) fun v W => by
      have := i2.rng v W
      exact List.mem_map.2 ⟨v.toNat, List.mem_range.2 (by omega), by omega⟩
     simp at this; omega
    simp; omega) ?_)
   unfold Rl.J3
   dsimp only
   rw [Bc (by omega)]
   have hx' : G[M]? = some false := by rw [hx, ht]
   have hnot : (M : Int) ∉ out := fun hm => by have := (Y M).2 hm; rw [hx'] at this; cases this
   have hcs := Qm hx'
   have hcl := Jg (G.set M true)
   simp at hcl
   refine .pure ⟨⟨by simp [i1], ⟨⟨fun v W => ?_, ?_, fun k v hk i s r O X => ?_⟩, fun v => ?_⟩, by simp, by dsimp only; omega, fun j hj => by dsimp only at hj; omega⟩, ?_⟩
   ·dsimp only at W
    rcases List.mem_append.1 W with W | W
    ·exact i2.rng v W
    ·simp at W; omega
   ·dsimp only
    exact List.nodup_append.2 ⟨i2.nodup, by simp, fun a ha b hb he => by simp at hb; subst hb; subst he; exact hnot ha⟩
   ·dsimp only at hk ⊢
    rw [List.getElem?_append] at hk
    split at hk
    ·rename_i hkl
     rw [List.take_append_of_le_length (by omega)]
     exact i2.topo k v hk i s r O X
    ·rename_i hkl
     have hl := (gs hk).1
     simp at hl
     have : k = out.length := by omega
     subst this
     simp at hk
     subst hk
     rw [List.take_left]
     exact hJ i s r (gs O.seg).1 O X
   ·dsimp only
    by_cases W : v = M
    ·subst W
     rw [List.getElem?_set_self (by omega)]; simp
    ·rw [List.getElem?_set_ne (by omega), Y v]
     simp; omega
   ·simp only [μ]
    rw [hcs]; omega
  ·rintro _ ⟨rfl, hb⟩
   exact next (.inl hb)
 ·dsimp only at h0
  have hk : k = (n.Nodes.length : Int) := by omega
  subst hk
  have Yh : ∀ j : Nat, G[j]? = some false → Gc n p G j := fun j hj => i5 j (by have := (gs hj).1; omega) hj
  refine .pure ⟨i2, ?_⟩
  by_cases all : ∀ k : Nat, G[k]? ≠ some false
  ·refine .inl fun v W => (Y v).1 ?_
   have hg : G[v]? = some G[v] := gq (by omega)
   cases hb : G[v] with
   | true => rw [hg, hb]
   | false => exact absurd (by rw [hg, hb]) (all v)
  ·refine .inr ⟨?_, fun hac => all (hac G i1 Yh)⟩
   obtain ⟨v, W⟩ := Classical.not_forall.1 all
   have W := Classical.not_not.1 W
   refine ⟨v, by have := (gs W).1; omega, fun hm => ?_⟩
   have := (Y v).2 hm
   rw [W] at this; cases this
theorem mH {l : Li} {m : Nat} (G : ∀ v, v ∈ l → 0 ≤ v ∧ v < (m : Int)) (W : l.Nodup) (M : ∀ v : Nat, v < m → (v : Int) ∈ l) : l.length = m := by
 have X : l.Perm ((List.range m).map fun k : Nat => (k : Int)) := (List.perm_ext_iff_of_nodup W (List.Pairwise.map _ (fun a b h Y => h (by omega)) List.nodup_range)).2 fun v => by
  simp only [List.mem_map, List.mem_range]
  refine ⟨fun h => ⟨v.toNat, by have := G v h; omega, by have := G v h; omega⟩, ?_⟩
  rintro ⟨k, O, rfl⟩
  exact M k O
 simpa using X.length_eq
theorem Hg : ∀ {w l : Li}, (∀ x, x ∈ w → x = 0) → E0 w l = 0
 | [], _, _ => rfl
 | _ :: _, [], _ => rfl
 | a :: w, x :: l, h => by simp only [E0]; rw [h a (by simp), Hg fun y G => h y (by simp [G])]; omega
theorem Na {n : Nw} {p : Plan} (G : Nat → Nat) (h : ∀ (i : Nat) (s : Sg) (r : Int) (f t : Nat), n.Segments[i]? = some s → p.Rates[i]? = some r → r ≠ 0 → (C4 s r).1 = (f : Int) → (C4 s r).2 = (t : Int) → t < n.Nodes.length → G f < G t) : Acyc n p := by
 intro M hl Z
 have : ∀ m k : Nat, G k = m → M[k]? ≠ some false := by
  intro m
  induction m using Nat.strongRecOn with
  | ind m ih =>
   intro k hm Y
   have hkl := (gs Y).1
   obtain ⟨i, s, r, f, hs, hr, W, X, O, hf⟩ := Z k Y
   exact ih (G f) (by have := h i s r f k hs hr W O X (by omega); omega) f rfl hf
 exact fun k => this _ k rfl
theorem Topo.acyc {n : Nw} {p : Plan} {l : Li} (h : Topo n p l) (X : ∀ v : Nat, v < n.Nodes.length → (v : Int) ∈ l) : Acyc n p := by
 refine Na (fun v => l.idxOf (v : Int)) fun i s r f t hs hr M Z ht O => ?_
 have hm := X t O
 have W := List.idxOf_lt_length_of_mem hm
 have hk : l[l.idxOf (t : Int)]? = some (t : Int) := by rw [gq W, List.getElem_idxOf W]
 have := h.topo _ _ hk i s r ⟨hs, hr, M⟩ ht
 rw [Z] at this
 obtain ⟨j, hj, Y⟩ := List.mem_take_iff_getElem.1 this
 have G : j < l.length := by omega
 have h2 : l.idxOf (f : Int) ≤ j := by
  rw [← Y]
  have := h.nodup.idxOf_getElem j G
  omega
 omega
theorem mC {l : Li} {m : Nat} (O : ∀ v, v ∈ l → 0 ≤ v ∧ v < (m : Int)) (M : l.Nodup) {v : Nat} (hv : v < m) (h : (v : Int) ∉ l) : l.length < m := by
 have := (List.nodup_cons.2 ⟨h, M⟩).length_le_of_subset (l₂ := (List.range m).map fun v : Nat => (v : Int)) fun x G => by
  rcases List.mem_cons.1 G with rfl | G
  ·exact List.mem_map.2 ⟨v, List.mem_range.2 hv, rfl⟩
  ·have := O x G
   exact List.mem_map.2 ⟨x.toNat, List.mem_range.2 (by omega), by omega⟩
 simp at this; omega
theorem bM {n : Nw} (X : NetC n) {p : Plan} (O : p.Rates.length = n.Segments.length) : Ok (Rl n p) fun r => (r.length : Int) < (n.Nodes.length : Int) ↔ ¬ Acyc n p := by
 refine (aA X O).mono fun r ⟨M, G⟩ => ?_
 rcases G with G | ⟨⟨v, Y, W⟩, G⟩
 ·have := mH M.rng M.nodup G
  exact ⟨fun h => by omega, fun h => absurd (M.acyc G) h⟩
 ·have := mC M.rng M.nodup Y W
  exact ⟨fun _ => G, fun _ => by omega⟩
def aP (n : Nw) (p : Plan) : Prop := p.Rates.length = n.Segments.length ∧ p.Ports.length = n.Ports.length ∧ p.Pumps.length = n.Stations.length
def Qt (s : Sg) (r : Int) : Prop := -1000 ≤ r ∧ r ≤ 1000 ∧ -s.Capacity ≤ r ∧ r ≤ s.Capacity
def Rng (n : Nw) (p : Plan) : Prop := ∀ (k : Nat) (r : Int) (s : Sg), p.Rates[k]? = some r → n.Segments[k]? = some s → Qt s r
def uM (p : Plan) : Prop := ∀ (k : Nat) (x : Int), p.Ports[k]? = some x → -1000 ≤ x ∧ x ≤ 1000
def Bal (n : Nw) (p : Plan) : Prop := ∀ v : Nat, v < n.Nodes.length → E0 (wt n v) p.Rates + E0 (wp n v) p.Ports = 0
def FlowRes (n : Nw) (p : Plan) (r : Int) : Prop := (¬ aP n p ∧ r = 9) ∨ (aP n p ∧ ((¬ Rng n p ∧ r = 1) ∨ (Rng n p ∧ ((¬ uM p ∧ r = 1) ∨ (uM p ∧ ((¬ Bal n p ∧ r = 12) ∨ (Bal n p ∧ ((¬ Acyc n p ∧ r = 13) ∨ (Acyc n p ∧ r = 0)))))))))
theorem FlowRes.uniq {n : Nw} {p : Plan} {r r' : Int} (h : FlowRes n p r) (Y : FlowRes n p r') : r = r' := by
 rcases h with ⟨a, rfl⟩ | ⟨a, ⟨b, rfl⟩ | ⟨b, ⟨c, rfl⟩ | ⟨c, ⟨d, rfl⟩ | ⟨d, ⟨e, rfl⟩ | ⟨e, rfl⟩⟩⟩⟩⟩ <;>
  rcases Y with ⟨G, rfl⟩ | ⟨G, ⟨M, rfl⟩ | ⟨M, ⟨O, rfl⟩ | ⟨O, ⟨W, rfl⟩ | ⟨W, ⟨X, rfl⟩ | ⟨X, rfl⟩⟩⟩⟩⟩ <;> first | rfl | contradiction
theorem Bal.all {n : Nw} (X : NetC n) {p : Plan} (h : Bal n p) (v : Nat) : E0 (wt n v) p.Rates + E0 (wp n v) p.Ports = 0 := by
 by_cases O : v < n.Nodes.length
 ·exact h v O
 ·rw [Hg, Hg]; rfl
  ·intro x W
   obtain ⟨k, G⟩ := List.getElem?_of_mem W
   unfold wp at G
   rw [List.getElem?_map] at G
   obtain ⟨s, M, rfl⟩ := Option.map_eq_some_iff.1 G
   have := X.ports k s M
   exact Eh (by omega)
  ·intro x W
   obtain ⟨k, G⟩ := List.getElem?_of_mem W
   unfold wt at G
   rw [List.getElem?_map] at G
   obtain ⟨s, M, rfl⟩ := Option.map_eq_some_iff.1 G
   have := (X.segs k s M).1
   rw [Eh (a := s.To) (by omega), Eh (a := s.From) (by omega)]; rfl
theorem FlowRes.flow {n : Nw} (G : NetC n) {p : Plan} (h : FlowRes n p 0) : FlowOk n p := by
 rcases h with ⟨_, h⟩ | ⟨a, ⟨_, h⟩ | ⟨b, ⟨_, h⟩ | ⟨c, ⟨_, h⟩ | ⟨d, ⟨_, h⟩ | ⟨e, _⟩⟩⟩⟩⟩
 ·cases h
 ·cases h
 ·cases h
 ·cases h
 ·cases h
 ·exact ⟨a.1, a.2.1, a.2.2, b, c, fun v _ => d.all G v, e⟩
theorem FlowOk.res {n : Nw} (G : NetC n) {p : Plan} (h : FlowOk n p) : FlowRes n p 0 :=
 .inr ⟨⟨h.rl, h.pl, h.ml⟩, .inr ⟨h.rng, .inr ⟨h.prt, .inr ⟨fun v M => h.bal v (by have := G.nodes; omega), .inr ⟨h.acyc, rfl⟩⟩⟩⟩⟩
theorem Rng.all {n : Nw} {p : Plan} (hl : aP n p) (h : Rng n p) (k : Nat) (r : Int) (G : p.Rates[k]? = some r) : -1000 ≤ r ∧ r ≤ 1000 := by
 have M := (gs G).1
 have O : n.Segments[k]? = some (n.Segments[k]'(by have := hl.1; omega)) := gq _
 have := h k r _ G O
 exact ⟨this.1, this.2.1⟩
theorem S6 {r m : Int} (G : 0 ≤ m ∧ m ≤ 1000000) : Of r m = true ↔ -m ≤ r ∧ r ≤ m := by
 unfold Of
 rw [Bc (by omega)]
 simp
theorem dL {n : Nw} (X : NetC n) {p : Plan} : Ok (Gp n p) (FlowRes n p) := by
 have h1 := X.nodes; have h2 := X.segs1; have h3 := X.ports1
 unfold Gp
 refine .bind' (.eq X.check (Cj (fun h => absurd rfl h) fun _ => Dk (Q := ¬ aP n p) (by unfold aP; simp; omega) (fun h => .pure (.inl ⟨h, rfl⟩)) fun W => ?_))
 have W := Classical.not_not.1 W
 have l1 := W.1; have l2 := W.2.1
 have hrk : ∀ (k : Nat) (s : Sg), n.Segments[k]? = some s → ∃ r, p.Rates[k]? = some r := fun k s Z => ⟨_, gq (by have := (gs Z).1; omega)⟩
 refine .bind (wG (d := 1) (P := fun k s => ∃ r, p.Rates[k]? = some r ∧ ¬ Qt s r) fun k s Z => ?_) ?_
 ·obtain ⟨r, G⟩ := hrk k s Z
  have hc := (X.segs k s Z).2
  unfold Gp.B2
  refine .bind' (.eq (A0 G) (.test ?_))
  rw [Bool.not_eq_true', ← Bool.not_eq_true, S6 (by omega)]
  refine ⟨fun h => ⟨r, G, fun M => h (by unfold Qt at M; dsimp only; omega)⟩, fun ⟨r', ac, h⟩ M => ?_⟩
  rw [G] at ac; cases ac
  exact h (by unfold Qt; dsimp only at M; omega)
 rintro _ (⟨⟨k, s, Z, r, G, h⟩, rfl⟩ | ⟨h, rfl⟩)
 ·exact .pure (.inr ⟨W, .inl ⟨fun M => h (M k r s G Z), rfl⟩⟩)
 have M : Rng n p := fun k r s G Z => Classical.not_not.1 fun X => h k s Z ⟨r, G, X⟩
 simp only [Sum.elim_inl]
 unfold Gp.J1
 refine .bind' (.eq (Gm (P := fun x => Oo x) fun _ _ _ => rfl) (Dk (Kl (Q := fun x => ¬ (-1000 ≤ x ∧ x ≤ 1000)) fun k x _ => ?_) (fun ⟨k, x, hx, O⟩ => .pure (.inr ⟨W, .inr ⟨M, .inl ⟨fun Y => O (Y k x hx), rfl⟩⟩⟩)) fun Y => ?_))
 ·unfold Oo
  rw [Bool.not_eq_true', ← Bool.not_eq_true, S6 (by omega)]
 have Y : uM p := fun k x hx => Classical.not_not.1 fun O => Y ⟨k, x, hx, O⟩
 refine .bind (lS X l1 l2 (M.all W) Y) fun r G => ?_
 have he : r.come = r.leave ↔ Bal n p := by
  refine ⟨fun he v hv => ?_, fun O => Arr.ext' (List.ext_getElem (by rw [r.come.h, r.leave.h]) fun i a b => ?_)⟩
  ·have := G.diff v (by omega)
   rw [he] at this
   omega
  ·have := G.diff i (by rw [← r.come.h]; exact a)
   rw [Kf (gq a), Kf (gq b)] at this
   have := O.all X i
   omega
 refine Dk (Q := ¬ Bal n p) (by rw [← he]; simp) (fun h => .pure (.inr ⟨W, .inr ⟨M, .inr ⟨Y, .inl ⟨h, rfl⟩⟩⟩⟩)) fun O => ?_
 have O := Classical.not_not.1 O
 refine .bind (bM X l1) fun r G => Dk (Q := ¬ Acyc n p) (by rw [← G]; simp) (fun h => .pure (.inr ⟨W, .inr ⟨M, .inr ⟨Y, .inr ⟨O, .inl ⟨h, rfl⟩⟩⟩⟩⟩)) fun ha => ?_
 exact .pure (.inr ⟨W, .inr ⟨M, .inr ⟨Y, .inr ⟨O, .inr ⟨Classical.not_not.1 ha, rfl⟩⟩⟩⟩⟩)
theorem bQ {n : Nw} (G : NetC n) {p : Plan} (h : FlowOk n p) : Gp n p = some 0 := by
 obtain ⟨r, M, O⟩ := dL G (p := p)
 rw [M, O.uniq (h.res G)]
theorem mG {a b c : Int} : Ct a b c = true ↔ b ≤ a ∧ a ≤ c := by simp [Ct]
theorem D6 {a b c : Int} : (!(Ct a b c)) = true ↔ ¬ (b ≤ a ∧ a ≤ c) := by rw [← mG]; simp
theorem eU {x : Bt} : Ok (R5 x) fun r => r = true ↔ L3 x := by
 have X : ¬ (1 ≤ x.size ∧ x.size ≤ 12 ∧ low (ch x 0)) → Ok (R5.J1 x true) fun r => r = true ↔ L3 x := fun h => by
  unfold R5.J1
  exact .pure ⟨fun h => (by cases h), fun hn => absurd hn.1 h⟩
 unfold R5
 refine As (fun h => X (by omega)) fun h1 => As (fun h => X (by omega)) fun h2 => ?_
 refine .bind' (.eq (Qi (k := 0) (by omega)) (As (fun h => X (fun hl => by have := hl.2.2; unfold low at this; dsimp only at h; omega)) fun M => ?_))
 dsimp only at M ⊢
 by_cases h4 : ch x 0 > 122
 ·rw [decide_eq_true h4]; exact X (fun hl => by have := hl.2.2; unfold low at this; omega)
 rw [decide_eq_false h4]
 unfold R5.J1
 refine Ax (fun h => by cases h) fun _ => ?_
 refine .bind (Q := fun o : Bool ⊕ Unit => (o = .inl false ∧ ∃ k, k < x.size ∧ ¬ (low (ch x k) ∨ (48 ≤ ch x k ∧ ch x k ≤ 57) ∨ ch x k = 45)) ∨ (o = .inr () ∧ ∀ k, k < x.size → low (ch x k) ∨ (48 ≤ ch x k ∧ ch x k ≤ 57) ∨ ch x k = 45)) ?_ ?_
 ·refine .loop (fun i : Int => 0 ≤ i ∧ i ≤ (x.size : Int) ∧ ∀ k : Nat, (k : Int) < i → low (ch x k) ∨ (48 ≤ ch x k ∧ ch x k ≤ 57) ∨ ch x k = 45) (fun i => x.size - i.toNat) ⟨by omega, by omega, fun k h => by omega⟩ (by omega) ?_
  rintro i ⟨i0, i1, i2⟩
  obtain ⟨i, rfl⟩ := E2 i0
  unfold R5.B3
  refine As (fun hlt => .bind' (.eq (Qi (by omega)) ?_)) fun h => .pure (.inr ⟨rfl, fun k hk => i2 k (by omega)⟩)
  have W : low (ch x i) ∨ (48 ≤ ch x i ∧ ch x i ≤ 57) ∨ ch x i = 45 → Ok (R5.J4 i false) (Sum.elim (fun j : Int => (0 ≤ j ∧ j ≤ (x.size : Int) ∧ ∀ k : Nat, (k : Int) < j → low (ch x k) ∨ (48 ≤ ch x k ∧ ch x k ≤ 57) ∨ ch x k = 45) ∧ x.size - j.toNat < x.size - (i : Int).toNat) fun o : Bool ⊕ Unit => (o = .inl false ∧ ∃ k, k < x.size ∧ ¬ (low (ch x k) ∨ (48 ≤ ch x k ∧ ch x k ≤ 57) ∨ ch x k = 45)) ∨ (o = .inr () ∧ ∀ k, k < x.size → low (ch x k) ∨ (48 ≤ ch x k ∧ ch x k ≤ 57) ∨ ch x k = 45)) := fun hg => by
   unfold R5.J4
   refine Ax (fun h => by cases h) fun _ => .pure ?_
   rw [Bc (by omega)]
   refine ⟨⟨by omega, by omega, fun k hk => ?_⟩, by omega⟩
   by_cases hki : k = i
   ·subst hki; exact hg
   ·exact i2 k (by omega)
  have O : ¬ (low (ch x i) ∨ (48 ≤ ch x i ∧ ch x i ≤ 57) ∨ ch x i = 45) → Ok (R5.J4 i true) (Sum.elim (fun j : Int => (0 ≤ j ∧ j ≤ (x.size : Int) ∧ ∀ k : Nat, (k : Int) < j → low (ch x k) ∨ (48 ≤ ch x k ∧ ch x k ≤ 57) ∨ ch x k = 45) ∧ x.size - j.toNat < x.size - (i : Int).toNat) fun o : Bool ⊕ Unit => (o = .inl false ∧ ∃ k, k < x.size ∧ ¬ (low (ch x k) ∨ (48 ≤ ch x k ∧ ch x k ≤ 57) ∨ ch x k = 45)) ∨ (o = .inr () ∧ ∀ k, k < x.size → low (ch x k) ∨ (48 ≤ ch x k ∧ ch x k ≤ 57) ∨ ch x k = 45)) := fun hg => by
   unfold R5.J4
   exact Ax (fun _ => .pure (.inl ⟨rfl, i, by omega, hg⟩)) fun h => by cases h
  have G : (ch x i < 48 ∨ 57 < ch x i) → ¬ low (ch x i) → Ok (R5.J4 i (ch x i != 45)) _ := fun h1 h2 => by
   by_cases M : ch x i = 45
   ·rw [M]; exact W (.inr (.inr M))
   ·rw [show (ch x i != 45) = true by simpa using M]; exact O (fun h => h.elim h2 fun h => h.elim (fun h => by omega) M)
  dsimp only
  refine As (fun h5 => As (fun Y => G (by omega) (by unfold low; omega)) fun Y => As (fun Z => G (by omega) (by unfold low; omega)) fun Z => W (by omega)) fun h5 => As (fun Y => As (fun Z => G (by omega) (by unfold low; omega)) fun Z => As (fun h8 => G (by omega) (by unfold low; omega)) fun h8 => W (by omega)) fun Y => W (by unfold low; omega)
 ·rintro _ (⟨rfl, k, hk, h⟩ | ⟨rfl, h⟩)
  ·exact .pure ⟨fun h => (by cases h), fun hn => absurd (hn.2 k hk) h⟩
  ·unfold R5.J2
   exact .pure ⟨fun _ => ⟨⟨by omega, by omega, by unfold low; omega⟩, h⟩, fun _ => rfl⟩
theorem oZ {l : List Bt} (hl : l.length ≤ 1000000) : Ok (Sl l) fun r => r = true ↔ tP l := by
 unfold Sl
 refine .bind (wG (d := true) (P := kG l) fun k x G => ?_) ?_
 ·have Y := (gs G).1
  unfold Sl.B2
  refine .bind (X1 (k := k) (d := true) (P := fun y => x.toList = y.toList) (by omega) hl (fun i y X W => ?_) ?_) ?_
  ·unfold Sl.B4
   refine As (fun _ => .bind' (.eq (A0 W) (Ax (fun h => .pure (.inl ⟨Mi.1 h, rfl⟩)) fun h => .pure (.inr ⟨fun O => ?_, rfl⟩)))) fun h => by omega
   rw [Mi.2 O] at h; cases h
  ·unfold Sl.B4
   rw [if_neg (by simp)]
  ·rintro _ (⟨h, rfl⟩ | ⟨h, rfl⟩)
   ·exact .pure (.inl ⟨h, rfl⟩)
   ·exact .pure (.inr ⟨h, rfl⟩)
 ·rintro _ (⟨h, rfl⟩ | ⟨h, rfl⟩)
  ·exact .pure ⟨fun _ => h, fun _ => rfl⟩
  ·exact .pure ⟨fun h => (by cases h), fun ⟨k, x, G, M⟩ => absurd M (h k x G)⟩
theorem sE {s : Sg} (h2 : 2 ≤ s.Points.length ∧ s.Points.length ≤ 1000) : Ok (R2 s) fun r => r = true ↔ PipeOk s := by
 obtain ⟨p0, pl, e0, el, i0, il⟩ := dP h2
 have W : (PipeOk s → False) → Ok (R2.J1 s true) fun r => r = true ↔ PipeOk s := fun h => by
  unfold R2.J1; exact .pure ⟨fun h => (by cases h), fun G => absurd G h⟩
 unfold R2
 refine Dk (Q := s.From = s.To) (by simp) (fun h => W fun G => G.ends h) fun a1 => Dk D6 (fun h => W fun G => h G.cap) fun a2 => Dk D6 (fun h => W fun G => h G.resist) fun a3 => Dk D6 (fun h => W fun G => h G.wave) fun a4 => ?_
 rw [i0, il]
 refine .bind' (.pure (Dk (Q := p0.At ≠ 0) (by simp) (fun h => W fun G => h (G.first _ e0)) fun Z => .bind' (.pure ?_)))
 dsimp only
 by_cases Y : pl.At = s.Capacity
 ·rw [show (pl.At != s.Capacity) = false by simpa using Y]
  unfold R2.J1
  refine Ax (fun h => by cases h) fun _ => .bind (wG (d := false) (P := Lb s) fun k p G => ?_) ?_
  ·have X : ∀ b : Bool, (b = true ↔ Lb s k p) → Ok (R2.J4 b) fun o => (Lb s k p ∧ o = .inr false) ∨ (¬ Lb s k p ∧ o = .inl ()) := fun b h => by unfold R2.J4; exact .test h
   unfold R2.B3
   refine As (fun Z => ?_) fun Z => Dk D6 (fun h => X _ ⟨fun _ => .inl fun O => h O.1, fun _ => rfl⟩) fun h1 => X _ ?_
   ·obtain ⟨q, hq, hi⟩ := dB h2.2 G (by omega)
    refine .bind' (.eq hi (As (fun h => X _ ⟨fun _ => .inr ⟨q, by omega, hq, h⟩, fun _ => rfl⟩) fun h => Dk D6 (fun h => X _ ⟨fun _ => .inl fun O => h O.1, fun _ => rfl⟩) fun h1 => X _ ?_))
    rw [D6]
    refine ⟨fun h => .inl fun O => h O.2, fun M h3 => ?_⟩
    have := (dR ⟨Classical.not_not.1 h1, h3⟩ (by omega) hq).1 M
    dsimp only at h; omega
   ·rw [D6]
    refine ⟨fun h => .inl fun O => h O.2, fun M h3 => ?_⟩
    rcases M with M | ⟨q, hk, _⟩
    ·exact M ⟨Classical.not_not.1 h1, h3⟩
    ·omega
  ·rintro _ (⟨⟨k, p, G, M⟩, rfl⟩ | ⟨h, rfl⟩)
   ·exact .pure ⟨fun h => (by cases h), fun h => absurd M (h.pts k p G)⟩
   ·refine .pure ⟨fun _ => ⟨a1, Classical.not_not.1 a2, Classical.not_not.1 a3, Classical.not_not.1 a4, fun p G => ?_, fun p G => ?_, h⟩, fun _ => rfl⟩
    ·rw [e0] at G; cases G; exact Classical.not_not.1 Z
    ·rw [el] at G; cases G; exact Y
 ·rw [show (pl.At != s.Capacity) = true by simpa using Y]
  exact W fun G => Y (G.last _ el)
theorem bP {n : Nw} (h1 : n.Segments.length ≤ 1000) (h2 : n.Ports.length ≤ 1000) (G : n.Stations.length ≤ 1000) : Ok (R6 n) fun r => r.l = jO n := by
 unfold R6
 refine .bind (Kh (g := (·.Name)) (fun _ _ _ => rfl) h1) ?_
 rintro _ rfl
 unfold R6.J1
 refine .bind (Kh (g := (·.Name)) (fun _ _ _ => rfl) h2) ?_
 rintro _ rfl
 unfold R6.J2
 refine .bind (Kh (g := (·.Name)) (fun _ _ _ => rfl) G) ?_
 rintro _ rfl
 unfold R6.J3
 exact .pure rfl
theorem Zb {n : Nw} (hn : Sane n) : Ok (Ff n) (NetRes n) := by
 unfold Ff
 refine Dk (Q := ¬ (1 ≤ n.Nodes.length ∧ n.Nodes.length ≤ 24 ∧ n.Segments.length ≤ 32 ∧ n.Ports.length ≤ 24 ∧ n.Stations.length ≤ 12)) (by simp only [Bool.or_eq_true, D6, decide_eq_true_eq]; omega) (fun h => .pure (.inl ⟨fun W => h W.1, rfl⟩)) fun h0 => ?_
 refine .bind (wG (d := 4) (P := fun _ s => ¬ Ud s) fun k s G => ?_) ?_
 ·unfold Ff.B24 Ud
  exact .test (by rw [D6]; omega)
 rintro _ (⟨⟨k, s, G, h⟩, rfl⟩ | ⟨h1, rfl⟩)
 ·exact .pure (.inl ⟨fun W => h (W.2 k s G), rfl⟩)
 have W : Lim n := ⟨Classical.not_not.1 h0, fun k s G => Classical.not_not.1 (h1 k s G)⟩
 have hnl := W.1
 simp only [Sum.elim_inl]
 unfold Ff.J1
 refine .bind (bP hn.segs hn.ports hn.sts) fun r hr => .bind (Kn (d := 3) (P := fun k => ∃ l, (jO n)[k]? = some l ∧ bB l) fun k O => ?_) ?_
 ·obtain ⟨l, g1, g2⟩ := cQ hr O
  unfold Ff.B21
  refine .bind' (.eq (A0 g1) (.bind (wG (d := 3) (P := fun _ x => ¬ L3 x) fun j x hx => ?_) ?_))
  ·unfold Ff.B23
   exact .bind eU fun b hb => .test (by rw [← hb]; simp)
  ·rintro _ (⟨h, rfl⟩ | ⟨h, rfl⟩)
   ·exact .pure (.inl ⟨⟨l, g2, h⟩, rfl⟩)
   ·refine .pure (.inr ⟨fun ⟨m, g3, j, x, hx, hm⟩ => ?_, rfl⟩)
    rw [g2] at g3; cases g3; exact h j x hx hm
 rintro _ (⟨h, rfl⟩ | ⟨h, rfl⟩)
 ·exact .pure (.inr ⟨W, .inl ⟨h, rfl⟩⟩)
 have hf : ¬ Jv n := fun ⟨k, O, h'⟩ => h k O h'
 simp only [Sum.elim_inl]
 unfold Ff.J2
 refine .bind (Kn (d := 7) (P := fun k => ∃ l, (jO n)[k]? = some l ∧ tP l) fun k O => ?_) ?_
 ·obtain ⟨l, g1, g2⟩ := cQ hr O
  unfold Ff.B20
  have hll : l.length ≤ 1000000 := by
   have := mg g2
   simp only [jO, List.mem_cons, List.not_mem_nil, or_false] at this
   rcases this with rfl | rfl | rfl | rfl <;> simp <;> omega
  refine .bind' (.eq (A0 g1) (.bind (oZ hll) fun b hb => .test ?_))
  rw [hb]
  exact ⟨fun h => ⟨l, g2, h⟩, fun ⟨m, g3, h⟩ => by rw [g2] at g3; cases g3; exact h⟩
 rintro _ (⟨h, rfl⟩ | ⟨h2, rfl⟩)
 ·exact .pure (.inr ⟨W, .inr ⟨hf, .inl ⟨.inl h, rfl⟩⟩⟩)
 simp only [Sum.elim_inl]
 unfold Ff.J3
 refine .bind (wG (d := 7) (P := bA n.Stations) fun k x hx => ?_) ?_
 ·have O := (gs hx).1
  unfold Ff.B17
  refine .bind (X1 (l := n.Stations) (k := k) (d := 7) (P := fun y => x.Node = y.Node) (by omega) (by omega) (fun i y hi hy => ?_) ?_) ?_
  ·unfold Ff.B19
   exact As (fun _ => .bind' (.eq (A0 hy) (Dl (fun h => .pure (.inl ⟨h, rfl⟩)) fun h => .pure (.inr ⟨h, rfl⟩)))) fun h => by omega
  ·unfold Ff.B19
   rw [if_neg (by simp)]
  ·rintro _ (⟨h, rfl⟩ | ⟨h, rfl⟩)
   ·exact .pure (.inl ⟨h, rfl⟩)
   ·exact .pure (.inr ⟨h, rfl⟩)
 rintro _ (⟨h, rfl⟩ | ⟨h3, rfl⟩)
 ·exact .pure (.inr ⟨W, .inr ⟨hf, .inl ⟨.inr h, rfl⟩⟩⟩)
 have ht : ¬ (Rb n ∨ Ra n) := by
  rintro (⟨k, O, h⟩ | ⟨k, x, hx, h⟩)
  ·exact h2 k O h
  ·exact h3 k x hx h
 have Z : ¬ Qu n → NetRes n 8 := fun h => .inr ⟨W, .inr ⟨hf, .inr ⟨ht, .inl ⟨h, rfl⟩⟩⟩⟩
 have e : wr ((n.Nodes.length : Int) - 1) = (n.Nodes.length : Int) - 1 := Bc (by omega)
 have M : ∀ k : Int, (!(Ct k 0 ((n.Nodes.length : Int) - 1))) = true ↔ ¬ At n k := fun k => by rw [D6]; unfold At; omega
 simp only [Sum.elim_inl]
 unfold Ff.J4
 refine .bind (wG (d := 8) (P := fun _ s => ¬ (At n s.From ∧ At n s.To)) fun k s G => ?_) ?_
 ·unfold Ff.B16
  refine .test ?_
  rw [e, Bool.or_eq_true, M, M]
  exact ⟨fun h hc => h.elim (fun h => h hc.1) fun h => h hc.2, fun h => Classical.byContradiction fun hc => h ⟨Classical.byContradiction fun h => hc (.inl h), Classical.byContradiction fun h => hc (.inr h)⟩⟩
 rintro _ (⟨⟨k, s, G, h⟩, rfl⟩ | ⟨k1, rfl⟩)
 ·exact .pure (Z fun O => h (O.1 k s G))
 simp only [Sum.elim_inl]
 unfold Ff.J5
 refine .bind (wG (d := 8) (P := fun _ s => ¬ At n s.Node) fun k s G => ?_) ?_
 ·unfold Ff.B15
  exact .test (by rw [e]; exact M _)
 rintro _ (⟨⟨k, s, G, h⟩, rfl⟩ | ⟨k2, rfl⟩)
 ·exact .pure (Z fun O => h (O.2.1 k s G))
 simp only [Sum.elim_inl]
 unfold Ff.J6
 refine .bind (wG (d := 8) (P := fun _ s => ¬ At n s.Node) fun k s G => ?_) ?_
 ·unfold Ff.B14
  exact .test (by rw [e]; exact M _)
 rintro _ (⟨⟨k, s, G, h⟩, rfl⟩ | ⟨k3, rfl⟩)
 ·exact .pure (Z fun O => h (O.2.2 k s G))
 have O : Qu n := ⟨fun k s G => Classical.not_not.1 (k1 k s G), fun k s G => Classical.not_not.1 (k2 k s G), fun k s G => Classical.not_not.1 (k3 k s G)⟩
 have X : ¬ Proper n → NetRes n 9 := fun h => .inr ⟨W, .inr ⟨hf, .inr ⟨ht, .inr ⟨O, .inl ⟨h, rfl⟩⟩⟩⟩⟩
 simp only [Sum.elim_inl]
 unfold Ff.J7
 refine .bind (wG (d := 9) (P := fun _ s => ¬ PipeOk s) fun k s G => ?_) ?_
 ·unfold Ff.B13
  exact .bind (sE (W.pts G)) fun b hb => .test (by rw [← hb]; simp)
 rintro _ (⟨⟨k, s, G, h⟩, rfl⟩ | ⟨p1, rfl⟩)
 ·exact .pure (X fun Y => h (Y.segs k s G))
 simp only [Sum.elim_inl]
 unfold Ff.J8
 refine .bind (wG (d := 9) (P := fun _ s => ¬ (0 ≤ s.Pressure ∧ s.Pressure ≤ 100000000)) fun k s G => ?_) ?_
 ·unfold Ff.B12
  exact .test D6
 rintro _ (⟨⟨k, s, G, h⟩, rfl⟩ | ⟨p2, rfl⟩)
 ·exact .pure (X fun Y => h (Y.ports k s G))
 simp only [Sum.elim_inl]
 unfold Ff.J9
 refine .bind (wG (d := 9) (P := fun _ s => ¬ StnOk s) fun k s G => ?_) ?_
 ·unfold Ff.B11
  refine .test ?_
  simp only [Bool.or_eq_true, D6]
  exact ⟨fun h G => h.elim (fun h => h G.head) fun h => h.elim (fun h => h G.fall) fun h => h G.suction, fun h => Classical.byContradiction fun hn => h ⟨by omega, by omega, by omega⟩⟩
 rintro _ (⟨⟨k, s, G, h⟩, rfl⟩ | ⟨p3, rfl⟩)
 ·exact .pure (X fun Y => h (Y.sts k s G))
 simp only [Sum.elim_inl]
 unfold Ff.J10
 refine Dk (Q := ¬ ((-100000 ≤ n.Vapour ∧ n.Vapour ≤ 100000000) ∧ 0 ≤ n.Settle ∧ n.Settle ≤ 100)) (by rw [Bool.or_eq_true, D6, D6]; omega) (fun h => .pure (X fun Y => h ⟨Y.vapour, Y.settle⟩)) fun h => ?_
 have h := Classical.not_not.1 h
 exact .pure (.inr ⟨W, .inr ⟨hf, .inr ⟨ht, .inr ⟨O, .inr ⟨⟨fun k s G => Classical.not_not.1 (p1 k s G), fun k s G => Classical.not_not.1 (p2 k s G), fun k s G => Classical.not_not.1 (p3 k s G), h.1, h.2⟩, rfl⟩⟩⟩⟩⟩)
theorem S1 {n : Nw} (M : Sane n) : ∃ r, En n = some r ∧ Ff n = some r ∧ NetRes n r := by
 obtain ⟨r, O, G⟩ := kU M
 obtain ⟨Y, W, X⟩ := Zb M
 obtain rfl := G.uniq X
 exact ⟨r, O, W, G⟩
theorem mS {n : Nw} (h : NetW n) : Ff n = some 0 := by
 obtain ⟨r, G, M⟩ := Zb h.sane
 rw [G, M.uniq h.res]
theorem mT {n : Nw} (h : NetV n) : Ff n = some 0 := mS h.w
theorem pW {n : Nw} (h : NetOk n) : Ff n = some 0 := mT h.v
theorem qY {x : Int} (h : -1000000 ≤ x ∧ x ≤ 1000000) : Jl x = max x (-x) := by
 unfold Jl
 rw [Bc (by omega), Int.zero_sub]
theorem Ju {s : Sg} {r : Int} : G4 s r = C4 s r := rfl
structure Sum16 (b : Int) (st : Int × Int) (d : Int) : Prop where
 come : 0 ≤ st.1 ∧ st.1 ≤ b
 leave : 0 ≤ st.2 ∧ st.2 ≤ b
 diff : st.1 - st.2 = d
theorem eN {n : Nw} (hn : NetC n) {p : Plan} (h4 : p.Rates.length = n.Segments.length) (h5 : p.Ports.length = n.Ports.length) (hr : ∀ (k : Nat) (r : Int), p.Rates[k]? = some r → -1000 ≤ r ∧ r ≤ 1000)
  (hp : ∀ (k : Nat) (x : Int), p.Ports[k]? = some x → -1000 ≤ x ∧ x ≤ 1000) (v : Nat) : Ok (Jp n p (v : Int)) fun r => r.1 - r.2 = E0 (wt n v) p.Rates + E0 (wp n v) p.Ports := by
 have h2 := hn.segs1; have h3 := hn.ports1
 unfold Jp
 refine .bind (.forS (fun k (Y : Int × Int) => Sum16 (1000 * k) Y (E0 (wt n v) (p.Rates.take k))) ⟨by simp, by simp, by simp [Ki]⟩ ?_ fun Y h => h) ?_
 ·rintro k s ⟨a, b⟩ Z ⟨i1, i2, i3⟩
  dsimp only at i1 i2 i3
  have hkl := (gs Z).1
  have G : p.Rates[k]? = some p.Rates[k] := gq (by omega)
  have X := hr k _ G
  have he := (hn.segs k s Z).1
  have O := Ge (w := wt n v) (a := ind s.To v - ind s.From v) (by unfold wt; rw [List.getElem?_map, Z]; rfl) G
  generalize p.Rates[k] = r at G X O
  unfold Jp.B5
  refine .bind' (.eq (A0 G) (Dl (fun h0 => ?_) fun h0 => ?_))
  ·dsimp only at h0
   subst h0
   unfold Jp.J6
   rw [O]
   exact .pure ⟨by dsimp only; omega, by dsimp only; omega, by simp; omega⟩
  dsimp only at h0 ⊢
  have ha := qY (x := r) (by omega)
  rw [ha]
  have j7 : ∀ (j : Int), 0 ≤ j ∧ j ≤ 1000 * k + 1000 → ∀ l : Int, l = ind (C4 s r).1 v → j = b + max r (-r) * l → Ok (Jp.J7 (v : Int) s (a, b) (k, r) j) fun Y => Sum16 (1000 * ((k + 1 : Nat) : Int)) Y (E0 (wt n v) (p.Rates.take (k + 1))) := by
   intro j hj l hl hjl
   unfold Jp.J7 Jp.J6
   dsimp only
   rw [ha, Ju]
   have ac : ∀ c : Int, c = ind (C4 s r).2 v → a + max r (-r) * c - j = E0 (wt n v) (p.Rates.take (k + 1)) := by
    intro c hc
    subst hc; subst hl; subst hjl
    rw [O]
    rcases Wu (s := s) h0 with ⟨e, hr0⟩ | ⟨e, hr0⟩
    ·rw [e]
     dsimp only
     rw [show max r (-r) = -r by omega, Int.neg_mul, Int.neg_mul, Int.sub_mul, Int.mul_comm r, Int.mul_comm r]; omega
    ·rw [e]
     dsimp only
     rw [show max r (-r) = r by omega, Int.sub_mul, Int.mul_comm r, Int.mul_comm r]; omega
   refine Dl (fun M => .pure ?_) fun M => .pure ?_
   ·rw [Bc (by omega)]
    have := ac 1 (by rw [M, Ex])
    exact ⟨by dsimp only; omega, by dsimp only; omega, by dsimp only; omega⟩
   ·have := ac 0 (by rw [Eh M])
    exact ⟨by dsimp only; omega, by dsimp only; omega, by dsimp only; omega⟩
  rw [Ju]
  refine Dl (fun M => j7 _ ?_ 1 (by rw [M, Ex]) ?_) fun M => j7 _ ?_ 0 (by rw [Eh M]) ?_
  ·rw [Bc (by omega)]; omega
  ·rw [Bc (by omega)]; omega
  ·omega
  ·omega
 ·rintro ⟨a, b⟩ W
  rw [List.take_of_length_le (by omega)] at W
  unfold Jp.J1
  refine .bind (.forS (fun k (Y : Int × Int) => Sum16 (32000 + 1000 * k) Y (E0 (wt n v) p.Rates + E0 (wp n v) (p.Ports.take k))) ⟨by have := W.come; dsimp only at this ⊢; omega, by have := W.leave; dsimp only at this ⊢; omega, by have := W.diff; dsimp only at this ⊢; simp [Ki]; omega⟩ ?_ fun Y h => h) ?_
  ·rintro k s ⟨a, b⟩ Z ⟨i1, i2, i3⟩
   dsimp only at i1 i2 i3
   have hkl := (gs Z).1
   have G : p.Ports[k]? = some p.Ports[k] := gq (by omega)
   have X := hp k _ G
   have O := Ge (w := wp n v) (a := ind s.Node v) (by unfold wp; rw [List.getElem?_map, Z]; rfl) G
   generalize p.Ports[k] = r at G X O
   unfold Jp.B3 Jp.J4
   refine Dl (fun M => .bind' (.eq (A0 G) (.pure ?_))) fun M => .pure ?_
   ·rw [M, Ex] at O
    dsimp only
    rw [Bc (x := 0 - r) (by omega), Bc (by omega), Bc (by omega), O]
    exact ⟨by dsimp only; omega, by dsimp only; omega, by dsimp only; omega⟩
   ·rw [Eh M] at O
    rw [O]
    exact ⟨by dsimp only; omega, by dsimp only; omega, by dsimp only; omega⟩
  ·rintro ⟨a, b⟩ W
   rw [List.take_of_length_le (by omega)] at W
   unfold Jp.J2
   exact .pure W.diff
theorem Zq : ∀ {l : List Bool}, T3 l = l.length → ∀ k : Nat, l[k]? ≠ some false
 | [], _, k => by simp
 | b :: l, h, k => by
  have G := Jg l
  cases b with
  | false => simp [T3] at h; omega
  | true =>
   have : T3 l = l.length := by simp [T3] at h; omega
   cases k with
   | zero => simp
   | succ k => simpa using Zq this k
def kD (n : Nw) (p : Plan) (G : List Bool) (k : Nat) : Prop :=
 G[k]? = some false ∧ ∀ (i : Nat) (s : Sg) (r : Int) (f : Nat), n.Segments[i]? = some s → p.Rates[i]? = some r → r ≠ 0 → (C4 s r).1 = (f : Int) → (C4 s r).2 = (k : Int) → G[f]? = some true
def tC (n : Nw) (p : Plan) (G : List Bool) (m : Nat) (M : Nat → Nat) : Prop :=
 (∀ k : Nat, G[k]? = some true → M k < m) ∧ ∀ (i : Nat) (s : Sg) (r : Int) (f t : Nat), n.Segments[i]? = some s → p.Rates[i]? = some r → r ≠ 0 → (C4 s r).1 = (f : Int) → (C4 s r).2 = (t : Int) → G[t]? = some true → G[f]? = some true ∧ M f < M t
theorem bN {n : Nw} (hn : NetC n) {p : Plan} (h4 : p.Rates.length = n.Segments.length) : Ok (Oz n p) fun r => r.length = n.Nodes.length → Acyc n p := by
 have h1 := hn.nodes; have h2 := hn.segs1
 unfold Oz
 refine .bind' (.mk n.Nodes.length rfl (by omega) ?_)
 refine .bind (Q := fun r : Li => r.length = n.Nodes.length → Acyc n p) ?_ fun r hr => .pure hr
 refine .loop (fun st : Li × List Bool => st.2.length = n.Nodes.length ∧ st.1.length = T3 st.2 ∧ ∃ X, tC n p st.2 st.1.length X) (fun st => n.Nodes.length - T3 st.2)
  ⟨by simp, by simp [Xy], fun _ => 0, fun k hk => ?_, fun i s r f t _ _ _ _ _ ht => ?_⟩ (by dsimp only; omega) ?_
 ·have := mg hk; simp at this
 ·have := mg ht; simp at this
 rintro ⟨out, G⟩ ⟨i1, i2, X, i3, i4⟩
 dsimp only at i1 i2 i3 i4
 have hc := Jg G
 unfold Oz.B1
 refine .bind (Q := fun k : Int => k = -1 ∨ ∃ j : Nat, k = (j : Int) ∧ kD n p G j) ?_ ?_
 ·refine .forS (fun _ (k : Int) => k = -1 ∨ ∃ j : Nat, k = (j : Int) ∧ kD n p G j) (.inl rfl) ?_ fun _ h => h
  intro k x st hx hst
  have hkl := (gs hx).1
  have ht : G[k]? = some G[k] := gq (by omega)
  unfold Oz.B3
  refine .bind' (.eq (A0 ht) ?_)
  refine .bind (Q := fun b => b = true → kD n p G k) ?_ ?_
  ·refine .forS (fun m (b : Bool) => b = true → G[k]? = some false ∧ ∀ (i : Nat) (s : Sg) (r : Int) (f : Nat), i < m → n.Segments[i]? = some s → p.Rates[i]? = some r → r ≠ 0 → (C4 s r).1 = (f : Int) → (C4 s r).2 = (k : Int) → G[f]? = some true) ?_ ?_ ?_
   ·intro hb
    refine ⟨?_, fun i s r f hi => absurd hi (Nat.not_lt_zero _)⟩
    rw [ht]
    simpa using hb
   ·intro i s b hs hb
    have hil := (gs hs).1
    have hr : p.Rates[i]? = some p.Rates[i] := gq (by omega)
    have he := (hn.segs i s hs).1
    have Y : ∀ b' : Bool, (b' = true → b = true ∧ (p.Rates[i] ≠ 0 → ∀ f : Nat, (C4 s p.Rates[i]).1 = (f : Int) → (C4 s p.Rates[i]).2 = (k : Int) → G[f]? = some true)) → Ok (Oz.J7 b') fun b => b = true → G[k]? = some false ∧ ∀ (j : Nat) (s : Sg) (r : Int) (f : Nat), j < i + 1 → n.Segments[j]? = some s → p.Rates[j]? = some r → r ≠ 0 → (C4 s r).1 = (f : Int) → (C4 s r).2 = (k : Int) → G[f]? = some true := by
     intro b' hb'
     unfold Oz.J7
     refine .pure fun Z => ?_
     obtain ⟨hbb, hlast⟩ := hb' Z
     obtain ⟨q1, q2⟩ := hb hbb
     refine ⟨q1, fun j s' r f hj hs' hr' M W O => ?_⟩
     by_cases hji : j = i
     ·subst hji
      rw [hs] at hs'; rw [hr] at hr'
      simp at hs' hr'
      subst hs'; subst hr'
      exact hlast M f W O
     ·exact q2 j s' r f (by omega) hs' hr' M W O
    unfold Oz.B6
    refine .bind' (.eq (A0 hr) (Cj (fun M => Ax (fun Z => Cj (fun hto => Y _ fun _ => ⟨Z, fun _ f W O => absurd O hto⟩) fun hto => ?_) fun _ => Y _ fun h => by cases h) fun M => Y _ fun h => ⟨h, fun h0 => absurd M h0⟩))
    have hfr : 0 ≤ (G4 s p.Rates[i]).1 ∧ (G4 s p.Rates[i]).1 < (n.Nodes.length : Int) := by
     unfold G4
     split <;> dsimp only <;> omega
    refine .bind' (.ix' hfr.1 (by dsimp only; omega) fun f y W hy => Y _ fun hy1 => ⟨Z, fun _ f' hf' _ => ?_⟩)
    dsimp only at W hy hy1
    rw [Ju] at W
    have : f' = f := by omega
    subst this
    rw [hy, hy1]
   ·intro b hb Z
    obtain ⟨q1, q2⟩ := hb Z
    exact ⟨q1, fun i s r f hs => q2 i s r f (gs hs).1 hs⟩
  ·intro b hb
   unfold Oz.J5 Oz.J4
   refine Ax (fun h => .pure (.inr ⟨k, rfl, hb ?_⟩)) fun _ => .pure hst
   simp at h; exact h.1
 ·intro k hk
  unfold Oz.J2
  refine As (fun _ => .pure fun hl => ?_) fun h0 => ?_
  ·dsimp only at hl
   have hall := Zq (l := G) (by omega)
   refine Na X fun i s r f t hs hr M W ht htl => (i4 i s r f t hs hr M W ht ?_).2
   have : G[t]? = some G[t] := gq (by omega)
   cases hb : G[t] with
   | true => rw [this, hb]
   | false => exact absurd (by rw [this, hb]) (hall t)
  ·rcases hk with rfl | ⟨j, rfl, hj1, hj2⟩
   ·exact absurd (by decide) h0
   have hjl := (gs hj1).1
   refine .bind' (.app (by simp; omega) (.bind' (.eq (A0 hj1) (.pure ?_))))
   have hcs := Qm hj1
   have hcl := Jg (G.set j true)
   simp at hcl
   refine ⟨⟨by simp [i1], by simp [hcs, i2], fun k => if k = j then out.length else X k, fun k hk => ?_, fun i s r f t hs hr M W ht O => ?_⟩, by dsimp only; omega⟩
   ·dsimp only at hk ⊢
    rw [List.length_append]
    split
    ·simp
    ·rename_i hne
     rw [List.getElem?_set_ne (Ne.symm hne)] at hk
     have := i3 k hk
     simp; omega
   ·dsimp only at O ⊢
    have up : ∀ f : Nat, G[f]? = some true → (G.set j true)[f]? = some true ∧ f ≠ j := by
     intro f W
     have hne : f ≠ j := by rintro rfl; rw [hj1] at W; cases W
     exact ⟨by rw [List.getElem?_set_ne (Ne.symm hne)]; exact W, hne⟩
    by_cases htj : t = j
    ·subst htj
     have := hj2 i s r f hs hr M W ht
     obtain ⟨u1, u2⟩ := up f this
     rw [if_neg u2, if_pos rfl]
     exact ⟨u1, i3 f this⟩
    ·rw [List.getElem?_set_ne (Ne.symm htj)] at O
     obtain ⟨q1, q2⟩ := i4 i s r f t hs hr M W ht O
     obtain ⟨u1, u2⟩ := up f q1
     rw [if_neg u2, if_neg htj]
     exact ⟨u1, q2⟩
theorem Tz {n : Nw} (hn : NetC n) {p : Plan} (h4 : p.Rates.length = n.Segments.length) (hac : Acyc n p) : Ok (Oz n p) fun r => r.length = n.Nodes.length := by
 have h1 := hn.nodes; have h2 := hn.segs1
 unfold Oz
 refine .bind' (.mk n.Nodes.length rfl (by omega) ?_)
 refine .bind (Q := fun r : Li => r.length = n.Nodes.length) ?_ fun r hr => .pure hr
 refine .loop (fun Y : Li × List Bool => Y.2.length = n.Nodes.length ∧ Y.1.length = T3 Y.2) (fun Y => n.Nodes.length - T3 Y.2)
  ⟨by simp, by simp [Xy]⟩ (by dsimp only; omega) ?_
 rintro ⟨out, G⟩ ⟨i1, i2⟩
 dsimp only at i1 i2
 have hc := Jg G
 unfold Oz.B1
 refine .bind (Q := fun k : Int => (k = -1 ∧ ∀ j : Nat, G[j]? = some false → Gc n p G j) ∨ ∃ j : Nat, k = (j : Int) ∧ G[j]? = some false) ?_ ?_
 ·refine .forS (fun m (k : Int) => (k = -1 ∧ ∀ j : Nat, j < m → G[j]? = some false → Gc n p G j) ∨ ∃ j : Nat, k = (j : Int) ∧ G[j]? = some false) (.inl ⟨rfl, fun j h => absurd h (Nat.not_lt_zero _)⟩) ?_ ?_
  ·intro k x Y hx M
   have hkl := (gs hx).1
   have ht : G[k]? = some G[k] := gq (by omega)
   unfold Oz.B3
   refine .bind' (.eq (A0 ht) ?_)
   refine .bind (Q := fun b => (b = true → G[k]? = some false) ∧ (b = false → G[k]? = some false → Gc n p G k)) ?_ ?_
   ·refine .forS (fun m (b : Bool) => (b = true → G[k]? = some false) ∧ (b = false → G[k]? = some false → Gc n p G k)) ?_ ?_ fun b h => h
    ·refine ⟨fun W => ?_, fun W X => ?_⟩
     ·rw [ht]; simpa using W
     ·rw [ht] at X; simp at X; simp [X] at W
    ·intro i s b hs W
     have hil := (gs hs).1
     obtain ⟨r, hr⟩ : ∃ ζ, p.Rates[i]? = some ζ := ⟨_, gq (by omega)⟩
     have he := (hn.segs i s hs).1
     unfold Oz.B6 Oz.J7
     refine .bind' (.eq (A0 hr) (Cj (fun ae => Ax (fun Z => Cj (fun O => .pure ⟨fun _ => W.1 Z, fun h => by cases h⟩) fun O => ?_) fun hbf => .pure ⟨fun h => (by cases h), fun _ => W.2 hbf⟩) fun _ => .pure W))
     dsimp only at ae O ⊢
     rw [Ju] at O
     have hfr : 0 ≤ (C4 s r).1 ∧ (C4 s r).1 < (n.Nodes.length : Int) := by
      unfold C4
      split <;> dsimp only <;> omega
     rw [Ju]
     refine .bind' (.ix' hfr.1 (by omega) fun f y X hy => .pure ⟨fun _ => W.1 Z, fun af _ => ⟨i, s, r, f, hs, hr, ae, O, X, ?_⟩⟩)
     dsimp only at hy af
     rw [hy, af]
   ·rintro b ⟨b1, b2⟩
    unfold Oz.J5 Oz.J4
    refine Ax (fun h => .pure (.inr ⟨k, rfl, b1 ?_⟩)) fun ad => .pure ?_
    ·simp at h; exact h.1
    ·rcases M with ⟨rfl, M⟩ | M
     ·refine .inl ⟨rfl, fun j hj X => ?_⟩
      by_cases hjk : j = k
      ·subst hjk
       simp at ad
       exact b2 ad X
      ·exact M j (by omega) X
     ·exact .inr M
  ·rintro k (⟨rfl, h⟩ | h)
   ·exact .inl ⟨rfl, fun j hj => h j (by have := (gs hj).1; omega) hj⟩
   ·exact .inr h
 ·intro k hk
  unfold Oz.J2
  refine As (fun hneg => .pure ?_) fun h0 => ?_
  ·rcases hk with ⟨_, h⟩ | ⟨j, rfl, _⟩
   ·have := dQ (hac G i1 h)
    simp only [Sum.elim_inr]
    omega
   ·omega
  ·rcases hk with ⟨rfl, _⟩ | ⟨j, rfl, ac⟩
   ·exact absurd (by decide) h0
   refine .bind' (.app (by simp; omega) (.bind' (.eq (A0 ac) (.pure ?_))))
   have hcs := Qm ac
   have hcl := Jg (G.set j true)
   simp at hcl
   exact ⟨⟨by simp [i1], by simp [hcs, i2]⟩, by dsimp only; omega⟩
theorem Uu {n : Nw} (W : NetC n) (h12 : Ff n = some 0) {p : Plan} : Ok (F2 n p) (FlowRes n p) := by
 have h1 := W.nodes; have h2 := W.segs1; have h3 := W.ports1
 unfold F2
 refine .bind' (.eq h12 (Cj (fun h => absurd rfl h) fun _ => Dk (Q := ¬ aP n p) (by unfold aP; simp; omega) (fun h => .pure (.inl ⟨h, rfl⟩)) fun M => ?_))
 have M := Classical.not_not.1 M
 have l1 := M.1; have l2 := M.2.1
 have hsk : ∀ (k : Nat) (r : Int), p.Rates[k]? = some r → ∃ s, n.Segments[k]? = some s := fun k r G => ⟨_, gq (by have := (gs G).1; omega)⟩
 refine .bind (wG (d := 1) (P := fun k r => ∃ s, n.Segments[k]? = some s ∧ ¬ Qt s r) fun k r G => ?_) ?_
 ·obtain ⟨s, X⟩ := hsk k r G
  have hc := (W.segs k s X).2
  unfold F2.B6
  refine .bind' (.eq (A0 X) (.test ?_))
  dsimp only
  rw [Bc (by omega), Bool.or_eq_true, decide_eq_true_eq, decide_eq_true_eq]
  refine ⟨fun h => ⟨s, X, fun O => by unfold Qt at O; omega⟩, fun ⟨s', ac, h⟩ => ?_⟩
  rw [X] at ac; cases ac
  unfold Qt at h; omega
 rintro _ (⟨⟨k, r, G, s, X, h⟩, rfl⟩ | ⟨h, rfl⟩)
 ·exact .pure (.inr ⟨M, .inl ⟨fun O => h (O k r s G X), rfl⟩⟩)
 have O : Rng n p := fun k r s G X => Classical.not_not.1 fun W => h k r G ⟨s, X, W⟩
 simp only [Sum.elim_inl]
 unfold F2.J1
 refine .bind (wG (d := 1) (P := fun _ x => ¬ (-1000 ≤ x ∧ x ≤ 1000)) fun k x Y => ?_) ?_
 ·unfold F2.B5
  exact .test (by simp; omega)
 rintro _ (⟨⟨k, x, Y, h⟩, rfl⟩ | ⟨h, rfl⟩)
 ·exact .pure (.inr ⟨M, .inr ⟨O, .inl ⟨fun Z => h (Z k x Y), rfl⟩⟩⟩)
 have Z : uM p := fun k x Y => Classical.not_not.1 (h k x Y)
 simp only [Sum.elim_inl]
 unfold F2.J2
 refine .bind (wG (d := 12) (P := fun k _ => E0 (wt n (k : Int)) p.Rates + E0 (wp n (k : Int)) p.Ports ≠ 0) fun k x Y => ?_) ?_
 ·unfold F2.B4
  exact .bind (eN W l1 l2 (O.all M) Z k) fun r G => .test (by rw [← G]; simp; omega)
 rintro _ (⟨⟨k, x, Y, h⟩, rfl⟩ | ⟨h, rfl⟩)
 ·exact .pure (.inr ⟨M, .inr ⟨O, .inr ⟨Z, .inl ⟨fun hb => h (hb k (gs Y).1), rfl⟩⟩⟩⟩)
 have hb : Bal n p := fun v hv => Classical.not_not.1 (h v _ (gq hv))
 simp only [Sum.elim_inl]
 unfold F2.J3
 by_cases ha : Acyc n p
 ·exact .bind (Tz W l1 ha) fun r G => Cj (fun h => by omega) fun _ => .pure (.inr ⟨M, .inr ⟨O, .inr ⟨Z, .inr ⟨hb, .inr ⟨ha, rfl⟩⟩⟩⟩⟩)
 ·exact .bind (bN W l1) fun r G => Cj (fun h => .pure (.inr ⟨M, .inr ⟨O, .inr ⟨Z, .inr ⟨hb, .inl ⟨ha, rfl⟩⟩⟩⟩⟩)) fun h => absurd (G (by omega)) ha
theorem dK {n : Nw} (hn : Sane n) (p : Plan) : ∃ r, Gp n p = some r ∧ F2 n p = some r ∧ (r = 0 → NetC n ∧ FlowOk n p) := by
 obtain ⟨e, W, X, h3⟩ := S1 hn
 by_cases G : e = 0
 ·subst G
  have M := h3.c W
  obtain ⟨r, Y, O⟩ := dL M (p := p)
  obtain ⟨r', Z, g4⟩ := Uu M X (p := p)
  obtain rfl := O.uniq g4
  exact ⟨r, Y, Z, fun h => by subst h; exact ⟨M, O.flow M⟩⟩
 ·refine ⟨e, ?_, ?_, fun h => absurd h G⟩
  ·unfold Gp
   rw [W, Option.bind_some, if_pos (by simpa using G)]
  ·unfold F2
   rw [X, Option.bind_some, if_pos (by simpa using G)]
structure SegF (m : Nat) (s : Segment) : Prop where
 ends : 0 ≤ s.From ∧ s.From < (m : Int) ∧ 0 ≤ s.To ∧ s.To < (m : Int) ∧ s.From ≠ s.To
 low : s.From < 6 ∧ s.To < 6
theorem SegF.at6 {m : Nat} {s : Sg} (h : SegF m s) : (0 ≤ s.From ∧ s.From < (m : Int) ∧ 0 ≤ s.To ∧ s.To < (m : Int) ∧ s.From ≠ s.To) ∧ s.From < 6 ∧ s.To < 6 := ⟨h.ends, h.low⟩
structure AtF (m : Nat) (v : Int) : Prop where
 node : 0 ≤ v ∧ v < (m : Int)
 low : v < 6
theorem AtF.at6 {m : Nat} {v : Int} (h : AtF m v) : 0 ≤ v ∧ v < (m : Int) ∧ v < 6 := ⟨h.node.1, h.node.2, h.low⟩
structure NetF (n : Network) : Prop where
 c : NetC n
 segs1 : 0 ≤ n.Segments.length ∧ n.Segments.length ≤ 8
 segs : ∀ (k : Nat) (s : Sg), n.Segments[k]? = some s → SegF n.Nodes.length s
 ports1 : 0 ≤ n.Ports.length ∧ n.Ports.length ≤ 6
 ports : ∀ (k : Nat) (s : Port), n.Ports[k]? = some s → AtF n.Nodes.length s.Node
 sts1 : n.Stations.length ≤ 7
 sts : ∀ (k : Nat) (s : Sn), n.Stations[k]? = some s → AtF n.Nodes.length s.Node
 ck12 : Ff n = some 0
theorem NetF.check {n : Nw} (h : NetF n) : En n = some 0 := h.c.check
theorem NetF.nodes {n : Nw} (h : NetF n) : 1 ≤ n.Nodes.length ∧ n.Nodes.length ≤ 24 := h.c.nodes
theorem NetOk.f {n : Nw} (h : NetOk n) : NetF n := by
 have M := h.nodes; have O := h.segs1; have W := h.ports1; have X := h.sts1
 refine ⟨h.g.c, by omega, fun k s G => ?_, by omega, fun k s G => ?_, by omega, fun k s G => ?_, pW h⟩
 ·have := (h.segs k s G).ends
  exact ⟨this, by omega⟩
 ·have := (h.ports k s G).node
  exact ⟨this, by omega⟩
 ·have := (h.sts k s G).node
  exact ⟨this, by omega⟩
theorem Yq {n : Nw} (G : NetF n) {p : Plan} (h : FlowOk n p) : Gp n p = some 0 := bQ G.c h
theorem Mn {n : Nw} (G : NetF n) {p : Plan} (h : FlowOk n p) : F2 n p = some 0 := by
 obtain ⟨r, M, O⟩ := Uu G.c G.ck12 (p := p)
 rw [M, O.uniq (h.res G.c)]
def Lt (up : Bool) (a b : Int) : Prop := if up = true then a < b else b < a
theorem Lt.ne {up : Bool} {a b : Int} (h : Lt up a b) : a ≠ b := by unfold Lt at h; split at h <;> omega
theorem Lt.trans {up : Bool} {a b c : Int} (h : Lt up a b) (k : Lt up b c) : Lt up a c := by
 cases up <;> simp only [Lt, if_true] at * <;> first | omega | (simp at *; omega)
structure Res (n : Network) (up : Bool) (rates ports : List Int) : Prop where
 rl : rates.length = n.Segments.length
 pl : ports.length = n.Ports.length
 rng : ∀ (k : Nat) (r : Int) (s : Sg), rates[k]? = some r → n.Segments[k]? = some s → -1000 ≤ r ∧ r ≤ 1000 ∧ (0 < r → Lt up s.From s.To) ∧ (r < 0 → Lt up s.To s.From)
 prt : ∀ (k : Nat) (x : Int), ports[k]? = some x → -1000 ≤ x ∧ x ≤ 1000
 bal : ∀ v, E0 (wt n v) rates + E0 (wp n v) ports = 0
theorem PlanOk.res {n : Nw} {p : Plan} (h : PlanOk n p) : ∃ up, Res n up p.Rates p.Ports := by
 rcases h.dir with O | O
 ·exact ⟨true, h.rl, h.pl, fun k r s G M => ⟨(h.rng k r s G M).1, (h.rng k r s G M).2.1, (O k r s G M).1, (O k r s G M).2⟩, h.prt, h.bal⟩
 ·exact ⟨false, h.rl, h.pl, fun k r s G M => ⟨(h.rng k r s G M).1, (h.rng k r s G M).2.1, fun h => by have := (O k r s G M).1 h; simpa [Lt] using this, fun h => by have := (O k r s G M).2 h; simpa [Lt] using this⟩, h.prt, h.bal⟩
theorem I1 : ∀ {w l : Li}, (∀ (k : Nat) (a x : Int), w[k]? = some a → l[k]? = some x → 0 ≤ a * x) → 0 ≤ E0 w l
 | [], _, _ => by simp [E0]
 | _ :: _, [], _ => by simp [E0]
 | a :: w, x :: l, h => by
  have O := h 0 a x rfl rfl
  have := I1 (w := w) (l := l) fun k b y G M => h (k + 1) b y (by simpa using G) (by simpa using M)
  simp only [E0]; omega
theorem Xx : ∀ {w l : Li} {k : Nat} {a x : Int}, (∀ (k : Nat) (a x : Int), w[k]? = some a → l[k]? = some x → 0 ≤ a * x) → w[k]? = some a → l[k]? = some x → 0 < a * x → 0 < E0 w l
 | [], _, k, _, _, _, h, _, _ => by simp at h
 | _ :: _, [], k, _, _, _, _, h, _ => by simp at h
 | a :: w, x :: l, 0, b, y, h, G, M, hp => by
  simp at G M; subst G; subst M
  have := I1 (w := w) (l := l) fun k b y G M => h (k + 1) b y (by simpa using G) (by simpa using M)
  simp only [E0]; omega
 | a :: w, x :: l, k + 1, b, y, h, G, M, hp => by
  have O := h 0 a x rfl rfl
  have := Xx (w := w) (l := l) (k := k) (fun k b y G M => h (k + 1) b y (by simpa using G) (by simpa using M)) (by simpa using G) (by simpa using M) hp
  simp only [E0]; omega
theorem T4 {n : Nw} {k : Nat} {s : Sg} (v : Int) (h : n.Segments[k]? = some s) : (wt n v)[k]? = some (ind s.To v - ind s.From v) := by unfold wt; rw [List.getElem?_map, h]; rfl
theorem Qp {n : Nw} {k : Nat} {p : Port} (v : Int) (h : n.Ports[k]? = some p) : (wp n v)[k]? = some (ind p.Node v) := by unfold wp; rw [List.getElem?_map, h]; rfl
def Ew (n : Nw) (rates ports : Li) (v : Int) : Prop :=
 (∃ (i : Nat) (p : Port) (x : Int), n.Ports[i]? = some p ∧ p.Node = v ∧ ports[i]? = some x ∧ 0 < x) ∨
 ∃ (k : Nat) (s : Sg) (r : Int), n.Segments[k]? = some s ∧ rates[k]? = some r ∧ s.From ≠ s.To ∧ (0 < r ∧ s.To = v ∨ r < 0 ∧ s.From = v)
theorem aU {n : Nw} {up : Bool} {rates ports : Li} {v : Int} (h : Res n up rates ports) (hc : Ew n rates ports v) (hp : ∀ (i : Nat) (p : Port) (x : Int), n.Ports[i]? = some p → p.Node = v → ports[i]? = some x → 0 ≤ x)
  (hs : ∀ (k : Nat) (s : Sg) (r : Int), n.Segments[k]? = some s → rates[k]? = some r → ¬ (0 < r ∧ s.From = v) ∧ ¬ (r < 0 ∧ s.To = v)) : False := by
 have b := h.bal v
 have w1 : ∀ (k : Nat) (a x : Int), (wt n v)[k]? = some a → rates[k]? = some x → 0 ≤ a * x := by
  intro k a x M X
  have hkl := (gs X).1
  obtain ⟨s, G⟩ : ∃ ζ, n.Segments[k]? = some ζ := ⟨_, gq (by have := h.rl; omega)⟩
  rw [T4 v G] at M; simp at M; subst M
  obtain ⟨n1, n2⟩ := hs k s x G X
  unfold ind
  by_cases O : s.To = v <;> by_cases e2 : s.From = v <;> simp [O, e2]
  ·have : ¬ x < 0 := fun h => n2 ⟨h, O⟩
   omega
  ·have : ¬ 0 < x := fun h => n1 ⟨h, e2⟩
   omega
 have w2 : ∀ (k : Nat) (a x : Int), (wp n v)[k]? = some a → ports[k]? = some x → 0 ≤ a * x := by
  intro k a x M X
  have hkl := (gs X).1
  obtain ⟨s, G⟩ : ∃ ζ, n.Ports[k]? = some ζ := ⟨_, gq (by have := h.pl; omega)⟩
  rw [Qp v G] at M; simp at M; subst M
  unfold ind
  by_cases O : s.Node = v
  ·have := hp k s x G O X
   simp [O]; exact this
  ·simp [O]
 rcases hc with ⟨i, p, x, Y, Z, h3, h4⟩ | ⟨k, s, r, Y, Z, h3, h4⟩
 ·have := Xx w2 (Qp v Y) h3 (by rw [Z, Ex]; omega)
  have := I1 w1
  omega
 ·have W : 0 < (ind s.To v - ind s.From v) * r := by
   rcases h4 with ⟨h5, h6⟩ | ⟨h5, h6⟩
   ·rw [h6, Ex, Eh (by omega)]; omega
   ·rw [h6, Ex, Eh (by omega)]; omega
  have := Xx w1 (T4 v Y) Z W
  have := I1 w2
  omega
def HopIs (n : Nw) (rates : Li) (a : Int) (h : Hop) (b : Int) : Prop :=
 ∃ (k : Nat) (s : Sg) (r : Int), h.Segment = (k : Int) ∧ n.Segments[k]? = some s ∧ rates[k]? = some r ∧ (h.Back = false ∧ 0 < r ∧ s.From = a ∧ s.To = b ∨ h.Back = true ∧ r < 0 ∧ s.To = a ∧ s.From = b)
def jN (rates : Li) (h : Hop) : Int := max (rates.getD h.Segment.toNat 0) (-rates.getD h.Segment.toNat 0)
structure WayIs (n : Network) (rates : List Int) (hops : List Hop) (nd : Nat → Int) : Prop where
 hop : ∀ (j : Nat) (h : Hop), hops[j]? = some h → HopIs n rates (nd j) h (nd (j + 1))
theorem Nr {rates : Li} {h : Hop} {k : Nat} {r : Int} (h1 : h.Segment = (k : Int)) (h2 : rates[k]? = some r) : jN rates h = max r (-r) := by
 unfold jN
 rw [h1, List.getD_eq_getElem?_getD, Int.toNat_natCast, h2]; rfl
theorem WayIs.snoc {n : Nw} {rates : Li} {hops : List Hop} {nd : Nat → Int} (w : WayIs n rates hops nd) {h : Hop} {t : Int} (W : HopIs n rates (nd hops.length) h t) :
  WayIs n rates (hops ++ [h]) (fun i => if i ≤ hops.length then nd i else t) := by
 refine ⟨fun j M G => ?_⟩
 rw [List.getElem?_append] at G
 split at G
 ·rename_i X
  have := w.hop j M G
  rw [if_pos (by omega), if_pos (by omega)]; exact this
 ·have O := (gs G).1
  simp at O
  have : j = hops.length := by omega
  subst this
  simp at G; subst G
  rw [if_pos (by omega), if_neg (by omega)]; exact W
theorem HopIs.lt {n : Nw} {up : Bool} {rates ports : Li} (h : Res n up rates ports) {a b : Int} {x : Hop} (hx : HopIs n rates a x b) : Lt up a b := by
 obtain ⟨k, s, r, X, M, O, W⟩ := hx
 have := h.rng k r s O M
 rcases W with ⟨_, G, rfl, rfl⟩ | ⟨_, G, rfl, rfl⟩
 ·exact this.2.2.1 G
 ·exact this.2.2.2 G
theorem WayIs.mono {n : Nw} {up : Bool} {rates ports : Li} (h : Res n up rates ports) {hops : List Hop} {nd : Nat → Int} (w : WayIs n rates hops nd) : ∀ (j i : Nat), i < j → j ≤ hops.length → Lt up (nd i) (nd j) := by
 intro j
 induction j with
 | zero => intro i O; omega
 | succ j ih =>
  intro i O W
  have M := (w.hop j hops[j] (gq (by omega))).lt h
  by_cases G : i = j
  ·subst G; exact M
  ·exact (ih i (by omega) (by omega)).trans M
def aK (n : Nw) (up : Bool) (v : Int) : Nat := if up = true then min 6 n.Nodes.length - v.toNat else v.toNat + 1
theorem Wt {n : Nw} {up : Bool} {a b : Int} (M : 0 ≤ a ∧ a < (n.Nodes.length : Int) ∧ a < 6) (hb : 0 ≤ b ∧ b < (n.Nodes.length : Int) ∧ b < 6) (h : Lt up a b) : aK n up b < aK n up a := by
 unfold Lt at h
 unfold aK
 split at h <;> rename_i G <;> simp only [G, if_true, if_false] <;> first | omega | (simp; omega)
structure Walk (n : Network) (up : Bool) (rates ports : List Int) (x0 s0 : Int) (hops : List Hop) (rate t : Int) : Prop where
 way : ∃ nd, WayIs n rates hops nd ∧ nd 0 = s0 ∧ nd hops.length = t
 at_ : 0 ≤ t ∧ t < (n.Nodes.length : Int) ∧ t < 6
 len : hops.length + aK n up t ≤ min 6 n.Nodes.length
 rt : 1 ≤ rate ∧ rate ≤ x0
 most : ∀ h, h ∈ hops → rate ≤ jN rates h
 tight : rate = x0 ∨ ∃ h, h ∈ hops ∧ rate = jN rates h
 comes : Ew n rates ports t
theorem oU {n : Nw} (hn : NetF n) {up : Bool} {rates ports : Li} (h : Res n up rates ports) {i0 : Nat} {p0 : Port} {x0 : Int} (hp0 : n.Ports[i0]? = some p0) (hx0 : ports[i0]? = some x0) (hpos : 0 < x0) :
  Ok (Bx (L1.B4 ⟨n, rates, ports⟩) C0 ([], x0, p0.Node)) fun d => ∃ (O : Nat) (p : Port) (y rate : Int), d.1 = (O : Int) ∧ n.Ports[O]? = some p ∧ ports[O]? = some y ∧ y < 0 ∧ Walk n up rates ports x0 p0.Node d.2.1 rate p.Node ∧ d.2.2 = min rate (-y) := by
 have hnn := hn.nodes; have hsn := hn.segs1
 have hxr := h.prt i0 x0 hx0
 have hpn := (hn.ports i0 p0 hp0).at6
 refine .loop (fun st : List Hop × Int × Int => Walk n up rates ports x0 p0.Node st.1 st.2.1 st.2.2) (fun st => aK n up st.2.2) ⟨⟨fun _ => p0.Node, ⟨by simp⟩, rfl, rfl⟩, hpn, ?_, by dsimp only; omega, by simp, .inl rfl, .inl ⟨i0, p0, x0, hp0, rfl, hx0, hpos⟩⟩ ?_ ?_
 ·dsimp only [List.length_nil]
  unfold aK; split <;> omega
 ·dsimp only
  unfold aK; split <;> omega
 rintro ⟨G, rate, at_⟩ w
 dsimp only at w
 obtain ⟨nd, w1, w2, w3⟩ := w.way
 have hlen := w.len
 have hrate := w.rt
 have hat := w.at_
 unfold L1.B4
 refine .bind' (.forL (fun k _ => ∀ (i : Nat) (p : Port) (x : Int), i < k → n.Ports[i]? = some p → p.Node = at_ → ports[i]? = some x → 0 ≤ x)
  (fun d : Int × List Hop × Int => ∃ (O : Nat) (p : Port) (y : Int), d.1 = (O : Int) ∧ n.Ports[O]? = some p ∧ ports[O]? = some y ∧ y < 0 ∧ p.Node = at_ ∧ d.2.1 = G ∧ d.2.2 = min rate (-y)) (fun i _ _ h => absurd h (Nat.not_lt_zero _)) ?_ ?_ ?_)
 ·intro k p _ hp hi
  dsimp only at hp
  have hkl := (gs hp).1
  obtain ⟨x, M⟩ : ∃ ζ, ports[k]? = some ζ := ⟨_, gq (by have := h.pl; omega)⟩
  have hxr := h.prt k x M
  have no : (p.Node = at_ → 0 ≤ x) → Ok (L1.J11 ⟨n, rates, ports⟩ (G, rate, at_) k false) (Sum.elim (fun _ : Unit => ∀ (i : Nat) (p : Port) (x : Int), i < k + 1 → n.Ports[i]? = some p → p.Node = at_ → ports[i]? = some x → 0 ≤ x)
    fun d : Int × List Hop × Int => ∃ (O : Nat) (p : Port) (y : Int), d.1 = (O : Int) ∧ n.Ports[O]? = some p ∧ ports[O]? = some y ∧ y < 0 ∧ p.Node = at_ ∧ d.2.1 = G ∧ d.2.2 = min rate (-y)) := by
   intro hno
   unfold L1.J11
   refine .pure fun i q y hik hq hqn hy => ?_
   by_cases hi' : i = k
   ·subst hi'
    rw [hp] at hq; simp at hq; subst hq
    rw [M] at hy; simp at hy; subst hy
    exact hno hqn
   ·exact hi i q y (by omega) hq hqn hy
  unfold L1.B10
  refine Dl (fun he => .bind' (.eq (A0 M) ?_)) fun he => no fun h => absurd h he
  dsimp only
  by_cases W : x < 0
  ·simp only [W, decide_true]
   unfold L1.J11
   refine .bind' (.eq (A0 M) (.pure ⟨k, p, x, rfl, hp, M, W, he, rfl, ?_⟩))
   dsimp only
   rw [Bc (by omega), Int.zero_sub]
  ·simp only [W, decide_false]
   exact no fun _ => by omega
 ·intro _ X
  dsimp only at X
  simp only [Sum.elim_inl]
  unfold L1.J5
  refine .bind' (.forL (fun k _ => ∀ (i : Nat) (s : Sg) (r : Int), i < k → n.Segments[i]? = some s → rates[i]? = some r → ¬ (0 < r ∧ s.From = at_) ∧ ¬ (r < 0 ∧ s.To = at_))
   (fun d : List Hop × Int × Int => ∃ (hp : Hop), HopIs n rates at_ hp d.2.2 ∧ d.1 = G ++ [hp] ∧ d.2.1 = min rate (jN rates hp)) (fun i _ _ h => absurd h (Nat.not_lt_zero _)) ?_ ?_ ?_)
  ·intro k s _ Z hi
   dsimp only at Z
   have hkl := (gs Z).1
   obtain ⟨r, hr⟩ : ∃ ζ, rates[k]? = some ζ := ⟨_, gq (by have := h.rl; omega)⟩
   have hrr := h.rng k r s hr Z
   unfold L1.B7 L1.J8 L1.J9
   refine .bind' (.eq (A0 hr) (Ax (fun hb => .bind' (.app (by simp; omega) (.pure ?_))) fun hb1 => Ax (fun hb => .bind' (.app (by simp; omega) (.pure ?_))) fun hb2 => .pure fun i s' r' hik ac Y => ?_))
   ·simp at hb
    refine ⟨⟨(k : Int), false⟩, ⟨k, s, r, rfl, Z, hr, .inl ⟨rfl, hb.1, hb.2, rfl⟩⟩, rfl, ?_⟩
    rw [Nr (k := k) rfl hr]
    dsimp only
    rw [show max r (-r) = r by omega]
   ·simp at hb
    refine ⟨⟨(k : Int), true⟩, ⟨k, s, r, rfl, Z, hr, .inr ⟨rfl, hb.1, hb.2, rfl⟩⟩, rfl, ?_⟩
    rw [Nr (k := k) rfl hr]
    dsimp only
    rw [Bc (by omega), show max r (-r) = 0 - r by omega]
   ·by_cases hi' : i = k
    ·subst hi'
     rw [Z] at ac; simp at ac; subst ac
     rw [hr] at Y; simp at Y; subst Y
     simp at hb1 hb2
     exact ⟨fun h => hb1 h.1 h.2, fun h => hb2 h.1 h.2⟩
    ·exact hi i s' r' (by omega) ac Y
  ·intro _ hno
   exact (aU h w.comes (fun i p x hp => X i p x (gs hp).1 hp) fun k s r Z => hno k s r (gs Z).1 Z).elim
  ·rintro ⟨hops', rate', to'⟩ ⟨hp, hh, e1, e2⟩
   dsimp only at hh e1 e2
   subst e1; subst e2
   have hh' := hh
   have hlt := hh.lt h
   obtain ⟨k, s, r, q1, q2, q3, q4⟩ := hh
   have hse := (hn.segs k s q2).at6
   have hto : 0 ≤ to' ∧ to' < (n.Nodes.length : Int) ∧ to' < 6 := by rcases q4 with ⟨_, _, _, q⟩ | ⟨_, _, _, q⟩ <;> omega
   have hfar := Wt (n := n) (by omega) (by omega) hlt
   have hamt : 1 ≤ jN rates hp := by rw [Nr q1 q3]; rcases q4 with ⟨_, q, _, _⟩ | ⟨_, q, _, _⟩ <;> omega
   refine .pure ⟨⟨⟨_, w1.snoc (by rw [w3]; exact hh'), by simp [w2], by simp; omega⟩, hto, by simp; omega, by dsimp only; omega, fun x M => ?_, ?_, .inr ⟨k, s, r, q2, q3, by omega, ?_⟩⟩, hfar⟩
   ·rcases List.mem_append.1 M with M | M
    ·have := w.most x M; dsimp only; omega
    ·simp at M; subst M; dsimp only; omega
   ·dsimp only
    by_cases hle : rate ≤ jN rates hp
    ·rw [show min rate (jN rates hp) = rate by omega]
     rcases w.tight with ht | ⟨x, M, ht⟩
     ·exact .inl ht
     ·exact .inr ⟨x, by simp [M], ht⟩
    ·exact .inr ⟨hp, by simp, by omega⟩
   ·rcases q4 with ⟨_, q5, _, q6⟩ | ⟨_, q5, _, q6⟩
    ·exact .inl ⟨q5, q6⟩
    ·exact .inr ⟨q5, q6⟩
 ·rintro ⟨o, hops', rate'⟩ ⟨O, p, y, e1, e2, e3, e4, e5, e6, e7⟩
  dsimp only at e1 e6 e7
  subst e1; subst e6; subst e7
  exact .pure ⟨O, p, y, rate, rfl, e2, e3, e4, by rw [e5]; exact w, rfl⟩
def Im (rate : Int) (h : Hop) : Int := if h.Back = true then -rate else rate
def C9 (rate : Int) (k : Nat) : List Hop → Int
 | [] => 0
 | h :: t => (if h.Segment = (k : Int) then Im rate h else 0) + C9 rate k t
theorem P7 (rate : Int) (k : Nat) : ∀ l m : List Hop, C9 rate k (l ++ m) = C9 rate k l + C9 rate k m
 | [], m => by simp [C9]
 | h :: l, m => by simp only [List.cons_append, C9, P7 rate k l m]; omega
theorem Kr {rate : Int} {k j : Nat} {l : List Hop} {h : Hop} (G : l[j]? = some h) : C9 rate k (l.take (j + 1)) = C9 rate k (l.take j) + if h.Segment = (k : Int) then Im rate h else 0 := by
 rw [List.take_add_one, G, P7]; simp [C9]
theorem Ig {rate : Int} {k : Nat} : ∀ {l : List Hop}, (∀ h, h ∈ l → h.Segment ≠ (k : Int)) → C9 rate k l = 0
 | [], _ => rfl
 | h :: l, hh => by
  simp only [C9]
  rw [if_neg (hh h (by simp)), Ig fun x G => hh x (by simp [G])]; rfl
theorem Js {rate : Int} {k : Nat} : ∀ {l : List Hop} {i : Nat} {h : Hop}, l[i]? = some h → h.Segment = (k : Int) → (∀ (j : Nat) (x : Hop), j ≠ i → l[j]? = some x → x.Segment ≠ (k : Int)) → C9 rate k l = Im rate h
 | [], i, h, hi, _, _ => by simp at hi
 | x :: l, 0, h, hi, hk, ho => by
  simp at hi; subst hi
  simp only [C9]
  rw [if_pos hk, Ig fun y G => ?_]; omega
  obtain ⟨j, M⟩ := List.getElem?_of_mem G
  exact ho (j + 1) y (by omega) (by simpa using M)
 | x :: l, i + 1, h, hi, hk, ho => by
  simp only [C9]
  rw [if_neg (ho 0 x (by omega) rfl), Js (i := i) (by simpa using hi) hk fun j y M G => ho (j + 1) y (by omega) (by simpa using G)]; omega
theorem G7 {rate : Int} (G : 0 ≤ rate ∧ rate ≤ 1000) (k : Nat) : ∀ l : List Hop, -(1000 * (l.length : Int)) ≤ C9 rate k l ∧ C9 rate k l ≤ 1000 * (l.length : Int)
 | [] => by simp [C9]
 | h :: l => by
  have := G7 G k l
  simp only [C9, List.length_cons]
  unfold Im
  split
  ·split <;> omega
  ·omega
theorem Uh {h : Hop} {r : Int} (G : -1000000 ≤ r ∧ r ≤ 1000000) : Lp h r = Im r h := by
 unfold Lp Im
 rw [Bc (by omega), Int.zero_sub]
theorem WayIs.once {n : Nw} {up : Bool} {rates ports : Li} (h : Res n up rates ports) {hops : List Hop} {nd : Nat → Int} (w : WayIs n rates hops nd) {i j : Nat} {x y : Hop} (hx : hops[i]? = some x) (hy : hops[j]? = some y)
  (he : x.Segment = y.Segment) : i = j := by
 have hi := (gs hx).1
 have hj := (gs hy).1
 obtain ⟨k, s, r, e1, X, Y, Z⟩ := w.hop i x hx
 obtain ⟨k', s', r', f1, M, O, f4⟩ := w.hop j y hy
 have : k = k' := by omega
 subst this
 rw [X] at M; simp at M; subst M
 rw [Y] at O; simp at O; subst O
 have W : nd i = nd j := by
  rcases Z with ⟨_, a, b, _⟩ | ⟨_, a, b, _⟩ <;> rcases f4 with ⟨_, c, d, _⟩ | ⟨_, c, d, _⟩ <;> omega
 rcases Nat.lt_trichotomy i j with G | he | G
 ·exact absurd W (w.mono h j i G (by omega)).ne
 ·exact he
 ·exact absurd W.symm (w.mono h i j G (by omega)).ne
structure Follow (n : Network) (up : Bool) (rates ports : List Int) (i0 : Nat) (x : Path) (d : paths_divider) (o : Nat) (p0 po : Port) (x0 y : Int) (nd : Nat → Int) : Prop where
 net : d.n_ = n
 in_ : x.In = (i0 : Int)
 out : x.Out = (o : Int)
 hp0 : n.Ports[i0]? = some p0
 hpo : n.Ports[o]? = some po
 hx0 : ports[i0]? = some x0 ∧ 0 < x0
 hy : ports[o]? = some y ∧ y < 0
 way : WayIs n rates x.Hops nd
 ends : nd 0 = p0.Node ∧ nd x.Hops.length = po.Node
 len : x.Hops.length ≤ 5
 rt : 1 ≤ x.Rate ∧ x.Rate ≤ x0 ∧ x.Rate ≤ -y
 most : ∀ h, h ∈ x.Hops → x.Rate ≤ jN rates h
 tight : x.Rate = x0 ∨ x.Rate = -y ∨ ∃ h, h ∈ x.Hops ∧ x.Rate = jN rates h
 hports : d.ports = (ports.set i0 (x0 - x.Rate)).set o (y + x.Rate)
 hrates : d.rates.length = rates.length ∧ ∀ (k : Nat) (r : Int), rates[k]? = some r → d.rates[k]? = some (r - C9 x.Rate k x.Hops)
 less : ∀ (k : Nat) (r : Int), rates[k]? = some r → (0 ≤ r → 0 ≤ r - C9 x.Rate k x.Hops ∧ r - C9 x.Rate k x.Hops ≤ r) ∧ (r ≤ 0 → r ≤ r - C9 x.Rate k x.Hops ∧ r - C9 x.Rate k x.Hops ≤ 0)
 res : Res n up d.rates d.ports
theorem Pf {n : Nw} (hn : NetF n) {up : Bool} {rates ports : Li} (h : Res n up rates ports) {i0 : Nat} {x0 : Int} (hx0 : ports[i0]? = some x0) (hpos : 0 < x0) :
  Ok (L1 ⟨n, rates, ports⟩ (i0 : Int)) fun r => ∃ o p0 po y nd, Follow n up rates ports i0 r.1 r.2 o p0 po x0 y nd := by
 have hil := (gs hx0).1
 obtain ⟨p0, hp0⟩ : ∃ ζ, n.Ports[i0]? = some ζ := ⟨_, gq (by have := h.pl; omega)⟩
 have hxr := h.prt i0 x0 hx0
 unfold L1
 refine .bind' (.eq (A0 hx0) (.bind' (.eq (A0 hp0) (.bind (oU hn h hp0 hx0 hpos) ?_))))
 rintro ⟨_, G, rt⟩ ⟨o, po, y, rate, rfl, hpo, hy, hyn, w, e7⟩
 dsimp only at w e7 ⊢
 obtain ⟨nd, w1, w2, w3⟩ := w.way
 have hrate := w.rt
 have hyr := h.prt o y hy
 have hrt : 1 ≤ rt ∧ rt ≤ x0 ∧ rt ≤ -y ∧ rt ≤ rate := by omega
 have hne : i0 ≠ o := by rintro rfl; rw [hx0] at hy; simp at hy; omega
 unfold L1.J1
 dsimp only
 have X : (ports.set i0 (wr (x0 - rt)))[o]? = some y := by rw [List.getElem?_set_ne hne]; exact hy
 refine .bind' (.eq (A0 X) ?_)
 have hlen : G.length ≤ 5 := by
  have hl := w.len; have := hn.nodes; have hat := w.at_
  unfold aK at hl; split at hl <;> omega
 have W : ∀ h, h ∈ G → rt ≤ jN rates h := fun x M => by have := w.most x M; omega
 have key : ∀ (k : Nat) (r : Int), rates[k]? = some r → C9 rt k G = 0 ∨ (0 < r ∧ C9 rt k G = rt ∧ rt ≤ r) ∨ (r < 0 ∧ C9 rt k G = -rt ∧ rt ≤ -r) := by
  intro k r Y
  by_cases hex : ∃ (i : Nat) (x : Hop), G[i]? = some x ∧ x.Segment = (k : Int)
  ·obtain ⟨i, x, M, O⟩ := hex
   rw [Js M O fun j y hj hy he => hj (w1.once h hy M (he.trans O.symm))]
   have hm := W x (mg M)
   rw [Nr O Y] at hm
   obtain ⟨k', s, r', e1, e2, e3, e4⟩ := w1.hop i x M
   have : k = k' := by omega
   subst this
   rw [Y] at e3; simp at e3; subst e3
   unfold Im
   rcases e4 with ⟨b, q, _, _⟩ | ⟨b, q, _, _⟩
   ·exact .inr (.inl ⟨q, by rw [b]; rfl, by omega⟩)
   ·exact .inr (.inr ⟨q, by rw [b]; rfl, by omega⟩)
  ·exact .inl (Ig fun x M O => by obtain ⟨i, hi⟩ := List.getElem?_of_mem M; exact hex ⟨i, x, hi, O⟩)
 refine .bind (Q := fun Z => Z.length = rates.length ∧ (∀ (k : Nat) (r : Int), rates[k]? = some r → Z[k]? = some (r - C9 rt k G)) ∧ ∀ v, E0 (wt n v) Z = E0 (wt n v) rates - (rt * ind (nd G.length) v - rt * ind (nd 0) v)) ?_ ?_
 ·refine .forJ (fun j Z => Z.length = rates.length ∧ (∀ (k : Nat) (r : Int), rates[k]? = some r → Z[k]? = some (r - C9 rt k (G.take j))) ∧ ∀ v, E0 (wt n v) Z = E0 (wt n v) rates - (rt * ind (nd j) v - rt * ind (nd 0) v)) ⟨rfl, fun k r Y => by simp [C9, Y], fun v => by omega⟩ ?_ ?_
  ·rintro j Z hj ⟨i1, i2, i3⟩
   have M : G[j]? = some G[j] := gq hj
   generalize G[j] = x at M
   obtain ⟨k, s, r, e1, e2, e3, e4⟩ := w1.hop j x M
   have hst := i2 k r e3
   have hrr := h.rng k r s e3 e2
   have hb := G7 (rate := rt) (by omega) k (G.take j)
   rw [List.length_take] at hb
   unfold L1.B3
   refine .bind' (.eq (A0 M) ?_)
   dsimp only
   rw [e1]
   refine .bind' (.eq (A0 hst) (.pure ?_))
   dsimp only
   rw [Uh (by omega)]
   have hsg : -1000 ≤ Im rt x ∧ Im rt x ≤ 1000 := by unfold Im; split <;> omega
   rw [Bc (by omega)]
   refine ⟨by simp [i1], fun k' r' hr' => ?_, fun v => ?_⟩
   ·rw [Kr M, D9]
    have hkl := (gs hst).1
    by_cases hkk : k = k'
    ·subst hkk
     rw [hr'] at e3; simp at e3; subst e3
     rw [if_pos ⟨rfl, hkl⟩, if_pos e1]; congr 1; omega
    ·rw [if_neg (fun h => hkk h.1), if_neg (by omega), i2 k' r' hr']; simp
   ·rw [Fs (T4 v e2) hst, i3 v]
    have : (ind s.To v - ind s.From v) * (r - C9 rt k (G.take j) - Im rt x - (r - C9 rt k (G.take j))) = -(rt * ind (nd (j + 1)) v - rt * ind (nd j) v) := by
     rw [show r - C9 rt k (G.take j) - Im rt x - (r - C9 rt k (G.take j)) = -Im rt x by omega]
     unfold Im
     rcases e4 with ⟨b, _, q1, q2⟩ | ⟨b, _, q1, q2⟩
     ·rw [b, q1, q2, if_neg (by simp), Int.sub_mul, Int.mul_neg, Int.mul_neg, Int.mul_comm, Int.mul_comm (ind (nd j) v)]; omega
     ·rw [b, q1, q2, if_pos rfl, Int.neg_neg, Int.sub_mul, Int.mul_comm, Int.mul_comm (ind (nd (j + 1)) v)]; omega
    rw [this]; omega
  ·rintro Z ⟨i1, i2, i3⟩
   rw [List.take_length] at i2
   exact ⟨i1, i2, i3⟩
 rintro Z ⟨i1, i2, i3⟩
 unfold L1.J2
 dsimp only
 have e1 : wr (x0 - rt) = x0 - rt := Bc (by omega)
 have e2 : wr (y + rt) = y + rt := Bc (by omega)
 rw [e1] at X
 rw [e1, e2]
 have less : ∀ (k : Nat) (r : Int), rates[k]? = some r → (0 ≤ r → 0 ≤ r - C9 rt k G ∧ r - C9 rt k G ≤ r) ∧ (r ≤ 0 → r ≤ r - C9 rt k G ∧ r - C9 rt k G ≤ 0) := fun k r Y => by
  have := key k r Y; omega
 refine .pure ⟨o, p0, po, y, nd, rfl, rfl, rfl, hp0, hpo, ⟨hx0, hpos⟩, ⟨hy, hyn⟩, w1, ⟨w2, w3⟩, hlen, ⟨hrt.1, hrt.2.1, hrt.2.2.1⟩, W, ?_, rfl, ⟨i1, i2⟩, less, ⟨by dsimp only; rw [i1]; exact h.rl, by simp [h.pl], fun k r s Y hs => ?_, fun k x O => ?_, fun v => ?_⟩⟩
 ·dsimp only
  by_cases hc : rate ≤ -y
  ·have : rt = rate := by omega
   rcases w.tight with ht | ⟨x, M, ht⟩
   ·exact .inl (by omega)
   ·exact .inr (.inr ⟨x, M, by omega⟩)
  ·exact .inr (.inl (by omega))
 ·dsimp only at Y
  have hkl := (gs Y).1
  obtain ⟨r0, hr0⟩ : ∃ ζ, rates[k]? = some ζ := ⟨_, gq (by omega)⟩
  have := i2 k r0 hr0
  rw [Y] at this; simp at this
  have hl := less k r0 hr0
  have hrr := h.rng k r0 s hr0 hs
  refine ⟨by omega, by omega, fun hp => hrr.2.2.1 (by omega), fun hp => hrr.2.2.2 (by omega)⟩
 ·dsimp only at O
  rw [D9] at O
  split at O
  ·simp at O; omega
  ·rw [D9] at O
   split at O
   ·simp at O; omega
   ·exact h.prt k x O
 ·dsimp only
  rw [i3 v, Fs (Qp v hpo) X, Fs (Qp v hp0) hx0, w2, w3]
  have := h.bal v
  have a1 : ind p0.Node v * (x0 - rt - x0) = -(rt * ind p0.Node v) := by rw [show x0 - rt - x0 = -rt by omega, Int.mul_neg, Int.mul_comm]
  have a2 : ind po.Node v * (y + rt - y) = rt * ind po.Node v := by rw [show y + rt - y = rt by omega, Int.mul_comm]
  rw [a1, a2]; omega
def nz : Li → Nat
 | [] => 0
 | x :: l => (if x = 0 then 0 else 1) + nz l
theorem Lk : ∀ l : Li, nz l ≤ l.length
 | [] => Nat.le_refl _
 | x :: l => by have := Lk l; simp only [nz, List.length_cons]; split <;> omega
theorem cN : ∀ {l m : Li}, l.length = m.length → (∀ k : Nat, l[k]? = some 0 → m[k]? = some 0) → nz m ≤ nz l
 | [], [], _, _ => Nat.le_refl _
 | [], _ :: _, h, _ => by simp at h
 | _ :: _, [], h, _ => by simp at h
 | x :: l, y :: m, hl, h => by
  have M := h 0
  have := cN (l := l) (m := m) (by simpa using hl) fun k O => by have := h (k + 1) (by simpa using O); simpa using this
  simp at M
  simp only [nz]
  by_cases G : x = 0
  ·rw [if_pos G, if_pos (M G)]; omega
  ·rw [if_neg G]; split <;> omega
theorem cM : ∀ {l m : Li} {i : Nat} {x : Int}, l.length = m.length → (∀ k : Nat, l[k]? = some 0 → m[k]? = some 0) → l[i]? = some x → x ≠ 0 → m[i]? = some 0 → nz m < nz l
 | [], _, i, _, _, _, h, _, _ => by simp at h
 | _ :: _, [], _, _, h, _, _, _, _ => by simp at h
 | a :: l, b :: m, 0, x, hl, h, hx, hn, hy => by
  have := cN (l := l) (m := m) (by simpa using hl) fun k M => by have := h (k + 1) (by simpa using M); simpa using this
  simp at hx hy
  simp only [nz]
  rw [if_pos hy, if_neg (show ¬ a = 0 by omega)]; omega
 | a :: l, b :: m, i + 1, x, hl, h, hx, hn, hy => by
  have O := h 0
  have := cM (l := l) (m := m) (i := i) (by simpa using hl) (fun k M => by have := h (k + 1) (by simpa using M); simpa using this) (by simpa using hx) hn (by simpa using hy)
  simp at O
  simp only [nz]
  by_cases G : a = 0
  ·rw [if_pos G, if_pos (O G)]; omega
  ·rw [if_neg G]; split <;> omega
def Cr (k : Nat) : List Path → Int
 | [] => 0
 | x :: l => C9 x.Rate k x.Hops + Cr k l
def Em (i : Nat) (x : Path) : Int := (if x.In = (i : Int) then x.Rate else 0) - (if x.Out = (i : Int) then x.Rate else 0)
def Cq (i : Nat) : List Path → Int
 | [] => 0
 | x :: l => Em i x + Cq i l
theorem Gd (k : Nat) : ∀ l m : List Path, Cr k (l ++ m) = Cr k l + Cr k m
 | [], m => by simp [Cr]
 | x :: l, m => by simp only [List.cons_append, Cr, Gd k l m]; omega
theorem Fx (i : Nat) : ∀ l m : List Path, Cq i (l ++ m) = Cq i l + Cq i m
 | [], m => by simp [Cq]
 | x :: l, m => by simp only [List.cons_append, Cq, Fx i l m]; omega
def PathOk (n : Nw) (p : Plan) (x : Path) : Prop := ∃ (i o : Nat) (p0 po : Port) (G M : Int) (nd : Nat → Int), x.In = (i : Int) ∧ x.Out = (o : Int) ∧ n.Ports[i]? = some p0 ∧ n.Ports[o]? = some po ∧ p.Ports[i]? = some G ∧ 0 < G ∧ p.Ports[o]? = some M ∧ M < 0 ∧
 WayIs n p.Rates x.Hops nd ∧ nd 0 = p0.Node ∧ nd x.Hops.length = po.Node ∧ x.Hops.length ≤ 5 ∧ 1 ≤ x.Rate ∧ x.Rate ≤ 1000
def jU (rates ports : Li) (x : Path) : Prop := (∃ i : Nat, x.In = (i : Int) ∧ ports[i]? = some 0) ∨ (∃ o : Nat, x.Out = (o : Int) ∧ ports[o]? = some 0) ∨ ∃ (h : Hop) (k : Nat), h ∈ x.Hops ∧ h.Segment = (k : Int) ∧ rates[k]? = some 0
structure DInv (n : Network) (up : Bool) (p : Plan) (rates ports : List Int) (out : List Path) : Prop where
 res : Res n up rates ports
 shape : ∀ (k : Nat) (r r0 : Int), rates[k]? = some r → p.Rates[k]? = some r0 → (0 ≤ r0 → 0 ≤ r ∧ r ≤ r0) ∧ (r0 ≤ 0 → r0 ≤ r ∧ r ≤ 0)
 pshape : ∀ (k : Nat) (r r0 : Int), ports[k]? = some r → p.Ports[k]? = some r0 → (0 ≤ r0 → 0 ≤ r ∧ r ≤ r0) ∧ (r0 ≤ 0 → r0 ≤ r ∧ r ≤ 0)
 sumR : ∀ (k : Nat) (r r0 : Int), rates[k]? = some r → p.Rates[k]? = some r0 → r = r0 - Cr k out
 sumP : ∀ (k : Nat) (r r0 : Int), ports[k]? = some r → p.Ports[k]? = some r0 → r = r0 - Cq k out
 paths : ∀ x, x ∈ out → PathOk n p x
 dead : ∀ x, x ∈ out → jU rates ports x
 apart : ∀ (i j : Nat) (x y : Path), i < j → out[i]? = some x → out[j]? = some y → ¬ (x.In = y.In ∧ x.Out = y.Out ∧ x.Hops = y.Hops)
 count : out.length + nz rates + nz ports ≤ nz p.Rates + nz p.Ports
theorem DInv.start {n : Nw} {up : Bool} {p : Plan} (h : Res n up p.Rates p.Ports) : DInv n up p p.Rates p.Ports [] :=
 ⟨h, fun k r O M G => by rw [M] at G; simp at G; omega, fun k r O M G => by rw [M] at G; simp at G; omega, fun k r O M G => by rw [M] at G; simp at G; simp [Cr]; omega, fun k r O M G => by rw [M] at G; simp at G; simp [Cq]; omega,
  by simp, by simp, by simp, by simp⟩
theorem DInv.follow {n : Nw} {up : Bool} {p : Plan} (Z : Res n up p.Rates p.Ports) {rates ports : Li} {out : List Path} (h : DInv n up p rates ports out) {i0 o : Nat} {x : Path} {d : paths_divider} {p0 po : Port} {x0 y : Int} {nd : Nat → Int}
  (f : Follow n up rates ports i0 x d o p0 po x0 y nd) : DInv n up p d.rates d.ports (out ++ [x]) ∧ nz d.rates + nz d.ports < nz rates + nz ports ∧ ∀ (j : Nat) (z : Int), d.ports[j]? = some z → ports[j]? = some z ∨ z ≤ 0 ∨ j = i0 := by
 obtain ⟨X, hx0p⟩ := f.hx0
 obtain ⟨hy, hyn⟩ := f.hy
 have hrt := f.rt
 have hne : i0 ≠ o := by rintro rfl; rw [X] at hy; simp at hy; omega
 have hil := (gs X).1
 have hol := (gs hy).1
 obtain ⟨rl, rr⟩ := f.hrates
 have hpl : d.ports.length = ports.length := by rw [f.hports]; simp
 have Y : ∀ (j : Nat) (z : Int), d.ports[j]? = some z → (j = i0 ∧ z = x0 - x.Rate) ∨ (j = o ∧ z = y + x.Rate) ∨ (j ≠ i0 ∧ j ≠ o ∧ ports[j]? = some z) := by
  intro j z G
  rw [f.hports, D9] at G
  split at G
  ·rename_i hh; simp at G; exact .inr (.inl ⟨hh.1.symm, G.symm⟩)
  ·rename_i hh
   rw [D9] at G
   have hjo : j ≠ o := fun he => hh ⟨he.symm, by simp; omega⟩
   split at G
   ·rename_i hg; simp at G; exact .inl ⟨hg.1.symm, G.symm⟩
   ·rename_i hg
    have hji : j ≠ i0 := fun he => hg ⟨he.symm, by omega⟩
    exact .inr (.inr ⟨hji, hjo, G⟩)
 have hin : d.ports[i0]? = some (x0 - x.Rate) := by rw [f.hports, D9, if_neg (fun h => hne h.1.symm), D9, if_pos ⟨rfl, hil⟩]
 have hou : d.ports[o]? = some (y + x.Rate) := by rw [f.hports, D9, if_pos ⟨rfl, by simpa using hol⟩]
 have back : ∀ (k : Nat) (r' : Int), d.rates[k]? = some r' → ∃ r, rates[k]? = some r ∧ r' = r - C9 x.Rate k x.Hops := by
  intro k r' ac
  have hkl := (gs ac).1
  have hr : rates[k]? = some (rates[k]'(by omega)) := gq _
  have := rr k _ hr
  rw [ac] at this; simp at this
  exact ⟨_, hr, this⟩
 have zr : ∀ k : Nat, rates[k]? = some 0 → d.rates[k]? = some 0 := by
  intro k hk
  have O := rr k 0 hk
  have W := f.less k 0 hk
  rw [O]; congr 1; omega
 have zp : ∀ k : Nat, ports[k]? = some 0 → d.ports[k]? = some 0 := by
  intro k hk
  have hki : k ≠ i0 := by rintro rfl; rw [X] at hk; simp at hk; omega
  have hko : k ≠ o := by rintro rfl; rw [hy] at hk; simp at hk; omega
  rw [f.hports, List.getElem?_set_ne (Ne.symm hko), List.getElem?_set_ne (Ne.symm hki)]; exact hk
 have ae : jU d.rates d.ports x := by
  rcases f.tight with ht | ht | ⟨Z, hm, ht⟩
  ·exact .inl ⟨i0, f.in_, by rw [hin]; congr 1; omega⟩
  ·exact .inr (.inl ⟨o, f.out, by rw [hou]; congr 1; omega⟩)
  ·obtain ⟨j, hj⟩ := List.getElem?_of_mem hm
   obtain ⟨k, s, r, e1, e2, e3, e4⟩ := f.way.hop j Z hj
   refine .inr (.inr ⟨Z, k, hm, e1, ?_⟩)
   have O := rr k r e3
   rw [O]
   have hs := Js (rate := x.Rate) hj e1 fun j' y' hj' hy' he => hj' (f.way.once h.res hy' hj (he.trans e1.symm))
   rw [hs]
   rw [Nr e1 e3] at ht
   unfold Im
   congr 1
   rcases e4 with ⟨b, q, _, _⟩ | ⟨b, q, _, _⟩
   ·rw [b, if_neg (by simp)]; omega
   ·rw [b, if_pos rfl]; omega
 have keep : ∀ z, jU rates ports z → jU d.rates d.ports z := by
  rintro z (⟨i, O, W⟩ | ⟨i, O, W⟩ | ⟨Z, k, O, W, h3⟩)
  ·exact .inl ⟨i, O, zp i W⟩
  ·exact .inr (.inl ⟨i, O, zp i W⟩)
  ·exact .inr (.inr ⟨Z, k, O, W, zr k h3⟩)
 have fresh : ∀ z : Path, z.In = x.In → z.Out = x.Out → z.Hops = x.Hops → ¬ jU rates ports z := by
  rintro z z1 z2 z3 (⟨i, O, W⟩ | ⟨i, O, W⟩ | ⟨Z, k, O, W, h3⟩)
  ·have : i = i0 := by have := f.in_; omega
   subst this; rw [X] at W; simp at W; omega
  ·have : i = o := by have := f.out; omega
   subst this; rw [hy] at W; simp at W; omega
  ·rw [z3] at O
   obtain ⟨j, hj⟩ := List.getElem?_of_mem O
   obtain ⟨k', s, r, e1, e2, e3, e4⟩ := f.way.hop j Z hj
   have : k = k' := by omega
   subst this
   rw [h3] at e3; simp at e3
   rcases e4 with ⟨_, q, _⟩ | ⟨_, q, _⟩ <;> omega
 have hlt : nz d.rates + nz d.ports < nz rates + nz ports := by
  have l1 := cN (l := rates) (m := d.rates) rl.symm zr
  have l2 := cN (l := ports) (m := d.ports) hpl.symm zp
  rcases ae with ⟨i, O, W⟩ | ⟨i, O, W⟩ | ⟨Z, k, O, W, h3⟩
  ·have : i = i0 := by have := f.in_; omega
   subst this
   have := cM (l := ports) (m := d.ports) hpl.symm zp X (by omega) W
   omega
  ·have : i = o := by have := f.out; omega
   subst this
   have := cM (l := ports) (m := d.ports) hpl.symm zp hy (by omega) W
   omega
  ·obtain ⟨j, hj⟩ := List.getElem?_of_mem O
   obtain ⟨k', s, r, e1, e2, e3, e4⟩ := f.way.hop j Z hj
   have : k = k' := by omega
   subst this
   have := cM (l := rates) (m := d.rates) rl.symm zr e3 (by rcases e4 with ⟨_, q, _⟩ | ⟨_, q, _⟩ <;> omega) h3
   omega
 have hpi : p.Ports[i0]? = some (p.Ports[i0]'(by have := Z.pl; have := h.res.pl; omega)) := gq _
 have hpo : p.Ports[o]? = some (p.Ports[o]'(by have := Z.pl; have := h.res.pl; omega)) := gq _
 generalize p.Ports[i0]'(by have := Z.pl; have := h.res.pl; omega) = yi at hpi
 generalize p.Ports[o]'(by have := Z.pl; have := h.res.pl; omega) = yo at hpo
 have si := h.pshape i0 x0 yi X hpi
 have so := h.pshape o y yo hy hpo
 have hxr := h.res.prt i0 x0 X
 refine ⟨⟨f.res, fun k r' r0 ac ad => ?_, fun k z z0 G M => ?_, fun k r' r0 ac ad => ?_, fun k z z0 G M => ?_, fun z G => ?_, fun z G => ?_, fun i j a b hij ha hb => ?_, ?_⟩, hlt, fun j z G => ?_⟩
 ·obtain ⟨r, hr, rfl⟩ := back k r' ac
  have := h.shape k r r0 hr ad
  have := f.less k r hr
  omega
 ·rcases Y k z G with ⟨rfl, rfl⟩ | ⟨rfl, rfl⟩ | ⟨_, _, af⟩
  ·rw [hpi] at M; simp at M; omega
  ·rw [hpo] at M; simp at M; omega
  ·exact h.pshape k z z0 af M
 ·obtain ⟨r, hr, rfl⟩ := back k r' ac
  have := h.sumR k r r0 hr ad
  rw [Gd]; simp only [Cr]; omega
 ·rw [Fx]; simp only [Cq, Em]
  rw [f.in_, f.out]
  rcases Y k z G with ⟨rfl, rfl⟩ | ⟨rfl, rfl⟩ | ⟨n1, n2, af⟩
  ·have := h.sumP k x0 z0 X M
   rw [if_pos rfl, if_neg (by omega)]; omega
  ·have := h.sumP k y z0 hy M
   rw [if_neg (by omega), if_pos rfl]; omega
  ·have := h.sumP k z z0 af M
   rw [if_neg (by omega), if_neg (by omega)]; omega
 ·rcases List.mem_append.1 G with G | G
  ·exact h.paths z G
  ·simp at G; subst G
   refine ⟨i0, o, p0, po, yi, yo, nd, f.in_, f.out, f.hp0, f.hpo, hpi, by omega, hpo, by omega, ⟨fun j hh hj => ?_⟩, f.ends.1, f.ends.2, f.len, by omega, by omega⟩
   obtain ⟨k, s, r, e1, e2, e3, e4⟩ := f.way.hop j hh hj
   have hkl := (gs e3).1
   obtain ⟨r0, ad⟩ : ∃ ζ, p.Rates[k]? = some ζ := ⟨_, gq (by have := Z.rl; have := h.res.rl; omega)⟩
   have hsh := h.shape k r r0 e3 ad
   refine ⟨k, s, r0, e1, e2, ad, ?_⟩
   rcases e4 with ⟨b, q, q1, q2⟩ | ⟨b, q, q1, q2⟩
   ·exact .inl ⟨b, by omega, q1, q2⟩
   ·exact .inr ⟨b, by omega, q1, q2⟩
 ·rcases List.mem_append.1 G with G | G
  ·exact keep z (h.dead z G)
  ·simp at G; subst G; exact ae
 ·have hbl := (gs hb).1
  simp at hbl
  rw [List.getElem?_append_left (by omega)] at ha
  rw [List.getElem?_append] at hb
  split at hb
  ·exact h.apart i j a b hij ha hb
  ·have : j = out.length := by omega
   subst this
   simp at hb; subst hb
   rintro ⟨a1, a2, a3⟩
   exact fresh a a1 a2 a3 (h.dead a (mg ha))
 ·have := h.count
  simp; omega
 ·rcases Y j z G with ⟨rfl, rfl⟩ | ⟨rfl, rfl⟩ | ⟨_, _, af⟩
  ·exact .inr (.inr rfl)
  ·exact .inr (.inl (by omega))
  ·exact .inl af
theorem Lt.flip {up : Bool} {a b : Int} (h : Lt up a b) : Lt (!up) b a := by
 cases up <;> simpa [Lt] using h
theorem Res.neg {n : Nw} {up : Bool} {rates ports : Li} (h : Res n up rates ports) : Res n (!up) (rates.map fun x => -x) (ports.map fun x => -x) := by
 refine ⟨by simp [h.rl], by simp [h.pl], fun k r s O X => ?_, fun k x W => ?_, fun v => ?_⟩
 ·rw [List.getElem?_map] at O
  obtain ⟨M, G, rfl⟩ := Option.map_eq_some_iff.1 O
  have := h.rng k M s G X
  exact ⟨by omega, by omega, fun h => (this.2.2.2 (by omega)).flip, fun h => (this.2.2.1 (by omega)).flip⟩
 ·rw [List.getElem?_map] at W
  obtain ⟨M, G, rfl⟩ := Option.map_eq_some_iff.1 W
  have := h.prt k M G
  omega
 ·have := h.bal v
  rw [Ql, Ql]; omega
theorem still {n : Nw} (hn : NetF n) {up : Bool} {rates ports : Li} (h : Res n up rates ports) (hp : ∀ (k : Nat) (x : Int), ports[k]? = some x → x ≤ 0) :
  (∀ (k : Nat) (r : Int), rates[k]? = some r → r = 0) ∧ ∀ (k : Nat) (x : Int), ports[k]? = some x → x = 0 := by
 have O := h.neg
 have none : ∀ (m : Nat) (v : Int), aK n (!up) v = m → 0 ≤ v ∧ v < (n.Nodes.length : Int) ∧ v < 6 → ¬ Ew n (rates.map fun x => -x) (ports.map fun x => -x) v := by
  intro m
  induction m using Nat.strongRecOn with
  | ind m ih =>
   intro v hm hv hc
   refine aU O hc (fun i p x _ _ Y => ?_) fun k s r G X => ?_
   ·rw [List.getElem?_map] at Y
    obtain ⟨r', M, rfl⟩ := Option.map_eq_some_iff.1 Y
    have := hp i r' M
    omega
   ·have hrr := O.rng k r s X G
    have he := (hn.segs k s G).at6
    refine ⟨fun ⟨Z, h2⟩ => ?_, fun ⟨Z, h2⟩ => ?_⟩
    ·have hl := hrr.2.2.1 Z
     rw [h2] at hl
     exact ih (aK n (!up) s.To) (by have := Wt hv (by omega) hl; omega) s.To rfl (by omega) (.inr ⟨k, s, r, G, X, by omega, .inl ⟨Z, rfl⟩⟩)
    ·have hl := hrr.2.2.2 Z
     rw [h2] at hl
     exact ih (aK n (!up) s.From) (by have := Wt hv (by omega) hl; omega) s.From rfl (by omega) (.inr ⟨k, s, r, G, X, by omega, .inr ⟨Z, rfl⟩⟩)
 constructor
 ·intro k r X
  have hkl := (gs X).1
  obtain ⟨s, G⟩ : ∃ ζ, n.Segments[k]? = some ζ := ⟨_, gq (by have := h.rl; omega)⟩
  have he := (hn.segs k s G).at6
  have M : (rates.map fun x => -x)[k]? = some (-r) := by rw [List.getElem?_map, X]; rfl
  rcases Int.lt_trichotomy r 0 with W | W | W
  ·exact (none _ s.To rfl (by omega) (.inr ⟨k, s, -r, G, M, by omega, .inl ⟨by omega, rfl⟩⟩)).elim
  ·exact W
  ·exact (none _ s.From rfl (by omega) (.inr ⟨k, s, -r, G, M, by omega, .inr ⟨by omega, rfl⟩⟩)).elim
 ·intro k x Y
  have hkl := (gs Y).1
  obtain ⟨q, G⟩ : ∃ ζ, n.Ports[k]? = some ζ := ⟨_, gq (by have := h.pl; omega)⟩
  have he := (hn.ports k q G).at6
  have hx' : (ports.map fun x => -x)[k]? = some (-x) := by rw [List.getElem?_map, Y]; rfl
  have := hp k x Y
  by_cases hx0 : x = 0
  ·exact hx0
  ·exact (none _ q.Node rfl he (.inl ⟨k, q, -x, G, rfl, hx', by omega⟩)).elim
structure Divided (n : Network) (up : Bool) (p : Plan) (out : List Path) : Prop where
 res : Res n up p.Rates p.Ports
 sumR : ∀ (k : Nat) (r : Int), p.Rates[k]? = some r → r = Cr k out
 sumP : ∀ (k : Nat) (r : Int), p.Ports[k]? = some r → r = Cq k out
 paths : ∀ x, x ∈ out → PathOk n p x
 apart : ∀ (i j : Nat) (x y : Path), i < j → out[i]? = some x → out[j]? = some y → ¬ (x.In = y.In ∧ x.Out = y.Out ∧ x.Hops = y.Hops)
 count : out.length ≤ 14
theorem M0 {l : Li} (h : l.length ≤ 1000) : Ny l = some l := by
 unfold Ny
 rw [Ft (by simp; omega)]; rfl
theorem Va {n : Nw} (hn : NetF n) {p : Plan} (hp : PlanOk n p) : Ok (Jj n p) fun r => r.2 = 0 ∧ ∃ up, Divided n up p r.1 := by
 obtain ⟨up, Y⟩ := hp.res
 have h1 := hn.segs1; have h2 := hn.ports1; have h3 := hp.rl; have h4 := hp.pl
 have Nn : nz p.Rates + nz p.Ports ≤ 14 := by have := Lk p.Rates; have := Lk p.Ports; omega
 unfold Jj
 rw [hn.check, Yq hn hp.flow]
 refine .bind' (.pure (Cj (fun h => absurd rfl h) fun _ => .bind' (.pure (Cj (fun h => absurd rfl h) fun _ => ?_))))
 rw [M0 (by omega), M0 (by omega)]
 refine .bind' (.pure (.bind' (.pure ?_)))
 refine .bind' (.forI (S := List Bt × List Sg × List Port × List Sn × Int × Int × Li × Li × List Path) (fun k st => ∃ M G O, st = (n.Nodes, n.Segments, n.Ports, n.Stations, n.Vapour, n.Settle, M, G, O) ∧ DInv n up p M G O ∧ ∀ (j : Nat) (z : Int), j < k → G[j]? = some z → z ≤ 0)
  (fun _ => False) ⟨_, _, _, rfl, .start Y, fun j z h => absurd h (Nat.not_lt_zero _)⟩ ?_ ?_ fun _ h => h.elim)
 ·rintro k _ hk ⟨M, G, O, rfl, W, hz⟩
  unfold Jj.B2
  dsimp only
  refine .bind (Q := fun d : ((List Path) × Int) ⊕ (List Bt × List Sg × List Port × List Sn × Int × Int × Li × Li × List Path) => ∃ M G O, d = .inr (n.Nodes, n.Segments, n.Ports, n.Stations, n.Vapour, n.Settle, M, G, O) ∧ DInv n up p M G O ∧ ∀ (j : Nat) (z : Int), j < k + 1 → G[j]? = some z → z ≤ 0) ?_ ?_
  ·refine .loop (S := List Bt × List Sg × List Port × List Sn × Int × Int × Li × Li × List Path) (fun st => ∃ M G O, st = (n.Nodes, n.Segments, n.Ports, n.Stations, n.Vapour, n.Settle, M, G, O) ∧ DInv n up p M G O ∧ ∀ (j : Nat) (z : Int), j < k → G[j]? = some z → z ≤ 0)
    (fun st => nz st.2.2.2.2.2.2.1 + nz st.2.2.2.2.2.2.2.1) ⟨M, G, O, rfl, W, hz⟩ (by have := W.count; dsimp only; omega) ?_
   rintro _ ⟨M, G, O, rfl, W, hz⟩
   have hpl := W.res.pl
   obtain ⟨x, hx⟩ : ∃ ζ, G[k]? = some ζ := ⟨_, gq (by omega)⟩
   unfold Jj.B4
   refine .bind' (.eq (A0 hx) (As (fun Z => ?_) fun hneg => .pure ⟨M, G, O, rfl, W, fun j z hj X => ?_⟩))
   ·dsimp only at Z ⊢
    refine .bind (Pf hn W.res hx Z) ?_
    rintro ⟨y, d⟩ ⟨o, p0, po, y1, nd, f⟩
    dsimp only at f
    obtain ⟨g1, g2, g3⟩ := W.follow Y f
    have hc := W.count
    have hf := f.len
    refine Ax (fun hb => ?_) fun _ => .bind' (.app (by simp; omega) (.pure ⟨⟨d.rates, d.ports, O ++ [y], ?_, g1, fun j z hj X => ?_⟩, g2⟩))
    ·simp at hb; omega
    ·rw [f.net]
    ·rcases g3 j z X with h | h | h
     ·exact hz j z hj h
     ·exact h
     ·omega
   ·dsimp only at hneg
    by_cases hjk : j = k
    ·subst hjk; rw [hx] at X; simp at X; omega
    ·exact hz j z (by omega) X
  ·rintro _ ⟨M, G, O, rfl, W, hz⟩
   simp only [Sum.elim_inr]
   unfold Jj.J3
   exact .pure ⟨M, G, O, rfl, W, hz⟩
 ·rintro _ ⟨M, G, O, rfl, W, hz⟩
  simp only [Sum.elim_inl]
  unfold Jj.J1
  have hpl := W.res.pl; have hrl := W.res.rl
  obtain ⟨s1, s2⟩ := still hn W.res fun k x hx => hz k x (by have := (gs hx).1; omega) hx
  refine .pure ⟨rfl, up, Y, fun k r hr => ?_, fun k r hr => ?_, W.paths, W.apart, by have := W.count; dsimp only; omega⟩
  ·have hkl := (gs hr).1
   have hq : M[k]? = some (M[k]'(by omega)) := gq _
   have := W.sumR k _ r hq hr
   have := s1 k _ hq
   dsimp only; omega
  ·have hkl := (gs hr).1
   have hq : G[k]? = some (G[k]'(by omega)) := gq _
   have := W.sumP k _ r hq hr
   have := s2 k _ hq
   dsimp only; omega
end Go.Proofs.YtmaamhgjeampmaaGreat

