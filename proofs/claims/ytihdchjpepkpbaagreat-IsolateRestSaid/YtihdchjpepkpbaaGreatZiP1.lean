/- Plain proofs. No condition. -/
import Derived.Test.YtihdchjpepkpbaaGreatZiP0
import Derived.Test.YtihdchjpepkpbaaGreatZiD
set_option maxRecDepth 100000
namespace Go.Proofs.YtihdchjpepkpbaaGreat
set_option linter.unusedVariables false
set_option linter.unusedSimpArgs false
open Go.Aw
def val {n : Nat} (a : Arr Int n) (v : Nat) : Int := a.l.getD v 0
theorem L8 {n : Nat} {a : Arr Int n} {i v : Nat} {x : Int} (hv : v < n) : val (a.set i x) v = if i = v then x else val a v := by
 unfold val Arr.set
 dsimp only
 rw [List.getD_eq_getElem?_getD, List.getD_eq_getElem?_getD, Du]
 have := a.h
 by_cases h : i = v
 ·rw [if_pos ⟨h, by omega⟩, if_pos h]; rfl
 ·rw [if_neg (fun G => h G.1), if_neg h]
theorem Hx {n : Nat} {a : Arr Int n} {i : Nat} {x : Int} (h : a.l[i]? = some x) : val a i = x := by
 unfold val; rw [List.getD_eq_getElem?_getD, h]; rfl
theorem Gu {n v : Nat} : val (Arr.rep n (0 : Int)) v = 0 := by
 unfold val Arr.rep
 dsimp only
 rw [List.getD_eq_getElem?_getD, List.getElem?_replicate]
 split <;> rfl
structure Strm (b : Int) (s : flow_streams) (f : Nat → Int) : Prop where
 come : ∀ v, v < 24 → 0 ≤ val s.come v ∧ val s.come v ≤ b
 leave : ∀ v, v < 24 → 0 ≤ val s.leave v ∧ val s.leave v ≤ b
 diff : ∀ v, v < 24 → val s.come v - val s.leave v = f v
theorem Et (v : Int) : ind v v = 1 := if_pos rfl
theorem Eb {a v : Int} (h : a ≠ v) : ind a v = 0 := if_neg h
theorem Rd {s : flow_streams} {b : Int} {f : Nat → Int} (h : Strm b s f) (hb : 0 ≤ b ∧ b ≤ 1000000) {G M rate : Int} (hf : G < 24) (ht : M < 24) (Z : -1 ≤ G ∧ -1 ≤ M)
  (hr : -1000 ≤ rate ∧ rate ≤ 1000) : Ok (Hd s G M rate) fun r => Strm (b + 1000) r fun v => f v + (ind M v - ind G v) * rate := by
 have aa : ∀ (G M rate : Int), G < 24 → M < 24 → -1 ≤ G ∧ -1 ≤ M → 0 ≤ rate ∧ rate ≤ 1000 → Ok (Hd.J1 s (G, M, rate)) fun r => Strm (b + 1000) r fun v => f v + (ind M v - ind G v) * rate := by
  intro G M rate hf ht Z hr
  have j2 : ∀ (lv : Arr Int 24), (∀ v, v < 24 → 0 ≤ val lv v ∧ val lv v ≤ b + 1000 ∧ val lv v = val s.leave v + ind G v * rate) → Ok (Hd.J2 s (G, M, rate) lv) fun r => Strm (b + 1000) r fun v => f v + (ind M v - ind G v) * rate := by
   intro lv W
   unfold Hd.J2
   refine A0 (fun X => ?_) fun X => .pure ?_
   ·dsimp only at X
    obtain ⟨t, rfl⟩ := Ep X
    have hl := s.come.h
    refine .bind' (.ix t rfl (by omega) ?_)
    have hx : s.come.l[t]? = some s.come.l[t] := gq (by omega)
    have hvx := Hx hx
    have hcx := h.come t (by omega)
    dsimp only
    rw [Bc (by omega)]
    refine .pure ⟨fun v O => ?_, fun v O => ⟨(W v O).1, (W v O).2.1⟩, fun v O => ?_⟩
    ·have := h.come v O
     dsimp only
     rw [L8 O]; split <;> omega
    ·have h1 := h.diff v O
     have h2 := (W v O).2.2
     dsimp only
     rw [L8 O, h2, Int.sub_mul]
     by_cases Y : t = v
     ·subst Y; rw [if_pos rfl, Et]; omega
     ·rw [if_neg Y, Eb (a := (t : Int)) (by omega)]; omega
   ·dsimp only at X
    refine ⟨fun v O => ?_, fun v O => ⟨(W v O).1, (W v O).2.1⟩, fun v O => ?_⟩
    ·have := h.come v O
     dsimp only; omega
    ·have h1 := h.diff v O
     have h2 := (W v O).2.2
     dsimp only
     rw [h2, Int.sub_mul, Eb (a := M) (by omega)]; omega
  unfold Hd.J1
  refine A0 (fun X => ?_) fun X => ?_
  ·dsimp only at X
   obtain ⟨t, rfl⟩ := Ep X
   have hl := s.leave.h
   refine .bind' (.ix t rfl (by omega) ?_)
   have hx : s.leave.l[t]? = some s.leave.l[t] := gq (by omega)
   have hvx := Hx hx
   have hcx := h.leave t (by omega)
   dsimp only
   rw [Bc (by omega)]
   refine j2 _ fun v O => ?_
   have := h.leave v O
   rw [L8 O]
   by_cases Y : t = v
   ·subst Y; rw [if_pos rfl, Et]; omega
   ·rw [if_neg Y, Eb (by omega)]; omega
  ·dsimp only at X
   refine j2 _ fun v O => ?_
   have := h.leave v O
   rw [Eb (by omega)]; omega
 unfold Hd
 refine A0 (fun X => ?_) fun X => aa _ _ _ hf ht Z (by omega)
 rw [Bc (by omega)]
 refine (aa M G (0 - rate) ht hf ⟨Z.2, Z.1⟩ (by omega)).mono fun r hr => ⟨hr.come, hr.leave, fun v O => ?_⟩
 rw [hr.diff v O]
 have : ∀ a b r : Int, (a - b) * (0 - r) = (b - a) * r := fun a b r => by rw [Int.zero_sub, Int.mul_neg, ← Int.neg_mul]; congr 1; omega
 rw [this]
def Dw (n : Nw) (p : Plan) (there : List Bool) (j : Nat) : Prop :=
 ∃ (i : Nat) (s : Sg) (r : Int) (f : Nat), n.Segments[i]? = some s ∧ p.Rates[i]? = some r ∧ r ≠ 0 ∧ (B0 s r).2 = (j : Int) ∧ (B0 s r).1 = (f : Int) ∧ there[f]? = some false
def Im (n : Nw) (p : Plan) : Prop := ∀ there : List Bool, there.length = n.Nodes.length → (∀ j : Nat, there[j]? = some false → Dw n p there j) → ∀ k : Nat, there[k]? ≠ some false
structure FlowOk (n : Network) (p : Plan) : Prop where
 rl : p.Rates.length = n.Segments.length
 pl : p.Ports.length = n.Ports.length
 ml : p.Pumps.length = n.Stations.length
 rng : ∀ (k : Nat) (r : Int) (s : Sg), p.Rates[k]? = some r → n.Segments[k]? = some s → -1000 ≤ r ∧ r ≤ 1000 ∧ -s.Capacity ≤ r ∧ r ≤ s.Capacity
 prt : ∀ (k : Nat) (x : Int), p.Ports[k]? = some x → -1000 ≤ x ∧ x ≤ 1000
 bal : ∀ v : Nat, v < 24 → D5 (wt n v) p.Rates + D5 (wp n v) p.Ports = 0
 acyc : Im n p
theorem Rb {s : Sg} {r : Int} (M : r ≠ 0) : B0 s r = (s.To, s.From) ∧ r < 0 ∨ B0 s r = (s.From, s.To) ∧ 0 < r := by
 unfold B0
 by_cases G : r < 0
 ·exact .inl ⟨by rw [if_pos (by simp [G])], G⟩
 ·exact .inr ⟨by rw [if_neg (by simp [G])], by omega⟩
theorem PlanOk.flow {n : Nw} {p : Plan} (h : PlanOk n p) : FlowOk n p := by
 refine ⟨h.rl, h.pl, h.ml, h.rng, h.prt, fun v _ => h.bal v, fun G hl i5 => ?_⟩
 rcases h.dir with hd | hd
 ·intro k
  induction k using Nat.strongRecOn with
  | ind k ih =>
   intro Z
   have hkl := (gs Z).1
   obtain ⟨i, s, r, f, hs, hr, W, O, M, hf⟩ := i5 k Z
   have := hd i r s hr hs
   refine ih f ?_ hf
   rcases Rb (s := s) W with ⟨Y, X⟩ | ⟨Y, X⟩ <;> rw [Y] at O M <;> dsimp only at O M <;> omega
 ·have : ∀ m k : Nat, G.length - k = m → G[k]? ≠ some false := by
   intro m
   induction m using Nat.strongRecOn with
   | ind m ih =>
    intro k hm Z
    have hkl := (gs Z).1
    obtain ⟨i, s, r, f, hs, hr, W, O, M, hf⟩ := i5 k Z
    have hfl := (gs hf).1
    have := hd i r s hr hs
    refine ih (G.length - f) ?_ f rfl hf
    rcases Rb (s := s) W with ⟨Y, X⟩ | ⟨Y, X⟩ <;> rw [Y] at O M <;> dsimp only at O M <;> omega
  exact fun k => this _ k rfl
theorem bA {n : Nw} (Y : NetC n) {p : Plan} (h4 : p.Rates.length = n.Segments.length) (h5 : p.Ports.length = n.Ports.length) (hrng : ∀ (k : Nat) (r : Int), p.Rates[k]? = some r → -1000 ≤ r ∧ r ≤ 1000) (Z : ∀ (k : Nat) (x : Int), p.Ports[k]? = some x → -1000 ≤ x ∧ x ≤ 1000) :
  Ok (Hb n p) fun r => Strm 60000 r fun v => D5 (wt n v) p.Rates + D5 (wp n v) p.Ports := by
 have h1 := Y.nodes; have h2 := Y.segs1; have h3 := Y.ports1
 unfold Hb
 refine .bind (.forS (fun k W => Strm (1000 * k) ⟨W.1, W.2⟩ fun v => D5 (wt n v) (p.Rates.take k)) ⟨fun v G => ?_, fun v G => ?_, fun v G => ?_⟩ ?_ fun W h => h) ?_
 ·dsimp only; rw [Gu]; omega
 ·dsimp only; rw [Gu]; omega
 ·dsimp only; rw [Gu]; simp [Hz]
 ·intro k s W X O
  have hkl := (gs X).1
  have hr : p.Rates[k]? = some p.Rates[k] := gq (by omega)
  have hrr := hrng k _ hr
  have he := (Y.segs k s X).1
  unfold Hb.B4
  refine .bind' (.ix k rfl (by omega) (.bind (Rd O (by omega) (by omega) (by omega) (by omega) (by dsimp only; omega)) fun r M => .pure ?_))
  refine ⟨fun v G => ?_, fun v G => ?_, fun v G => ?_⟩
  ·have := M.come v G; dsimp only; omega
  ·have := M.leave v G; dsimp only; omega
  ·have := M.diff v G
   dsimp only at this ⊢
   rw [this, E2 (w := wt n v) (a := ind s.To v - ind s.From v) (by unfold wt; rw [List.getElem?_map, X]; rfl) hr]
 ·intro W O
  rw [List.take_of_length_le (by omega)] at O
  unfold Hb.J1
  refine .bind (.forS (fun k W => Strm (32000 + 1000 * k) ⟨W.1, W.2⟩ fun v => D5 (wt n v) p.Rates + D5 (wp n v) (p.Ports.take k)) ⟨fun v G => ?_, fun v G => ?_, fun v G => ?_⟩ ?_ fun W h => h) ?_
  ·have := O.come v G; dsimp only at this ⊢; omega
  ·have := O.leave v G; dsimp only at this ⊢; omega
  ·have := O.diff v G; dsimp only at this ⊢; rw [this]; simp [Hz]
  ·intro k s W X O
   have hkl := (gs X).1
   have hr : p.Ports[k]? = some p.Ports[k] := gq (by omega)
   have hrr := Z k _ hr
   have he := (Y.ports k s X)
   unfold Hb.B3
   refine .bind' (.ix k rfl (by omega) (.bind (Rd O (by omega) (by omega) (by omega) (by omega) (by dsimp only; omega)) fun r M => .pure ?_))
   refine ⟨fun v G => ?_, fun v G => ?_, fun v G => ?_⟩
   ·have := M.come v G; dsimp only; omega
   ·have := M.leave v G; dsimp only; omega
   ·have := M.diff v G
    dsimp only at this ⊢
    rw [this, E2 (w := wp n v) (a := ind s.Node v) (by unfold wp; rw [List.getElem?_map, X]; rfl) hr, Eb (a := -1) (by omega), Int.sub_zero]; omega
  ·intro W O
   rw [List.take_of_length_le (by omega)] at O
   unfold Hb.J2
   refine .pure ⟨fun v G => ?_, fun v G => ?_, fun v G => ?_⟩
   ·have := O.come v G; dsimp only at this ⊢; omega
   ·have := O.leave v G; dsimp only at this ⊢; omega
   ·exact O.diff v G
def Z4 : List Bool → Nat
 | [] => 0
 | b :: l => (if b = true then 1 else 0) + Z4 l
theorem Ms : ∀ l : List Bool, Z4 l ≤ l.length
 | [] => Nat.le_refl _
 | b :: l => by have := Ms l; cases b <;> simp [Z4] <;> omega
theorem eR (n : Nat) : Z4 (List.replicate n false) = 0 := by induction n with | zero => rfl | succ n ih => simp [List.replicate_succ, Z4, ih]
theorem R3 : ∀ {l : List Bool} {k : Nat}, l[k]? = some false → Z4 (l.set k true) = Z4 l + 1
 | [], k, h => by simp at h
 | b :: l, 0, h => by simp at h; subst h; simp [Z4]; omega
 | b :: l, k + 1, h => by simp at h; simp [Z4, R3 h]; omega
structure Flw (n : Network) (p : Plan) (i : Nat) (s : Segment) (r : Int) : Prop where
 seg : n.Segments[i]? = some s
 rate : p.Rates[i]? = some r
 ne : r ≠ 0
structure Topo (n : Network) (p : Plan) (l : List Int) : Prop where
 rng : ∀ v, v ∈ l → 0 ≤ v ∧ v < (n.Nodes.length : Int)
 nodup : l.Nodup
 topo : ∀ (k : Nat) (v : Int), l[k]? = some v → ∀ i s r, Flw n p i s r → (B0 s r).2 = v → (B0 s r).1 ∈ l.take k
 least : ∀ (k : Nat) (v : Int), l[k]? = some v → ∀ j : Nat, (j : Int) < v → (j : Int) ∉ l.take k → ∃ i s r, Flw n p i s r ∧ (B0 s r).2 = (j : Int) ∧ (B0 s r).1 ∉ l.take k
structure There (n : Network) (p : Plan) (out : List Int) (there : List Bool) : Prop where
 len : there.length = n.Nodes.length
 topo : Topo n p out
 mem : ∀ v : Nat, there[v]? = some true ↔ (v : Int) ∈ out
theorem There.nil (n : Nw) (p : Plan) : There n p [] (List.replicate n.Nodes.length false) :=
 ⟨by simp, ⟨by simp, by simp, by simp, by simp⟩, fun v => by simp [List.getElem?_replicate]⟩
theorem There.short {n : Nw} {p : Plan} {out : Li} {there : List Bool} (h : There n p out there) : out.length ≤ n.Nodes.length := by
 have := h.topo.nodup.length_le_of_subset (l₂ := (List.range n.Nodes.length).map fun v : Nat => (v : Int)) fun v G => by
  have := h.topo.rng v G
  exact List.mem_map.2 ⟨v.toNat, List.mem_range.2 (by omega), by omega⟩
 simpa using this
theorem There.step {n : Nw} {p : Plan} {out : Li} {there : List Bool} (h : There n p out there) {k : Nat} (hk : there[k]? = some false) (hr : ∀ i s r, Flw n p i s r → (B0 s r).2 = (k : Int) → (B0 s r).1 ∈ out)
  (hl : ∀ j : Nat, j < k → there[j]? = some false → Dw n p there j) : There n p (out ++ [(k : Int)]) (there.set k true) := by
 have hkl := (gs hk).1
 have h1 := h.len
 have X : (k : Int) ∉ out := fun G => by have := (h.mem k).2 G; rw [hk] at this; cases this
 have Y : ∀ {m : Nat} {v : Int}, (out ++ [(k : Int)])[m]? = some v → (out[m]? = some v ∧ (out ++ [(k : Int)]).take m = out.take m) ∨ (v = (k : Int) ∧ (out ++ [(k : Int)]).take m = out) := fun {m v} G => by
  rw [List.getElem?_append] at G
  split at G
  ·rename_i Z
   exact .inl ⟨G, List.take_append_of_le_length (by omega)⟩
  ·rename_i Z
   have hl := (gs G).1
   simp at hl
   have : m = out.length := by omega
   subst this
   simp at G
   exact .inr ⟨G.symm, List.take_left⟩
 refine ⟨by simp [h1], ⟨fun v M => ?_, ?_, fun m v G i s r hf ht => ?_, fun m v G j hj hn => ?_⟩, fun v => ?_⟩
 ·rcases List.mem_append.1 M with M | M
  ·exact h.topo.rng v M
  ·simp at M; omega
 ·exact List.nodup_append.2 ⟨h.topo.nodup, by simp, fun a ha b O he => by simp at O; subst O; subst he; exact X ha⟩
 ·rcases Y G with ⟨G, e⟩ | ⟨rfl, e⟩ <;> rw [e]
  ·exact h.topo.topo m v G i s r hf ht
  ·exact hr i s r hf ht
 ·rcases Y G with ⟨G, e⟩ | ⟨rfl, e⟩ <;> rw [e] at hn ⊢
  ·exact h.topo.least m v G j hj hn
  ·have W : there[j]? = some there[j] := gq (by omega)
   cases O : there[j] with
   | true => exact absurd ((h.mem j).1 (by rw [W, O])) hn
   | false =>
    obtain ⟨i, s, r, f, e1, e2, e3, e4, e5, e6⟩ := hl j (by omega) (by rw [W, O])
    exact ⟨i, s, r, ⟨e1, e2, e3⟩, e4, fun G => by rw [e5] at G; have := (h.mem f).2 G; rw [e6] at this; cases this⟩
 ·by_cases M : v = k
  ·subst M
   rw [List.getElem?_set_self (by omega)]; simp
  ·rw [List.getElem?_set_ne (by omega), h.mem v]
   simp; omega
theorem There.fin {n : Nw} {p : Plan} {out : Li} {there : List Bool} (h : There n p out there) (hb : ∀ j : Nat, there[j]? = some false → Dw n p there j) :
  (∀ v : Nat, v < n.Nodes.length → (v : Int) ∈ out) ∨ ((∃ v : Nat, v < n.Nodes.length ∧ (v : Int) ∉ out) ∧ ¬ Im n p) := by
 have Y := h.len
 by_cases G : ∀ k : Nat, there[k]? ≠ some false
 ·refine .inl fun v M => (h.mem v).1 ?_
  have W : there[v]? = some there[v] := gq (by omega)
  cases hb : there[v] with
  | true => rw [W, hb]
  | false => exact absurd (by rw [W, hb]) (G v)
 ·refine .inr ⟨?_, fun O => G (O there h.len hb)⟩
  obtain ⟨v, M⟩ := Classical.not_forall.1 G
  have M := Classical.not_not.1 M
  refine ⟨v, by have := (gs M).1; omega, fun X => ?_⟩
  have := (h.mem v).2 X
  rw [M] at this; cases this
theorem Tz {n : Nw} (hn : NetC n) {p : Plan} (h4 : p.Rates.length = n.Segments.length) : Ok (M5 n p) fun r => Topo n p r ∧ ((∀ v : Nat, v < n.Nodes.length → (v : Int) ∈ r) ∨ ((∃ v : Nat, v < n.Nodes.length ∧ (v : Int) ∉ r) ∧ ¬ Im n p)) := by
 have h1 := hn.nodes; have h2 := hn.segs1
 let I : Li × List Bool × Int → Prop := fun Y => There n p Y.1 Y.2.1 ∧ 0 ≤ Y.2.2 ∧ Y.2.2 ≤ (n.Nodes.length : Int) ∧ ∀ j : Nat, (j : Int) < Y.2.2 → Y.2.1[j]? = some false → Dw n p Y.2.1 j
 let R : Li → Prop := fun r => Topo n p r ∧ ((∀ v : Nat, v < n.Nodes.length → (v : Int) ∈ r) ∨ ((∃ v : Nat, v < n.Nodes.length ∧ (v : Int) ∉ r) ∧ ¬ Im n p))
 let μ : Li × List Bool × Int → Nat := fun Y => (n.Nodes.length - Z4 Y.2.1) * 100 + (n.Nodes.length - Y.2.2.toNat)
 unfold M5
 refine .bind' (.mk n.Nodes.length rfl (by omega) ?_)
 refine .bind (Q := R) ?_ fun r hr => .pure hr
 refine .loop I μ ⟨.nil n p, by simp, by simp, fun j Z => by dsimp only at Z; omega⟩ (by simp only [μ]; rw [eR]; omega) ?_
 rintro ⟨O, G, k⟩ ⟨iT, i3, i4, i5⟩
 dsimp only at iT i3 i4 i5
 have i1 := iT.len
 have hc := Ms G
 unfold M5.B2
 refine A0 (fun h0 => ?_) fun h0 => ?_
 ·dsimp only at h0
  obtain ⟨M, rfl⟩ := Ep i3
  have hkl : M < G.length := by omega
  have hx : G[M]? = some G[M] := gq hkl
  have next : Dw n p G M ∨ G[M] = true → Ok (M5.J3 (O, G, (M : Int))) (Sum.elim (fun Y => I Y ∧ μ Y < μ (O, G, (M : Int))) R) := by
   intro hb
   unfold M5.J3
   dsimp only
   rw [Bc (by omega)]
   refine .pure ⟨⟨iT, by dsimp only; omega, by dsimp only; omega, fun j Z W => ?_⟩, by simp only [μ]; omega⟩
   dsimp only at Z W
   by_cases hjk : j = M
   ·subst hjk
    rcases hb with hb | hb
    ·exact hb
    ·rw [hx, hb] at W; cases W
   ·exact i5 j (by omega) W
  refine .bind' (.eq (Bg hx) (A9 (fun ht => next (.inr ht)) fun ht => ?_))
  dsimp only at ht
  refine .bind' (.forL (fun i _ => ∀ (j : Nat) (s : Sg) (r : Int), j < i → Flw n p j s r → (B0 s r).2 = (M : Int) → (B0 s r).1 ∈ O) (fun d => d = (O, G, (M : Int)) ∧ Dw n p G M) (fun j s r Z => absurd Z (Nat.not_lt_zero _)) ?_ ?_ ?_)
  ·intro i s _ hs hJ
   have hil := (gs hs).1
   have hr : p.Rates[i]? = some p.Rates[i] := gq (by omega)
   have he := (hn.segs i s hs).1
   have no : (p.Rates[i] ≠ 0 → (B0 s p.Rates[i]).2 = (M : Int) → (B0 s p.Rates[i]).1 ∈ O) → Ok (M5.J6 (O, G, (M : Int)) false) (Sum.elim (fun _ : Unit => ∀ (j : Nat) (s : Sg) (r : Int), j < i + 1 → Flw n p j s r → (B0 s r).2 = (M : Int) → (B0 s r).1 ∈ O) fun d => d = (O, G, (M : Int)) ∧ Dw n p G M) := by
    intro hq
    unfold M5.J6
    refine .pure fun j s' r' Z W ht => ?_
    by_cases hji : j = i
    ·subst hji
     have e1 := W.seg; have e2 := W.rate
     rw [hs] at e1; cases e1
     rw [hr] at e2; cases e2
     exact hq W.ne ht
    ·exact hJ j s' r' (by omega) W ht
   unfold M5.B5
   refine .bind' (.eq (Bg hr) (Cl (fun aa => C7 (fun X => ?_) fun X => no fun _ h => absurd h X) fun aa => no fun h => absurd aa h))
   dsimp only at aa X ⊢
   have hfr : 0 ≤ (B0 s p.Rates[i]).1 ∧ (B0 s p.Rates[i]).1 < (n.Nodes.length : Int) := by
    unfold B0
    split <;> dsimp only <;> omega
   refine .bind' (.ix' hfr.1 (by omega) fun f x W hfx => ?_)
   dsimp only
   cases x with
   | false =>
    unfold M5.J6
    exact .pure ⟨rfl, i, s, p.Rates[i], f, hs, hr, aa, X, W, hfx⟩
   | true => exact no fun _ _ => by rw [W]; exact (iT.mem f).1 hfx
  ·intro _ hJ
   simp only [Sum.elim_inl]
   unfold M5.J4
   refine .bind' (.app (by have := iT.short; simp; omega) ?_)
   unfold M5.J3
   dsimp only
   rw [Bc (by omega)]
   have hx' : G[M]? = some false := by rw [hx, ht]
   have hcs := R3 hx'
   have hcl := Ms (G.set M true)
   simp at hcl
   refine .pure ⟨⟨iT.step hx' (fun i s r W X => hJ i s r (gs W.seg).1 W X) fun j Z => i5 j (by omega), by simp, by dsimp only; omega, fun j Z => by dsimp only at Z; omega⟩, ?_⟩
   simp only [μ]
   rw [hcs]; omega
  ·rintro _ ⟨rfl, hb⟩
   exact next (.inl hb)
 ·dsimp only at h0
  have hk : k = (n.Nodes.length : Int) := by omega
  subst hk
  have Qx : ∀ j : Nat, G[j]? = some false → Dw n p G j := fun j Z => i5 j (by have := (gs Z).1; omega) Z
  exact .pure ⟨iT.topo, iT.fin Qx⟩
theorem Tf {l : Li} {m : Nat} (G : ∀ v, v ∈ l → 0 ≤ v ∧ v < (m : Int)) (W : l.Nodup) (M : ∀ v : Nat, v < m → (v : Int) ∈ l) : l.length = m := by
 have X : l.Perm ((List.range m).map fun k : Nat => (k : Int)) := (List.perm_ext_iff_of_nodup W (List.Pairwise.map _ (fun a b h Y => h (by omega)) List.nodup_range)).2 fun v => by
  simp only [List.mem_map, List.mem_range]
  refine ⟨fun h => ⟨v.toNat, by have := G v h; omega, by have := G v h; omega⟩, ?_⟩
  rintro ⟨k, O, rfl⟩
  exact M k O
 simpa using X.length_eq
theorem Iz : ∀ {w l : Li}, (∀ x, x ∈ w → x = 0) → D5 w l = 0
 | [], _, _ => rfl
 | _ :: _, [], _ => rfl
 | a :: w, x :: l, h => by simp only [D5]; rw [h a (by simp), Iz fun y G => h y (by simp [G])]; omega
theorem Sb {n : Nw} {p : Plan} (G : Nat → Nat) (h : ∀ (i : Nat) (s : Sg) (r : Int) (f t : Nat), n.Segments[i]? = some s → p.Rates[i]? = some r → r ≠ 0 → (B0 s r).1 = (f : Int) → (B0 s r).2 = (t : Int) → t < n.Nodes.length → G f < G t) : Im n p := by
 intro M hl Z
 have : ∀ m k : Nat, G k = m → M[k]? ≠ some false := by
  intro m
  induction m using Nat.strongRecOn with
  | ind m ih =>
   intro k hm Y
   have hkl := (gs Y).1
   obtain ⟨i, s, r, f, hs, hr, W, X, O, hf⟩ := Z k Y
   exact ih (G f) (by have := h i s r f k hs hr W O X (by omega); omega) f rfl hf
 exact fun k => this _ k rfl
theorem Topo.acyc {n : Nw} {p : Plan} {l : Li} (h : Topo n p l) (X : ∀ v : Nat, v < n.Nodes.length → (v : Int) ∈ l) : Im n p := by
 refine Sb (fun v => l.idxOf (v : Int)) fun i s r f t hs hr M Z ht O => ?_
 have hm := X t O
 have W := List.idxOf_lt_length_of_mem hm
 have hk : l[l.idxOf (t : Int)]? = some (t : Int) := by rw [gq W, List.getElem_idxOf W]
 have := h.topo _ _ hk i s r ⟨hs, hr, M⟩ ht
 rw [Z] at this
 obtain ⟨j, hj, Y⟩ := List.mem_take_iff_getElem.1 this
 have G : j < l.length := by omega
 have h2 : l.idxOf (f : Int) ≤ j := by
  rw [← Y]
  have := h.nodup.idxOf_getElem j G
  omega
 omega
theorem Ta {l : Li} {m : Nat} (O : ∀ v, v ∈ l → 0 ≤ v ∧ v < (m : Int)) (M : l.Nodup) {v : Nat} (hv : v < m) (h : (v : Int) ∉ l) : l.length < m := by
 have := (List.nodup_cons.2 ⟨h, M⟩).length_le_of_subset (l₂ := (List.range m).map fun v : Nat => (v : Int)) fun x G => by
  rcases List.mem_cons.1 G with rfl | G
  ·exact List.mem_map.2 ⟨v, List.mem_range.2 hv, rfl⟩
  ·have := O x G
   exact List.mem_map.2 ⟨x.toNat, List.mem_range.2 (by omega), by omega⟩
 simp at this; omega
theorem Topo.uniq {n : Nw} {p : Plan} {l l' : Li} (h : Topo n p l) (X : Topo n p l') (e : l.length = l'.length) : l = l' := by
 have M : ∀ {l l' : Li} {k : Nat} {v v' : Int}, Topo n p l → Topo n p l' → l.take k = l'.take k → l[k]? = some v → l'[k]? = some v' → ¬ v < v' := fun {l l' k v v'} h X Y O G aa => by
  have hr := h.rng v (mg O)
  obtain ⟨j, rfl⟩ := Ep hr.1
  have hm : (j : Int) ∉ l.take k := fun hm => by
   obtain ⟨i, hi, he⟩ := List.mem_take_iff_getElem.1 hm
   have Z := (gs O).1
   have := (List.getElem_inj h.nodup (i := i) (j := k) (h₀ := by omega) (h₁ := Z)).1 (by rw [he]; exact (gs O).2.symm)
   omega
  obtain ⟨i, s, r, hf, h1, h2⟩ := X.least k v' G j aa (by rw [← Y]; exact hm)
  rw [← Y] at h2
  exact h2 (h.topo k j O i s r hf h1)
 have : ∀ k, k ≤ l.length → l.take k = l'.take k := fun k => by
  induction k with
  | zero => intro _; simp
  | succ k W =>
   intro Y
   have W := W (by omega)
   have O : l[k]? = some l[k] := gq (by omega)
   have G : l'[k]? = some l'[k] := gq (by omega)
   have := M h X W O G
   have := M X h W.symm G O
   rw [List.take_add_one, List.take_add_one, W, O, G, show l[k] = l'[k] by omega]
 have := this l.length (by omega)
 rw [List.take_length] at this
 rw [this, e, List.take_length]
theorem Uw {n : Nw} (X : NetC n) {p : Plan} (O : p.Rates.length = n.Segments.length) : Ok (M5 n p) fun r => (r.length : Int) < (n.Nodes.length : Int) ↔ ¬ Im n p := by
 refine (Tz X O).mono fun r ⟨M, G⟩ => ?_
 rcases G with G | ⟨⟨v, Y, W⟩, G⟩
 ·have := Tf M.rng M.nodup G
  exact ⟨fun h => by omega, fun h => absurd (M.acyc G) h⟩
 ·have := Ta M.rng M.nodup Y W
  exact ⟨fun _ => G, fun _ => by omega⟩
def Uc (n : Nw) (p : Plan) : Prop := p.Rates.length = n.Segments.length ∧ p.Ports.length = n.Ports.length ∧ p.Pumps.length = n.Stations.length
def Mk (s : Sg) (r : Int) : Prop := -1000 ≤ r ∧ r ≤ 1000 ∧ -s.Capacity ≤ r ∧ r ≤ s.Capacity
def Rng (n : Nw) (p : Plan) : Prop := ∀ (k : Nat) (r : Int) (s : Sg), p.Rates[k]? = some r → n.Segments[k]? = some s → Mk s r
def iH (p : Plan) : Prop := ∀ (k : Nat) (x : Int), p.Ports[k]? = some x → -1000 ≤ x ∧ x ≤ 1000
def Bal (n : Nw) (p : Plan) : Prop := ∀ v : Nat, v < n.Nodes.length → D5 (wt n v) p.Rates + D5 (wp n v) p.Ports = 0
def FlowRes (n : Nw) (p : Plan) (r : Int) : Prop := (¬ Uc n p ∧ r = 9) ∨ (Uc n p ∧ ((¬ Rng n p ∧ r = 1) ∨ (Rng n p ∧ ((¬ iH p ∧ r = 1) ∨ (iH p ∧ ((¬ Bal n p ∧ r = 12) ∨ (Bal n p ∧ ((¬ Im n p ∧ r = 13) ∨ (Im n p ∧ r = 0)))))))))
theorem FlowRes.uniq {n : Nw} {p : Plan} {r r' : Int} (h : FlowRes n p r) (Y : FlowRes n p r') : r = r' := by
 rcases h with ⟨a, rfl⟩ | ⟨a, ⟨b, rfl⟩ | ⟨b, ⟨c, rfl⟩ | ⟨c, ⟨d, rfl⟩ | ⟨d, ⟨e, rfl⟩ | ⟨e, rfl⟩⟩⟩⟩⟩ <;>
  rcases Y with ⟨G, rfl⟩ | ⟨G, ⟨M, rfl⟩ | ⟨M, ⟨O, rfl⟩ | ⟨O, ⟨W, rfl⟩ | ⟨W, ⟨X, rfl⟩ | ⟨X, rfl⟩⟩⟩⟩⟩ <;> first | rfl | contradiction
theorem Bal.all {n : Nw} (X : NetC n) {p : Plan} (h : Bal n p) (v : Nat) : D5 (wt n v) p.Rates + D5 (wp n v) p.Ports = 0 := by
 by_cases O : v < n.Nodes.length
 ·exact h v O
 ·rw [Iz, Iz]; rfl
  ·intro x W
   obtain ⟨k, G⟩ := List.getElem?_of_mem W
   unfold wp at G
   rw [List.getElem?_map] at G
   obtain ⟨s, M, rfl⟩ := Option.map_eq_some_iff.1 G
   have := X.ports k s M
   exact Eb (by omega)
  ·intro x W
   obtain ⟨k, G⟩ := List.getElem?_of_mem W
   unfold wt at G
   rw [List.getElem?_map] at G
   obtain ⟨s, M, rfl⟩ := Option.map_eq_some_iff.1 G
   have := (X.segs k s M).1
   rw [Eb (a := s.To) (by omega), Eb (a := s.From) (by omega)]; rfl
theorem FlowRes.flow {n : Nw} (G : NetC n) {p : Plan} (h : FlowRes n p 0) : FlowOk n p := by
 rcases h with ⟨_, h⟩ | ⟨a, ⟨_, h⟩ | ⟨b, ⟨_, h⟩ | ⟨c, ⟨_, h⟩ | ⟨d, ⟨_, h⟩ | ⟨e, _⟩⟩⟩⟩⟩
 ·cases h
 ·cases h
 ·cases h
 ·cases h
 ·cases h
 ·exact ⟨a.1, a.2.1, a.2.2, b, c, fun v _ => d.all G v, e⟩
theorem FlowOk.res {n : Nw} (G : NetC n) {p : Plan} (h : FlowOk n p) : FlowRes n p 0 :=
 .inr ⟨⟨h.rl, h.pl, h.ml⟩, .inr ⟨h.rng, .inr ⟨h.prt, .inr ⟨fun v M => h.bal v (by have := G.nodes; omega), .inr ⟨h.acyc, rfl⟩⟩⟩⟩⟩
theorem Rng.all {n : Nw} {p : Plan} (hl : Uc n p) (h : Rng n p) (k : Nat) (r : Int) (G : p.Rates[k]? = some r) : -1000 ≤ r ∧ r ≤ 1000 := by
 have M := (gs G).1
 have O : n.Segments[k]? = some (n.Segments[k]'(by have := hl.1; omega)) := gq _
 have := h k r _ G O
 exact ⟨this.1, this.2.1⟩
theorem Og {r m : Int} (G : 0 ≤ m ∧ m ≤ 1000000) : Kw r m = true ↔ -m ≤ r ∧ r ≤ m := by
 unfold Kw
 rw [Bc (by omega)]
 simp
theorem eK {n : Nw} (X : NetC n) {p : Plan} : Ok (Hg n p) (FlowRes n p) := by
 have h1 := X.nodes; have h2 := X.segs1; have h3 := X.ports1
 unfold Hg
 refine .bind' (.eq X.check (Cl (fun h => absurd rfl h) fun _ => Cr (Q := ¬ Uc n p) (by unfold Uc; simp; omega) (fun h => .pure (.inl ⟨h, rfl⟩)) fun W => ?_))
 have W := Classical.not_not.1 W
 have l1 := W.1; have l2 := W.2.1
 have hrk : ∀ (k : Nat) (s : Sg), n.Segments[k]? = some s → ∃ r, p.Rates[k]? = some r := fun k s Z => ⟨_, gq (by have := (gs Z).1; omega)⟩
 refine .bind (kD (d := 1) (P := fun k s => ∃ r, p.Rates[k]? = some r ∧ ¬ Mk s r) fun k s Z => ?_) ?_
 ·obtain ⟨r, G⟩ := hrk k s Z
  have hc := (X.segs k s Z).2
  unfold Hg.B2
  refine .bind' (.eq (Bg G) (.test ?_))
  rw [Bool.not_eq_true', ← Bool.not_eq_true, Og (by omega)]
  refine ⟨fun h => ⟨r, G, fun M => h (by unfold Mk at M; dsimp only; omega)⟩, fun ⟨r', aa, h⟩ M => ?_⟩
  rw [G] at aa; cases aa
  exact h (by unfold Mk; dsimp only at M; omega)
 rintro _ (⟨⟨k, s, Z, r, G, h⟩, rfl⟩ | ⟨h, rfl⟩)
 ·exact .pure (.inr ⟨W, .inl ⟨fun M => h (M k r s G Z), rfl⟩⟩)
 have M : Rng n p := fun k r s G Z => Classical.not_not.1 fun X => h k s Z ⟨r, G, X⟩
 simp only [Sum.elim_inl]
 unfold Hg.J1
 refine .bind' (.eq (Fa (P := fun x => Kz x) fun _ _ _ => rfl) (Cr (H4 (Q := fun x => ¬ (-1000 ≤ x ∧ x ≤ 1000)) fun k x _ => ?_) (fun ⟨k, x, hx, O⟩ => .pure (.inr ⟨W, .inr ⟨M, .inl ⟨fun Y => O (Y k x hx), rfl⟩⟩⟩)) fun Y => ?_))
 ·unfold Kz
  rw [Bool.not_eq_true', ← Bool.not_eq_true, Og (by omega)]
 have Y : iH p := fun k x hx => Classical.not_not.1 fun O => Y ⟨k, x, hx, O⟩
 refine .bind (bA X l1 l2 (M.all W) Y) fun r G => ?_
 have he : r.come = r.leave ↔ Bal n p := by
  refine ⟨fun he v hv => ?_, fun O => Arr.ext' (List.ext_getElem (by rw [r.come.h, r.leave.h]) fun i a b => ?_)⟩
  ·have := G.diff v (by omega)
   rw [he] at this
   omega
  ·have := G.diff i (by rw [← r.come.h]; exact a)
   rw [Hx (gq a), Hx (gq b)] at this
   have := O.all X i
   omega
 refine Cr (Q := ¬ Bal n p) (by rw [← he]; simp) (fun h => .pure (.inr ⟨W, .inr ⟨M, .inr ⟨Y, .inl ⟨h, rfl⟩⟩⟩⟩)) fun O => ?_
 have O := Classical.not_not.1 O
 refine .bind (Uw X l1) fun r G => Cr (Q := ¬ Im n p) (by rw [← G]; simp) (fun h => .pure (.inr ⟨W, .inr ⟨M, .inr ⟨Y, .inr ⟨O, .inl ⟨h, rfl⟩⟩⟩⟩⟩)) fun ha => ?_
 exact .pure (.inr ⟨W, .inr ⟨M, .inr ⟨Y, .inr ⟨O, .inr ⟨Classical.not_not.1 ha, rfl⟩⟩⟩⟩⟩)
theorem Va {n : Nw} (G : NetC n) {p : Plan} (h : FlowOk n p) : Hg n p = some 0 := by
 obtain ⟨r, M, O⟩ := eK G (p := p)
 rw [M, O.uniq (h.res G)]
theorem bK {a b c : Int} : B8 a b c = true ↔ b ≤ a ∧ a ≤ c := by simp [B8]
theorem Da {a b c : Int} : (!(B8 a b c)) = true ↔ ¬ (b ≤ a ∧ a ≤ c) := by rw [← bK]; simp
theorem W7 {x : Bt} : Ok (Nh x) fun r => r = true ↔ Iw x := by
 have X : ¬ (1 ≤ x.size ∧ x.size ≤ 12 ∧ low (ch x 0)) → Ok (Nh.J1 x true) fun r => r = true ↔ Iw x := fun h => by
  unfold Nh.J1
  exact .pure ⟨fun h => (by cases h), fun hn => absurd hn.1 h⟩
 unfold Nh
 refine A0 (fun h => X (by omega)) fun h1 => A0 (fun h => X (by omega)) fun h2 => ?_
 refine .bind' (.eq (Md (k := 0) (by omega)) (A0 (fun h => X (fun hl => by have := hl.2.2; unfold low at this; dsimp only at h; omega)) fun M => ?_))
 dsimp only at M ⊢
 by_cases h4 : ch x 0 > 122
 ·rw [decide_eq_true h4]; exact X (fun hl => by have := hl.2.2; unfold low at this; omega)
 rw [decide_eq_false h4]
 unfold Nh.J1
 refine A9 (fun h => by cases h) fun _ => ?_
 refine .bind (Q := fun o : Bool ⊕ Unit => (o = .inl false ∧ ∃ k, k < x.size ∧ ¬ (low (ch x k) ∨ (48 ≤ ch x k ∧ ch x k ≤ 57) ∨ ch x k = 45)) ∨ (o = .inr () ∧ ∀ k, k < x.size → low (ch x k) ∨ (48 ≤ ch x k ∧ ch x k ≤ 57) ∨ ch x k = 45)) ?_ ?_
 ·refine .loop (fun i : Int => 0 ≤ i ∧ i ≤ (x.size : Int) ∧ ∀ k : Nat, (k : Int) < i → low (ch x k) ∨ (48 ≤ ch x k ∧ ch x k ≤ 57) ∨ ch x k = 45) (fun i => x.size - i.toNat) ⟨by omega, by omega, fun k h => by omega⟩ (by omega) ?_
  rintro i ⟨i0, i1, i2⟩
  obtain ⟨i, rfl⟩ := Ep i0
  unfold Nh.B3
  refine A0 (fun hlt => .bind' (.eq (Md (by omega)) ?_)) fun h => .pure (.inr ⟨rfl, fun k hk => i2 k (by omega)⟩)
  have W : low (ch x i) ∨ (48 ≤ ch x i ∧ ch x i ≤ 57) ∨ ch x i = 45 → Ok (Nh.J4 i false) (Sum.elim (fun j : Int => (0 ≤ j ∧ j ≤ (x.size : Int) ∧ ∀ k : Nat, (k : Int) < j → low (ch x k) ∨ (48 ≤ ch x k ∧ ch x k ≤ 57) ∨ ch x k = 45) ∧ x.size - j.toNat < x.size - (i : Int).toNat) fun o : Bool ⊕ Unit => (o = .inl false ∧ ∃ k, k < x.size ∧ ¬ (low (ch x k) ∨ (48 ≤ ch x k ∧ ch x k ≤ 57) ∨ ch x k = 45)) ∨ (o = .inr () ∧ ∀ k, k < x.size → low (ch x k) ∨ (48 ≤ ch x k ∧ ch x k ≤ 57) ∨ ch x k = 45)) := fun hg => by
   unfold Nh.J4
   refine A9 (fun h => by cases h) fun _ => .pure ?_
   rw [Bc (by omega)]
   refine ⟨⟨by omega, by omega, fun k hk => ?_⟩, by omega⟩
   by_cases hki : k = i
   ·subst hki; exact hg
   ·exact i2 k (by omega)
  have O : ¬ (low (ch x i) ∨ (48 ≤ ch x i ∧ ch x i ≤ 57) ∨ ch x i = 45) → Ok (Nh.J4 i true) (Sum.elim (fun j : Int => (0 ≤ j ∧ j ≤ (x.size : Int) ∧ ∀ k : Nat, (k : Int) < j → low (ch x k) ∨ (48 ≤ ch x k ∧ ch x k ≤ 57) ∨ ch x k = 45) ∧ x.size - j.toNat < x.size - (i : Int).toNat) fun o : Bool ⊕ Unit => (o = .inl false ∧ ∃ k, k < x.size ∧ ¬ (low (ch x k) ∨ (48 ≤ ch x k ∧ ch x k ≤ 57) ∨ ch x k = 45)) ∨ (o = .inr () ∧ ∀ k, k < x.size → low (ch x k) ∨ (48 ≤ ch x k ∧ ch x k ≤ 57) ∨ ch x k = 45)) := fun hg => by
   unfold Nh.J4
   exact A9 (fun _ => .pure (.inl ⟨rfl, i, by omega, hg⟩)) fun h => by cases h
  have G : (ch x i < 48 ∨ 57 < ch x i) → ¬ low (ch x i) → Ok (Nh.J4 i (ch x i != 45)) _ := fun h1 h2 => by
   by_cases M : ch x i = 45
   ·rw [M]; exact W (.inr (.inr M))
   ·rw [show (ch x i != 45) = true by simpa using M]; exact O (fun h => h.elim h2 fun h => h.elim (fun h => by omega) M)
  dsimp only
  refine A0 (fun h5 => A0 (fun Y => G (by omega) (by unfold low; omega)) fun Y => A0 (fun Z => G (by omega) (by unfold low; omega)) fun Z => W (by omega)) fun h5 => A0 (fun Y => A0 (fun Z => G (by omega) (by unfold low; omega)) fun Z => A0 (fun h8 => G (by omega) (by unfold low; omega)) fun h8 => W (by omega)) fun Y => W (by unfold low; omega)
 ·rintro _ (⟨rfl, k, hk, h⟩ | ⟨rfl, h⟩)
  ·exact .pure ⟨fun h => (by cases h), fun hn => absurd (hn.2 k hk) h⟩
  ·unfold Nh.J2
   exact .pure ⟨fun _ => ⟨⟨by omega, by omega, by unfold low; omega⟩, h⟩, fun _ => rfl⟩
theorem dZ {l : List Bt} (hl : l.length ≤ 1000000) : Ok (Nt l) fun r => r = true ↔ hN l := by
 unfold Nt
 refine .bind (kD (d := true) (P := aH l) fun k x G => ?_) ?_
 ·have Y := (gs G).1
  unfold Nt.B2
  refine .bind (Wg (k := k) (d := true) (P := fun y => x.toList = y.toList) (by omega) hl (fun i y X W => ?_) ?_) ?_
  ·unfold Nt.B4
   refine A0 (fun _ => .bind' (.eq (Bg W) (A9 (fun h => .pure (.inl ⟨Jc.1 h, rfl⟩)) fun h => .pure (.inr ⟨fun O => ?_, rfl⟩)))) fun h => by omega
   rw [Jc.2 O] at h; cases h
  ·unfold Nt.B4
   rw [if_neg (by simp)]
  ·rintro _ (⟨h, rfl⟩ | ⟨h, rfl⟩)
   ·exact .pure (.inl ⟨h, rfl⟩)
   ·exact .pure (.inr ⟨h, rfl⟩)
 ·rintro _ (⟨h, rfl⟩ | ⟨h, rfl⟩)
  ·exact .pure ⟨fun _ => h, fun _ => rfl⟩
  ·exact .pure ⟨fun h => (by cases h), fun ⟨k, x, G, M⟩ => absurd M (h k x G)⟩
theorem gI {s : Sg} (h2 : 2 ≤ s.Points.length ∧ s.Points.length ≤ 1000) : Ok (Ng s) fun r => r = true ↔ PipeOk s := by
 obtain ⟨p0, pl, e0, el, i0, il⟩ := Wc h2
 have W : (PipeOk s → False) → Ok (Ng.J1 s true) fun r => r = true ↔ PipeOk s := fun h => by
  unfold Ng.J1; exact .pure ⟨fun h => (by cases h), fun G => absurd G h⟩
 unfold Ng
 refine Cr (Q := s.From = s.To) (by simp) (fun h => W fun G => G.ends h) fun a1 => Cr Da (fun h => W fun G => h G.cap) fun a2 => Cr Da (fun h => W fun G => h G.resist) fun a3 => Cr Da (fun h => W fun G => h G.wave) fun a4 => ?_
 rw [i0, il]
 refine .bind' (.pure (Cr (Q := p0.At ≠ 0) (by simp) (fun h => W fun G => h (G.first _ e0)) fun Z => .bind' (.pure ?_)))
 dsimp only
 by_cases Y : pl.At = s.Capacity
 ·rw [show (pl.At != s.Capacity) = false by simpa using Y]
  unfold Ng.J1
  refine A9 (fun h => by cases h) fun _ => .bind (kD (d := false) (P := Ic s) fun k p G => ?_) ?_
  ·have X : ∀ b : Bool, (b = true ↔ Ic s k p) → Ok (Ng.J4 b) fun o => (Ic s k p ∧ o = .inr false) ∨ (¬ Ic s k p ∧ o = .inl ()) := fun b h => by unfold Ng.J4; exact .test h
   unfold Ng.B3
   refine A0 (fun Z => ?_) fun Z => Cr Da (fun h => X _ ⟨fun _ => .inl fun O => h O.1, fun _ => rfl⟩) fun h1 => X _ ?_
   ·obtain ⟨q, hq, hi⟩ := V5 h2.2 G (by omega)
    refine .bind' (.eq hi (A0 (fun h => X _ ⟨fun _ => .inr ⟨q, by omega, hq, h⟩, fun _ => rfl⟩) fun h => Cr Da (fun h => X _ ⟨fun _ => .inl fun O => h O.1, fun _ => rfl⟩) fun h1 => X _ ?_))
    rw [Da]
    refine ⟨fun h => .inl fun O => h O.2, fun M h3 => ?_⟩
    have := (Wd ⟨Classical.not_not.1 h1, h3⟩ (by omega) hq).1 M
    dsimp only at h; omega
   ·rw [Da]
    refine ⟨fun h => .inl fun O => h O.2, fun M h3 => ?_⟩
    rcases M with M | ⟨q, hk, _⟩
    ·exact M ⟨Classical.not_not.1 h1, h3⟩
    ·omega
  ·rintro _ (⟨⟨k, p, G, M⟩, rfl⟩ | ⟨h, rfl⟩)
   ·exact .pure ⟨fun h => (by cases h), fun h => absurd M (h.pts k p G)⟩
   ·refine .pure ⟨fun _ => ⟨a1, Classical.not_not.1 a2, Classical.not_not.1 a3, Classical.not_not.1 a4, fun p G => ?_, fun p G => ?_, h⟩, fun _ => rfl⟩
    ·rw [e0] at G; cases G; exact Classical.not_not.1 Z
    ·rw [el] at G; cases G; exact Y
 ·rw [show (pl.At != s.Capacity) = true by simpa using Y]
  exact W fun G => Y (G.last _ el)
theorem U9 {n : Nw} (h1 : n.Segments.length ≤ 1000) (h2 : n.Ports.length ≤ 1000) (G : n.Stations.length ≤ 1000) : Ok (Ni n) fun r => r.l = Z1 n := by
 unfold Ni
 refine .bind (Hy (g := (·.Name)) (fun _ _ _ => rfl) h1) ?_
 rintro _ rfl
 unfold Ni.J1
 refine .bind (Hy (g := (·.Name)) (fun _ _ _ => rfl) h2) ?_
 rintro _ rfl
 unfold Ni.J2
 refine .bind (Hy (g := (·.Name)) (fun _ _ _ => rfl) G) ?_
 rintro _ rfl
 unfold Ni.J3
 exact .pure rfl
theorem bF {n : Nw} : Ok (F9 n) (NetRes n) := by
 unfold F9
 refine Cr (Q := ¬ (1 ≤ n.Nodes.length ∧ n.Nodes.length ≤ 24 ∧ n.Segments.length ≤ 32 ∧ n.Ports.length ≤ 24 ∧ n.Stations.length ≤ 12)) (by simp only [Bool.or_eq_true, Da, decide_eq_true_eq]; omega) (fun h => .pure (.inl ⟨fun W => h W.1, rfl⟩)) fun h0 => ?_
 refine .bind (kD (d := 4) (P := fun _ s => ¬ Ml s) fun k s G => ?_) ?_
 ·unfold F9.B24 Ml
  exact .test (by rw [Da]; omega)
 rintro _ (⟨⟨k, s, G, h⟩, rfl⟩ | ⟨h1, rfl⟩)
 ·exact .pure (.inl ⟨fun W => h (W.2 k s G), rfl⟩)
 have W : Lim n := ⟨Classical.not_not.1 h0, fun k s G => Classical.not_not.1 (h1 k s G)⟩
 have hnl := W.1
 have hn := W.sane
 simp only [Sum.elim_inl]
 unfold F9.J1
 refine .bind (U9 hn.segs hn.ports hn.sts) fun r hr => .bind (Ji (d := 3) (P := fun k => ∃ l, (Z1 n)[k]? = some l ∧ Um l) fun k O => ?_) ?_
 ·obtain ⟨l, g1, g2⟩ := Vz hr O
  unfold F9.B21
  refine .bind' (.eq (Bg g1) (.bind (kD (d := 3) (P := fun _ x => ¬ Iw x) fun j x hx => ?_) ?_))
  ·unfold F9.B23
   exact .bind W7 fun b hb => .test (by rw [← hb]; simp)
  ·rintro _ (⟨h, rfl⟩ | ⟨h, rfl⟩)
   ·exact .pure (.inl ⟨⟨l, g2, h⟩, rfl⟩)
   ·refine .pure (.inr ⟨fun ⟨m, g3, j, x, hx, hm⟩ => ?_, rfl⟩)
    rw [g2] at g3; cases g3; exact h j x hx hm
 rintro _ (⟨h, rfl⟩ | ⟨h, rfl⟩)
 ·exact .pure (.inr ⟨W, .inl ⟨h, rfl⟩⟩)
 have hf : ¬ Hm n := fun ⟨k, O, h'⟩ => h k O h'
 simp only [Sum.elim_inl]
 unfold F9.J2
 refine .bind (Ji (d := 7) (P := fun k => ∃ l, (Z1 n)[k]? = some l ∧ hN l) fun k O => ?_) ?_
 ·obtain ⟨l, g1, g2⟩ := Vz hr O
  unfold F9.B20
  have hll : l.length ≤ 1000000 := by
   have := mg g2
   simp only [Z1, List.mem_cons, List.not_mem_nil, or_false] at this
   rcases this with rfl | rfl | rfl | rfl <;> simp <;> omega
  refine .bind' (.eq (Bg g1) (.bind (dZ hll) fun b hb => .test ?_))
  rw [hb]
  exact ⟨fun h => ⟨l, g2, h⟩, fun ⟨m, g3, h⟩ => by rw [g2] at g3; cases g3; exact h⟩
 rintro _ (⟨h, rfl⟩ | ⟨h2, rfl⟩)
 ·exact .pure (.inr ⟨W, .inr ⟨hf, .inl ⟨.inl h, rfl⟩⟩⟩)
 simp only [Sum.elim_inl]
 unfold F9.J3
 refine .bind (kD (d := 7) (P := Ul n.Stations) fun k x hx => ?_) ?_
 ·have O := (gs hx).1
  unfold F9.B17
  refine .bind (Wg (l := n.Stations) (k := k) (d := 7) (P := fun y => x.Node = y.Node) (by omega) (by omega) (fun i y hi hy => ?_) ?_) ?_
  ·unfold F9.B19
   exact A0 (fun _ => .bind' (.eq (Bg hy) (C7 (fun h => .pure (.inl ⟨h, rfl⟩)) fun h => .pure (.inr ⟨h, rfl⟩)))) fun h => by omega
  ·unfold F9.B19
   rw [if_neg (by simp)]
  ·rintro _ (⟨h, rfl⟩ | ⟨h, rfl⟩)
   ·exact .pure (.inl ⟨h, rfl⟩)
   ·exact .pure (.inr ⟨h, rfl⟩)
 rintro _ (⟨h, rfl⟩ | ⟨h3, rfl⟩)
 ·exact .pure (.inr ⟨W, .inr ⟨hf, .inl ⟨.inr h, rfl⟩⟩⟩)
 have ht : ¬ (Mv n ∨ Mu n) := by
  rintro (⟨k, O, h⟩ | ⟨k, x, hx, h⟩)
  ·exact h2 k O h
  ·exact h3 k x hx h
 have Z : ¬ Mm n → NetRes n 8 := fun h => .inr ⟨W, .inr ⟨hf, .inr ⟨ht, .inl ⟨h, rfl⟩⟩⟩⟩
 have e : wr ((n.Nodes.length : Int) - 1) = (n.Nodes.length : Int) - 1 := Bc (by omega)
 have M : ∀ k : Int, (!(B8 k 0 ((n.Nodes.length : Int) - 1))) = true ↔ ¬ At n k := fun k => by rw [Da]; unfold At; omega
 simp only [Sum.elim_inl]
 unfold F9.J4
 refine .bind (kD (d := 8) (P := fun _ s => ¬ (At n s.From ∧ At n s.To)) fun k s G => ?_) ?_
 ·unfold F9.B16
  refine .test ?_
  rw [e, Bool.or_eq_true, M, M]
  exact ⟨fun h hc => h.elim (fun h => h hc.1) fun h => h hc.2, fun h => Classical.byContradiction fun hc => h ⟨Classical.byContradiction fun h => hc (.inl h), Classical.byContradiction fun h => hc (.inr h)⟩⟩
 rintro _ (⟨⟨k, s, G, h⟩, rfl⟩ | ⟨k1, rfl⟩)
 ·exact .pure (Z fun O => h (O.1 k s G))
 simp only [Sum.elim_inl]
 unfold F9.J5
 refine .bind (kD (d := 8) (P := fun _ s => ¬ At n s.Node) fun k s G => ?_) ?_
 ·unfold F9.B15
  exact .test (by rw [e]; exact M _)
 rintro _ (⟨⟨k, s, G, h⟩, rfl⟩ | ⟨k2, rfl⟩)
 ·exact .pure (Z fun O => h (O.2.1 k s G))
 simp only [Sum.elim_inl]
 unfold F9.J6
 refine .bind (kD (d := 8) (P := fun _ s => ¬ At n s.Node) fun k s G => ?_) ?_
 ·unfold F9.B14
  exact .test (by rw [e]; exact M _)
 rintro _ (⟨⟨k, s, G, h⟩, rfl⟩ | ⟨k3, rfl⟩)
 ·exact .pure (Z fun O => h (O.2.2 k s G))
 have O : Mm n := ⟨fun k s G => Classical.not_not.1 (k1 k s G), fun k s G => Classical.not_not.1 (k2 k s G), fun k s G => Classical.not_not.1 (k3 k s G)⟩
 have X : ¬ Proper n → NetRes n 9 := fun h => .inr ⟨W, .inr ⟨hf, .inr ⟨ht, .inr ⟨O, .inl ⟨h, rfl⟩⟩⟩⟩⟩
 simp only [Sum.elim_inl]
 unfold F9.J7
 refine .bind (kD (d := 9) (P := fun _ s => ¬ PipeOk s) fun k s G => ?_) ?_
 ·unfold F9.B13
  exact .bind (gI (W.pts G)) fun b hb => .test (by rw [← hb]; simp)
 rintro _ (⟨⟨k, s, G, h⟩, rfl⟩ | ⟨p1, rfl⟩)
 ·exact .pure (X fun Y => h (Y.segs k s G))
 simp only [Sum.elim_inl]
 unfold F9.J8
 refine .bind (kD (d := 9) (P := fun _ s => ¬ (0 ≤ s.Pressure ∧ s.Pressure ≤ 100000000)) fun k s G => ?_) ?_
 ·unfold F9.B12
  exact .test Da
 rintro _ (⟨⟨k, s, G, h⟩, rfl⟩ | ⟨p2, rfl⟩)
 ·exact .pure (X fun Y => h (Y.ports k s G))
 simp only [Sum.elim_inl]
 unfold F9.J9
 refine .bind (kD (d := 9) (P := fun _ s => ¬ StnOk s) fun k s G => ?_) ?_
 ·unfold F9.B11
  refine .test ?_
  simp only [Bool.or_eq_true, Da]
  exact ⟨fun h G => h.elim (fun h => h G.head) fun h => h.elim (fun h => h G.fall) fun h => h G.suction, fun h => Classical.byContradiction fun hn => h ⟨by omega, by omega, by omega⟩⟩
 rintro _ (⟨⟨k, s, G, h⟩, rfl⟩ | ⟨p3, rfl⟩)
 ·exact .pure (X fun Y => h (Y.sts k s G))
 simp only [Sum.elim_inl]
 unfold F9.J10
 refine Cr (Q := ¬ ((-100000 ≤ n.Vapour ∧ n.Vapour ≤ 100000000) ∧ 0 ≤ n.Settle ∧ n.Settle ≤ 100)) (by rw [Bool.or_eq_true, Da, Da]; omega) (fun h => .pure (X fun Y => h ⟨Y.vapour, Y.settle⟩)) fun h => ?_
 have h := Classical.not_not.1 h
 exact .pure (.inr ⟨W, .inr ⟨hf, .inr ⟨ht, .inr ⟨O, .inr ⟨⟨fun k s G => Classical.not_not.1 (p1 k s G), fun k s G => Classical.not_not.1 (p2 k s G), fun k s G => Classical.not_not.1 (p3 k s G), h.1, h.2⟩, rfl⟩⟩⟩⟩⟩)
theorem bP {n : Nw} (h : NetW n) : F9 n = some 0 := by
 obtain ⟨r, G, M⟩ := bF
 rw [G, M.uniq h.res]
theorem bQ {n : Nw} (h : NetV n) : F9 n = some 0 := bP h.w
theorem eS {n : Nw} (h : NetOk n) : F9 n = some 0 := bQ h.v
theorem fM {x : Int} (h : -1000000 ≤ x ∧ x ≤ 1000000) : He x = max x (-x) := by
 unfold He
 rw [Bc (by omega), Int.zero_sub]
theorem Js {s : Sg} {r : Int} : Hj s r = B0 s r := rfl
structure Sum16 (b : Int) (st : Int × Int) (d : Int) : Prop where
 come : 0 ≤ st.1 ∧ st.1 ≤ b
 leave : 0 ≤ st.2 ∧ st.2 ≤ b
 diff : st.1 - st.2 = d
theorem Wt {n : Nw} (hn : NetC n) {p : Plan} (h4 : p.Rates.length = n.Segments.length) (h5 : p.Ports.length = n.Ports.length) (hr : ∀ (k : Nat) (r : Int), p.Rates[k]? = some r → -1000 ≤ r ∧ r ≤ 1000)
  (hp : ∀ (k : Nat) (x : Int), p.Ports[k]? = some x → -1000 ≤ x ∧ x ≤ 1000) (v : Nat) : Ok (Hi n p (v : Int)) fun r => r.1 - r.2 = D5 (wt n v) p.Rates + D5 (wp n v) p.Ports := by
 have h2 := hn.segs1; have h3 := hn.ports1
 unfold Hi
 refine .bind (.forS (fun k (Y : Int × Int) => Sum16 (1000 * k) Y (D5 (wt n v) (p.Rates.take k))) ⟨by simp, by simp, by simp [Hz]⟩ ?_ fun Y h => h) ?_
 ·rintro k s ⟨a, b⟩ Z ⟨i1, i2, i3⟩
  dsimp only at i1 i2 i3
  have hkl := (gs Z).1
  have G : p.Rates[k]? = some p.Rates[k] := gq (by omega)
  have X := hr k _ G
  have he := (hn.segs k s Z).1
  have O := E2 (w := wt n v) (a := ind s.To v - ind s.From v) (by unfold wt; rw [List.getElem?_map, Z]; rfl) G
  generalize p.Rates[k] = r at G X O
  unfold Hi.B5
  refine .bind' (.eq (Bg G) (C7 (fun h0 => ?_) fun h0 => ?_))
  ·dsimp only at h0
   subst h0
   unfold Hi.J6
   rw [O]
   exact .pure ⟨by dsimp only; omega, by dsimp only; omega, by simp; omega⟩
  dsimp only at h0 ⊢
  have ha := fM (x := r) (by omega)
  rw [ha]
  have j7 : ∀ (j : Int), 0 ≤ j ∧ j ≤ 1000 * k + 1000 → ∀ l : Int, l = ind (B0 s r).1 v → j = b + max r (-r) * l → Ok (Hi.J7 (v : Int) s (a, b) (k, r) j) fun Y => Sum16 (1000 * ((k + 1 : Nat) : Int)) Y (D5 (wt n v) (p.Rates.take (k + 1))) := by
   intro j hj l hl hjl
   unfold Hi.J7 Hi.J6
   dsimp only
   rw [ha, Js]
   have aa : ∀ c : Int, c = ind (B0 s r).2 v → a + max r (-r) * c - j = D5 (wt n v) (p.Rates.take (k + 1)) := by
    intro c hc
    subst hc; subst hl; subst hjl
    rw [O]
    rcases Rb (s := s) h0 with ⟨e, hr0⟩ | ⟨e, hr0⟩
    ·rw [e]
     dsimp only
     rw [show max r (-r) = -r by omega, Int.neg_mul, Int.neg_mul, Int.sub_mul, Int.mul_comm r, Int.mul_comm r]; omega
    ·rw [e]
     dsimp only
     rw [show max r (-r) = r by omega, Int.sub_mul, Int.mul_comm r, Int.mul_comm r]; omega
   refine C7 (fun M => .pure ?_) fun M => .pure ?_
   ·rw [Bc (by omega)]
    have := aa 1 (by rw [M, Et])
    exact ⟨by dsimp only; omega, by dsimp only; omega, by dsimp only; omega⟩
   ·have := aa 0 (by rw [Eb M])
    exact ⟨by dsimp only; omega, by dsimp only; omega, by dsimp only; omega⟩
  rw [Js]
  refine C7 (fun M => j7 _ ?_ 1 (by rw [M, Et]) ?_) fun M => j7 _ ?_ 0 (by rw [Eb M]) ?_
  ·rw [Bc (by omega)]; omega
  ·rw [Bc (by omega)]; omega
  ·omega
  ·omega
 ·rintro ⟨a, b⟩ W
  rw [List.take_of_length_le (by omega)] at W
  unfold Hi.J1
  refine .bind (.forS (fun k (Y : Int × Int) => Sum16 (32000 + 1000 * k) Y (D5 (wt n v) p.Rates + D5 (wp n v) (p.Ports.take k))) ⟨by have := W.come; dsimp only at this ⊢; omega, by have := W.leave; dsimp only at this ⊢; omega, by have := W.diff; dsimp only at this ⊢; simp [Hz]; omega⟩ ?_ fun Y h => h) ?_
  ·rintro k s ⟨a, b⟩ Z ⟨i1, i2, i3⟩
   dsimp only at i1 i2 i3
   have hkl := (gs Z).1
   have G : p.Ports[k]? = some p.Ports[k] := gq (by omega)
   have X := hp k _ G
   have O := E2 (w := wp n v) (a := ind s.Node v) (by unfold wp; rw [List.getElem?_map, Z]; rfl) G
   generalize p.Ports[k] = r at G X O
   unfold Hi.B3 Hi.J4
   refine C7 (fun M => .bind' (.eq (Bg G) (.pure ?_))) fun M => .pure ?_
   ·rw [M, Et] at O
    dsimp only
    rw [Bc (x := 0 - r) (by omega), Bc (by omega), Bc (by omega), O]
    exact ⟨by dsimp only; omega, by dsimp only; omega, by dsimp only; omega⟩
   ·rw [Eb M] at O
    rw [O]
    exact ⟨by dsimp only; omega, by dsimp only; omega, by dsimp only; omega⟩
  ·rintro ⟨a, b⟩ W
   rw [List.take_of_length_le (by omega)] at W
   unfold Hi.J2
   exact .pure W.diff
theorem gK {n : Nw} (hn : NetC n) {p : Plan} (h4 : p.Rates.length = n.Segments.length) {out : Li} {there : List Bool} (iT : There n p out there) :
  Ok (forS (La.B3 n p (out, there)) 0 n.Nodes (-1)) fun k : Int => (k = -1 ∧ ∀ j : Nat, there[j]? = some false → Dw n p there j) ∨ ∃ j : Nat, k = (j : Int) ∧ there[j]? = some false ∧ (∀ i s r, Flw n p i s r → (B0 s r).2 = (j : Int) → (B0 s r).1 ∈ out) ∧ ∀ i : Nat, i < j → there[i]? = some false → Dw n p there i := by
 have h1 := hn.nodes; have h2 := hn.segs1; have i1 := iT.len
 refine .forS (fun m (k : Int) => (k = -1 ∧ ∀ j : Nat, j < m → there[j]? = some false → Dw n p there j) ∨ ∃ j : Nat, k = (j : Int) ∧ there[j]? = some false ∧ (∀ i s r, Flw n p i s r → (B0 s r).2 = (j : Int) → (B0 s r).1 ∈ out) ∧ ∀ i : Nat, i < j → there[i]? = some false → Dw n p there i) (.inl ⟨rfl, fun j h => absurd h (Nat.not_lt_zero _)⟩) ?_ ?_
 ·intro k x st hx M
  have hkl := (gs hx).1
  have ht : there[k]? = some there[k] := gq (by omega)
  unfold La.B3
  refine .bind' (.eq (Bg ht) ?_)
  refine .bind (Q := fun b => (b = true → there[k]? = some false ∧ ∀ (i : Nat) s r, i < n.Segments.length → Flw n p i s r → (B0 s r).2 = (k : Int) → (B0 s r).1 ∈ out) ∧ (b = false → there[k]? = some false → Dw n p there k)) ?_ ?_
  ·refine .forS (fun m (b : Bool) => (b = true → there[k]? = some false ∧ ∀ (i : Nat) s r, i < m → Flw n p i s r → (B0 s r).2 = (k : Int) → (B0 s r).1 ∈ out) ∧ (b = false → there[k]? = some false → Dw n p there k)) ?_ ?_ fun b h => h
   ·refine ⟨fun Z => ⟨by rw [ht]; simpa using Z, fun i _ _ h => absurd h (Nat.not_lt_zero _)⟩, fun Z G => ?_⟩
    rw [ht] at G; simp at G; simp [G] at Z
   ·intro i s b hs Z
    have hil := (gs hs).1
    obtain ⟨r, hr⟩ : ∃ ζ, p.Rates[i]? = some ζ := ⟨_, gq (by omega)⟩
    have he := (hn.segs i s hs).1
    have W : b = true → (r ≠ 0 → (B0 s r).2 = (k : Int) → (B0 s r).1 ∈ out) → there[k]? = some false ∧ ∀ (j : Nat) s r, j < i + 1 → Flw n p j s r → (B0 s r).2 = (k : Int) → (B0 s r).1 ∈ out := fun X hq => by
     obtain ⟨q1, q2⟩ := Z.1 X
     refine ⟨q1, fun j s' r' hj G O => ?_⟩
     by_cases hji : j = i
     ·subst hji
      have e1 := G.seg; have e2 := G.rate
      rw [hs] at e1; cases e1
      rw [hr] at e2; cases e2
      exact hq G.ne O
     ·exact q2 j s' r' (by omega) G O
    unfold La.B6 La.J7
    refine .bind' (.eq (Bg hr) (Cl (fun Y => A9 (fun X => Cl (fun O => .pure ⟨fun _ => W X fun _ h => absurd h O, fun h => by cases h⟩) fun O => ?_) fun hbf => .pure ⟨fun h => (by cases h), fun _ => Z.2 hbf⟩) fun Y => .pure ⟨fun h => W h fun h0 => absurd Y h0, Z.2⟩))
    dsimp only at Y O ⊢
    rw [Js] at O
    have hfr : 0 ≤ (B0 s r).1 ∧ (B0 s r).1 < (n.Nodes.length : Int) := by
     unfold B0
     split <;> dsimp only <;> omega
    rw [Js]
    refine .bind' (.ix' hfr.1 (by omega) fun f y G hy => .pure ⟨fun ac => W X fun _ _ => ?_, fun ab _ => ⟨i, s, r, f, hs, hr, Y, O, G, ?_⟩⟩)
    ·dsimp only at hy ac
     rw [G]; exact (iT.mem f).1 (by rw [hy, ac])
    ·dsimp only at hy ab
     rw [hy, ab]
  ·rintro b ⟨b1, b2⟩
   unfold La.J5 La.J4
   refine A9 (fun h => ?_) fun aa => .pure ?_
   ·simp at h
    rcases M with ⟨rfl, M⟩ | ⟨j, rfl, _⟩
    ·obtain ⟨q1, q2⟩ := b1 h.1
     exact .pure (.inr ⟨k, rfl, q1, fun i s r G => q2 i s r (gs G.seg).1 G, M⟩)
    ·exact absurd h.2 (by omega)
   ·rcases M with ⟨rfl, M⟩ | M
    ·refine .inl ⟨rfl, fun j hj G => ?_⟩
     by_cases hjk : j = k
     ·subst hjk
      simp at aa
      exact b2 aa G
     ·exact M j (by omega) G
    ·exact .inr M
 ·rintro k (⟨rfl, h⟩ | h)
  ·exact .inl ⟨rfl, fun j hj => h j (by have := (gs hj).1; omega) hj⟩
  ·exact .inr h
theorem Ih {n : Nw} (hn : NetC n) {p : Plan} (h4 : p.Rates.length = n.Segments.length) : Ok (La n p) fun r => Topo n p r ∧ ((∀ v : Nat, v < n.Nodes.length → (v : Int) ∈ r) ∨ ((∃ v : Nat, v < n.Nodes.length ∧ (v : Int) ∉ r) ∧ ¬ Im n p)) := by
 have h1 := hn.nodes
 unfold La
 refine .bind' (.mk n.Nodes.length rfl (by omega) ?_)
 refine .bind (Q := fun r : Li => Topo n p r ∧ ((∀ v : Nat, v < n.Nodes.length → (v : Int) ∈ r) ∨ ((∃ v : Nat, v < n.Nodes.length ∧ (v : Int) ∉ r) ∧ ¬ Im n p))) ?_ fun r hr => .pure hr
 refine .loop (fun W : Li × List Bool => There n p W.1 W.2) (fun W => n.Nodes.length - Z4 W.2) (.nil n p) (by dsimp only; omega) ?_
 rintro ⟨out, G⟩ O
 dsimp only at O
 have i1 := O.len
 have hc := Ms G
 unfold La.B1
 refine .bind (gK hn h4 O) fun k hk => ?_
 unfold La.J2
 rcases hk with ⟨rfl, hb⟩ | ⟨j, rfl, M, Y, Z⟩
 ·exact A0 (fun _ => .pure ⟨O.topo, O.fin hb⟩) fun h0 => absurd (by decide) h0
 refine A0 (fun h => by omega) fun _ => ?_
 have := O.short
 refine .bind' (.app (by simp; omega) (.bind' (.eq (Bg M) (.pure ?_))))
 have hcs := R3 M
 have X := Ms (G.set j true)
 simp at X
 exact ⟨O.step M Y Z, by dsimp only; omega⟩
theorem Ux {n : Nw} (X : NetC n) {p : Plan} (O : p.Rates.length = n.Segments.length) : Ok (La n p) fun r => r.length = n.Nodes.length → Im n p :=
 (Ih X O).mono fun r ⟨M, G⟩ Z => by
  rcases G with G | ⟨⟨v, Y, W⟩, G⟩
  ·exact M.acyc G
  ·have := Ta M.rng M.nodup Y W; omega
theorem Pg {n : Nw} (W : NetC n) {p : Plan} (O : p.Rates.length = n.Segments.length) (G : Im n p) : Ok (La n p) fun r => r.length = n.Nodes.length :=
 (Ih W O).mono fun r ⟨M, X⟩ => Tf M.rng M.nodup (X.resolve_right fun h => h.2 G)
theorem Xd {n : Nw} (W : NetC n) (h12 : F9 n = some 0) {p : Plan} : Ok (Kt n p) (FlowRes n p) := by
 have h1 := W.nodes; have h2 := W.segs1; have h3 := W.ports1
 unfold Kt
 refine .bind' (.eq h12 (Cl (fun h => absurd rfl h) fun _ => Cr (Q := ¬ Uc n p) (by unfold Uc; simp; omega) (fun h => .pure (.inl ⟨h, rfl⟩)) fun M => ?_))
 have M := Classical.not_not.1 M
 have l1 := M.1; have l2 := M.2.1
 have hsk : ∀ (k : Nat) (r : Int), p.Rates[k]? = some r → ∃ s, n.Segments[k]? = some s := fun k r G => ⟨_, gq (by have := (gs G).1; omega)⟩
 refine .bind (kD (d := 1) (P := fun k r => ∃ s, n.Segments[k]? = some s ∧ ¬ Mk s r) fun k r G => ?_) ?_
 ·obtain ⟨s, X⟩ := hsk k r G
  have hc := (W.segs k s X).2
  unfold Kt.B6
  refine .bind' (.eq (Bg X) (.test ?_))
  dsimp only
  rw [Bc (by omega), Bool.or_eq_true, decide_eq_true_eq, decide_eq_true_eq]
  refine ⟨fun h => ⟨s, X, fun O => by unfold Mk at O; omega⟩, fun ⟨s', aa, h⟩ => ?_⟩
  rw [X] at aa; cases aa
  unfold Mk at h; omega
 rintro _ (⟨⟨k, r, G, s, X, h⟩, rfl⟩ | ⟨h, rfl⟩)
 ·exact .pure (.inr ⟨M, .inl ⟨fun O => h (O k r s G X), rfl⟩⟩)
 have O : Rng n p := fun k r s G X => Classical.not_not.1 fun W => h k r G ⟨s, X, W⟩
 simp only [Sum.elim_inl]
 unfold Kt.J1
 refine .bind (kD (d := 1) (P := fun _ x => ¬ (-1000 ≤ x ∧ x ≤ 1000)) fun k x Y => ?_) ?_
 ·unfold Kt.B5
  exact .test (by simp; omega)
 rintro _ (⟨⟨k, x, Y, h⟩, rfl⟩ | ⟨h, rfl⟩)
 ·exact .pure (.inr ⟨M, .inr ⟨O, .inl ⟨fun Z => h (Z k x Y), rfl⟩⟩⟩)
 have Z : iH p := fun k x Y => Classical.not_not.1 (h k x Y)
 simp only [Sum.elim_inl]
 unfold Kt.J2
 refine .bind (kD (d := 12) (P := fun k _ => D5 (wt n (k : Int)) p.Rates + D5 (wp n (k : Int)) p.Ports ≠ 0) fun k x Y => ?_) ?_
 ·unfold Kt.B4
  exact .bind (Wt W l1 l2 (O.all M) Z k) fun r G => .test (by rw [← G]; simp; omega)
 rintro _ (⟨⟨k, x, Y, h⟩, rfl⟩ | ⟨h, rfl⟩)
 ·exact .pure (.inr ⟨M, .inr ⟨O, .inr ⟨Z, .inl ⟨fun hb => h (hb k (gs Y).1), rfl⟩⟩⟩⟩)
 have hb : Bal n p := fun v hv => Classical.not_not.1 (h v _ (gq hv))
 simp only [Sum.elim_inl]
 unfold Kt.J3
 by_cases ha : Im n p
 ·exact .bind (Pg W l1 ha) fun r G => Cl (fun h => by omega) fun _ => .pure (.inr ⟨M, .inr ⟨O, .inr ⟨Z, .inr ⟨hb, .inr ⟨ha, rfl⟩⟩⟩⟩⟩)
 ·exact .bind (Ux W l1) fun r G => Cl (fun h => .pure (.inr ⟨M, .inr ⟨O, .inr ⟨Z, .inr ⟨hb, .inl ⟨ha, rfl⟩⟩⟩⟩⟩)) fun h => absurd (G (by omega)) ha
structure SegF (m : Nat) (s : Segment) : Prop where
 ends : 0 ≤ s.From ∧ s.From < (m : Int) ∧ 0 ≤ s.To ∧ s.To < (m : Int) ∧ s.From ≠ s.To
 low : s.From < 6 ∧ s.To < 6
theorem SegF.at6 {m : Nat} {s : Sg} (h : SegF m s) : (0 ≤ s.From ∧ s.From < (m : Int) ∧ 0 ≤ s.To ∧ s.To < (m : Int) ∧ s.From ≠ s.To) ∧ s.From < 6 ∧ s.To < 6 := ⟨h.ends, h.low⟩
structure AtF (m : Nat) (v : Int) : Prop where
 node : 0 ≤ v ∧ v < (m : Int)
 low : v < 6
theorem AtF.at6 {m : Nat} {v : Int} (h : AtF m v) : 0 ≤ v ∧ v < (m : Int) ∧ v < 6 := ⟨h.node.1, h.node.2, h.low⟩
structure NetF (n : Network) : Prop where
 c : NetC n
 segs1 : 0 ≤ n.Segments.length ∧ n.Segments.length ≤ 8
 segs : ∀ (k : Nat) (s : Sg), n.Segments[k]? = some s → SegF n.Nodes.length s
 ports1 : 0 ≤ n.Ports.length ∧ n.Ports.length ≤ 6
 ports : ∀ (k : Nat) (s : Port), n.Ports[k]? = some s → AtF n.Nodes.length s.Node
 sts1 : n.Stations.length ≤ 7
 sts : ∀ (k : Nat) (s : Sn), n.Stations[k]? = some s → AtF n.Nodes.length s.Node
 ck12 : F9 n = some 0
theorem NetF.check {n : Nw} (h : NetF n) : Ee n = some 0 := h.c.check
theorem NetF.nodes {n : Nw} (h : NetF n) : 1 ≤ n.Nodes.length ∧ n.Nodes.length ≤ 24 := h.c.nodes
theorem NetOk.f {n : Nw} (h : NetOk n) : NetF n := by
 have M := h.nodes; have O := h.segs1; have W := h.ports1; have X := h.sts1
 refine ⟨h.g.c, by omega, fun k s G => ?_, by omega, fun k s G => ?_, by omega, fun k s G => ?_, eS h⟩
 ·have := (h.segs k s G).ends
  exact ⟨this, by omega⟩
 ·have := (h.ports k s G).node
  exact ⟨this, by omega⟩
 ·have := (h.sts k s G).node
  exact ⟨this, by omega⟩
theorem Z9 {n : Nw} (G : NetF n) {p : Plan} (h : FlowOk n p) : Hg n p = some 0 := Va G.c h
theorem Wb {n : Nw} (G : NetF n) {p : Plan} (h : FlowOk n p) : Kt n p = some 0 := by
 obtain ⟨r, M, O⟩ := Xd G.c G.ck12 (p := p)
 rw [M, O.uniq (h.res G.c)]
def Lt (up : Bool) (a b : Int) : Prop := if up = true then a < b else b < a
theorem Lt.ne {up : Bool} {a b : Int} (h : Lt up a b) : a ≠ b := by unfold Lt at h; split at h <;> omega
theorem Lt.trans {up : Bool} {a b c : Int} (h : Lt up a b) (k : Lt up b c) : Lt up a c := by
 cases up <;> simp only [Lt, if_true] at * <;> first | omega | (simp at *; omega)
structure Res (n : Network) (up : Bool) (rates ports : List Int) : Prop where
 rl : rates.length = n.Segments.length
 pl : ports.length = n.Ports.length
 rng : ∀ (k : Nat) (r : Int) (s : Sg), rates[k]? = some r → n.Segments[k]? = some s → -1000 ≤ r ∧ r ≤ 1000 ∧ (0 < r → Lt up s.From s.To) ∧ (r < 0 → Lt up s.To s.From)
 prt : ∀ (k : Nat) (x : Int), ports[k]? = some x → -1000 ≤ x ∧ x ≤ 1000
 bal : ∀ v, D5 (wt n v) rates + D5 (wp n v) ports = 0
theorem PlanOk.res {n : Nw} {p : Plan} (h : PlanOk n p) : ∃ up, Res n up p.Rates p.Ports := by
 rcases h.dir with O | O
 ·exact ⟨true, h.rl, h.pl, fun k r s G M => ⟨(h.rng k r s G M).1, (h.rng k r s G M).2.1, (O k r s G M).1, (O k r s G M).2⟩, h.prt, h.bal⟩
 ·exact ⟨false, h.rl, h.pl, fun k r s G M => ⟨(h.rng k r s G M).1, (h.rng k r s G M).2.1, fun h => by have := (O k r s G M).1 h; simpa [Lt] using this, fun h => by have := (O k r s G M).2 h; simpa [Lt] using this⟩, h.prt, h.bal⟩
theorem Gx : ∀ {w l : Li}, (∀ (k : Nat) (a x : Int), w[k]? = some a → l[k]? = some x → 0 ≤ a * x) → 0 ≤ D5 w l
 | [], _, _ => by simp [D5]
 | _ :: _, [], _ => by simp [D5]
 | a :: w, x :: l, h => by
  have O := h 0 a x rfl rfl
  have := Gx (w := w) (l := l) fun k b y G M => h (k + 1) b y (by simpa using G) (by simpa using M)
  simp only [D5]; omega
theorem R2 : ∀ {w l : Li} {k : Nat} {a x : Int}, (∀ (k : Nat) (a x : Int), w[k]? = some a → l[k]? = some x → 0 ≤ a * x) → w[k]? = some a → l[k]? = some x → 0 < a * x → 0 < D5 w l
 | [], _, k, _, _, _, h, _, _ => by simp at h
 | _ :: _, [], k, _, _, _, _, h, _ => by simp at h
 | a :: w, x :: l, 0, b, y, h, G, M, hp => by
  simp at G M; subst G; subst M
  have := Gx (w := w) (l := l) fun k b y G M => h (k + 1) b y (by simpa using G) (by simpa using M)
  simp only [D5]; omega
 | a :: w, x :: l, k + 1, b, y, h, G, M, hp => by
  have O := h 0 a x rfl rfl
  have := R2 (w := w) (l := l) (k := k) (fun k b y G M => h (k + 1) b y (by simpa using G) (by simpa using M)) (by simpa using G) (by simpa using M) hp
  simp only [D5]; omega
theorem Vt {n : Nw} {k : Nat} {s : Sg} (v : Int) (h : n.Segments[k]? = some s) : (wt n v)[k]? = some (ind s.To v - ind s.From v) := by unfold wt; rw [List.getElem?_map, h]; rfl
theorem Pm {n : Nw} {k : Nat} {p : Port} (v : Int) (h : n.Ports[k]? = some p) : (wp n v)[k]? = some (ind p.Node v) := by unfold wp; rw [List.getElem?_map, h]; rfl
def D8 (n : Nw) (rates ports : Li) (v : Int) : Prop :=
 (∃ (i : Nat) (p : Port) (x : Int), n.Ports[i]? = some p ∧ p.Node = v ∧ ports[i]? = some x ∧ 0 < x) ∨
 ∃ (k : Nat) (s : Sg) (r : Int), n.Segments[k]? = some s ∧ rates[k]? = some r ∧ s.From ≠ s.To ∧ (0 < r ∧ s.To = v ∨ r < 0 ∧ s.From = v)
theorem aO {n : Nw} {up : Bool} {rates ports : Li} {v : Int} (h : Res n up rates ports) (hc : D8 n rates ports v) (hp : ∀ (i : Nat) (p : Port) (x : Int), n.Ports[i]? = some p → p.Node = v → ports[i]? = some x → 0 ≤ x)
  (hs : ∀ (k : Nat) (s : Sg) (r : Int), n.Segments[k]? = some s → rates[k]? = some r → ¬ (0 < r ∧ s.From = v) ∧ ¬ (r < 0 ∧ s.To = v)) : False := by
 have b := h.bal v
 have w1 : ∀ (k : Nat) (a x : Int), (wt n v)[k]? = some a → rates[k]? = some x → 0 ≤ a * x := by
  intro k a x M X
  have hkl := (gs X).1
  obtain ⟨s, G⟩ : ∃ ζ, n.Segments[k]? = some ζ := ⟨_, gq (by have := h.rl; omega)⟩
  rw [Vt v G] at M; simp at M; subst M
  obtain ⟨n1, n2⟩ := hs k s x G X
  unfold ind
  by_cases O : s.To = v <;> by_cases e2 : s.From = v <;> simp [O, e2]
  ·have : ¬ x < 0 := fun h => n2 ⟨h, O⟩
   omega
  ·have : ¬ 0 < x := fun h => n1 ⟨h, e2⟩
   omega
 have w2 : ∀ (k : Nat) (a x : Int), (wp n v)[k]? = some a → ports[k]? = some x → 0 ≤ a * x := by
  intro k a x M X
  have hkl := (gs X).1
  obtain ⟨s, G⟩ : ∃ ζ, n.Ports[k]? = some ζ := ⟨_, gq (by have := h.pl; omega)⟩
  rw [Pm v G] at M; simp at M; subst M
  unfold ind
  by_cases O : s.Node = v
  ·have := hp k s x G O X
   simp [O]; exact this
  ·simp [O]
 rcases hc with ⟨i, p, x, Y, Z, h3, h4⟩ | ⟨k, s, r, Y, Z, h3, h4⟩
 ·have := R2 w2 (Pm v Y) h3 (by rw [Z, Et]; omega)
  have := Gx w1
  omega
 ·have W : 0 < (ind s.To v - ind s.From v) * r := by
   rcases h4 with ⟨h5, h6⟩ | ⟨h5, h6⟩
   ·rw [h6, Et, Eb (by omega)]; omega
   ·rw [h6, Et, Eb (by omega)]; omega
  have := R2 w1 (Vt v Y) Z W
  have := Gx w2
  omega
def HopIs (n : Nw) (rates : Li) (a : Int) (h : Hop) (b : Int) : Prop :=
 ∃ (k : Nat) (s : Sg) (r : Int), h.Segment = (k : Int) ∧ n.Segments[k]? = some s ∧ rates[k]? = some r ∧ (h.Back = false ∧ 0 < r ∧ s.From = a ∧ s.To = b ∨ h.Back = true ∧ r < 0 ∧ s.To = a ∧ s.From = b)
def Z5 (rates : Li) (h : Hop) : Int := max (rates.getD h.Segment.toNat 0) (-rates.getD h.Segment.toNat 0)
structure WayIs (n : Network) (rates : List Int) (hops : List Hop) (nd : Nat → Int) : Prop where
 hop : ∀ (j : Nat) (h : Hop), hops[j]? = some h → HopIs n rates (nd j) h (nd (j + 1))
theorem Mt {rates : Li} {h : Hop} {k : Nat} {r : Int} (h1 : h.Segment = (k : Int)) (h2 : rates[k]? = some r) : Z5 rates h = max r (-r) := by
 unfold Z5
 rw [h1, List.getD_eq_getElem?_getD, Int.toNat_natCast, h2]; rfl
theorem WayIs.snoc {n : Nw} {rates : Li} {hops : List Hop} {nd : Nat → Int} (w : WayIs n rates hops nd) {h : Hop} {t : Int} (W : HopIs n rates (nd hops.length) h t) :
  WayIs n rates (hops ++ [h]) (fun i => if i ≤ hops.length then nd i else t) := by
 refine ⟨fun j M G => ?_⟩
 rw [List.getElem?_append] at G
 split at G
 ·rename_i X
  have := w.hop j M G
  rw [if_pos (by omega), if_pos (by omega)]; exact this
 ·have O := (gs G).1
  simp at O
  have : j = hops.length := by omega
  subst this
  simp at G; subst G
  rw [if_pos (by omega), if_neg (by omega)]; exact W
theorem HopIs.lt {n : Nw} {up : Bool} {rates ports : Li} (h : Res n up rates ports) {a b : Int} {x : Hop} (X : HopIs n rates a x b) : Lt up a b := by
 obtain ⟨k, s, r, Y, M, O, W⟩ := X
 have := h.rng k r s O M
 rcases W with ⟨_, G, rfl, rfl⟩ | ⟨_, G, rfl, rfl⟩
 ·exact this.2.2.1 G
 ·exact this.2.2.2 G
theorem WayIs.mono {n : Nw} {up : Bool} {rates ports : Li} (h : Res n up rates ports) {hops : List Hop} {nd : Nat → Int} (w : WayIs n rates hops nd) : ∀ (j i : Nat), i < j → j ≤ hops.length → Lt up (nd i) (nd j) := by
 intro j
 induction j with
 | zero => intro i O; omega
 | succ j ih =>
  intro i O W
  have M := (w.hop j hops[j] (gq (by omega))).lt h
  by_cases G : i = j
  ·subst G; exact M
  ·exact (ih i (by omega) (by omega)).trans M
def Z3 (n : Nw) (up : Bool) (v : Int) : Nat := if up = true then min 6 n.Nodes.length - v.toNat else v.toNat + 1
theorem Uh {n : Nw} {up : Bool} {a b : Int} (M : 0 ≤ a ∧ a < (n.Nodes.length : Int) ∧ a < 6) (hb : 0 ≤ b ∧ b < (n.Nodes.length : Int) ∧ b < 6) (h : Lt up a b) : Z3 n up b < Z3 n up a := by
 unfold Lt at h
 unfold Z3
 split at h <;> rename_i G <;> simp only [G, if_true, if_false] <;> first | omega | (simp; omega)
structure Walk (n : Network) (up : Bool) (rates ports : List Int) (x0 s0 : Int) (hops : List Hop) (rate t : Int) : Prop where
 way : ∃ nd, WayIs n rates hops nd ∧ nd 0 = s0 ∧ nd hops.length = t
 at_ : 0 ≤ t ∧ t < (n.Nodes.length : Int) ∧ t < 6
 len : hops.length + Z3 n up t ≤ min 6 n.Nodes.length
 rt : 1 ≤ rate ∧ rate ≤ x0
 most : ∀ h, h ∈ hops → rate ≤ Z5 rates h
 tight : rate = x0 ∨ ∃ h, h ∈ hops ∧ rate = Z5 rates h
 comes : D8 n rates ports t
theorem dX {n : Nw} (hn : NetF n) {up : Bool} {rates ports : Li} (h : Res n up rates ports) {i0 : Nat} {p0 : Port} {x0 : Int} (hp0 : n.Ports[i0]? = some p0) (hx0 : ports[i0]? = some x0) (hpos : 0 < x0) :
  Ok (C5 (Rv.B4 ⟨n, rates, ports⟩) El ([], x0, p0.Node)) fun d => ∃ (W : Nat) (p : Port) (y rate : Int), d.1 = (W : Int) ∧ n.Ports[W]? = some p ∧ ports[W]? = some y ∧ y < 0 ∧ Walk n up rates ports x0 p0.Node d.2.1 rate p.Node ∧ d.2.2 = min rate (-y) := by
 have hnn := hn.nodes; have hsn := hn.segs1
 have hxr := h.prt i0 x0 hx0
 have hpn := (hn.ports i0 p0 hp0).at6
 refine .loop (fun st : List Hop × Int × Int => Walk n up rates ports x0 p0.Node st.1 st.2.1 st.2.2) (fun st => Z3 n up st.2.2) ⟨⟨fun _ => p0.Node, ⟨by simp⟩, rfl, rfl⟩, hpn, ?_, by dsimp only; omega, by simp, .inl rfl, .inl ⟨i0, p0, x0, hp0, rfl, hx0, hpos⟩⟩ ?_ ?_
 ·dsimp only [List.length_nil]
  unfold Z3; split <;> omega
 ·dsimp only
  unfold Z3; split <;> omega
 rintro ⟨M, rate, G⟩ w
 dsimp only at w
 obtain ⟨nd, w1, w2, w3⟩ := w.way
 have hlen := w.len
 have hrate := w.rt
 have hat := w.at_
 unfold Rv.B4
 refine .bind' (.forL (fun k _ => ∀ (i : Nat) (p : Port) (x : Int), i < k → n.Ports[i]? = some p → p.Node = G → ports[i]? = some x → 0 ≤ x)
  (fun d : Int × List Hop × Int => ∃ (W : Nat) (p : Port) (y : Int), d.1 = (W : Int) ∧ n.Ports[W]? = some p ∧ ports[W]? = some y ∧ y < 0 ∧ p.Node = G ∧ d.2.1 = M ∧ d.2.2 = min rate (-y)) (fun i _ _ h => absurd h (Nat.not_lt_zero _)) ?_ ?_ ?_)
 ·intro k p _ hp hi
  dsimp only at hp
  have hkl := (gs hp).1
  obtain ⟨x, O⟩ : ∃ ζ, ports[k]? = some ζ := ⟨_, gq (by have := h.pl; omega)⟩
  have hxr := h.prt k x O
  have no : (p.Node = G → 0 ≤ x) → Ok (Rv.J11 ⟨n, rates, ports⟩ (M, rate, G) k false) (Sum.elim (fun _ : Unit => ∀ (i : Nat) (p : Port) (x : Int), i < k + 1 → n.Ports[i]? = some p → p.Node = G → ports[i]? = some x → 0 ≤ x)
    fun d : Int × List Hop × Int => ∃ (W : Nat) (p : Port) (y : Int), d.1 = (W : Int) ∧ n.Ports[W]? = some p ∧ ports[W]? = some y ∧ y < 0 ∧ p.Node = G ∧ d.2.1 = M ∧ d.2.2 = min rate (-y)) := by
   intro hno
   unfold Rv.J11
   refine .pure fun i q y hik hq hqn hy => ?_
   by_cases hi' : i = k
   ·subst hi'
    rw [hp] at hq; simp at hq; subst hq
    rw [O] at hy; simp at hy; subst hy
    exact hno hqn
   ·exact hi i q y (by omega) hq hqn hy
  unfold Rv.B10
  refine C7 (fun he => .bind' (.eq (Bg O) ?_)) fun he => no fun h => absurd h he
  dsimp only
  by_cases X : x < 0
  ·simp only [X, decide_true]
   unfold Rv.J11
   refine .bind' (.eq (Bg O) (.pure ⟨k, p, x, rfl, hp, O, X, he, rfl, ?_⟩))
   dsimp only
   rw [Bc (by omega), Int.zero_sub]
  ·simp only [X, decide_false]
   exact no fun _ => by omega
 ·intro _ Y
  dsimp only at Y
  simp only [Sum.elim_inl]
  unfold Rv.J5
  refine .bind' (.forL (fun k _ => ∀ (i : Nat) (s : Sg) (r : Int), i < k → n.Segments[i]? = some s → rates[i]? = some r → ¬ (0 < r ∧ s.From = G) ∧ ¬ (r < 0 ∧ s.To = G))
   (fun d : List Hop × Int × Int => ∃ (hp : Hop), HopIs n rates G hp d.2.2 ∧ d.1 = M ++ [hp] ∧ d.2.1 = min rate (Z5 rates hp)) (fun i _ _ h => absurd h (Nat.not_lt_zero _)) ?_ ?_ ?_)
  ·intro k s _ hs hi
   dsimp only at hs
   have hkl := (gs hs).1
   obtain ⟨r, hr⟩ : ∃ ζ, rates[k]? = some ζ := ⟨_, gq (by have := h.rl; omega)⟩
   have hrr := h.rng k r s hr hs
   unfold Rv.B7 Rv.J8 Rv.J9
   refine .bind' (.eq (Bg hr) (A9 (fun hb => .bind' (.app (by simp; omega) (.pure ?_))) fun hb1 => A9 (fun hb => .bind' (.app (by simp; omega) (.pure ?_))) fun hb2 => .pure fun i s' r' hik hs' Z => ?_))
   ·simp at hb
    refine ⟨⟨(k : Int), false⟩, ⟨k, s, r, rfl, hs, hr, .inl ⟨rfl, hb.1, hb.2, rfl⟩⟩, rfl, ?_⟩
    rw [Mt (k := k) rfl hr]
    dsimp only
    rw [show max r (-r) = r by omega]
   ·simp at hb
    refine ⟨⟨(k : Int), true⟩, ⟨k, s, r, rfl, hs, hr, .inr ⟨rfl, hb.1, hb.2, rfl⟩⟩, rfl, ?_⟩
    rw [Mt (k := k) rfl hr]
    dsimp only
    rw [Bc (by omega), show max r (-r) = 0 - r by omega]
   ·by_cases hi' : i = k
    ·subst hi'
     rw [hs] at hs'; simp at hs'; subst hs'
     rw [hr] at Z; simp at Z; subst Z
     simp at hb1 hb2
     exact ⟨fun h => hb1 h.1 h.2, fun h => hb2 h.1 h.2⟩
    ·exact hi i s' r' (by omega) hs' Z
  ·intro _ hno
   exact (aO h w.comes (fun i p x hp => Y i p x (gs hp).1 hp) fun k s r hs => hno k s r (gs hs).1 hs).elim
  ·rintro ⟨hops', rate', to'⟩ ⟨hp, hh, e1, e2⟩
   dsimp only at hh e1 e2
   subst e1; subst e2
   have hh' := hh
   have hlt := hh.lt h
   obtain ⟨k, s, r, q1, q2, q3, q4⟩ := hh
   have hse := (hn.segs k s q2).at6
   have hto : 0 ≤ to' ∧ to' < (n.Nodes.length : Int) ∧ to' < 6 := by rcases q4 with ⟨_, _, _, q⟩ | ⟨_, _, _, q⟩ <;> omega
   have hfar := Uh (n := n) (by omega) (by omega) hlt
   have hamt : 1 ≤ Z5 rates hp := by rw [Mt q1 q3]; rcases q4 with ⟨_, q, _, _⟩ | ⟨_, q, _, _⟩ <;> omega
   refine .pure ⟨⟨⟨_, w1.snoc (by rw [w3]; exact hh'), by simp [w2], by simp; omega⟩, hto, by simp; omega, by dsimp only; omega, fun x O => ?_, ?_, .inr ⟨k, s, r, q2, q3, by omega, ?_⟩⟩, hfar⟩
   ·rcases List.mem_append.1 O with O | O
    ·have := w.most x O; dsimp only; omega
    ·simp at O; subst O; dsimp only; omega
   ·dsimp only
    by_cases hle : rate ≤ Z5 rates hp
    ·rw [show min rate (Z5 rates hp) = rate by omega]
     rcases w.tight with ht | ⟨x, O, ht⟩
     ·exact .inl ht
     ·exact .inr ⟨x, by simp [O], ht⟩
    ·exact .inr ⟨hp, by simp, by omega⟩
   ·rcases q4 with ⟨_, q5, _, q6⟩ | ⟨_, q5, _, q6⟩
    ·exact .inl ⟨q5, q6⟩
    ·exact .inr ⟨q5, q6⟩
 ·rintro ⟨o, hops', rate'⟩ ⟨W, p, y, e1, e2, e3, e4, e5, e6, e7⟩
  dsimp only at e1 e6 e7
  subst e1; subst e6; subst e7
  exact .pure ⟨W, p, y, rate, rfl, e2, e3, e4, by rw [e5]; exact w, rfl⟩
def Mg (rate : Int) (h : Hop) : Int := if h.Back = true then -rate else rate
def C8 (rate : Int) (k : Nat) : List Hop → Int
 | [] => 0
 | h :: t => (if h.Segment = (k : Int) then Mg rate h else 0) + C8 rate k t
theorem L0 (rate : Int) (k : Nat) : ∀ l m : List Hop, C8 rate k (l ++ m) = C8 rate k l + C8 rate k m
 | [], m => by simp [C8]
 | h :: l, m => by simp only [List.cons_append, C8, L0 rate k l m]; omega
theorem P2 {rate : Int} {k j : Nat} {l : List Hop} {h : Hop} (G : l[j]? = some h) : C8 rate k (l.take (j + 1)) = C8 rate k (l.take j) + if h.Segment = (k : Int) then Mg rate h else 0 := by
 rw [List.take_add_one, G, L0]; simp [C8]
theorem Gg {rate : Int} {k : Nat} : ∀ {l : List Hop}, (∀ h, h ∈ l → h.Segment ≠ (k : Int)) → C8 rate k l = 0
 | [], _ => rfl
 | h :: l, hh => by
  simp only [C8]
  rw [if_neg (hh h (by simp)), Gg fun x G => hh x (by simp [G])]; rfl
theorem Jp {rate : Int} {k : Nat} : ∀ {l : List Hop} {i : Nat} {h : Hop}, l[i]? = some h → h.Segment = (k : Int) → (∀ (j : Nat) (x : Hop), j ≠ i → l[j]? = some x → x.Segment ≠ (k : Int)) → C8 rate k l = Mg rate h
 | [], i, h, hi, _, _ => by simp at hi
 | x :: l, 0, h, hi, hk, ho => by
  simp at hi; subst hi
  simp only [C8]
  rw [if_pos hk, Gg fun y G => ?_]; omega
  obtain ⟨j, M⟩ := List.getElem?_of_mem G
  exact ho (j + 1) y (by omega) (by simpa using M)
 | x :: l, i + 1, h, hi, hk, ho => by
  simp only [C8]
  rw [if_neg (ho 0 x (by omega) rfl), Jp (i := i) (by simpa using hi) hk fun j y M G => ho (j + 1) y (by omega) (by simpa using G)]; omega
theorem Jq {rate : Int} (G : 0 ≤ rate ∧ rate ≤ 1000) (k : Nat) : ∀ l : List Hop, -(1000 * (l.length : Int)) ≤ C8 rate k l ∧ C8 rate k l ≤ 1000 * (l.length : Int)
 | [] => by simp [C8]
 | h :: l => by
  have := Jq G k l
  simp only [C8, List.length_cons]
  unfold Mg
  split
  ·split <;> omega
  ·omega
theorem Pu {h : Hop} {r : Int} (G : -1000000 ≤ r ∧ r ≤ 1000000) : Is h r = Mg r h := by
 unfold Is Mg
 rw [Bc (by omega), Int.zero_sub]
theorem WayIs.once {n : Nw} {up : Bool} {rates ports : Li} (h : Res n up rates ports) {hops : List Hop} {nd : Nat → Int} (w : WayIs n rates hops nd) {i j : Nat} {x y : Hop} (X : hops[i]? = some x) (hy : hops[j]? = some y)
  (he : x.Segment = y.Segment) : i = j := by
 have hi := (gs X).1
 have hj := (gs hy).1
 obtain ⟨k, s, r, e1, Y, Z, e4⟩ := w.hop i x X
 obtain ⟨k', s', r', f1, M, O, f4⟩ := w.hop j y hy
 have : k = k' := by omega
 subst this
 rw [Y] at M; simp at M; subst M
 rw [Z] at O; simp at O; subst O
 have W : nd i = nd j := by
  rcases e4 with ⟨_, a, b, _⟩ | ⟨_, a, b, _⟩ <;> rcases f4 with ⟨_, c, d, _⟩ | ⟨_, c, d, _⟩ <;> omega
 rcases Nat.lt_trichotomy i j with G | he | G
 ·exact absurd W (w.mono h j i G (by omega)).ne
 ·exact he
 ·exact absurd W.symm (w.mono h i j G (by omega)).ne
structure Follow (n : Network) (up : Bool) (rates ports : List Int) (i0 : Nat) (x : Path) (d : paths_divider) (o : Nat) (p0 po : Port) (x0 y : Int) (nd : Nat → Int) : Prop where
 net : d.n_ = n
 in_ : x.In = (i0 : Int)
 out : x.Out = (o : Int)
 hp0 : n.Ports[i0]? = some p0
 hpo : n.Ports[o]? = some po
 hx0 : ports[i0]? = some x0 ∧ 0 < x0
 hy : ports[o]? = some y ∧ y < 0
 way : WayIs n rates x.Hops nd
 ends : nd 0 = p0.Node ∧ nd x.Hops.length = po.Node
 len : x.Hops.length ≤ 5
 rt : 1 ≤ x.Rate ∧ x.Rate ≤ x0 ∧ x.Rate ≤ -y
 most : ∀ h, h ∈ x.Hops → x.Rate ≤ Z5 rates h
 tight : x.Rate = x0 ∨ x.Rate = -y ∨ ∃ h, h ∈ x.Hops ∧ x.Rate = Z5 rates h
 hports : d.ports = (ports.set i0 (x0 - x.Rate)).set o (y + x.Rate)
 hrates : d.rates.length = rates.length ∧ ∀ (k : Nat) (r : Int), rates[k]? = some r → d.rates[k]? = some (r - C8 x.Rate k x.Hops)
 less : ∀ (k : Nat) (r : Int), rates[k]? = some r → (0 ≤ r → 0 ≤ r - C8 x.Rate k x.Hops ∧ r - C8 x.Rate k x.Hops ≤ r) ∧ (r ≤ 0 → r ≤ r - C8 x.Rate k x.Hops ∧ r - C8 x.Rate k x.Hops ≤ 0)
 res : Res n up d.rates d.ports
theorem Xc {n : Nw} (hn : NetF n) {up : Bool} {rates ports : Li} (h : Res n up rates ports) {i0 : Nat} {x0 : Int} (hx0 : ports[i0]? = some x0) (hpos : 0 < x0) :
  Ok (Rv ⟨n, rates, ports⟩ (i0 : Int)) fun r => ∃ o p0 po y nd, Follow n up rates ports i0 r.1 r.2 o p0 po x0 y nd := by
 have hil := (gs hx0).1
 obtain ⟨p0, hp0⟩ : ∃ ζ, n.Ports[i0]? = some ζ := ⟨_, gq (by have := h.pl; omega)⟩
 have hxr := h.prt i0 x0 hx0
 unfold Rv
 refine .bind' (.eq (Bg hx0) (.bind' (.eq (Bg hp0) (.bind (dX hn h hp0 hx0 hpos) ?_))))
 rintro ⟨_, G, rt⟩ ⟨o, po, y, rate, rfl, hpo, hy, hyn, w, e7⟩
 dsimp only at w e7 ⊢
 obtain ⟨nd, w1, w2, w3⟩ := w.way
 have hrate := w.rt
 have hyr := h.prt o y hy
 have hrt : 1 ≤ rt ∧ rt ≤ x0 ∧ rt ≤ -y ∧ rt ≤ rate := by omega
 have hne : i0 ≠ o := by rintro rfl; rw [hx0] at hy; simp at hy; omega
 unfold Rv.J1
 dsimp only
 have X : (ports.set i0 (wr (x0 - rt)))[o]? = some y := by rw [List.getElem?_set_ne hne]; exact hy
 refine .bind' (.eq (Bg X) ?_)
 have hlen : G.length ≤ 5 := by
  have hl := w.len; have := hn.nodes; have hat := w.at_
  unfold Z3 at hl; split at hl <;> omega
 have W : ∀ h, h ∈ G → rt ≤ Z5 rates h := fun x M => by have := w.most x M; omega
 have key : ∀ (k : Nat) (r : Int), rates[k]? = some r → C8 rt k G = 0 ∨ (0 < r ∧ C8 rt k G = rt ∧ rt ≤ r) ∨ (r < 0 ∧ C8 rt k G = -rt ∧ rt ≤ -r) := by
  intro k r Y
  by_cases hex : ∃ (i : Nat) (x : Hop), G[i]? = some x ∧ x.Segment = (k : Int)
  ·obtain ⟨i, x, M, O⟩ := hex
   rw [Jp M O fun j y hj hy he => hj (w1.once h hy M (he.trans O.symm))]
   have hm := W x (mg M)
   rw [Mt O Y] at hm
   obtain ⟨k', s, r', e1, e2, e3, e4⟩ := w1.hop i x M
   have : k = k' := by omega
   subst this
   rw [Y] at e3; simp at e3; subst e3
   unfold Mg
   rcases e4 with ⟨b, q, _, _⟩ | ⟨b, q, _, _⟩
   ·exact .inr (.inl ⟨q, by rw [b]; rfl, by omega⟩)
   ·exact .inr (.inr ⟨q, by rw [b]; rfl, by omega⟩)
  ·exact .inl (Gg fun x M O => by obtain ⟨i, hi⟩ := List.getElem?_of_mem M; exact hex ⟨i, x, hi, O⟩)
 refine .bind (Q := fun Z => Z.length = rates.length ∧ (∀ (k : Nat) (r : Int), rates[k]? = some r → Z[k]? = some (r - C8 rt k G)) ∧ ∀ v, D5 (wt n v) Z = D5 (wt n v) rates - (rt * ind (nd G.length) v - rt * ind (nd 0) v)) ?_ ?_
 ·refine .forJ (fun j Z => Z.length = rates.length ∧ (∀ (k : Nat) (r : Int), rates[k]? = some r → Z[k]? = some (r - C8 rt k (G.take j))) ∧ ∀ v, D5 (wt n v) Z = D5 (wt n v) rates - (rt * ind (nd j) v - rt * ind (nd 0) v)) ⟨rfl, fun k r Y => by simp [C8, Y], fun v => by omega⟩ ?_ ?_
  ·rintro j Z hj ⟨i1, i2, i3⟩
   have M : G[j]? = some G[j] := gq hj
   generalize G[j] = x at M
   obtain ⟨k, s, r, e1, e2, e3, e4⟩ := w1.hop j x M
   have hst := i2 k r e3
   have hrr := h.rng k r s e3 e2
   have hb := Jq (rate := rt) (by omega) k (G.take j)
   rw [List.length_take] at hb
   unfold Rv.B3
   refine .bind' (.eq (Bg M) ?_)
   dsimp only
   rw [e1]
   refine .bind' (.eq (Bg hst) (.pure ?_))
   dsimp only
   rw [Pu (by omega)]
   have hsg : -1000 ≤ Mg rt x ∧ Mg rt x ≤ 1000 := by unfold Mg; split <;> omega
   rw [Bc (by omega)]
   refine ⟨by simp [i1], fun k' r' hr' => ?_, fun v => ?_⟩
   ·rw [P2 M, Du]
    have hkl := (gs hst).1
    by_cases hkk : k = k'
    ·subst hkk
     rw [hr'] at e3; simp at e3; subst e3
     rw [if_pos ⟨rfl, hkl⟩, if_pos e1]; congr 1; omega
    ·rw [if_neg (fun h => hkk h.1), if_neg (by omega), i2 k' r' hr']; simp
   ·rw [Fe (Vt v e2) hst, i3 v]
    have : (ind s.To v - ind s.From v) * (r - C8 rt k (G.take j) - Mg rt x - (r - C8 rt k (G.take j))) = -(rt * ind (nd (j + 1)) v - rt * ind (nd j) v) := by
     rw [show r - C8 rt k (G.take j) - Mg rt x - (r - C8 rt k (G.take j)) = -Mg rt x by omega]
     unfold Mg
     rcases e4 with ⟨b, _, q1, q2⟩ | ⟨b, _, q1, q2⟩
     ·rw [b, q1, q2, if_neg (by simp), Int.sub_mul, Int.mul_neg, Int.mul_neg, Int.mul_comm, Int.mul_comm (ind (nd j) v)]; omega
     ·rw [b, q1, q2, if_pos rfl, Int.neg_neg, Int.sub_mul, Int.mul_comm, Int.mul_comm (ind (nd (j + 1)) v)]; omega
    rw [this]; omega
  ·rintro Z ⟨i1, i2, i3⟩
   rw [List.take_length] at i2
   exact ⟨i1, i2, i3⟩
 rintro Z ⟨i1, i2, i3⟩
 unfold Rv.J2
 dsimp only
 have e1 : wr (x0 - rt) = x0 - rt := Bc (by omega)
 have e2 : wr (y + rt) = y + rt := Bc (by omega)
 rw [e1] at X
 rw [e1, e2]
 have less : ∀ (k : Nat) (r : Int), rates[k]? = some r → (0 ≤ r → 0 ≤ r - C8 rt k G ∧ r - C8 rt k G ≤ r) ∧ (r ≤ 0 → r ≤ r - C8 rt k G ∧ r - C8 rt k G ≤ 0) := fun k r Y => by
  have := key k r Y; omega
 refine .pure ⟨o, p0, po, y, nd, rfl, rfl, rfl, hp0, hpo, ⟨hx0, hpos⟩, ⟨hy, hyn⟩, w1, ⟨w2, w3⟩, hlen, ⟨hrt.1, hrt.2.1, hrt.2.2.1⟩, W, ?_, rfl, ⟨i1, i2⟩, less, ⟨by dsimp only; rw [i1]; exact h.rl, by simp [h.pl], fun k r s Y hs => ?_, fun k x O => ?_, fun v => ?_⟩⟩
 ·dsimp only
  by_cases hc : rate ≤ -y
  ·have : rt = rate := by omega
   rcases w.tight with ht | ⟨x, M, ht⟩
   ·exact .inl (by omega)
   ·exact .inr (.inr ⟨x, M, by omega⟩)
  ·exact .inr (.inl (by omega))
 ·dsimp only at Y
  have hkl := (gs Y).1
  obtain ⟨r0, hr0⟩ : ∃ ζ, rates[k]? = some ζ := ⟨_, gq (by omega)⟩
  have := i2 k r0 hr0
  rw [Y] at this; simp at this
  have hl := less k r0 hr0
  have hrr := h.rng k r0 s hr0 hs
  refine ⟨by omega, by omega, fun hp => hrr.2.2.1 (by omega), fun hp => hrr.2.2.2 (by omega)⟩
 ·dsimp only at O
  rw [Du] at O
  split at O
  ·simp at O; omega
  ·rw [Du] at O
   split at O
   ·simp at O; omega
   ·exact h.prt k x O
 ·dsimp only
  rw [i3 v, Fe (Pm v hpo) X, Fe (Pm v hp0) hx0, w2, w3]
  have := h.bal v
  have a1 : ind p0.Node v * (x0 - rt - x0) = -(rt * ind p0.Node v) := by rw [show x0 - rt - x0 = -rt by omega, Int.mul_neg, Int.mul_comm]
  have a2 : ind po.Node v * (y + rt - y) = rt * ind po.Node v := by rw [show y + rt - y = rt by omega, Int.mul_comm]
  rw [a1, a2]; omega
def nz : Li → Nat
 | [] => 0
 | x :: l => (if x = 0 then 0 else 1) + nz l
theorem Ue : ∀ l : Li, nz l ≤ l.length
 | [] => Nat.le_refl _
 | x :: l => by have := Ue l; simp only [nz, List.length_cons]; split <;> omega
theorem Vy : ∀ {l m : Li}, l.length = m.length → (∀ k : Nat, l[k]? = some 0 → m[k]? = some 0) → nz m ≤ nz l
 | [], [], _, _ => Nat.le_refl _
 | [], _ :: _, h, _ => by simp at h
 | _ :: _, [], h, _ => by simp at h
 | x :: l, y :: m, hl, h => by
  have M := h 0
  have := Vy (l := l) (m := m) (by simpa using hl) fun k O => by have := h (k + 1) (by simpa using O); simpa using this
  simp at M
  simp only [nz]
  by_cases G : x = 0
  ·rw [if_pos G, if_pos (M G)]; omega
  ·rw [if_neg G]; split <;> omega
theorem Vx : ∀ {l m : Li} {i : Nat} {x : Int}, l.length = m.length → (∀ k : Nat, l[k]? = some 0 → m[k]? = some 0) → l[i]? = some x → x ≠ 0 → m[i]? = some 0 → nz m < nz l
 | [], _, i, _, _, _, h, _, _ => by simp at h
 | _ :: _, [], _, _, h, _, _, _, _ => by simp at h
 | a :: l, b :: m, 0, x, hl, h, hx, hn, hy => by
  have := Vy (l := l) (m := m) (by simpa using hl) fun k M => by have := h (k + 1) (by simpa using M); simpa using this
  simp at hx hy
  simp only [nz]
  rw [if_pos hy, if_neg (show ¬ a = 0 by omega)]; omega
 | a :: l, b :: m, i + 1, x, hl, h, hx, hn, hy => by
  have O := h 0
  have := Vx (l := l) (m := m) (i := i) (by simpa using hl) (fun k M => by have := h (k + 1) (by simpa using M); simpa using this) (by simpa using hx) hn (by simpa using hy)
  simp at O
  simp only [nz]
  by_cases G : a = 0
  ·rw [if_pos G, if_pos (O G)]; omega
  ·rw [if_neg G]; split <;> omega
def Bz (k : Nat) : List Path → Int
 | [] => 0
 | x :: l => C8 x.Rate k x.Hops + Bz k l
def F6 (i : Nat) (x : Path) : Int := (if x.In = (i : Int) then x.Rate else 0) - (if x.Out = (i : Int) then x.Rate else 0)
def Bj (i : Nat) : List Path → Int
 | [] => 0
 | x :: l => F6 i x + Bj i l
theorem Ga (k : Nat) : ∀ l m : List Path, Bz k (l ++ m) = Bz k l + Bz k m
 | [], m => by simp [Bz]
 | x :: l, m => by simp only [List.cons_append, Bz, Ga k l m]; omega
theorem Fw (i : Nat) : ∀ l m : List Path, Bj i (l ++ m) = Bj i l + Bj i m
 | [], m => by simp [Bj]
 | x :: l, m => by simp only [List.cons_append, Bj, Fw i l m]; omega
def PathOk (n : Nw) (p : Plan) (x : Path) : Prop := ∃ (i o : Nat) (p0 po : Port) (G M : Int) (nd : Nat → Int), x.In = (i : Int) ∧ x.Out = (o : Int) ∧ n.Ports[i]? = some p0 ∧ n.Ports[o]? = some po ∧ p.Ports[i]? = some G ∧ 0 < G ∧ p.Ports[o]? = some M ∧ M < 0 ∧
 WayIs n p.Rates x.Hops nd ∧ nd 0 = p0.Node ∧ nd x.Hops.length = po.Node ∧ x.Hops.length ≤ 5 ∧ 1 ≤ x.Rate ∧ x.Rate ≤ 1000
def Z7 (rates ports : Li) (x : Path) : Prop := (∃ i : Nat, x.In = (i : Int) ∧ ports[i]? = some 0) ∨ (∃ o : Nat, x.Out = (o : Int) ∧ ports[o]? = some 0) ∨ ∃ (h : Hop) (k : Nat), h ∈ x.Hops ∧ h.Segment = (k : Int) ∧ rates[k]? = some 0
structure DInv (n : Network) (up : Bool) (p : Plan) (rates ports : List Int) (out : List Path) : Prop where
 res : Res n up rates ports
 shape : ∀ (k : Nat) (r r0 : Int), rates[k]? = some r → p.Rates[k]? = some r0 → (0 ≤ r0 → 0 ≤ r ∧ r ≤ r0) ∧ (r0 ≤ 0 → r0 ≤ r ∧ r ≤ 0)
 pshape : ∀ (k : Nat) (r r0 : Int), ports[k]? = some r → p.Ports[k]? = some r0 → (0 ≤ r0 → 0 ≤ r ∧ r ≤ r0) ∧ (r0 ≤ 0 → r0 ≤ r ∧ r ≤ 0)
 sumR : ∀ (k : Nat) (r r0 : Int), rates[k]? = some r → p.Rates[k]? = some r0 → r = r0 - Bz k out
 sumP : ∀ (k : Nat) (r r0 : Int), ports[k]? = some r → p.Ports[k]? = some r0 → r = r0 - Bj k out
 paths : ∀ x, x ∈ out → PathOk n p x
 dead : ∀ x, x ∈ out → Z7 rates ports x
 apart : ∀ (i j : Nat) (x y : Path), i < j → out[i]? = some x → out[j]? = some y → ¬ (x.In = y.In ∧ x.Out = y.Out ∧ x.Hops = y.Hops)
 count : out.length + nz rates + nz ports ≤ nz p.Rates + nz p.Ports
theorem DInv.start {n : Nw} {up : Bool} {p : Plan} (h : Res n up p.Rates p.Ports) : DInv n up p p.Rates p.Ports [] :=
 ⟨h, fun k r O M G => by rw [M] at G; simp at G; omega, fun k r O M G => by rw [M] at G; simp at G; omega, fun k r O M G => by rw [M] at G; simp at G; simp [Bz]; omega, fun k r O M G => by rw [M] at G; simp at G; simp [Bj]; omega,
  by simp, by simp, by simp, by simp⟩
theorem DInv.follow {n : Nw} {up : Bool} {p : Plan} (Z : Res n up p.Rates p.Ports) {rates ports : Li} {out : List Path} (h : DInv n up p rates ports out) {i0 o : Nat} {x : Path} {d : paths_divider} {p0 po : Port} {x0 y : Int} {nd : Nat → Int}
  (f : Follow n up rates ports i0 x d o p0 po x0 y nd) : DInv n up p d.rates d.ports (out ++ [x]) ∧ nz d.rates + nz d.ports < nz rates + nz ports ∧ ∀ (j : Nat) (z : Int), d.ports[j]? = some z → ports[j]? = some z ∨ z ≤ 0 ∨ j = i0 := by
 obtain ⟨X, hx0p⟩ := f.hx0
 obtain ⟨hy, hyn⟩ := f.hy
 have hrt := f.rt
 have hne : i0 ≠ o := by rintro rfl; rw [X] at hy; simp at hy; omega
 have hil := (gs X).1
 have hol := (gs hy).1
 obtain ⟨rl, rr⟩ := f.hrates
 have hpl : d.ports.length = ports.length := by rw [f.hports]; simp
 have Y : ∀ (j : Nat) (z : Int), d.ports[j]? = some z → (j = i0 ∧ z = x0 - x.Rate) ∨ (j = o ∧ z = y + x.Rate) ∨ (j ≠ i0 ∧ j ≠ o ∧ ports[j]? = some z) := by
  intro j z G
  rw [f.hports, Du] at G
  split at G
  ·rename_i hh; simp at G; exact .inr (.inl ⟨hh.1.symm, G.symm⟩)
  ·rename_i hh
   rw [Du] at G
   have hjo : j ≠ o := fun he => hh ⟨he.symm, by simp; omega⟩
   split at G
   ·rename_i hg; simp at G; exact .inl ⟨hg.1.symm, G.symm⟩
   ·rename_i hg
    have hji : j ≠ i0 := fun he => hg ⟨he.symm, by omega⟩
    exact .inr (.inr ⟨hji, hjo, G⟩)
 have hin : d.ports[i0]? = some (x0 - x.Rate) := by rw [f.hports, Du, if_neg (fun h => hne h.1.symm), Du, if_pos ⟨rfl, hil⟩]
 have hou : d.ports[o]? = some (y + x.Rate) := by rw [f.hports, Du, if_pos ⟨rfl, by simpa using hol⟩]
 have back : ∀ (k : Nat) (r' : Int), d.rates[k]? = some r' → ∃ r, rates[k]? = some r ∧ r' = r - C8 x.Rate k x.Hops := by
  intro k r' aa
  have hkl := (gs aa).1
  have hr : rates[k]? = some (rates[k]'(by omega)) := gq _
  have := rr k _ hr
  rw [aa] at this; simp at this
  exact ⟨_, hr, this⟩
 have zr : ∀ k : Nat, rates[k]? = some 0 → d.rates[k]? = some 0 := by
  intro k hk
  have O := rr k 0 hk
  have W := f.less k 0 hk
  rw [O]; congr 1; omega
 have zp : ∀ k : Nat, ports[k]? = some 0 → d.ports[k]? = some 0 := by
  intro k hk
  have hki : k ≠ i0 := by rintro rfl; rw [X] at hk; simp at hk; omega
  have hko : k ≠ o := by rintro rfl; rw [hy] at hk; simp at hk; omega
  rw [f.hports, List.getElem?_set_ne (Ne.symm hko), List.getElem?_set_ne (Ne.symm hki)]; exact hk
 have ac : Z7 d.rates d.ports x := by
  rcases f.tight with ht | ht | ⟨Z, hm, ht⟩
  ·exact .inl ⟨i0, f.in_, by rw [hin]; congr 1; omega⟩
  ·exact .inr (.inl ⟨o, f.out, by rw [hou]; congr 1; omega⟩)
  ·obtain ⟨j, hj⟩ := List.getElem?_of_mem hm
   obtain ⟨k, s, r, e1, e2, e3, e4⟩ := f.way.hop j Z hj
   refine .inr (.inr ⟨Z, k, hm, e1, ?_⟩)
   have O := rr k r e3
   rw [O]
   have hs := Jp (rate := x.Rate) hj e1 fun j' y' hj' hy' he => hj' (f.way.once h.res hy' hj (he.trans e1.symm))
   rw [hs]
   rw [Mt e1 e3] at ht
   unfold Mg
   congr 1
   rcases e4 with ⟨b, q, _, _⟩ | ⟨b, q, _, _⟩
   ·rw [b, if_neg (by simp)]; omega
   ·rw [b, if_pos rfl]; omega
 have keep : ∀ z, Z7 rates ports z → Z7 d.rates d.ports z := by
  rintro z (⟨i, O, W⟩ | ⟨i, O, W⟩ | ⟨Z, k, O, W, h3⟩)
  ·exact .inl ⟨i, O, zp i W⟩
  ·exact .inr (.inl ⟨i, O, zp i W⟩)
  ·exact .inr (.inr ⟨Z, k, O, W, zr k h3⟩)
 have fresh : ∀ z : Path, z.In = x.In → z.Out = x.Out → z.Hops = x.Hops → ¬ Z7 rates ports z := by
  rintro z z1 z2 z3 (⟨i, O, W⟩ | ⟨i, O, W⟩ | ⟨Z, k, O, W, h3⟩)
  ·have : i = i0 := by have := f.in_; omega
   subst this; rw [X] at W; simp at W; omega
  ·have : i = o := by have := f.out; omega
   subst this; rw [hy] at W; simp at W; omega
  ·rw [z3] at O
   obtain ⟨j, hj⟩ := List.getElem?_of_mem O
   obtain ⟨k', s, r, e1, e2, e3, e4⟩ := f.way.hop j Z hj
   have : k = k' := by omega
   subst this
   rw [h3] at e3; simp at e3
   rcases e4 with ⟨_, q, _⟩ | ⟨_, q, _⟩ <;> omega
 have hlt : nz d.rates + nz d.ports < nz rates + nz ports := by
  have l1 := Vy (l := rates) (m := d.rates) rl.symm zr
  have l2 := Vy (l := ports) (m := d.ports) hpl.symm zp
  rcases ac with ⟨i, O, W⟩ | ⟨i, O, W⟩ | ⟨Z, k, O, W, h3⟩
  ·have : i = i0 := by have := f.in_; omega
   subst this
   have := Vx (l := ports) (m := d.ports) hpl.symm zp X (by omega) W
   omega
  ·have : i = o := by have := f.out; omega
   subst this
   have := Vx (l := ports) (m := d.ports) hpl.symm zp hy (by omega) W
   omega
  ·obtain ⟨j, hj⟩ := List.getElem?_of_mem O
   obtain ⟨k', s, r, e1, e2, e3, e4⟩ := f.way.hop j Z hj
   have : k = k' := by omega
   subst this
   have := Vx (l := rates) (m := d.rates) rl.symm zr e3 (by rcases e4 with ⟨_, q, _⟩ | ⟨_, q, _⟩ <;> omega) h3
   omega
 have hpi : p.Ports[i0]? = some (p.Ports[i0]'(by have := Z.pl; have := h.res.pl; omega)) := gq _
 have hpo : p.Ports[o]? = some (p.Ports[o]'(by have := Z.pl; have := h.res.pl; omega)) := gq _
 generalize p.Ports[i0]'(by have := Z.pl; have := h.res.pl; omega) = yi at hpi
 generalize p.Ports[o]'(by have := Z.pl; have := h.res.pl; omega) = yo at hpo
 have si := h.pshape i0 x0 yi X hpi
 have so := h.pshape o y yo hy hpo
 have hxr := h.res.prt i0 x0 X
 refine ⟨⟨f.res, fun k r' r0 aa ab => ?_, fun k z z0 G M => ?_, fun k r' r0 aa ab => ?_, fun k z z0 G M => ?_, fun z G => ?_, fun z G => ?_, fun i j a b hij ha hb => ?_, ?_⟩, hlt, fun j z G => ?_⟩
 ·obtain ⟨r, hr, rfl⟩ := back k r' aa
  have := h.shape k r r0 hr ab
  have := f.less k r hr
  omega
 ·rcases Y k z G with ⟨rfl, rfl⟩ | ⟨rfl, rfl⟩ | ⟨_, _, ad⟩
  ·rw [hpi] at M; simp at M; omega
  ·rw [hpo] at M; simp at M; omega
  ·exact h.pshape k z z0 ad M
 ·obtain ⟨r, hr, rfl⟩ := back k r' aa
  have := h.sumR k r r0 hr ab
  rw [Ga]; simp only [Bz]; omega
 ·rw [Fw]; simp only [Bj, F6]
  rw [f.in_, f.out]
  rcases Y k z G with ⟨rfl, rfl⟩ | ⟨rfl, rfl⟩ | ⟨n1, n2, ad⟩
  ·have := h.sumP k x0 z0 X M
   rw [if_pos rfl, if_neg (by omega)]; omega
  ·have := h.sumP k y z0 hy M
   rw [if_neg (by omega), if_pos rfl]; omega
  ·have := h.sumP k z z0 ad M
   rw [if_neg (by omega), if_neg (by omega)]; omega
 ·rcases List.mem_append.1 G with G | G
  ·exact h.paths z G
  ·simp at G; subst G
   refine ⟨i0, o, p0, po, yi, yo, nd, f.in_, f.out, f.hp0, f.hpo, hpi, by omega, hpo, by omega, ⟨fun j hh hj => ?_⟩, f.ends.1, f.ends.2, f.len, by omega, by omega⟩
   obtain ⟨k, s, r, e1, e2, e3, e4⟩ := f.way.hop j hh hj
   have hkl := (gs e3).1
   obtain ⟨r0, ab⟩ : ∃ ζ, p.Rates[k]? = some ζ := ⟨_, gq (by have := Z.rl; have := h.res.rl; omega)⟩
   have hsh := h.shape k r r0 e3 ab
   refine ⟨k, s, r0, e1, e2, ab, ?_⟩
   rcases e4 with ⟨b, q, q1, q2⟩ | ⟨b, q, q1, q2⟩
   ·exact .inl ⟨b, by omega, q1, q2⟩
   ·exact .inr ⟨b, by omega, q1, q2⟩
 ·rcases List.mem_append.1 G with G | G
  ·exact keep z (h.dead z G)
  ·simp at G; subst G; exact ac
 ·have hbl := (gs hb).1
  simp at hbl
  rw [List.getElem?_append_left (by omega)] at ha
  rw [List.getElem?_append] at hb
  split at hb
  ·exact h.apart i j a b hij ha hb
  ·have : j = out.length := by omega
   subst this
   simp at hb; subst hb
   rintro ⟨a1, a2, a3⟩
   exact fresh a a1 a2 a3 (h.dead a (mg ha))
 ·have := h.count
  simp; omega
 ·rcases Y j z G with ⟨rfl, rfl⟩ | ⟨rfl, rfl⟩ | ⟨_, _, ad⟩
  ·exact .inr (.inr rfl)
  ·exact .inr (.inl (by omega))
  ·exact .inl ad
theorem Lt.flip {up : Bool} {a b : Int} (h : Lt up a b) : Lt (!up) b a := by
 cases up <;> simpa [Lt] using h
theorem Res.neg {n : Nw} {up : Bool} {rates ports : Li} (h : Res n up rates ports) : Res n (!up) (rates.map fun x => -x) (ports.map fun x => -x) := by
 refine ⟨by simp [h.rl], by simp [h.pl], fun k r s O X => ?_, fun k x W => ?_, fun v => ?_⟩
 ·rw [List.getElem?_map] at O
  obtain ⟨M, G, rfl⟩ := Option.map_eq_some_iff.1 O
  have := h.rng k M s G X
  exact ⟨by omega, by omega, fun h => (this.2.2.2 (by omega)).flip, fun h => (this.2.2.1 (by omega)).flip⟩
 ·rw [List.getElem?_map] at W
  obtain ⟨M, G, rfl⟩ := Option.map_eq_some_iff.1 W
  have := h.prt k M G
  omega
 ·have := h.bal v
  rw [Mf, Mf]; omega
theorem still {n : Nw} (hn : NetF n) {up : Bool} {rates ports : Li} (h : Res n up rates ports) (hp : ∀ (k : Nat) (x : Int), ports[k]? = some x → x ≤ 0) :
  (∀ (k : Nat) (r : Int), rates[k]? = some r → r = 0) ∧ ∀ (k : Nat) (x : Int), ports[k]? = some x → x = 0 := by
 have O := h.neg
 have none : ∀ (m : Nat) (v : Int), Z3 n (!up) v = m → 0 ≤ v ∧ v < (n.Nodes.length : Int) ∧ v < 6 → ¬ D8 n (rates.map fun x => -x) (ports.map fun x => -x) v := by
  intro m
  induction m using Nat.strongRecOn with
  | ind m ih =>
   intro v hm hv hc
   refine aO O hc (fun i p x _ _ Y => ?_) fun k s r G X => ?_
   ·rw [List.getElem?_map] at Y
    obtain ⟨r', M, rfl⟩ := Option.map_eq_some_iff.1 Y
    have := hp i r' M
    omega
   ·have hrr := O.rng k r s X G
    have he := (hn.segs k s G).at6
    refine ⟨fun ⟨Z, h2⟩ => ?_, fun ⟨Z, h2⟩ => ?_⟩
    ·have hl := hrr.2.2.1 Z
     rw [h2] at hl
     exact ih (Z3 n (!up) s.To) (by have := Uh hv (by omega) hl; omega) s.To rfl (by omega) (.inr ⟨k, s, r, G, X, by omega, .inl ⟨Z, rfl⟩⟩)
    ·have hl := hrr.2.2.2 Z
     rw [h2] at hl
     exact ih (Z3 n (!up) s.From) (by have := Uh hv (by omega) hl; omega) s.From rfl (by omega) (.inr ⟨k, s, r, G, X, by omega, .inr ⟨Z, rfl⟩⟩)
 constructor
 ·intro k r X
  have hkl := (gs X).1
  obtain ⟨s, G⟩ : ∃ ζ, n.Segments[k]? = some ζ := ⟨_, gq (by have := h.rl; omega)⟩
  have he := (hn.segs k s G).at6
  have M : (rates.map fun x => -x)[k]? = some (-r) := by rw [List.getElem?_map, X]; rfl
  rcases Int.lt_trichotomy r 0 with W | W | W
  ·exact (none _ s.To rfl (by omega) (.inr ⟨k, s, -r, G, M, by omega, .inl ⟨by omega, rfl⟩⟩)).elim
  ·exact W
  ·exact (none _ s.From rfl (by omega) (.inr ⟨k, s, -r, G, M, by omega, .inr ⟨by omega, rfl⟩⟩)).elim
 ·intro k x Y
  have hkl := (gs Y).1
  obtain ⟨q, G⟩ : ∃ ζ, n.Ports[k]? = some ζ := ⟨_, gq (by have := h.pl; omega)⟩
  have he := (hn.ports k q G).at6
  have hx' : (ports.map fun x => -x)[k]? = some (-x) := by rw [List.getElem?_map, Y]; rfl
  have := hp k x Y
  by_cases hx0 : x = 0
  ·exact hx0
  ·exact (none _ q.Node rfl he (.inl ⟨k, q, -x, G, rfl, hx', by omega⟩)).elim
structure Divided (n : Network) (up : Bool) (p : Plan) (out : List Path) : Prop where
 res : Res n up p.Rates p.Ports
 sumR : ∀ (k : Nat) (r : Int), p.Rates[k]? = some r → r = Bz k out
 sumP : ∀ (k : Nat) (r : Int), p.Ports[k]? = some r → r = Bj k out
 paths : ∀ x, x ∈ out → PathOk n p x
 apart : ∀ (i j : Nat) (x y : Path), i < j → out[i]? = some x → out[j]? = some y → ¬ (x.In = y.In ∧ x.Out = y.Out ∧ x.Hops = y.Hops)
 count : out.length ≤ 14
theorem clone_ok {l : Li} (h : l.length ≤ 1000) : Ks l = some l := by
 unfold Ks
 rw [Fy (by simp; omega)]; rfl
theorem Xg {n : Nw} (hn : NetF n) {p : Plan} (hp : PlanOk n p) : Ok (Rf n p) fun r => r.2 = 0 ∧ ∃ up, Divided n up p r.1 := by
 obtain ⟨up, Y⟩ := hp.res
 have h1 := hn.segs1; have h2 := hn.ports1; have h3 := hp.rl; have h4 := hp.pl
 have Sk : nz p.Rates + nz p.Ports ≤ 14 := by have := Ue p.Rates; have := Ue p.Ports; omega
 unfold Rf
 rw [hn.check, Z9 hn hp.flow]
 refine .bind' (.pure (Cl (fun h => absurd rfl h) fun _ => .bind' (.pure (Cl (fun h => absurd rfl h) fun _ => ?_))))
 rw [clone_ok (by omega), clone_ok (by omega)]
 refine .bind' (.pure (.bind' (.pure ?_)))
 refine .bind' (.forI (S := List Bt × List Sg × List Port × List Sn × Int × Int × Li × Li × List Path) (fun k st => ∃ M G O, st = (n.Nodes, n.Segments, n.Ports, n.Stations, n.Vapour, n.Settle, M, G, O) ∧ DInv n up p M G O ∧ ∀ (j : Nat) (z : Int), j < k → G[j]? = some z → z ≤ 0)
  (fun _ => False) ⟨_, _, _, rfl, .start Y, fun j z h => absurd h (Nat.not_lt_zero _)⟩ ?_ ?_ fun _ h => h.elim)
 ·rintro k _ hk ⟨M, G, O, rfl, W, hz⟩
  unfold Rf.B2
  dsimp only
  refine .bind (Q := fun d : ((List Path) × Int) ⊕ (List Bt × List Sg × List Port × List Sn × Int × Int × Li × Li × List Path) => ∃ M G O, d = .inr (n.Nodes, n.Segments, n.Ports, n.Stations, n.Vapour, n.Settle, M, G, O) ∧ DInv n up p M G O ∧ ∀ (j : Nat) (z : Int), j < k + 1 → G[j]? = some z → z ≤ 0) ?_ ?_
  ·refine .loop (S := List Bt × List Sg × List Port × List Sn × Int × Int × Li × Li × List Path) (fun st => ∃ M G O, st = (n.Nodes, n.Segments, n.Ports, n.Stations, n.Vapour, n.Settle, M, G, O) ∧ DInv n up p M G O ∧ ∀ (j : Nat) (z : Int), j < k → G[j]? = some z → z ≤ 0)
    (fun st => nz st.2.2.2.2.2.2.1 + nz st.2.2.2.2.2.2.2.1) ⟨M, G, O, rfl, W, hz⟩ (by have := W.count; dsimp only; omega) ?_
   rintro _ ⟨M, G, O, rfl, W, hz⟩
   have hpl := W.res.pl
   obtain ⟨x, hx⟩ : ∃ ζ, G[k]? = some ζ := ⟨_, gq (by omega)⟩
   unfold Rf.B4
   refine .bind' (.eq (Bg hx) (A0 (fun Z => ?_) fun hneg => .pure ⟨M, G, O, rfl, W, fun j z hj X => ?_⟩))
   ·dsimp only at Z ⊢
    refine .bind (Xc hn W.res hx Z) ?_
    rintro ⟨y, d⟩ ⟨o, p0, po, y1, nd, f⟩
    dsimp only at f
    obtain ⟨g1, g2, g3⟩ := W.follow Y f
    have hc := W.count
    have hf := f.len
    refine A9 (fun hb => ?_) fun _ => .bind' (.app (by simp; omega) (.pure ⟨⟨d.rates, d.ports, O ++ [y], ?_, g1, fun j z hj X => ?_⟩, g2⟩))
    ·simp at hb; omega
    ·rw [f.net]
    ·rcases g3 j z X with h | h | h
     ·exact hz j z hj h
     ·exact h
     ·omega
   ·dsimp only at hneg
    by_cases hjk : j = k
    ·subst hjk; rw [hx] at X; simp at X; omega
    ·exact hz j z (by omega) X
  ·rintro _ ⟨M, G, O, rfl, W, hz⟩
   simp only [Sum.elim_inr]
   unfold Rf.J3
   exact .pure ⟨M, G, O, rfl, W, hz⟩
 ·rintro _ ⟨M, G, O, rfl, W, hz⟩
  simp only [Sum.elim_inl]
  unfold Rf.J1
  have hpl := W.res.pl; have hrl := W.res.rl
  obtain ⟨s1, s2⟩ := still hn W.res fun k x hx => hz k x (by have := (gs hx).1; omega) hx
  refine .pure ⟨rfl, up, Y, fun k r hr => ?_, fun k r hr => ?_, W.paths, W.apart, by have := W.count; dsimp only; omega⟩
  ·have hkl := (gs hr).1
   have hq : M[k]? = some (M[k]'(by omega)) := gq _
   have := W.sumR k _ r hq hr
   have := s1 k _ hq
   dsimp only; omega
  ·have hkl := (gs hr).1
   have hq : G[k]? = some (G[k]'(by omega)) := gq _
   have := W.sumP k _ r hq hr
   have := s2 k _ hq
   dsimp only; omega
theorem Ii {s : Li} {v : Int} :
  Ok (M9 s v) fun r => (r = -1 ∧ ∀ (j : Nat) (y : Int), s[j]? = some y → (v == y) = false) ∨ ∃ (k : Nat) (y : Int), r = (k : Int) ∧ s[k]? = some y ∧ (v == y) = true ∧ ∀ (j : Nat) (y : Int), j < k → s[j]? = some y → (v == y) = false := by
 unfold M9
 refine .bind' (.forL (fun k _ => ∀ (j : Nat) (y : Int), j < k → s[j]? = some y → (v == y) = false) (fun r => ∃ (k : Nat) (y : Int), r = (k : Int) ∧ s[k]? = some y ∧ (v == y) = true ∧ ∀ (j : Nat) (y : Int), j < k → s[j]? = some y → (v == y) = false) (fun j y h => absurd h (Nat.not_lt_zero _)) ?_ ?_ ?_)
 ·intro k x _ W M
  unfold M9.B2
  refine A9 (fun O => .pure ⟨k, x, rfl, W, O, M⟩) fun O => .pure fun j y Y G => ?_
  by_cases h : j < k
  ·exact M j y h G
  ·have : j = k := by omega
   subst this
   rw [W] at G; simp at G; subst G; exact O
 ·intro _ M
  simp only [Sum.elim_inl]
  unfold M9.J1
  exact .pure (.inl ⟨rfl, fun j y G => M j y (gs G).1 G⟩)
 ·intro b X
  exact .pure (.inr X)
end Go.Proofs.YtihdchjpepkpbaaGreat
