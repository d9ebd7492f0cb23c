/- Plain proofs. No condition. -/
import Derived.Test.YtmaamhgjeampmaaGreatZwP3
import Derived.Test.YtmaamhgjeampmaaGreatZwP1
import Derived.Test.YtmaamhgjeampmaaGreatZwP2
import Derived.Test.YtmaamhgjeampmaaGreatZwD
import Derived.KernelRfl
import Derived.Test.YtmaamhgjeampmaaGreatZwB1
import Derived.ProofKit
import Derived.SizedLaws
import Derived.Carry
set_option maxRecDepth 100000
namespace Go.Proofs.YtmaamhgjeampmaaGreat
set_option linter.unusedVariables false
set_option linter.unusedSimpArgs false
open Go.Aw
theorem NetOk.few {n : Nw} (h : NetOk n) : Few12 n := by
 have M := h.nodes; have O := h.segs1; have W := h.ports1; have X := h.sts1
 refine ⟨by omega, by omega, by omega, by omega, fun k s G => ?_⟩
 have := h.v.w.sane.pts k s G
 have := (h.segs k s G).points.len
 omega
theorem WrongR.netF {n m : Nw} (O : NetOk n) (h : WrongR n m) (hc : En m = some 0) : NetF m := by
 have h1 := O.nodes; have h2 := O.segs1; have h3 := O.ports1; have h4 := O.sts1
 have o2 := h.odd.segs; have o3 := h.odd.ports; have o4 := h.odd.sts
 obtain ⟨e, c1, c2, c3⟩ := S1 (h.odd.sane O.few)
 rw [hc] at c1; cases c1
 have W := c3.c hc
 obtain ⟨a, b, c, d, f⟩ := c3.good
 obtain ⟨i, x, y, hx, hs, hto, hfr, M⟩ := h.seg
 have hxo := (O.segs i x hx).ends
 have Y : ∀ (k : Nat) (s : Sg), m.Segments[k]? = some s → s.From < 6 ∧ s.To < 6 := fun k s G => by
  have he := (W.segs k s G).1
  rcases M with M | ⟨hf, _, _⟩
  ·omega
  ·rw [hs, List.getElem?_set] at G
   split at G
   ·split at G
    ·cases G; omega
    ·cases G
   ·have := (O.segs k s G).ends; omega
 have X : ∀ (k : Nat) (s : Port), m.Ports[k]? = some s → s.Node < 6 := fun k s G => by
  have he := W.ports k s G
  rcases M with M | ⟨_, hp, _⟩
  ·omega
  ·rw [hp] at G; have := (O.ports k s G).node; omega
 have Z : ∀ (k : Nat) (s : Sn), m.Stations[k]? = some s → s.Node < 6 := fun k s G => by
  have he := d.2.2 k s G
  unfold At at he
  rcases M with M | ⟨_, _, hp⟩
  ·omega
  ·rw [hp] at G; have := (O.sts k s G).node; omega
 exact ⟨W, by omega, fun k s G => ⟨(W.segs k s G).1, Y k s G⟩, by omega, fun k s G => ⟨W.ports k s G, X k s G⟩, by omega, fun k s G => ⟨d.2.2 k s G, Z k s G⟩, c2⟩
theorem Zm : ∀ {w l : Li} {k : Nat} {a b x : Int}, w[k]? = some a → l[k]? = some x → E0 (w.set k b) l = E0 w l + (b - a) * x
 | [], _, _, _, _, _, h, _ => by simp at h
 | _ :: _, [], _, _, _, _, _, h => by simp at h
 | c :: w, z :: l, 0, a, b, x, h1, h2 => by
  simp at h1 h2; subst h1 h2
  simp only [List.set_cons_zero, E0]
  rw [Int.sub_mul]; omega
 | c :: w, z :: l, k + 1, a, b, x, h1, h2 => by
  simp only [List.set_cons_succ, E0]
  rw [Zm (w := w) (by simpa using h1) (by simpa using h2)]; omega
theorem FlowOk.bal' {n : Nw} (M : NetC n) {p : Plan} (h : FlowOk n p) (v : Int) : E0 (wt n v) p.Rates + E0 (wp n v) p.Ports = 0 := by
 by_cases X : 0 ≤ v
 ·obtain ⟨k, rfl⟩ := E2 X
  have Y : Bal n p := fun v X => h.bal v (by have := M.nodes; omega)
  exact Y.all M k
 ·rw [Hg, Hg]; rfl
  ·intro x W
   obtain ⟨k, G⟩ := List.getElem?_of_mem W
   unfold wp at G
   rw [List.getElem?_map] at G
   obtain ⟨s, O, rfl⟩ := Option.map_eq_some_iff.1 G
   have := M.ports k s O
   exact Eh (by omega)
  ·intro x W
   obtain ⟨k, G⟩ := List.getElem?_of_mem W
   unfold wt at G
   rw [List.getElem?_map] at G
   obtain ⟨s, O, rfl⟩ := Option.map_eq_some_iff.1 G
   have := (M.segs k s O).1
   rw [Eh (a := s.To) (by omega), Eh (a := s.From) (by omega)]; rfl
theorem WrongR.plan {n m : Nw} (hn : NetOk n) (h : WrongR n m) {p : Plan} (hp : PlanOk n p) (hm : NetC m) (hf : FlowOk m p) : PlanOk m p := by
 obtain ⟨i, x, y, W, hs, M, Y, hno⟩ := h.seg
 have hxo := (hn.segs i x W).ends
 have hil := (gs W).1
 obtain ⟨r0, hr⟩ : ∃ ζ, p.Rates[i]? = some ζ := ⟨_, gq (by have := hp.rl; omega)⟩
 have key : y.From = x.From ∨ r0 = 0 := by
  by_cases hy : y.From = x.From
  ·exact .inl hy
  ·have hpo := Y.resolve_left hy
   have b1 := hp.bal x.From
   have b2 := hf.bal' hm x.From
   have e : wt m x.From = (wt n x.From).set i (ind y.To x.From - ind y.From x.From) := by
    unfold wt; rw [hs, List.map_set]
   have ep : wp m x.From = wp n x.From := by unfold wp; rw [hpo]
   rw [e, ep, Zm (T4 _ W) hr, M, Eh (a := x.To) (by omega), Eh (a := y.From) hy, Ex] at b2
   right; omega
 refine ⟨hf.rl, hf.pl, hf.ml, hf.rng, hf.prt, hf.bal' hm, hp.dir.imp (fun X k r s O G => ?_) (fun X k r s O G => ?_)⟩
 all_goals
  rw [hs, List.getElem?_set] at G
  split at G
  ·rename_i Z
   subst Z
   cases G
   rw [hr] at O; cases O
   rcases key with e | e
   ·have := X i r0 x hr W
    rw [M, e]; exact this
   ·exact ⟨fun h => by omega, fun h => by omega⟩
  ·exact X k r s O G
structure OffR (p q : Plan) : Prop where
 len : q.Rates.length ≤ p.Rates.length ∧ q.Ports.length ≤ p.Ports.length ∧ q.Pumps.length ≤ p.Pumps.length + 1
 is : (q.Pumps.length = p.Pumps.length + 1) ∨ (q.Rates = p.Rates ∧ q.Pumps = p.Pumps ∧ ∃ k, q.Ports = p.Ports.take k) ∨
  (q.Rates = p.Rates ∧ ∃ (i : Nat) (x y : Int), p.Ports[i]? = some x ∧ q.Ports = p.Ports.set i y ∧ x ≠ y) ∨
  (q.Ports = p.Ports ∧ ∃ (i : Nat) (x y : Int), p.Rates[i]? = some x ∧ q.Rates = p.Rates.set i y ∧ x ≠ y) ∨ q = p
theorem OffR.plan {n : Nw} (hn : NetOk n) {p q : Plan} (h : OffR p q) (M : PlanOk n p) (hf : FlowOk n q) : PlanOk n q := by
 have hc := hn.g.c
 rcases h.is with h | ⟨O, G, k, W⟩ | ⟨O, i, x, y, G, W, h4⟩ | ⟨O, i, x, y, G, W, h4⟩ | rfl
 ·have := hf.ml; have := M.ml; omega
 ·have e : q.Ports = p.Ports := by
   have := hf.pl; have := M.pl
   rw [W, List.length_take] at *
   exact List.take_of_length_le (by omega)
  obtain ⟨a, b, c⟩ := q
  obtain ⟨a', b', c'⟩ := p
  simp only at O G e
  subst O G e
  exact M
 ·exfalso
  have Z := (gs G).1
  obtain ⟨s, X⟩ : ∃ ζ, n.Ports[i]? = some ζ := ⟨_, gq (by have := M.pl; omega)⟩
  have b1 := M.bal s.Node
  have Y := hf.bal' hc s.Node
  rw [O, W, Fs (Qp _ X) G, Ex] at Y
  omega
 ·exfalso
  have Z := (gs G).1
  obtain ⟨s, X⟩ : ∃ ζ, n.Segments[i]? = some ζ := ⟨_, gq (by have := M.rl; omega)⟩
  have he := (hn.segs i s X).ends
  have b1 := M.bal s.To
  have Y := hf.bal' hc s.To
  rw [O, W, Fs (T4 _ X) G, Ex, Eh (a := s.From) (by omega)] at Y
  omega
 ·exact M
theorem pI {s : Yg} (hs : SrcOk s) {p : Plan} (h1 : p.Rates.length ≤ 1000) (h2 : p.Ports.length ≤ 1000) (h3 : p.Pumps.length ≤ 1000) (hr : ∀ (k : Nat) (r : Int), p.Rates[k]? = some r → -1000 ≤ r ∧ r ≤ 1000) (hp : ∀ (k : Nat) (r : Int), p.Ports[k]? = some r → -1000 ≤ r ∧ r ≤ 1000) :
  Ok (Ls s p) fun r => OffR p r.1 ∧ SrcOk r.2 := by
 unfold Ls
 refine .bind' (.app (by simp; omega) (.bind' (.app (by simp; omega) (.bind' (.app (by simp; omega) ?_)))))
 simp only [List.nil_append]
 unfold Ls.J1 Ls.J2
 dsimp only
 refine .bind (E8 hs (by decide) (by decide)) fun c W => ?_
 have G : OffR p ⟨p.Rates, p.Ports, p.Pumps⟩ := ⟨by simp, .inr (.inr (.inr (.inr rfl)))⟩
 refine Ax (fun _ => ?_) fun _ => Ax (fun _ => ?_) fun _ => Ax (fun _ => ?_) fun _ => ?_
 ·exact .bind' (.app (by simp; omega) (.pure ⟨⟨by simp, .inl (by simp)⟩, W.1⟩))
 ·rw [Bc (by omega)]
  refine .bind (E8 W.1 (by omega) (by omega)) fun a O => ?_
  obtain ⟨j, hj⟩ := E2 O.2.1
  exact .bind' (.sub 0 j rfl hj (Nat.zero_le _) (by omega) (.pure ⟨⟨by simp; omega, .inr (.inl ⟨rfl, rfl, j, by simp⟩)⟩, O.1⟩))
 ·refine As (fun hl => .bind (E8 W.1 (by omega) (by omega)) fun a O => .bind' (.ix' (by omega) (by omega) fun i x hi Y => .bind (C5 O.1 (by simp) (by simp)) fun b X => .pure ⟨⟨by simp, .inr (.inr (.inl ⟨rfl, i, x, _, Y, rfl, ?_⟩))⟩, X.1⟩)) fun _ => .pure ⟨G, W.1⟩
  have M := X.2
  have Z := hp i x Y
  simp at M
  rw [Bc (by omega)]; omega
 ·refine As (fun hl => .bind (E8 W.1 (by omega) (by omega)) fun a O => .bind' (.ix' (by omega) (by omega) fun i x hi Y => .bind (C5 O.1 (by simp) (by simp)) fun b X => .pure ⟨⟨by simp, .inr (.inr (.inr (.inl ⟨rfl, i, x, _, Y, rfl, ?_⟩)))⟩, X.1⟩)) fun _ => .pure ⟨G, W.1⟩
  have M := X.2
  have Z := hr i x Y
  simp at M
  rw [Bc (by omega)]; omega
theorem dT : R4 = some true := by kernel_rfl
theorem rU : Ok (R4.bind fun r => some r) fun r => r = true := by rw [dT]; exact .pure rfl
theorem lD {n : Nw} (hn : NetF n) {p : Plan} (W : PlanOk n p) : Ok (Se n p) fun q => PlanOk n q ∧ oP n q := by
 have h1 := hn.segs1; have h2 := hn.ports1; have h3 := hn.sts1; have h4 := W.rl; have h5 := W.pl; have h6 := W.ml
 unfold Se
 rw [bR (by omega) (by omega) (by omega)]
 refine .bind' (.pure (.bind (Q := fun m : List Bool => m.length = n.Stations.length ∧ ∀ (i : Nat) (G : Sn), n.Stations[i]? = some G → m[i]? = some true → Ew n p.Rates p.Ports G.Node) ?_ ?_))
 ·refine .loop (S := List Bool × Int) (fun G => ∃ k : Nat, G.2 = (k : Int) ∧ k ≤ n.Stations.length ∧ G.1.length = n.Stations.length ∧ ∀ (i : Nat) (s : Sn), i < k → n.Stations[i]? = some s → G.1[i]? = some true → Ew n p.Rates p.Ports s.Node) (fun G => n.Stations.length - G.2.toNat)
   ⟨0, rfl, by omega, h6, fun i s h => absurd h (Nat.not_lt_zero _)⟩ (by dsimp only; omega) ?_
  rintro ⟨m, _⟩ ⟨k, rfl, hk, M, Z⟩
  dsimp only at M Z
  unfold Se.B2
  refine Ax (fun hb => ?_) fun hb => .pure ⟨M, fun i s X hi => Z i s ?_ X hi⟩
  ·have hlt : k < n.Stations.length := by simp at hb; omega
   have X : n.Stations[k]? = some n.Stations[k] := gq hlt
   obtain ⟨x, hx⟩ : ∃ ζ, m[k]? = some ζ := ⟨_, gq (by omega)⟩
   have j3 : ∀ z : Bool, (z = true → Ew n p.Rates p.Ports n.Stations[k].Node) → Ok (Se.J3 (m, (k : Int)) (m.set k z)) (Sum.elim (fun G : List Bool × Int => (∃ k : Nat, G.2 = (k : Int) ∧ k ≤ n.Stations.length ∧ G.1.length = n.Stations.length ∧ ∀ (i : Nat) (s : Sn), i < k → n.Stations[i]? = some s → G.1[i]? = some true → Ew n p.Rates p.Ports s.Node) ∧ n.Stations.length - G.2.toNat < n.Stations.length - ((k : Nat) : Int).toNat)
     fun m : List Bool => m.length = n.Stations.length ∧ ∀ (i : Nat) (G : Sn), n.Stations[i]? = some G → m[i]? = some true → Ew n p.Rates p.Ports G.Node) := by
    intro z hz
    unfold Se.J3
    refine .pure ⟨⟨k + 1, by dsimp only; rw [Bc (by omega)]; omega, by omega, by simp [M], fun i s hi O h => ?_⟩, by dsimp only; rw [Bc (by omega)]; omega⟩
    dsimp only at h
    by_cases Y : k = i
    ·subst Y
     rw [List.getElem?_set_self (by omega)] at h
     rw [X] at O; simp at O h; subst O
     exact hz h
    ·rw [List.getElem?_set_ne Y] at h
     exact Z i s (by omega) O h
   refine .bind' (.eq (A0 X) (.bind (Pd hn W.flow (hn.sts k _ X).node) fun r hr => .bind' (.eq (A0 hx) ?_)))
   refine Ax (fun _ => Dl (fun _ => j3 _ fun hz => hr.2.2.1 ?_) fun _ => j3 _ fun h => by cases h) fun _ => j3 _ fun h => by cases h
   simp at hz; omega
  ·have hil := (gs X).1
   simp at hb; omega
 ·rintro m ⟨M, Z⟩
  unfold Se.J1
  exact .pure ⟨⟨h4, h5, M, W.rng, W.prt, W.bal, W.dir⟩, Z⟩
theorem kQ {n : Nw} (M : NetOk n) {s : Yg} (X : SrcOk s) : Ok (R3 s n) fun r => PlanOk n r.1 ∧ oP n r.1 ∧ SrcOk r.2 := by
 unfold R3
 refine .bind (dC M X) ?_
 rintro ⟨p, Y⟩ ⟨W, G⟩
 exact .bind (lD M.f W) fun q O => .pure ⟨O.1, O.2, G⟩
def Iz (v : Valve) : Valve := ⟨v.Travel, v.Open, v.Want, false⟩
theorem oX {s : Yg} (hs : SrcOk s) : Ok (Xa s) fun r => VOk (Iz r.1) ∧ SrcOk r.2 := by
 unfold Xa
 refine .bind (C5 hs (by simp) (by simp)) ?_
 rintro ⟨t, s1⟩ ⟨W, ht⟩
 have G : 1 ≤ t ∧ t ≤ 60 := by simp at ht; omega
 refine .bind (E8 W (by omega) (by omega)) ?_
 rintro ⟨w, s2⟩ ⟨X, _⟩
 refine .bind (E8 X (by omega) (by omega)) ?_
 rintro ⟨k, s3⟩ ⟨Y, _⟩
 dsimp only
 rw [Bc (by omega)]
 refine .bind (E8 Y (by omega) (by omega)) ?_
 rintro ⟨x, s4⟩ ⟨Z, M, O⟩
 dsimp only at M O
 refine .bind (C5 Z (by simp) (by simp)) ?_
 rintro ⟨o, s5⟩ ⟨h5, ho⟩
 refine .pure ⟨⟨G, ?_, rfl⟩, h5⟩
 show 0 ≤ o ∧ o ≤ t
 simp at ho; omega
theorem sU {n : Nw} (M : NetF n) {s : Yg} (O : SrcOk s) {p : Plan} (hp : PlanOk n p) : Ok (Xc s n p) fun r => (PlanOk n r.1.Plan ∧ oP n r.1.Plan ∧ r.1.Valves.length = n.Segments.length + n.Ports.length ∧ (∀ v, v ∈ r.1.Valves → VOk (Iz v)) ∧ aZ r.1.Valves (Dd r.1.Plan)) ∧ SrcOk r.2 := by
 have h1 := M.segs1; have h2 := M.ports1
 unfold Xc
 refine .bind (lD M hp) fun q hq => ?_
 obtain ⟨hq, hf⟩ := hq
 have h4 := hq.rl; have h5 := hq.pl
 have hnl := If h4 h5
 rw [Xv (by omega) (by omega)]
 refine .bind' (.pure ?_)
 rw [cS (by simp; omega) (by simp; omega)]
 refine .bind' (.pure (.bind (Q := fun d : Li × Int × List Valve => SrcOk ⟨d.1, d.2.1⟩ ∧ d.2.2.length = (Dd q).length ∧ (∀ v, v ∈ d.2.2 → VOk (Iz v)) ∧ aZ d.2.2 (Dd q)) ?_ ?_))
 ·refine .loop (S := Li × Int × List Valve × Int) (fun G => ∃ k : Nat, G.2.2.2 = (k : Int) ∧ k ≤ (Dd q).length ∧ SrcOk ⟨G.1, G.2.1⟩ ∧ G.2.2.1.length = k ∧ (∀ v, v ∈ G.2.2.1 → VOk (Iz v)) ∧ ∀ i : Nat, i < k → (Dd q)[i]? = some true → ∃ v, G.2.2.1[i]? = some v ∧ v.Open = v.Travel ∧ v.Want = true) (fun G => (Dd q).length - G.2.2.2.toNat)
   ⟨0, rfl, by omega, O, rfl, by simp, fun i h => absurd h (Nat.not_lt_zero _)⟩ (by dsimp only; omega) ?_
  rintro ⟨L_, At, vs, _⟩ ⟨k, rfl, hk, O, Z, hv, hr⟩
  dsimp only at O Z hv hr
  unfold Xc.B2
  refine As (fun hlt => ?_) fun X => .pure ⟨O, ?_, hv, fun i hi => hr i ?_ hi⟩
  ·have hlt' : (k : Int) < ((Dd q).length : Int) := hlt
   refine .bind (oX O) ?_
   rintro ⟨v, s1⟩ ⟨W, hs1⟩
   obtain ⟨x, hx⟩ : ∃ ζ, (Dd q)[k]? = some ζ := ⟨_, gq (by omega)⟩
   have j3 : ∀ (o : Int) (w : Bool), 0 ≤ o → o ≤ v.Travel → (x = true → o = v.Travel ∧ w = true) → Ok (Xc.J3 (L_, At, vs, (k : Int)) (v, s1) (o, w)) (Sum.elim (fun G : Li × Int × List Valve × Int => (∃ k : Nat, G.2.2.2 = (k : Int) ∧ k ≤ (Dd q).length ∧ SrcOk ⟨G.1, G.2.1⟩ ∧ G.2.2.1.length = k ∧ (∀ v, v ∈ G.2.2.1 → VOk (Iz v)) ∧ ∀ i : Nat, i < k → (Dd q)[i]? = some true → ∃ v, G.2.2.1[i]? = some v ∧ v.Open = v.Travel ∧ v.Want = true) ∧ (Dd q).length - G.2.2.2.toNat < (Dd q).length - ((k : Nat) : Int).toNat)
     fun d : Li × Int × List Valve => SrcOk ⟨d.1, d.2.1⟩ ∧ d.2.2.length = (Dd q).length ∧ (∀ v, v ∈ d.2.2 → VOk (Iz v)) ∧ aZ d.2.2 (Dd q)) := by
    intro o w ho0 ho1 hxo
    unfold Xc.J3
    refine .bind' (.app (by simp; omega) (.pure ⟨⟨k + 1, by dsimp only; rw [Bc (by omega)]; omega, by omega, hs1, by simp [Z], fun y hy => ?_, fun i hi M => ?_⟩, by dsimp only; rw [Bc (by omega)]; omega⟩))
    ·rcases List.mem_append.1 hy with hy | hy
     ·exact hv y hy
     ·have : y = ⟨v.Travel, o, w, v.Stuck⟩ := by simpa using hy
      subst this
      exact ⟨W.travel, ⟨ho0, ho1⟩, rfl⟩
    ·dsimp only
     by_cases hik : i = k
     ·subst hik
      rw [hx] at M; simp at M
      obtain ⟨e1, e2⟩ := hxo M
      exact ⟨⟨v.Travel, o, w, v.Stuck⟩, by rw [List.getElem?_append_right (by omega), Z]; simp, e1, e2⟩
     ·obtain ⟨y, a, b⟩ := hr i (by omega) M
      exact ⟨y, by rw [List.getElem?_append_left (by omega)]; exact a, b⟩
   have ho := W.opn
   have htv := W.travel
   dsimp only [Iz] at ho htv
   refine .bind' (.eq (A0 hx) (Ax (fun _ => j3 _ _ (by dsimp only; omega) (by dsimp only; omega) fun _ => ⟨rfl, rfl⟩) fun hb => j3 _ _ ho.1 ho.2 fun h => ?_))
   dsimp only at hb; rw [h] at hb; cases hb
  ·have Y : ¬ (k : Int) < ((Dd q).length : Int) := X
   dsimp only; omega
  ·have Y : ¬ (k : Int) < ((Dd q).length : Int) := X
   have := (gs hi).1; omega
 ·rintro ⟨L_, At, vs⟩ ⟨O, Z, hv, hr⟩
  exact .pure ⟨⟨hq, hf, by dsimp only at Z ⊢; omega, hv, hr⟩, O⟩
theorem Ll {n : Nw} (M : Sane n) (hf : En n = some 0 → NetF n) {d : Desk} {to : Plan} (hl : d.Valves.length ≤ 1000) (Hd : NetF n → FlowOk n d.Plan → PlanOk n d.Plan) (Ht : NetF n → FlowOk n to → PlanOk n to) (ramp rest : Int) :
  Ok (bC.J2 (n, d.Valves, d.Plan.Rates, d.Plan.Ports, d.Plan.Pumps, to, ramp, rest)) fun r => r = true := by
 obtain ⟨r, O, W, G⟩ := Tg M hf hl Hd Ht ramp rest
 obtain ⟨q, X, Y, Z⟩ := pP M hf hl Hd ramp rest
 unfold bC.J2 bC.J3
 dsimp only
 refine .bind' (.eq O (.bind' (.eq W (.bind' (.eq X (.bind' (.eq Y ?_)))))))
 refine Ax (fun _ => Ax (fun _ => ?_) fun h => by simp at h) fun h => by simp at h
 refine .bind' (.eq (Uj G) (Ax (fun _ => .bind' (.eq (Uj Z) (Ax (fun _ => ?_) fun h => by cases h))) fun h => by cases h))
 refine .bind' (.eq (uD G) (.bind' (.eq (uC G) (Ax (fun _ => ?_) fun h => by simp at h))))
 rw [dT]
 exact .bind' (.pure (.pure rfl))
theorem rP (x : Int) {k : Int} (h1 : 1 ≤ k) (h2 : k ≤ 9223372036854775807) : Ok (Og x k) fun _ => True := by
 unfold Og; exact .bind (kW _ h1 h2) fun _ _ => .pure trivial
theorem aB (l : Li) (odd ramp rest : Int) : bC l odd ramp rest = some true := by
 refine Hj ?_
 unfold bC
 refine Ea (fun _ => rU) fun _ => .bind (sI l) fun s M => .bind (sJ M) ?_
 rintro ⟨n, s1⟩ ⟨G, M⟩
 dsimp only at G M
 have h1 := G.segs1; have h2 := G.ports1; have h3 := G.sts1
 refine .bind (kQ G M) ?_
 rintro ⟨p, s2⟩ ⟨hp, _, M⟩
 refine .bind (sU G.f M hp) ?_
 rintro ⟨d, s3⟩ ⟨⟨X, df, dl, dv, dr⟩, M⟩
 unfold bC.J1
 dsimp only at X df dl dv dr M ⊢
 refine .bind (kQ (s := ⟨s3.L_, s3.At⟩) G M) ?_
 rintro ⟨to, s4⟩ ⟨Z, _, M⟩
 dsimp only at Z M ⊢
 have sn := G.v.w.sane
 refine .bind (E8 M (by decide) (by decide)) fun r hr => .bind (E8 hr.1 (by decide) (by decide)) fun w hw => .bind (rP odd (by decide) (by decide)) fun o _ => ?_
 have off : ∀ {q : Plan}, PlanOk n q → Ok (Ls w.2 q) fun r => OffR q r.1 ∧ SrcOk r.2 := fun {q} W => by
  have e1 := W.rl; have e2 := W.pl; have e3 := W.ml
  refine pI hw.1 (by omega) (by omega) (by omega) (fun k r hk => ?_) W.prt
  have M : n.Segments[k]? = some (n.Segments[k]'(by have := (gs hk).1; omega)) := gq _
  have := W.rng k r _ hk M
  omega
 have O := fun (ramp rest : Int) => Ll (d := d) (to := to) sn (fun _ => G.f) (by omega) (fun _ _ => X) (fun _ _ => Z) ramp rest
 refine Ax (fun _ => ?_) fun _ => Ax (fun _ => ?_) fun _ => Ax (fun _ => ?_) fun _ => Ax (fun _ => ?_) fun _ => Ax (fun _ => ?_) fun _ => Ax (fun _ => ?_) fun _ => Ax (fun _ => ?_) fun _ => Ax (fun _ => ?_) fun _ => ?_
 ·refine .bind (eH hw.1 G.few) fun m hm => ?_
  exact Ll (n := m.1) (d := d) (to := to) (hm.1.odd.sane G.few) (hm.1.netF G) (by omega) (fun Y => hm.1.plan G X Y.c) (fun Y => hm.1.plan G Z Y.c) _ _
 ·exact .bind (off Z) fun q W => Ll (d := d) (to := q.1) sn (fun _ => G.f) (by omega) (fun _ _ => X) (fun _ Y => W.1.plan G Z Y) _ _
 ·exact .bind (rP _ (by decide) (by decide)) fun z _ => O _ _
 ·exact .bind (rP _ (by decide) (by decide)) fun z _ => O _ _
 ·exact .bind' (.ix' (by omega) (by omega) fun k v _ hv => Ll (d := ⟨d.Valves.set k _, d.Plan⟩) (to := to) sn (fun _ => G.f) (by simp; omega) (fun _ _ => X) (fun _ _ => Z) _ _)
 ·refine .bind (dC G hw.1) fun q W => ?_
  exact Ll (d := d) (to := q.1) sn (fun _ => G.f) (by omega) (fun _ _ => X) (fun _ _ => W.1) _ _
 ·exact .bind (off X) fun q W => Ll (d := ⟨d.Valves, q.1⟩) (to := to) sn (fun _ => G.f) (by dsimp only; omega) (fun _ Y => W.1.plan G X Y) (fun _ _ => Z) _ _
 ·exact Ll (d := d) (to := d.Plan) sn (fun _ => G.f) (by omega) (fun _ _ => X) (fun _ _ => X) _ _
 ·exact O _ _
end Go.Proofs.YtmaamhgjeampmaaGreat
namespace Go.Aw
set_option linter.unusedVariables false
set_option linter.unusedSimpArgs false
open Go.ChangeShapes Go.WideShapes Go.ChangeAt Go.RowKit
section
variable {H : Type} {enc : TypeId × Value → H} {P : Program}
theorem Lc (hl : laidOutB P = true) {W W' : World} (hb : Below W.heap.size W W') : ∀ {M : List TypeId} {vs : List Value} {ds : List (DataW H)} {G : List MemPlace},
  (∀ t, t ∈ M → P.readableRec t = true ∧ t < P.types.size) → (∀ x, x ∈ G → x.block < W.heap.size) → DataW.TrodAll enc P W 0 (fun _ => true) true M vs ds G →
  DataW.TrodAll enc P W' 0 (fun b => decide (b < W.heap.size)) true M vs ds G
 | [], vs, ds, G, _, _, h => by
  cases vs <;> cases ds <;> simp [DataW.TrodAll] at h ⊢
  exact h
 | t :: M, vs, ds, G, ht, hlt, h => by
  obtain ⟨v, vs', d, Z, p, q, rfl, rfl, rfl, h1, h2⟩ := trodAll_cons h
  have Y := ht t (by simp)
  exact ⟨p, q, Below.trod hl Y.1 Y.2 h1 hb (fun x X => hlt x (by simp [X])), Lc hl hb (fun t O => ht t (by simp [O])) (fun x X => hlt x (by simp [X])) h2, rfl⟩
theorem mE {f : Func} {s : ChangeSpec} {W W' : World} {args : Array Value} {ds : List (DataW H)} {p : List MemPlace} {t : TypeId} (hW : DataW.Whole enc P f.params.toList s.vars false W args.toList ds [] (p ++ []))
  (hA : DataW.TrodAll enc P W 0 (fun _ => true) true f.params.toList args.toList ds p)
  (O : (s.fn H (ds ++ [])).results = [.lit (.bool true)]) (G : (s.fn H (ds ++ [])).args = ds) (hv : (s.fn H (ds ++ [])).vars = []) (Z : s.vars = [])
  (X : f.resultTypes.toList = [t]) (hu : P.underlying t = some .bool) (hl : laidOutB P = true) (M : ∀ t, t ∈ f.params.toList → P.readableRec t = true ∧ t < P.types.size)
  (hb : Below W.heap.size W W') : s.post enc P f false true false false W args (.bool true) W' := by
 have Y : ∀ x, x ∈ p → x.block < W.heap.size := fun x hx => hW.lt x (by simp [hx])
 have ac : f.resultTypes.size = 1 := by rw [← Array.length_toList, X]; rfl
 refine ⟨ds, [], p ++ [], [], p, [], hW, ?_, ?_, ?_, hb.frame _, fun h => by cases h⟩
 ·rw [O, X, ac]
  exact trodAll_mk1 (shut_bool hu true)
 ·rw [G]
  exact Lc hl hb M Y hA
 ·rw [hv, Z]; rfl
def tW (k : IntKind) (l : Li) : T := .list 1 (l.map fun n => [.v (.int k n)])
theorem eS {t e : TypeId} {k : IntKind} {W : World} {base : Nat} {r : Reach} {v : Value} {d : DataW H} {ps : List MemPlace} (ht : P.underlying t = some (.slice e)) (he : P.underlying e = some (.int k)) (hc : P.cellsOf e = 1)
  (hval : Value.okWide P W r base t v) (h : DataW.Trod enc P W 0 (fun _ => true) true t v d ps) :
  ∃ l : Li, (l.length ≤ Lg → VR (fun b => W.heap[b]?) v (tW k l)) ∧ (∀ n, n ∈ l → (Lit.int k n).wf = true) ∧ (l = [] ∨ ∃ Z ai, d = .slice Z ai ∧ l.length = Z.length) := by
 obtain ⟨a0, len, cap, rfl⟩ := okWide_slice ht hval
 obtain ⟨fuel, hf⟩ := h
 rcases open_ints ht he hc hf with ⟨G, X⟩ | ⟨a, len', cap', Y, G, _, hl, hm, hz, X, ac, hwz⟩
 ·simp [Value.cells] at G
  obtain ⟨rfl, rfl, rfl⟩ := G
  exact ⟨[], fun _ => .empty _ _ _, by simp, .inl rfl⟩
 ·simp [Value.cells] at G
  obtain ⟨rfl, rfl, rfl⟩ := G
  simp only [Prod.mk.injEq] at X
  obtain ⟨rfl, rfl⟩ := X
  simp only [if_true] at hz
  have hlt : (Y.take len).length = len := by simp; omega
  refine ⟨Y.take len, fun hmax => ?_, fun n hn => hwz n (List.mem_of_mem_take hn), .inr ⟨_, _, rfl, by simp [lits]⟩⟩
  by_cases hl0 : len = 0
  ·subst hl0; simp only [List.take_zero, tW, List.map_nil]; exact .empty _ _ _
  ·obtain ⟨b, M, spot⟩ := a
   have ah : spot = none := by simpa [Addr.add] using World.cell?_spot (ac 0 (by omega))
   subst ah
   have O : ∀ i, i < Y.length → W.cell? ⟨b, M + i, none⟩ = some (.int k (Y.getD i 0)) := fun i hi => by rw [← Dw]; exact ac i hi
   have af := O 0 (by omega)
   have G : ∃ cs ty fr, W.heap[b]? = some (.cells cs ty fr) := by
    unfold World.cell? at af
    split at af
    ·rename_i c ty fr hh; exact ⟨_, _, _, hh⟩
    ·cases af
   obtain ⟨cs, ty, fr, hh⟩ := G
   have ae : ∀ i, i < Y.length → cs[M + i]? = some (.int k (Y.getD i 0)) := fun i hi => by
    have := O i hi
    simpa [World.cell?, hh] using this
   have ad : ((Y.take len).map fun n => [T.v (.int k n)]).length = len := by rw [List.length_map, hlt]
   have hbig : M + len ≤ cs.size := by
    have := (Array.getElem?_eq_some_iff.1 (ae (len - 1) (by omega))).1
    omega
   have ag : ∀ i e, ((Y.take len).map fun n => [T.v (.int k n)])[i]? = some e → ∀ (j : Nat) (x : T), e[j]? = some x → j = 0 ∧ x = .v (.int k (Y.getD i 0)) ∧ cs.getD (M + i * 1 + j) undef = .int k (Y.getD i 0) := by
    intro i e he j x X
    simp only [List.getElem?_map, Option.map_eq_some_iff] at he
    obtain ⟨n, hn, rfl⟩ := he
    have hil := (gs hn).1
    rw [hlt] at hil
    rw [List.getElem?_take_of_lt hil] at hn
    have hj : j = 0 := by have := (gs X).1; simp at this; exact this
    subst hj
    simp at X
    have hzi : Y.getD i 0 = n := by simp [List.getD, hn]
    refine ⟨rfl, by rw [hzi]; exact X.symm, ?_⟩
    rw [Array.getD_eq_getD_getElem?, show M + i * 1 + 0 = M + i by omega, ae i (by omega)]; rfl
   have := VR.list (H := fun b => W.heap[b]?) b M cap 1 ((Y.take len).map fun n => [T.v (.int k n)]) cs ty fr hh (by rw [ad]; exact hl) (by rw [List.length_map]; exact hmax) (by rw [ad]; omega)
    (fun i e he => by simp only [List.getElem?_map, Option.map_eq_some_iff] at he; obtain ⟨n, _, rfl⟩ := he; rfl)
    (fun i e he j x X => by rw [(ag i e he j x X).2.2]; rfl) (fun i e he j x X => by rw [(ag i e he j x X).2.2, (ag i e he j x X).2.1]; exact .v _)
   rw [ad] at this
   exact this
end
theorem aQ {n : Int} (h : (Lit.int .i64 n).wf = true) : -9223372036854775808 ≤ n ∧ n ≤ 9223372036854775807 := by
 have G : IntKind.i64.min = -9223372036854775808 := rfl
 have M : IntKind.i64.max = 9223372036854775807 := rfl
 simp only [Lit.wf, Bool.and_eq_true, decide_eq_true_eq] at h
 omega
theorem eV {E : Env} {f : FuncId} {X : List T} {W : World} {args : Array Value} (M : oO fun b => W.heap[b]?) (hc : ACalls E f X [] fun x _ => x = .v (.bool true)) (hsz : args.size = X.length)
  (hv : ∀ (i : Nat) (x : T), X[i]? = some x → VR (fun b => W.heap[b]?) (args.getD i undef) x) : Calls E.P f args W fun e W' => e = .returned (.bool true) ∧ Below W.heap.size W W' := by
 refine (hc.2 (fun b => W.heap[b]?) W args hsz hv ⟨fun _ _ h => h, M⟩ (by simp) (by simp)).mono ?_
 rintro e w' ⟨v, x, fp', H', rfl, rfl, O, _, _, _, _, hs, ⟨Y, Z, e3⟩, G⟩
 refine ⟨by rw [O.v_eq], ⟨Y, Z, e3, hs, fun k hk => (G k hk (by simp)).1⟩⟩
end Go.Aw
