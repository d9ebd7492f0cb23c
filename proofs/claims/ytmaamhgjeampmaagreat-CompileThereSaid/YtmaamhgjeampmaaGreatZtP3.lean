/- Plain proofs. No condition. -/
import Derived.Test.YtmaamhgjeampmaaGreatZtP2
import Derived.Test.YtmaamhgjeampmaaGreatZtD
import Derived.KernelRfl
import Derived.Test.YtmaamhgjeampmaaGreatZtP0
import Derived.Test.YtmaamhgjeampmaaGreatZtB1
import Derived.ProofKit
import Derived.SizedLaws
import Derived.Carry
set_option maxRecDepth 100000
namespace Go.Proofs.YtmaamhgjeampmaaGreat
set_option linter.unusedVariables false
set_option linter.unusedSimpArgs false
open Go.Aw
theorem awake27 : L.zgom = some true := by kernel_rfl
theorem wake27 : Ok (L.zgom.bind fun r => some r) fun r => r = true := by rw [awake27]; exact .pure rfl
theorem fed_ok {n : Network} (hn : NetOk n) {p : Plan} (hp : PlanOk n p) : Ok (L.zbqx n p) fun q => PlanOk n q ∧ FedP n q := by
 have h1 := hn.segs1; have h2 := hn.ports1; have h3 := hn.sts1; have h4 := hp.rl; have h5 := hp.pl; have h6 := hp.ml
 unfold L.zbqx
 rw [copyPlan25 (by omega) (by omega) (by omega)]
 refine .bind' (.pure (.bind (Q := fun m : List Bool => m.length = n.Stations.length ∧ ∀ (i : Nat) (st : Station), n.Stations[i]? = some st → m[i]? = some true → Comes n p.Rates p.Ports st.Node) ?_ ?_))
 ·refine .loop (S := List Bool × Int) (fun st => ∃ k : Nat, st.2 = (k : Int) ∧ k ≤ n.Stations.length ∧ st.1.length = n.Stations.length ∧ ∀ (i : Nat) (s : Station), i < k → n.Stations[i]? = some s → st.1[i]? = some true → Comes n p.Rates p.Ports s.Node) (fun st => n.Stations.length - st.2.toNat)
   ⟨0, rfl, by omega, h6, fun i s h => absurd h (Nat.not_lt_zero _)⟩ (by dsimp only; omega) ?_
  rintro ⟨m, _⟩ ⟨k, rfl, hk, hml, hm⟩
  dsimp only at hml hm
  unfold L.zbqx.B2
  refine Ok.iteB (fun hb => ?_) fun hb => .pure ⟨hml, fun i s hs hi => hm i s ?_ hs hi⟩
  ·have hlt : k < n.Stations.length := by simp at hb; omega
   have hs : n.Stations[k]? = some n.Stations[k] := gq hlt
   have hx : m[k]? = some (m[k]'(by omega)) := gq _
   generalize m[k]'(by omega) = x at hx
   have j3 : ∀ z : Bool, (z = true → Comes n p.Rates p.Ports n.Stations[k].Node) → Ok (L.zbqx.J3 (m, (k : Int)) (m.set k z)) (Sum.elim (fun st : List Bool × Int => (∃ k : Nat, st.2 = (k : Int) ∧ k ≤ n.Stations.length ∧ st.1.length = n.Stations.length ∧ ∀ (i : Nat) (s : Station), i < k → n.Stations[i]? = some s → st.1[i]? = some true → Comes n p.Rates p.Ports s.Node) ∧ n.Stations.length - st.2.toNat < n.Stations.length - ((k : Nat) : Int).toNat)
     fun m : List Bool => m.length = n.Stations.length ∧ ∀ (i : Nat) (st : Station), n.Stations[i]? = some st → m[i]? = some true → Comes n p.Rates p.Ports st.Node) := by
    intro z hz
    unfold L.zbqx.J3
    refine .pure ⟨⟨k + 1, by dsimp only; rw [wr_id (by omega)]; omega, by omega, by simp [hml], fun i s hi hs' h => ?_⟩, by dsimp only; rw [wr_id (by omega)]; omega⟩
    dsimp only at h
    by_cases hik : k = i
    ·subst hik
     rw [List.getElem?_set_self (by omega)] at h
     rw [hs] at hs'; simp at hs' h; subst hs'
     exact hz h
    ·rw [List.getElem?_set_ne hik] at h
     exact hm i s (by omega) hs' h
   refine .bind' (.eq (ix_nat hs) (.bind (through16 hn hp.flow (hn.sts k _ hs).node) fun r hr => .bind' (.eq (ix_nat hx) ?_)))
   refine Ok.iteB (fun _ => Ok.iteE (fun _ => j3 _ fun hz => hr.2.2.1 ?_) fun _ => j3 _ fun h => by cases h) fun _ => j3 _ fun h => by cases h
   simp at hz; omega
  ·have hil := (gs hs).1
   simp at hb; omega
 ·rintro m ⟨hml, hm⟩
  unfold L.zbqx.J1
  exact .pure ⟨⟨h4, h5, hml, hp.rng, hp.prt, hp.bal, hp.dir⟩, hm⟩
theorem plan27 {n : Network} (hn : NetOk n) {s : Src} (hs : SrcOk s) : Ok (L.zhma s n) fun r => PlanOk n r.1 ∧ FedP n r.1 ∧ SrcOk r.2 := by
 unfold L.zhma
 refine .bind (plan_ok hn hs) ?_
 rintro ⟨p, s'⟩ ⟨hp, hs'⟩
 exact .bind (fed_ok hn hp) fun q hq => .pure ⟨hq.1, hq.2, hs'⟩
def unstick (v : Valve) : Valve := ⟨v.Travel, v.Open, v.Want, false⟩
theorem valve27 {s : Src} (hs : SrcOk s) : Ok (L.ztts s) fun r => VOk (unstick r.1) ∧ SrcOk r.2 := by
 unfold L.ztts
 refine .bind (pick_ok hs (by simp) (by simp)) ?_
 rintro ⟨t, s1⟩ ⟨h1, ht⟩
 have ht' : 1 ≤ t ∧ t ≤ 60 := by simp at ht; omega
 refine .bind (n_ok h1 (by omega) (by omega)) ?_
 rintro ⟨w, s2⟩ ⟨h2, _⟩
 refine .bind (n_ok h2 (by omega) (by omega)) ?_
 rintro ⟨k, s3⟩ ⟨h3, _⟩
 dsimp only
 rw [wr_id (by omega)]
 refine .bind (n_ok h3 (by omega) (by omega)) ?_
 rintro ⟨x, s4⟩ ⟨h4, hx0, hx1⟩
 dsimp only at hx0 hx1
 refine .bind (pick_ok h4 (by simp) (by simp)) ?_
 rintro ⟨o, s5⟩ ⟨h5, ho⟩
 refine .pure ⟨⟨ht', ?_, rfl⟩, h5⟩
 show 0 ≤ o ∧ o ≤ t
 simp at ho; omega
theorem desk27 {n : Network} (hn : NetOk n) {s : Src} (hs : SrcOk s) {p : Plan} (hp : PlanOk n p) : Ok (L.zrqy s n p) fun r => (PlanOk n r.1.Plan ∧ FedP n r.1.Plan ∧ r.1.Valves.length = n.Segments.length + n.Ports.length ∧ (∀ v, v ∈ r.1.Valves → VOk (unstick v)) ∧ VReady r.1.Valves (needs r.1.Plan)) ∧ SrcOk r.2 := by
 have h1 := hn.segs1; have h2 := hn.ports1
 unfold L.zrqy
 refine .bind (fed_ok hn hp) fun q hq => ?_
 obtain ⟨hq, hf⟩ := hq
 have h4 := hq.rl; have h5 := hq.pl
 have hnl := needs_len h4 h5
 rw [needs24 (by omega) (by omega)]
 refine .bind' (.pure ?_)
 rw [all24 (by simp; omega) (by simp; omega)]
 refine .bind' (.pure (.bind (Q := fun d : List Int × Int × List Valve => SrcOk ⟨d.1, d.2.1⟩ ∧ d.2.2.length = (needs q).length ∧ (∀ v, v ∈ d.2.2 → VOk (unstick v)) ∧ VReady d.2.2 (needs q)) ?_ ?_))
 ·refine .loop (S := List Int × Int × List Valve × Int) (fun st => ∃ k : Nat, st.2.2.2 = (k : Int) ∧ k ≤ (needs q).length ∧ SrcOk ⟨st.1, st.2.1⟩ ∧ st.2.2.1.length = k ∧ (∀ v, v ∈ st.2.2.1 → VOk (unstick v)) ∧ ∀ i : Nat, i < k → (needs q)[i]? = some true → ∃ v, st.2.2.1[i]? = some v ∧ v.Open = v.Travel ∧ v.Want = true) (fun st => (needs q).length - st.2.2.2.toNat)
   ⟨0, rfl, by omega, hs, rfl, by simp, fun i h => absurd h (Nat.not_lt_zero _)⟩ (by dsimp only; omega) ?_
  rintro ⟨L_, At, vs, _⟩ ⟨k, rfl, hk, hs, hl, hv, hr⟩
  dsimp only at hs hl hv hr
  unfold L.zrqy.B2
  refine Ok.iteD (fun hlt => ?_) fun hge => .pure ⟨hs, ?_, hv, fun i hi => hr i ?_ hi⟩
  ·have hlt' : (k : Int) < ((needs q).length : Int) := hlt
   refine .bind (valve27 hs) ?_
   rintro ⟨v, s1⟩ ⟨hvo, hs1⟩
   have hx : (needs q)[k]? = some ((needs q)[k]'(by omega)) := gq _
   generalize (needs q)[k]'(by omega) = x at hx
   have j3 : ∀ (o : Int) (w : Bool), 0 ≤ o → o ≤ v.Travel → (x = true → o = v.Travel ∧ w = true) → Ok (L.zrqy.J3 (L_, At, vs, (k : Int)) (v, s1) (o, w)) (Sum.elim (fun st : List Int × Int × List Valve × Int => (∃ k : Nat, st.2.2.2 = (k : Int) ∧ k ≤ (needs q).length ∧ SrcOk ⟨st.1, st.2.1⟩ ∧ st.2.2.1.length = k ∧ (∀ v, v ∈ st.2.2.1 → VOk (unstick v)) ∧ ∀ i : Nat, i < k → (needs q)[i]? = some true → ∃ v, st.2.2.1[i]? = some v ∧ v.Open = v.Travel ∧ v.Want = true) ∧ (needs q).length - st.2.2.2.toNat < (needs q).length - ((k : Nat) : Int).toNat)
     fun d : List Int × Int × List Valve => SrcOk ⟨d.1, d.2.1⟩ ∧ d.2.2.length = (needs q).length ∧ (∀ v, v ∈ d.2.2 → VOk (unstick v)) ∧ VReady d.2.2 (needs q)) := by
    intro o w ho0 ho1 hxo
    unfold L.zrqy.J3
    refine .bind' (.app (by simp; omega) (.pure ⟨⟨k + 1, by dsimp only; rw [wr_id (by omega)]; omega, by omega, hs1, by simp [hl], fun y hy => ?_, fun i hi hn => ?_⟩, by dsimp only; rw [wr_id (by omega)]; omega⟩))
    ·rcases List.mem_append.1 hy with hy | hy
     ·exact hv y hy
     ·have : y = ⟨v.Travel, o, w, v.Stuck⟩ := by simpa using hy
      subst this
      exact ⟨hvo.travel, ⟨ho0, ho1⟩, rfl⟩
    ·dsimp only
     by_cases hik : i = k
     ·subst hik
      rw [hx] at hn; simp at hn
      obtain ⟨e1, e2⟩ := hxo hn
      exact ⟨⟨v.Travel, o, w, v.Stuck⟩, by rw [List.getElem?_append_right (by omega), hl]; simp, e1, e2⟩
     ·obtain ⟨y, a, b⟩ := hr i (by omega) hn
      exact ⟨y, by rw [List.getElem?_append_left (by omega)]; exact a, b⟩
   have ho := hvo.opn
   have htv := hvo.travel
   dsimp only [unstick] at ho htv
   refine .bind' (.eq (ix_nat hx) (Ok.iteB (fun _ => j3 _ _ (by dsimp only; omega) (by dsimp only; omega) fun _ => ⟨rfl, rfl⟩) fun hb => j3 _ _ ho.1 ho.2 fun h => ?_))
   dsimp only at hb; rw [h] at hb; cases hb
  ·have hge' : ¬ (k : Int) < ((needs q).length : Int) := hge
   dsimp only; omega
  ·have hge' : ¬ (k : Int) < ((needs q).length : Int) := hge
   have := (gs hi).1; omega
 ·rintro ⟨L_, At, vs⟩ ⟨hs, hl, hv, hr⟩
  exact .pure ⟨⟨hq, hf, by dsimp only at hl ⊢; omega, hv, hr⟩, hs⟩
theorem free27 {n : Network} (hn : NetOk n) {d : Desk} (h : PlanOk n d.Plan ∧ FedP n d.Plan ∧ d.Valves.length = n.Segments.length + n.Ports.length ∧ (∀ v, v ∈ d.Valves → VOk (unstick v)) ∧ VReady d.Valves (needs d.Plan)) : Ok (L.zqyk d) fun e => DeskOk n e := by
 obtain ⟨hp, hf, hl, hv, hr⟩ := h
 have h1 := hn.segs1; have h2 := hn.ports1; have h3 := hn.sts1; have h4 := hp.rl; have h5 := hp.pl; have h6 := hp.ml
 unfold L.zqyk L.zryh
 rw [app?_eq (by simp; omega), copyPlan25 (by omega) (by omega) (by omega)]
 refine .bind' (.bind' (.pure (.bind' (.pure (.pure ?_)))))
 refine .bind (Q := fun vs => vs = d.Valves.map unstick) ?_ ?_
 ·refine .loop (S := List Valve × Int) (fun st => ∃ k : Nat, st = ((d.Valves.take k).map unstick ++ d.Valves.drop k, (k : Int)) ∧ k ≤ d.Valves.length) (fun st => d.Valves.length - st.2.toNat) ⟨0, rfl, by omega⟩ (by dsimp only; omega) ?_
  rintro _ ⟨k, rfl, hk⟩
  have hlen : ((d.Valves.take k).map unstick ++ d.Valves.drop k).length = d.Valves.length := by simp; omega
  unfold L.zqyk.B2
  refine Ok.iteD (fun hlt => ?_) fun hge => .pure ?_
  ·dsimp only at hlt
   rw [hlen] at hlt
   have hx : d.Valves[k]? = some (d.Valves[k]'(by omega)) := gq _
   generalize d.Valves[k]'(by omega) = v at hx
   have hg : ((d.Valves.take k).map unstick ++ d.Valves.drop k)[k]? = some v := by
    rw [List.getElem?_append_right (by simp; omega)]; simp [Nat.min_eq_left hk, hx]
   refine .bind' (.eq (ix_nat hg) (.pure ⟨⟨k + 1, ?_, by omega⟩, ?_⟩))
   ·dsimp only
    rw [wr_id (by omega)]
    congr 1
    refine List.ext_getElem? fun j => ?_
    rw [get_set]
    split
    ·rename_i hj
     rw [← hj.1, List.getElem?_append_left (by simp; omega), List.getElem?_map, List.getElem?_take, if_pos (by omega), hx]; rfl
    ·rename_i hj
     rw [hlen] at hj
     by_cases hjk : j < k
     ·rw [List.getElem?_append_left (by simp; omega), List.getElem?_append_left (by simp; omega), List.getElem?_map, List.getElem?_map, List.getElem?_take, List.getElem?_take, if_pos hjk, if_pos (by omega)]
     ·have : k < j := by omega
      rw [List.getElem?_append_right (by simp; omega), List.getElem?_append_right (by simp; omega)]
      simp only [List.length_map, List.length_take, List.getElem?_drop, Nat.min_eq_left hk, Nat.min_eq_left (show k + 1 ≤ d.Valves.length by omega)]
      congr 1; omega
   ·dsimp only; rw [wr_id (by omega)]; omega
  ·dsimp only at hge
   rw [hlen] at hge
   show (d.Valves.take k).map unstick ++ d.Valves.drop k = _
   rw [List.take_of_length_le (by omega), List.drop_eq_nil_of_le (by omega), List.append_nil]
 ·rintro _ rfl
  refine .pure ⟨⟨by dsimp only; rw [List.length_map]; exact hl, fun v hm => ?_⟩, hp, fun k hk => ?_, hf⟩
  ·obtain ⟨u, hu, rfl⟩ := List.mem_map.1 hm
   exact hv u hu
  ·obtain ⟨v, a, b, c⟩ := hr k hk
   exact ⟨unstick v, by dsimp only; rw [List.getElem?_map, a]; rfl, b, c⟩
theorem run26 {n : Network} {Q : Desk → Prop} {d e : Desk} {l : List Step} (h : Runs n Q d l e) (hl : l.length ≤ 400) : L.zoig n d l = some (e, (l.length : Int), 0) := by
 have : Ok (L.zoig n d l) fun r => r = (e, (l.length : Int), 0) := by
  unfold L.zoig
  refine Ok.iteD (fun h => by omega) fun _ => .bind (Q := fun o : (Desk × Int × Int) ⊕ (List Valve × List Int × List Int × List Bool) => o = .inr (e.Valves, e.Plan.Rates, e.Plan.Ports, e.Plan.Pumps)) ?_ ?_
  ·refine .loop (S := List Valve × List Int × List Int × List Bool × Int) (fun st => ∃ k : Nat, st.2.2.2.2 = (k : Int) ∧ k ≤ l.length ∧ Runs n Q ⟨st.1, ⟨st.2.1, st.2.2.1, st.2.2.2.1⟩⟩ (l.drop k) e) (fun st => l.length - st.2.2.2.2.toNat) ⟨0, rfl, by omega, h⟩ (by dsimp only; omega) ?_
   rintro ⟨vs, rates, ports, pumps, _⟩ ⟨k, rfl, hk, hr⟩
   dsimp only at hr
   unfold L.zoig.B2
   refine Ok.iteD (fun hlt => ?_) fun hge => .pure ?_
   ·dsimp only at hlt
    have hx : l[k]? = some (l[k]'(by omega)) := gq _
    rw [List.drop_eq_getElem_cons (by omega)] at hr
    generalize l[k]'(by omega) = s at hx hr
    obtain ⟨f, h1, _, h3⟩ := hr
    refine .bind' (.eq (ix_nat hx) (.bind' (.eq h1 ?_)))
    unfold L.zoig.J3
    refine Ok.iteU (fun h => absurd rfl h) fun _ => .pure ⟨⟨k + 1, by dsimp only; rw [wr_id (by omega)]; omega, by omega, h3⟩, by dsimp only; rw [wr_id (by omega)]; omega⟩
   ·dsimp only at hge
    rw [List.drop_eq_nil_of_le (by omega)] at hr
    have : (⟨vs, ⟨rates, ports, pumps⟩⟩ : Desk) = e := hr
    subst this; rfl
  ·rintro _ rfl
   exact .pure rfl
 obtain ⟨r, h, rfl⟩ := this
 exact h
def zero27 (n : Network) : Plan := ⟨List.replicate n.Segments.length 0, List.replicate n.Ports.length 0, List.replicate n.Stations.length false⟩
theorem zero_at {m : Nat} {α : Type} {z x : α} {k : Nat} (h : (List.replicate m z)[k]? = some x) : x = z := by
 have := mg h
 exact (List.mem_replicate.1 this).2
theorem zero_ok {n : Network} (hn : NetOk n) : PlanOk n (zero27 n) := by
 refine ⟨by simp [zero27], by simp [zero27], by simp [zero27], fun k r s hr hs => ?_, fun k x hx => ?_, fun v => by show dot _ (List.replicate _ 0) + dot _ (List.replicate _ 0) = 0; rw [dot_zero, dot_zero]; rfl, .inl fun k r s hr hs => ?_⟩
 ·have := zero_at hr
  have := (hn.segs k s hs).cap
  omega
 ·have := zero_at hx; omega
 ·have := zero_at hr; omega
theorem zero_fed (n : Network) : FedP n (zero27 n) := fun i st hs hp => by have := zero_at hp; cases this
theorem zero_needs {n : Network} {k : Nat} {b : Bool} (h : (needs (zero27 n))[k]? = some b) : b = false := by
 cases b with
 | false => rfl
 | true =>
  rcases needs_at h with ⟨r, h1, h2⟩ | ⟨_, x, h1, h2⟩
  ·exact absurd (zero_at h1) h2
  ·exact absurd (zero_at h1) h2
theorem compileDown (l : List Int) (ramp : Int) (hra : 0 ≤ ramp ∧ ramp ≤ 255) : L.zgbr l ramp = some true := by
 have : Ok (L.zgbr l ramp) fun r => r = true := by
  unfold L.zgbr
  refine Ok.iteN (fun _ => wake27) fun _ => .bind (new_ok l) fun s hs => .bind (net_ok hs) ?_
  rintro ⟨n, s1⟩ ⟨hn, hs⟩
  dsimp only at hn hs
  have h1 := hn.segs1; have h2 := hn.ports1; have h3 := hn.sts1
  refine .bind (plan27 hn hs) ?_
  rintro ⟨p, s2⟩ ⟨hp, _, hs⟩
  refine .bind (desk27 hn hs hp) ?_
  rintro ⟨d0, s3⟩ ⟨hd0, hs⟩
  refine .bind (free27 hn hd0) fun d hd => ?_
  unfold L.zgbr.J1
  dsimp only
  rw [wr_id (x := ramp) (by omega), wr_id (x := 20 + ramp) (by omega)]
  have hz := zero_ok hn
  refine .bind (Q := fun r => ∃ a b sp cs os most ss, Comp n d (zero27 n) (20 + ramp) 0 a b sp cs os most ss ∧ r = if (out27 (20 + ramp) 0 a b sp cs os most ss).length > 400 then ([], 4) else (out27 (20 + ramp) 0 a b sp cs os most ss, 0)) ?_ ?_
  ·unfold L.zfzy
   refine .bind' (.mk n.Segments.length rfl (by omega) (.bind' (.mk n.Ports.length rfl (by omega) (.bind' (.mk n.Stations.length rfl (by omega) ?_)))))
   unfold L.zfzy.J1
   exact .bind (compile_ok hn hd hz (zero_fed n) (by omega) (by omega)) fun r hr => .pure hr
  rintro _ ⟨a, b, sp, cs, os, most, ss, hc, rfl⟩
  by_cases hlen : (out27 (20 + ramp) 0 a b sp cs os most ss).length > 400
  ·rw [if_pos hlen]
   exact Ok.iteE (fun _ => wake27) fun h => absurd rfl h
  rw [if_neg hlen]
  refine Ok.iteE (fun h => by cases h) fun _ => ?_
  obtain ⟨hrun, hdk⟩ := trace hn hd hz (zero_fed n) (by omega) (by omega) hc
  have hr26 := run26 hrun (Nat.le_of_not_lt hlen)
  have hvl := hd.vs.1
  have hnl : (needs (zero27 n)).length = d.Valves.length := by rw [needs_len hz.rl hz.pl]; exact hvl.symm
  refine .bind' (.eq hr26 (Ok.iteB (fun h => ?_) fun _ => ?_))
  ·simp at h
  refine .bind (Q := fun d : Bool ⊕ Unit => d = .inr ()) ?_ ?_
  ·refine .loop (fun st : Int => 0 ≤ st ∧ st ≤ ((zero27 n).Ports.length : Int)) (fun st => (zero27 n).Ports.length - st.toNat) ⟨by omega, by omega⟩ (by have := hz.pl; omega) ?_
   rintro st ⟨h0, h4⟩
   obtain ⟨k, rfl⟩ := nat_of h0
   have hpl := hz.pl
   unfold L.zgbr.B8
   refine Ok.iteD (fun hlt => ?_) fun _ => .pure rfl
   dsimp only at hlt
   have hx : (zero27 n).Ports[k]? = some ((zero27 n).Ports[k]'(by omega)) := gq _
   have := zero_at hx
   refine .bind' (.eq (ix_nat hx) (Ok.iteU (fun h => absurd this h) fun _ => .pure ?_))
   rw [wr_id (by omega)]; exact ⟨⟨by omega, by omega⟩, by omega⟩
  rintro _ rfl
  simp only [Sum.elim_inr]
  unfold L.zgbr.J2
  refine .bind (Q := fun d : Bool ⊕ Unit => d = .inr ()) ?_ ?_
  ·refine .loop (fun st : Int => 0 ≤ st ∧ st ≤ ((zero27 n).Pumps.length : Int)) (fun st => (zero27 n).Pumps.length - st.toNat) ⟨by omega, by omega⟩ (by have := hz.ml; omega) ?_
   rintro st ⟨h0, h4⟩
   obtain ⟨k, rfl⟩ := nat_of h0
   have hpl := hz.ml
   unfold L.zgbr.B7
   refine Ok.iteD (fun hlt => ?_) fun _ => .pure rfl
   dsimp only at hlt
   have hx : (zero27 n).Pumps[k]? = some ((zero27 n).Pumps[k]'(by omega)) := gq _
   have := zero_at hx
   refine .bind' (.eq (ix_nat hx) (Ok.iteB (fun h => ?_) fun _ => .pure ?_))
   ·dsimp only at h; rw [this] at h; cases h
   rw [wr_id (by omega)]; exact ⟨⟨by omega, by omega⟩, by omega⟩
  rintro _ rfl
  simp only [Sum.elim_inr]
  unfold L.zgbr.J3
  have hfl := finV_len hnl
  refine .bind (Q := fun d : Bool ⊕ Unit => d = .inr ()) ?_ ?_
  ·refine .loop (fun st : Int => 0 ≤ st ∧ st ≤ ((finV d.Valves (needs (zero27 n))).length : Int)) (fun st => (finV d.Valves (needs (zero27 n))).length - st.toNat) ⟨by omega, by omega⟩ (by omega) ?_
   rintro st ⟨h0, h4⟩
   obtain ⟨k, rfl⟩ := nat_of h0
   unfold L.zgbr.B5
   refine Ok.iteD (fun hlt => ?_) fun _ => .pure rfl
   dsimp only at hlt
   have hv : d.Valves[k]? = some (d.Valves[k]'(by omega)) := gq _
   have hb : (needs (zero27 n))[k]? = some ((needs (zero27 n))[k]'(by omega)) := gq _
   have h0 := zero_needs hb
   rw [h0] at hb
   refine .bind' (.eq (ix_nat (finV_at hv hb)) ?_)
   refine Ok.iteU (fun h => absurd rfl h) fun _ => ?_
   unfold L.zgbr.J6
   refine Ok.iteB (fun h => by cases h) fun _ => .pure ?_
   rw [wr_id (by omega)]; exact ⟨⟨by omega, by omega⟩, by omega⟩
  rintro _ rfl
  simp only [Sum.elim_inr]
  unfold L.zgbr.J4
  exact wake27
 obtain ⟨r, h, rfl⟩ := this
 exact h
end Go.Proofs.YtmaamhgjeampmaaGreat
namespace Go.Aw
set_option linter.unusedVariables false
set_option linter.unusedSimpArgs false
open Go.ChangeShapes Go.WideShapes Go.ChangeAt Go.RowKit
section
variable {H : Type} {enc : TypeId × Value → H} {P : Program}
theorem trodAll_below (hl : laidOutB P = true) {W W' : World} (hb : Below W.heap.size W W') : ∀ {ts : List TypeId} {vs : List Value} {ds : List (DataW H)} {ps : List MemPlace},
  (∀ t, t ∈ ts → P.readableRec t = true ∧ t < P.types.size) → (∀ x, x ∈ ps → x.block < W.heap.size) → DataW.TrodAll enc P W 0 (fun _ => true) true ts vs ds ps →
  DataW.TrodAll enc P W' 0 (fun b => decide (b < W.heap.size)) true ts vs ds ps
 | [], vs, ds, ps, _, _, h => by
  cases vs <;> cases ds <;> simp [DataW.TrodAll] at h ⊢
  exact h
 | t :: ts, vs, ds, ps, ht, hlt, h => by
  obtain ⟨v, vs', d, ds', p, q, rfl, rfl, rfl, h1, h2⟩ := trodAll_cons h
  have hr := ht t (by simp)
  exact ⟨p, q, Below.trod hl hr.1 hr.2 h1 hb (fun x hx => hlt x (by simp [hx])), trodAll_below hl hb (fun t ht' => ht t (by simp [ht'])) (fun x hx => hlt x (by simp [hx])) h2, rfl⟩
theorem law_post {f : Func} {s : ChangeSpec} {W W' : World} {args : Array Value} {ds : List (DataW H)} {p : List MemPlace} {t : TypeId} (hW : DataW.Whole enc P f.params.toList s.vars false W args.toList ds [] (p ++ []))
  (hA : DataW.TrodAll enc P W 0 (fun _ => true) true f.params.toList args.toList ds p)
  (hres : (s.fn H (ds ++ [])).results = [.lit (.bool true)]) (hargs : (s.fn H (ds ++ [])).args = ds) (hv : (s.fn H (ds ++ [])).vars = []) (hsv : s.vars = [])
  (hrt : f.resultTypes.toList = [t]) (hu : P.underlying t = some .bool) (hl : laidOutB P = true) (hall : ∀ t, t ∈ f.params.toList → P.readableRec t = true ∧ t < P.types.size)
  (hb : Below W.heap.size W W') : s.post enc P f false true false false W args (.bool true) W' := by
 have hlt : ∀ x, x ∈ p → x.block < W.heap.size := fun x hx => hW.lt x (by simp [hx])
 have hsz : f.resultTypes.size = 1 := by rw [← Array.length_toList, hrt]; rfl
 refine ⟨ds, [], p ++ [], [], p, [], hW, ?_, ?_, ?_, hb.frame _, fun h => by cases h⟩
 ·rw [hres, hrt, hsz]
  exact trodAll_mk1 (shut_bool hu true)
 ·rw [hargs]
  exact trodAll_below hl hb hall hlt hA
 ·rw [hv, hsv]; rfl
def encK (k : IntKind) (l : List Int) : T := .list 1 (l.map fun n => [.v (.int k n)])
theorem open_list {t e : TypeId} {k : IntKind} {W : World} {base : Nat} {r : Reach} {v : Value} {d : DataW H} {ps : List MemPlace} (ht : P.underlying t = some (.slice e)) (he : P.underlying e = some (.int k)) (hc : P.cellsOf e = 1)
  (hval : Value.okWide P W r base t v) (h : DataW.Trod enc P W 0 (fun _ => true) true t v d ps) :
  ∃ l : List Int, (l.length ≤ maxL → VR (fun b => W.heap[b]?) v (encK k l)) ∧ (∀ n, n ∈ l → (Lit.int k n).wf = true) ∧ (l = [] ∨ ∃ elems spare, d = .slice elems spare ∧ l.length = elems.length) := by
 obtain ⟨a0, len, cap, rfl⟩ := okWide_slice ht hval
 obtain ⟨fuel, hf⟩ := h
 rcases open_ints ht he hc hf with ⟨hcs, hx⟩ | ⟨a, len', cap', zs, hcs, _, hl, hm, hz, hx, hcell, hwz⟩
 ·simp [Value.cells] at hcs
  obtain ⟨rfl, rfl, rfl⟩ := hcs
  exact ⟨[], fun _ => .empty _ _ _, by simp, .inl rfl⟩
 ·simp [Value.cells] at hcs
  obtain ⟨rfl, rfl, rfl⟩ := hcs
  simp only [Prod.mk.injEq] at hx
  obtain ⟨rfl, rfl⟩ := hx
  simp only [if_true] at hz
  have hlt : (zs.take len).length = len := by simp; omega
  refine ⟨zs.take len, fun hmax => ?_, fun n hn => hwz n (List.mem_of_mem_take hn), .inr ⟨_, _, rfl, by simp [lits]⟩⟩
  by_cases hl0 : len = 0
  ·subst hl0; simp only [List.take_zero, encK, List.map_nil]; exact .empty _ _ _
  ·obtain ⟨b, off, spot⟩ := a
   have hspot : spot = none := by simpa [Addr.add] using World.cell?_spot (hcell 0 (by omega))
   subst hspot
   have hcell' : ∀ i, i < zs.length → W.cell? ⟨b, off + i, none⟩ = some (.int k (zs.getD i 0)) := fun i hi => by rw [← Addr.add_mk]; exact hcell i hi
   have hc0 := hcell' 0 (by omega)
   have hcs : ∃ cs ty fr, W.heap[b]? = some (.cells cs ty fr) := by
    unfold World.cell? at hc0
    split at hc0
    ·rename_i c ty fr hh; exact ⟨_, _, _, hh⟩
    ·cases hc0
   obtain ⟨cs, ty, fr, hh⟩ := hcs
   have hcs' : ∀ i, i < zs.length → cs[off + i]? = some (.int k (zs.getD i 0)) := fun i hi => by
    have := hcell' i hi
    simpa [World.cell?, hh] using this
   have hlen : ((zs.take len).map fun n => [T.v (.int k n)]).length = len := by rw [List.length_map, hlt]
   have hbig : off + len ≤ cs.size := by
    have := (Array.getElem?_eq_some_iff.1 (hcs' (len - 1) (by omega))).1
    omega
   have hgd : ∀ i e, ((zs.take len).map fun n => [T.v (.int k n)])[i]? = some e → ∀ (j : Nat) (x : T), e[j]? = some x → j = 0 ∧ x = .v (.int k (zs.getD i 0)) ∧ cs.getD (off + i * 1 + j) undef = .int k (zs.getD i 0) := by
    intro i e he j x hx
    simp only [List.getElem?_map, Option.map_eq_some_iff] at he
    obtain ⟨n, hn, rfl⟩ := he
    have hil := (List.getElem?_eq_some_iff.1 hn).1
    rw [hlt] at hil
    rw [List.getElem?_take_of_lt hil] at hn
    have hj : j = 0 := by have := (List.getElem?_eq_some_iff.1 hx).1; simp at this; exact this
    subst hj
    simp at hx
    have hzi : zs.getD i 0 = n := by simp [List.getD, hn]
    refine ⟨rfl, by rw [hzi]; exact hx.symm, ?_⟩
    rw [Array.getD_eq_getD_getElem?, show off + i * 1 + 0 = off + i by omega, hcs' i (by omega)]; rfl
   have := VR.list (H := fun b => W.heap[b]?) b off cap 1 ((zs.take len).map fun n => [T.v (.int k n)]) cs ty fr hh (by rw [hlen]; exact hl) (by rw [List.length_map]; exact hmax) (by rw [hlen]; omega)
    (fun i e he => by simp only [List.getElem?_map, Option.map_eq_some_iff] at he; obtain ⟨n, _, rfl⟩ := he; rfl)
    (fun i e he j x hx => by rw [(hgd i e he j x hx).2.2]; rfl) (fun i e he j x hx => by rw [(hgd i e he j x hx).2.2, (hgd i e he j x hx).2.1]; exact .v _)
   rw [hlen] at this
   exact this
end
theorem wf_u8 {n : Int} (h : (Lit.int .u8 n).wf = true) : 0 ≤ n ∧ n ≤ 255 := by
 have h1 : IntKind.u8.min = 0 := rfl
 have h2 : IntKind.u8.max = 255 := rfl
 simp only [Lit.wf, Bool.and_eq_true, decide_eq_true_eq] at h
 omega
theorem law_calls {E : Env} {f : FuncId} {xs : List T} {W : World} {args : Array Value} (hgl : Held fun b => W.heap[b]?) (hc : ACalls E f xs [] fun x _ => x = .v (.bool true)) (hsz : args.size = xs.length)
  (hv : ∀ (i : Nat) (x : T), xs[i]? = some x → VR (fun b => W.heap[b]?) (args.getD i undef) x) : Calls E.P f args W fun e W' => e = .returned (.bool true) ∧ Below W.heap.size W W' := by
 refine (hc.2 (fun b => W.heap[b]?) W args hsz hv ⟨fun _ _ h => h, hgl⟩ (by simp) (by simp)).mono ?_
 rintro e w' ⟨v, x, fp', H', rfl, rfl, hvr, _, _, _, _, hs, ⟨e1, e2, e3⟩, hfr⟩
 refine ⟨by rw [hvr.v_eq], ⟨e1, e2, e3, hs, fun k hk => (hfr k hk (by simp)).1⟩⟩
end Go.Aw
