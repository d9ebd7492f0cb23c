/- Plain proofs. No condition. -/
import Derived.Test.YtmaamhgjeampmaaGreatZtP1
import Derived.Test.YtmaamhgjeampmaaGreatZ3D
import Derived.Test.YtmaamhgjeampmaaGreatZtP3
set_option maxRecDepth 100000
namespace Go.Proofs.YtmaamhgjeampmaaGreat
set_option linter.unusedVariables false
set_option linter.unusedSimpArgs false
open Go.Aw
theorem sameInts_ok {a b : List Int} (hl : a.length ≤ 1000) : L.zmdc a b = some (a == b) := by
 have : Ok (L.zmdc a b) fun r => r = (a == b) := by
  unfold L.zmdc
  refine Ok.iteU (fun h => .pure ?_) fun h => ?_
  ·symm; rw [beq_eq_false_iff_ne]; rintro rfl; exact h rfl
  have hl2 : a.length = b.length := by omega
  refine .bind (Q := fun d : Bool ⊕ Unit => (d = .inl false ∧ a ≠ b) ∨ (d = .inr () ∧ a = b)) ?_ ?_
  ·refine .loop (fun st : Int => 0 ≤ st ∧ st ≤ (a.length : Int) ∧ ∀ j : Nat, (j : Int) < st → a[j]? = b[j]?) (fun st => a.length - st.toNat) ⟨by omega, by omega, fun j hj => by omega⟩ (by omega) ?_
   rintro st ⟨h0, h1, h2⟩
   obtain ⟨k, rfl⟩ := nat_of h0
   unfold L.zmdc.B2
   refine Ok.iteD (fun hlt => ?_) fun hge => .pure (.inr ⟨rfl, ?_⟩)
   ·have ha : a[k]? = some (a[k]'(by omega)) := gq _
    have hb : b[k]? = some (b[k]'(by omega)) := gq _
    generalize a[k]'(by omega) = x at ha
    generalize b[k]'(by omega) = y at hb
    refine .bind' (.eq (ix_nat ha) (.bind' (.eq (ix_nat hb) (Ok.iteU (fun hne => .pure (.inl ⟨rfl, ?_⟩)) fun heq => .pure ?_))))
    ·intro he; rw [he, hb] at ha; simp at ha; exact hne ha.symm
    ·rw [wr_id (by omega)]
     have hxy : x = y := heq
     refine ⟨⟨by omega, by omega, fun j hj => ?_⟩, by omega⟩
     by_cases hjk : j = k
     ·subst hjk; rw [ha, hb, hxy]
     ·exact h2 j (by omega)
   ·refine List.ext_getElem? fun j => ?_
    by_cases hj : j < a.length
    ·exact h2 j (by omega)
    ·rw [List.getElem?_eq_none (by omega), List.getElem?_eq_none (by omega)]
  ·rintro _ (⟨rfl, h⟩ | ⟨rfl, h⟩)
   ·exact .pure (by symm; rw [beq_eq_false_iff_ne]; exact h)
   ·exact .pure (by symm; rw [beq_iff_eq]; exact h)
 obtain ⟨r, h, rfl⟩ := this
 exact h
theorem sameBools_ok {a b : List Bool} (hl : a.length ≤ 1000) : L.zygm a b = some (a == b) := by
 have : Ok (L.zygm a b) fun r => r = (a == b) := by
  unfold L.zygm
  refine Ok.iteU (fun h => .pure ?_) fun h => ?_
  ·symm; rw [beq_eq_false_iff_ne]; rintro rfl; exact h rfl
  have hl2 : a.length = b.length := by omega
  refine .bind (Q := fun d : Bool ⊕ Unit => (d = .inl false ∧ a ≠ b) ∨ (d = .inr () ∧ a = b)) ?_ ?_
  ·refine .loop (fun st : Int => 0 ≤ st ∧ st ≤ (a.length : Int) ∧ ∀ j : Nat, (j : Int) < st → a[j]? = b[j]?) (fun st => a.length - st.toNat) ⟨by omega, by omega, fun j hj => by omega⟩ (by omega) ?_
   rintro st ⟨h0, h1, h2⟩
   obtain ⟨k, rfl⟩ := nat_of h0
   unfold L.zygm.B2
   refine Ok.iteD (fun hlt => ?_) fun hge => .pure (.inr ⟨rfl, ?_⟩)
   ·have ha : a[k]? = some (a[k]'(by omega)) := gq _
    have hb : b[k]? = some (b[k]'(by omega)) := gq _
    generalize a[k]'(by omega) = x at ha
    generalize b[k]'(by omega) = y at hb
    refine .bind' (.eq (ix_nat ha) (.bind' (.eq (ix_nat hb) (Ok.iteB (fun hne => .pure (.inl ⟨rfl, ?_⟩)) fun heq => .pure ?_))))
    ·intro he; rw [he, hb] at ha; simp at ha; subst ha; simp at hne
    ·rw [wr_id (by omega)]
     have hxy : x = y := by simpa using heq
     refine ⟨⟨by omega, by omega, fun j hj => ?_⟩, by omega⟩
     by_cases hjk : j = k
     ·subst hjk; rw [ha, hb, hxy]
     ·exact h2 j (by omega)
   ·refine List.ext_getElem? fun j => ?_
    by_cases hj : j < a.length
    ·exact h2 j (by omega)
    ·rw [List.getElem?_eq_none (by omega), List.getElem?_eq_none (by omega)]
  ·rintro _ (⟨rfl, h⟩ | ⟨rfl, h⟩)
   ·exact .pure (by symm; rw [beq_eq_false_iff_ne]; exact h)
   ·exact .pure (by symm; rw [beq_iff_eq]; exact h)
 obtain ⟨r, h, rfl⟩ := this
 exact h
theorem samePlan_ok {a b : Plan} (h1 : a.Rates.length ≤ 1000) (h2 : a.Ports.length ≤ 1000) (h3 : a.Pumps.length ≤ 1000) (h : a = b) : L.zwbu a b = some true := by
 subst h
 unfold L.zwbu L.zwbu.J1
 rw [sameInts_ok h1, sameInts_ok h2, sameBools_ok h3]
 simp
def FlowIn (ramp : Int) (s : Step) : Prop := s.Kind = 5 → -ramp ≤ s.Value ∧ s.Value ≤ ramp
theorem falls_in {u : Path} {sign ramp rest : Int} (hs : sign = 1 ∨ sign = -1) (hr : 1 ≤ ramp) : ∀ (m : Nat) (b : Int), b.toNat ≤ m → ∀ s, s ∈ falls u sign ramp rest b → FlowIn ramp s
 | 0, b, hb, s, h => by rw [falls_nil (by omega)] at h; cases h
 | m + 1, b, hb, s, h => by
  by_cases h0 : 0 < b
  ·rw [falls_pos h0 (by omega)] at h
   rcases List.mem_cons.1 h with rfl | h
   ·intro _; show -ramp ≤ sign * min b ramp ∧ sign * min b ramp ≤ ramp
    rcases hs with rfl | rfl <;> omega
   ·rcases List.mem_append.1 h with h | h
    ·unfold waits at h
     split at h
     ·rw [List.mem_singleton] at h; subst h; intro hk; cases hk
     ·cases h
    ·exact falls_in hs hr m (b - ramp) (by omega) s h
  ·rw [falls_nil (by omega)] at h; cases h
theorem fallsAll_in {sign ramp rest : Int} (hs : sign = 1 ∨ sign = -1) (hr : 1 ≤ ramp) {l other : List Path} {s : Step} (h : s ∈ fallsAll sign ramp rest l other) : FlowIn ramp s := by
 unfold fallsAll at h
 obtain ⟨u, _, h⟩ := List.mem_flatMap.1 h
 exact falls_in hs hr _ _ (Nat.le_refl _) s h
theorem out_in {ramp rest : Int} (hr : 1 ≤ ramp) {a b : List Path} {sp cs os : List Nat} {most : Int} {ss : List Nat} {s : Step} (h : s ∈ out27 ramp rest a b sp cs os most ss) : FlowIn ramp s := by
 unfold out27 at h
 simp only [List.mem_append, List.mem_map] at h
 rcases h with ((((⟨i, _, rfl⟩ | h) | ⟨i, _, rfl⟩ | ⟨i, _, rfl⟩) | h) | h) | ⟨i, _, rfl⟩
 ·intro hk; cases hk
 ·exact fallsAll_in (.inr rfl) hr h
 ·intro hk; cases hk
 ·intro hk; cases hk
 ·unfold waits at h
  split at h
  ·rw [List.mem_singleton] at h; subst h; intro hk; cases hk
  ·cases h
 ·exact fallsAll_in (.inl rfl) hr h
 ·intro hk; cases hk
theorem most_ok {ramp : Int} (hr : 0 ≤ ramp ∧ ramp ≤ 1000) {l : List Step} (h : ∀ s, s ∈ l → FlowIn ramp s) : Ok (L.zrbl l) fun m => 0 ≤ m ∧ m ≤ ramp := by
 unfold L.zrbl
 refine .bind (.forS (fun _ st => 0 ≤ st ∧ st ≤ ramp) ⟨by omega, by omega⟩ ?_ fun st h => h) fun st hst => .pure hst
 intro k s st hs hi
 unfold L.zrbl.B2 L.zrbl.J3
 refine Ok.iteE (fun hk => .pure ?_) fun _ => .pure hi
 have := h s (mg hs) hk
 rw [wr_id (by omega)]; omega
theorem arrives_rate {n : Network} {up upb : Bool} {p to : Plan} {a b : List Path} (ha : Divided n up p a) (hb : Divided n upb to b) {f : Desk} (h : Qst n a b f) {k : Nat} {x y z : Int} (hx : f.Plan.Rates[k]? = some x) (hy : p.Rates[k]? = some y) (hz : to.Rates[k]? = some z) :
  min (min 0 y) z ≤ x ∧ x ≤ max (max 0 y) z := by
 rcases h with ⟨rs, h1, _, h2, _⟩ | ⟨rs, h1, _, h2, _⟩
 ·rw [h2] at hx
  obtain ⟨_, rfl⟩ := ratesOf_is hx
  have := seg_in ha h1 hy; omega
 ·rw [h2] at hx
  obtain ⟨_, rfl⟩ := ratesOf_is hx
  have := seg_in hb h1 hz; omega
theorem Qst.len {n : Network} {a b : List Path} {f : Desk} (h : Qst n a b f) : f.Plan.Rates.length = n.Segments.length := by
 rcases h with ⟨rs, _, _, h2, _⟩ | ⟨rs, _, _, h2, _⟩ <;> rw [h2, ratesOf_len]
theorem compileArrives (l : List Int) (ramp rest : Int) (hra : 0 ≤ ramp ∧ ramp ≤ 255) (hre : 0 ≤ rest ∧ rest ≤ 255) : L.zgzg l ramp rest = some true := by
 have : Ok (L.zgzg l ramp rest) fun r => r = true := by
  unfold L.zgzg
  refine Ok.iteN (fun _ => wake27) fun _ => .bind (new_ok l) fun s hs => .bind (net_ok hs) ?_
  rintro ⟨n, s1⟩ ⟨hn, hs⟩
  dsimp only at hn hs
  have h1 := hn.segs1; have h2 := hn.ports1; have h3 := hn.sts1
  refine .bind (plan27 hn hs) ?_
  rintro ⟨p, s2⟩ ⟨hp, _, hs⟩
  refine .bind (desk27 hn hs hp) ?_
  rintro ⟨d0, s3⟩ ⟨hd0, hs⟩
  refine .bind (free27 hn hd0) fun d hd => ?_
  unfold L.zgzg.J1
  refine .bind (plan27 hn hs) ?_
  rintro ⟨to, s4⟩ ⟨ht, hf, _⟩
  dsimp only at ht hf ⊢
  rw [wr_id (x := ramp) (by omega), wr_id (x := 1 + ramp) (by omega), wr_id (x := rest) (by omega)]
  have hre' : 0 ≤ rest.tmod 3 ∧ rest.tmod 3 ≤ 100 := by
   rw [Int.tmod_eq_emod_of_nonneg (by omega)]; omega
  generalize rest.tmod 3 = rest at hre'
  refine .bind (compile_ok hn hd ht hf (by omega) hre') ?_
  rintro _ ⟨a, b, sp, cs, os, most, ss, hc, rfl⟩
  by_cases hlen : (out27 (1 + ramp) rest a b sp cs os most ss).length > 400
  ·rw [if_pos hlen]
   exact Ok.iteE (fun _ => wake27) fun h => absurd rfl h
  rw [if_neg hlen]
  refine Ok.iteE (fun h => by cases h) fun _ => Ok.iteU (fun h => absurd rfl h) fun _ => ?_
  obtain ⟨hrun, hdk⟩ := trace hn hd ht hf (by omega) hre' hc
  refine .bind (most_ok (ramp := 1 + ramp) (by omega) fun s hs => out_in (by omega) hs) fun m hm => ?_
  obtain ⟨upa, ha⟩ := hc.pa
  obtain ⟨upb, hb⟩ := hc.pb
  rw [show decide (m > 1 + ramp) = false from decide_eq_false (by omega)]
  unfold L.zgzg.J2
  refine Ok.iteB (fun h => by cases h) fun _ => ?_
  dsimp only
  generalize out27 (1 + ramp) rest a b sp cs os most ss = out at hrun hlen
  have hdr := hd.plan.rl; have htr := ht.rl
  refine .bind (Q := fun o : Bool ⊕ (List Valve × List Int × List Int × List Bool) => o = .inr (finV d.Valves (needs to), to.Rates, to.Ports, to.Pumps)) ?_ ?_
  ·refine .loop (S := List Valve × List Int × List Int × List Bool × Int) (fun st => ∃ k : Nat, st.2.2.2.2 = (k : Int) ∧ k ≤ out.length ∧ Runs n (Qst n a b) ⟨st.1, ⟨st.2.1, st.2.2.1, st.2.2.2.1⟩⟩ (out.drop k) ⟨finV d.Valves (needs to), to⟩) (fun st => out.length - st.2.2.2.2.toNat) ⟨0, rfl, by omega, hrun⟩ (by dsimp only; omega) ?_
   rintro ⟨vs, rates, ports, pumps, _⟩ ⟨k, rfl, hk, hr⟩
   dsimp only at hr
   unfold L.zgzg.B5
   refine Ok.iteD (fun hlt => ?_) fun hge => .pure ?_
   ·dsimp only at hlt
    have hx : out[k]? = some (out[k]'(by omega)) := gq _
    rw [List.drop_eq_getElem_cons (by omega)] at hr
    generalize out[k]'(by omega) = s at hx hr
    obtain ⟨f, g1, g2, g3⟩ := hr
    have hfl := g2.len
    refine .bind' (.eq (ix_nat hx) (.bind' (.eq g1 ?_)))
    unfold L.zgzg.J7
    refine Ok.iteU (fun h => absurd rfl h) fun _ => .bind (Q := fun o : Bool ⊕ (List Valve × List Int × List Int × List Bool) => o = .inr (f.Valves, f.Plan.Rates, f.Plan.Ports, f.Plan.Pumps)) ?_ ?_
    ·refine .loop (fun st : Int => 0 ≤ st ∧ st ≤ (f.Plan.Rates.length : Int)) (fun st => f.Plan.Rates.length - st.toNat) ⟨by omega, by omega⟩ (by omega) ?_
     rintro st ⟨i0, i1⟩
     obtain ⟨j, rfl⟩ := nat_of i0
     unfold L.zgzg.B8
     refine Ok.iteD (fun hlt => ?_) fun _ => .pure rfl
     dsimp only at hlt
     have e1 : f.Plan.Rates[j]? = some (f.Plan.Rates[j]'(by omega)) := gq _
     have e2 : d.Plan.Rates[j]? = some (d.Plan.Rates[j]'(by omega)) := gq _
     have e3 : to.Rates[j]? = some (to.Rates[j]'(by omega)) := gq _
     have hrg := arrives_rate ha hb g2 e1 e2 e3
     refine .bind' (.eq (ix_nat e1) (.bind' (.eq (ix_nat e2) (.bind' (.eq (ix_nat e3) (Ok.iteB (fun h => ?_) fun _ => .pure ?_))))))
     ·rw [Bool.or_eq_true, decide_eq_true_eq, decide_eq_true_eq] at h
      dsimp only at h; omega
     ·rw [wr_id (by omega)]; exact ⟨⟨by omega, by omega⟩, by omega⟩
    ·rintro _ rfl
     simp only [Sum.elim_inr]
     unfold L.zgzg.J6
     exact .pure ⟨⟨k + 1, by dsimp only; rw [wr_id (by omega)]; omega, by omega, g3⟩, by dsimp only; rw [wr_id (by omega)]; omega⟩
   ·dsimp only at hge
    rw [List.drop_eq_nil_of_le (by omega)] at hr
    have : (⟨vs, ⟨rates, ports, pumps⟩⟩ : Desk) = ⟨finV d.Valves (needs to), to⟩ := hr
    show Sum.inr (vs, rates, ports, pumps) = _
    simp only [Desk.mk.injEq] at this
    obtain ⟨rfl, e⟩ := this
    rw [← e]
  ·rintro _ rfl
   simp only [Sum.elim_inr]
   unfold L.zgzg.J3
   have p1 := ht.rl; have p2 := ht.pl; have p3 := ht.ml
   dsimp only
   rw [samePlan_ok (a := ⟨to.Rates, to.Ports, to.Pumps⟩) (b := to) (by dsimp only; omega) (by dsimp only; omega) (by dsimp only; omega) rfl]
   refine .bind' (.pure (Ok.iteB (fun _ => ?_) fun h => by cases h))
   rw [awake27]
   exact .bind' (.pure (.pure rfl))
 obtain ⟨r, h, rfl⟩ := this
 exact h
end Go.Proofs.YtmaamhgjeampmaaGreat
