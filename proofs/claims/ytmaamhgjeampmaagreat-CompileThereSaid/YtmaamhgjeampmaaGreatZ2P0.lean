/- Plain proofs. No condition. -/
import Derived.Test.YtmaamhgjeampmaaGreatZtP1
import Derived.Test.YtmaamhgjeampmaaGreatZ2D
import Derived.Test.YtmaamhgjeampmaaGreatZtP3
set_option maxRecDepth 100000
namespace Go.Proofs.YtmaamhgjeampmaaGreat
set_option linter.unusedVariables false
set_option linter.unusedSimpArgs false
open Go.Aw
theorem sameInts_ok {a b : List Int} (hl : a.length ≤ 1000) : L.zmdc a b = some (a == b) := by
 have : Ok (L.zmdc a b) fun r => r = (a == b) := by
  unfold L.zmdc
  refine Ok.iteU (fun h => .pure ?_) fun h => ?_
  ·symm; rw [beq_eq_false_iff_ne]; rintro rfl; exact h rfl
  have hl2 : a.length = b.length := by omega
  refine .bind (Q := fun d : Bool ⊕ Unit => (d = .inl false ∧ a ≠ b) ∨ (d = .inr () ∧ a = b)) ?_ ?_
  ·refine .loop (fun st : Int => 0 ≤ st ∧ st ≤ (a.length : Int) ∧ ∀ j : Nat, (j : Int) < st → a[j]? = b[j]?) (fun st => a.length - st.toNat) ⟨by omega, by omega, fun j hj => by omega⟩ (by omega) ?_
   rintro st ⟨h0, h1, h2⟩
   obtain ⟨k, rfl⟩ := nat_of h0
   unfold L.zmdc.B2
   refine Ok.iteD (fun hlt => ?_) fun hge => .pure (.inr ⟨rfl, ?_⟩)
   ·have ha : a[k]? = some (a[k]'(by omega)) := gq _
    have hb : b[k]? = some (b[k]'(by omega)) := gq _
    generalize a[k]'(by omega) = x at ha
    generalize b[k]'(by omega) = y at hb
    refine .bind' (.eq (ix_nat ha) (.bind' (.eq (ix_nat hb) (Ok.iteU (fun hne => .pure (.inl ⟨rfl, ?_⟩)) fun heq => .pure ?_))))
    ·intro he; rw [he, hb] at ha; simp at ha; exact hne ha.symm
    ·rw [wr_id (by omega)]
     have hxy : x = y := heq
     refine ⟨⟨by omega, by omega, fun j hj => ?_⟩, by omega⟩
     by_cases hjk : j = k
     ·subst hjk; rw [ha, hb, hxy]
     ·exact h2 j (by omega)
   ·refine List.ext_getElem? fun j => ?_
    by_cases hj : j < a.length
    ·exact h2 j (by omega)
    ·rw [List.getElem?_eq_none (by omega), List.getElem?_eq_none (by omega)]
  ·rintro _ (⟨rfl, h⟩ | ⟨rfl, h⟩)
   ·exact .pure (by symm; rw [beq_eq_false_iff_ne]; exact h)
   ·exact .pure (by symm; rw [beq_iff_eq]; exact h)
 obtain ⟨r, h, rfl⟩ := this
 exact h
theorem sameBools_ok {a b : List Bool} (hl : a.length ≤ 1000) : L.zygm a b = some (a == b) := by
 have : Ok (L.zygm a b) fun r => r = (a == b) := by
  unfold L.zygm
  refine Ok.iteU (fun h => .pure ?_) fun h => ?_
  ·symm; rw [beq_eq_false_iff_ne]; rintro rfl; exact h rfl
  have hl2 : a.length = b.length := by omega
  refine .bind (Q := fun d : Bool ⊕ Unit => (d = .inl false ∧ a ≠ b) ∨ (d = .inr () ∧ a = b)) ?_ ?_
  ·refine .loop (fun st : Int => 0 ≤ st ∧ st ≤ (a.length : Int) ∧ ∀ j : Nat, (j : Int) < st → a[j]? = b[j]?) (fun st => a.length - st.toNat) ⟨by omega, by omega, fun j hj => by omega⟩ (by omega) ?_
   rintro st ⟨h0, h1, h2⟩
   obtain ⟨k, rfl⟩ := nat_of h0
   unfold L.zygm.B2
   refine Ok.iteD (fun hlt => ?_) fun hge => .pure (.inr ⟨rfl, ?_⟩)
   ·have ha : a[k]? = some (a[k]'(by omega)) := gq _
    have hb : b[k]? = some (b[k]'(by omega)) := gq _
    generalize a[k]'(by omega) = x at ha
    generalize b[k]'(by omega) = y at hb
    refine .bind' (.eq (ix_nat ha) (.bind' (.eq (ix_nat hb) (Ok.iteB (fun hne => .pure (.inl ⟨rfl, ?_⟩)) fun heq => .pure ?_))))
    ·intro he; rw [he, hb] at ha; simp at ha; subst ha; simp at hne
    ·rw [wr_id (by omega)]
     have hxy : x = y := by simpa using heq
     refine ⟨⟨by omega, by omega, fun j hj => ?_⟩, by omega⟩
     by_cases hjk : j = k
     ·subst hjk; rw [ha, hb, hxy]
     ·exact h2 j (by omega)
   ·refine List.ext_getElem? fun j => ?_
    by_cases hj : j < a.length
    ·exact h2 j (by omega)
    ·rw [List.getElem?_eq_none (by omega), List.getElem?_eq_none (by omega)]
  ·rintro _ (⟨rfl, h⟩ | ⟨rfl, h⟩)
   ·exact .pure (by symm; rw [beq_eq_false_iff_ne]; exact h)
   ·exact .pure (by symm; rw [beq_iff_eq]; exact h)
 obtain ⟨r, h, rfl⟩ := this
 exact h
theorem samePlan_ok {a b : Plan} (h1 : a.Rates.length ≤ 1000) (h2 : a.Ports.length ≤ 1000) (h3 : a.Pumps.length ≤ 1000) (h : a = b) : L.zwbu a b = some true := by
 subst h
 unfold L.zwbu L.zwbu.J1
 rw [sameInts_ok h1, sameInts_ok h2, sameBools_ok h3]
 simp
theorem falls_few {u : Path} {sign ramp : Int} (hr : 0 < ramp) : ∀ (k : Nat) (b : Int), b ≤ ramp * (k : Int) → (falls u sign ramp 0 b).length ≤ k
 | 0, b, h => by rw [falls_nil (by simpa using h)]; simp
 | k + 1, b, h => by
  by_cases hb : 0 < b
  ·rw [falls_pos hb hr]
   have := falls_few (u := u) (sign := sign) hr k (b - ramp) (by rw [Int.natCast_add, Int.mul_add] at h; omega)
   rw [show waits 0 = [] from rfl, List.nil_append, List.length_cons]; omega
  ·rw [falls_nil (by omega)]; simp
theorem fallsAll_few {n : Network} {p : Plan} {sign : Int} {other : List Path} (ho : ∀ y, y ∈ other → 1 ≤ y.Rate) : ∀ {l : List Path}, (∀ x, x ∈ l → PathOk n p x) → (fallsAll sign 300 0 l other).length ≤ 4 * l.length
 | [], _ => by simp [fallsAll]
 | u :: l, h => by
  have hu := (h u (by simp)).small
  have hm := mr_rng (l := other) (u := u) ho hu.2.1
  have a := falls_few (u := u) (sign := sign) (ramp := 300) (by omega) 4 (u.Rate - mr other u) (by omega)
  have b := fallsAll_few (sign := sign) ho (l := l) fun x hx => h x (by simp [hx])
  unfold fallsAll at b ⊢
  rw [List.flatMap_cons, List.length_append, List.length_cons]; omega
theorem out_few {n : Network} (hn : NetOk n) {d : Desk} (hd : DeskOk n d) {to : Plan} (ht : PlanOk n to) {a b : List Path} {sp cs os : List Nat} {most : Int} {ss : List Nat} (hc : Comp n d to 300 0 a b sp cs os most ss) : (out27 300 0 a b sp cs os most ss).length ≤ 400 := by
 obtain ⟨upa, ha⟩ := hc.pa
 obtain ⟨upb, hb⟩ := hc.pb
 have h1 := hn.segs1; have h2 := hn.ports1; have h3 := hn.sts1
 have e1 := hc.hsp.len; have e2 := hc.hss.len; have e3 := hc.tn.len
 rw [List.length_map, hd.vs.1] at e3
 have e4 := hd.plan.ml; have e5 := ht.ml
 have f1 := fallsAll_few (sign := -1) (fun y hy => (hb.paths y hy).small.2.1) ha.paths
 have f2 := fallsAll_few (sign := 1) (fun y hy => (ha.paths y hy).small.2.1) hb.paths
 have c1 := ha.count; have c2 := hb.count
 have w := waits_len most
 unfold out27
 simp only [List.length_append, List.length_map]
 omega
theorem mr_self {l : List Path} (h : Apart l) {u : Path} (hu : u ∈ l) : mr l u = u.Rate := by
 obtain ⟨k, hk⟩ := List.getElem?_of_mem hu
 rw [mr_at h hk ⟨rfl, rfl, rfl⟩]; omega
theorem map_self {l : List Path} (h : Apart l) : l.map (mr l) = l.map (·.Rate) := List.map_congr_left fun u hu => mr_self h hu
theorem fallsAll_self {sign ramp rest : Int} {l : List Path} (h : Apart l) : fallsAll sign ramp rest l l = [] := by
 unfold fallsAll
 rw [List.flatMap_eq_nil_iff]
 intro u hu
 exact falls_nil (by rw [mr_self h hu]; omega)
theorem comp_self {n : Network} (hn : NetOk n) {d : Desk} (hd : DeskOk n d) {ramp rest : Int} {a b : List Path} {sp cs os : List Nat} {most : Int} {ss : List Nat} (hc : Comp n d d.Plan ramp rest a b sp cs os most ss) :
  a = b ∧ sp = [] ∧ ss = [] ∧ out27 ramp rest a b sp cs os most ss = (cs.map sClose ++ os.map sOpen) ++ waits most ∧ Turns d.Valves (needs d.Plan) cs os most := by
 obtain ⟨upa, ha⟩ := hc.pa
 have hab : a = b := by have := hc.da; rw [hc.db] at this; simp at this; exact this.symm
 subst hab
 have hsp : sp = [] := by
  cases sp with
  | nil => rfl
  | cons i sp =>
   obtain ⟨_, h1, h2⟩ := hc.hsp.idx i (by simp)
   refine absurd ⟨h1, fun st hst => ?_⟩ h2
   have := hd.fed i st hst h1
   rw [map_self ha.apt]
   show Comes n (ratesOf n a _) (portsOf n a _) _
   have e := planOf_full hd.plan ha
   unfold planOf at e
   rw [← e] at this
   exact this
 subst hsp
 have hss : ss = [] := by
  cases ss with
  | nil => rfl
  | cons i ss =>
   obtain ⟨_, h1, h2⟩ := hc.hss.idx i (by simp)
   rw [show setAll false [] d.Plan.Pumps = d.Plan.Pumps from rfl, h2] at h1
   cases h1
 subst hss
 have htn := hc.tn
 rw [fallsAll_self ha.apt] at htn
 refine ⟨rfl, rfl, rfl, ?_, ?_⟩
 ·unfold out27
  rw [fallsAll_self ha.apt, fallsAll_self ha.apt]; simp
 ·rw [show tks (([] : List Nat).map sStop ++ []) = 0 from rfl, pass_zero hd.vs] at htn
  exact htn
theorem none_left {n : Network} (hn : NetOk n) {vs : List Valve} {to : Plan} (hl : (needs to).length = vs.length) (hd : DeskOk n ⟨finV vs (needs to), to⟩) {ramp rest : Int} {a b : List Path} {sp cs os : List Nat} {most : Int} {ss : List Nat} (hc : Comp n ⟨finV vs (needs to), to⟩ to ramp rest a b sp cs os most ss) :
  out27 ramp rest a b sp cs os most ss = [] := by
 obtain ⟨_, _, _, e, ht⟩ := comp_self hn hd hc
 have at_ : ∀ (i : Nat) (v : Valve) (b : Bool), (finV vs (needs to))[i]? = some v → (needs to)[i]? = some b → v.Open = (if b = true then v.Travel else 0) ∧ v.Want = b := by
  intro i v b hv hb
  have hil := (gs hb).1
  rw [finV_at (gq (show i < vs.length by omega)) hb] at hv
  simp at hv; subst hv
  exact ⟨rfl, rfl⟩
 have hcs : cs = [] := by
  cases cs with
  | nil => rfl
  | cons i cs =>
   obtain ⟨v, h1, h2, _, h3⟩ := ht.tc i (by simp)
   obtain ⟨a1, a2⟩ := at_ i v false h1 h2
   exact absurd ⟨a1, a2⟩ h3
 have hos : os = [] := by
  cases os with
  | nil => rfl
  | cons i os =>
   obtain ⟨v, h1, h2, _, h3⟩ := ht.to_ i (by simp)
   obtain ⟨a1, a2⟩ := at_ i v true h1 h2
   exact absurd ⟨a1, a2⟩ h3
 have hm := ht.none_ hcs hos
 rw [e, hcs, hos, hm]; rfl
theorem compile300 {n : Network} (hn : NetOk n) {d : Desk} (hd : DeskOk n d) {to : Plan} (ht : PlanOk n to) (hf : FedP n to) : Ok (L.zzjm n d to 300 0) fun r => ∃ a b sp cs os most ss, Comp n d to 300 0 a b sp cs os most ss ∧ r = (out27 300 0 a b sp cs os most ss, 0) := by
 refine (compile_ok hn hd ht hf (by omega) (by omega)).mono ?_
 rintro _ ⟨a, b, sp, cs, os, most, ss, hc, rfl⟩
 have := out_few hn hd ht hc
 exact ⟨a, b, sp, cs, os, most, ss, hc, if_neg (by omega)⟩
theorem compileThere (l : List Int) : L.zdgb l = some true := by
 have : Ok (L.zdgb l) fun r => r = true := by
  unfold L.zdgb
  refine Ok.iteN (fun _ => wake27) fun _ => .bind (new_ok l) fun s hs => .bind (net_ok hs) ?_
  rintro ⟨n, s1⟩ ⟨hn, hs⟩
  dsimp only at hn hs
  have h1 := hn.segs1; have h2 := hn.ports1; have h3 := hn.sts1
  refine .bind (plan27 hn hs) ?_
  rintro ⟨p, s2⟩ ⟨hp, _, hs⟩
  refine .bind (desk27 hn hs hp) ?_
  rintro ⟨d0, s3⟩ ⟨hd0, hs⟩
  refine .bind (free27 hn hd0) fun d hd => ?_
  unfold L.zdgb.J1
  refine .bind (plan27 hn hs) ?_
  rintro ⟨to, s4⟩ ⟨ht, hf, _⟩
  dsimp only at ht hf ⊢
  refine .bind (compile300 hn hd ht hf) ?_
  rintro _ ⟨a, b, sp, cs, os, most, ss, hc, rfl⟩
  obtain ⟨hrun, hdk⟩ := trace hn hd ht hf (by omega) (by omega) hc
  refine .bind' (.eq (run26 hrun (out_few hn hd ht hc)) ?_)
  dsimp only
  have hnl : (needs to).length = d.Valves.length := by rw [needs_len ht.rl ht.pl]; exact hd.vs.1.symm
  refine .bind (compile300 hn hdk ht hf) ?_
  rintro _ ⟨a', b', sp', cs', os', most', ss', hc', rfl⟩
  rw [none_left hn hnl hdk hc']
  refine .bind (compile300 hn hdk hd.plan hd.fed) ?_
  rintro _ ⟨a2, b2, sp2, cs2, os2, most2, ss2, hc2, rfl⟩
  obtain ⟨hrun2, hdk2⟩ := trace hn hdk hd.plan hd.fed (by omega) (by omega) hc2
  refine .bind' (.eq (run26 hrun2 (out_few hn hdk hd.plan hc2)) ?_)
  have q1 := hd.plan.rl; have q2 := hd.plan.pl; have q3 := hd.plan.ml; have p1 := ht.rl; have p2 := ht.pl; have p3 := ht.ml
  refine Ok.iteE (fun _ => Ok.iteE (fun _ => Ok.iteE (fun _ => Ok.iteE (fun _ => Ok.iteE (fun _ => Ok.iteE (fun _ => ?_) fun h => absurd rfl h) fun h => absurd rfl h) fun h => absurd rfl h) fun h => absurd rfl h) fun h => absurd rfl h) fun h => absurd rfl h
  dsimp only
  rw [samePlan_ok (a := to) (by omega) (by omega) (by omega) rfl]
  refine .bind' (.pure (Ok.iteB (fun _ => ?_) fun h => by cases h))
  rw [samePlan_ok (a := d.Plan) (b := ⟨d.Plan.Rates, d.Plan.Ports, d.Plan.Pumps⟩) (by omega) (by omega) (by omega) rfl]
  refine .bind' (.pure (Ok.iteB (fun _ => ?_) fun h => by cases h))
  rw [awake27]
  exact .bind' (.pure (.pure rfl))
 obtain ⟨r, h, rfl⟩ := this
 exact h
end Go.Proofs.YtmaamhgjeampmaaGreat
