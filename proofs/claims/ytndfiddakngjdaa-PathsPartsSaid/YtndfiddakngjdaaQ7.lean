/- The laws of the sum of the paths of a plan, for the pure functions. No condition. -/
import Derived.Test.YtndfiddakngjdaaQ6
namespace Go.Proofs.Ytndfiddakngjdaa
set_option linter.unusedVariables false
set_option linter.unusedSimpArgs false
open Go.Aw

theorem sameInts_ok {a b : List Int} (hl : a.length ≤ 1000) : L.ref23_SameInts a b = some (a == b) := by
  have : Ok (L.ref23_SameInts a b) fun r => r = (a == b) := by
    unfold L.ref23_SameInts
    refine Ok.iteU (fun h => .pure ?_) fun h => ?_
    · symm; rw [beq_eq_false_iff_ne]; rintro rfl; exact h rfl
    have hl2 : a.length = b.length := by omega
    refine .bind (Q := fun d : Bool ⊕ Unit => (d = .inl false ∧ a ≠ b) ∨ (d = .inr () ∧ a = b)) ?_ ?_
    · refine .loop (fun st : Int => 0 ≤ st ∧ st ≤ (a.length : Int) ∧ ∀ j : Nat, (j : Int) < st → a[j]? = b[j]?) (fun st => a.length - st.toNat) ⟨by omega, by omega, fun j hj => by omega⟩ (by omega) ?_
      rintro st ⟨h0, h1, h2⟩
      obtain ⟨k, rfl⟩ := nat_of h0
      unfold L.ref23_SameInts.B2
      refine Ok.iteD (fun hlt => ?_) fun hge => .pure (.inr ⟨rfl, ?_⟩)
      · have ha : a[k]? = some (a[k]'(by omega)) := List.getElem?_eq_getElem _
        have hb : b[k]? = some (b[k]'(by omega)) := List.getElem?_eq_getElem _
        generalize a[k]'(by omega) = x at ha
        generalize b[k]'(by omega) = y at hb
        refine .bind' (.eq (ix_nat ha) (.bind' (.eq (ix_nat hb) (Ok.iteU (fun hne => .pure (.inl ⟨rfl, ?_⟩)) fun heq => .pure ?_))))
        · intro he; rw [he, hb] at ha; simp at ha; exact hne ha.symm
        · rw [wr_id (by omega)]
          have hxy : x = y := heq
          refine ⟨⟨by omega, by omega, fun j hj => ?_⟩, by omega⟩
          by_cases hjk : j = k
          · subst hjk; rw [ha, hb, hxy]
          · exact h2 j (by omega)
      · refine List.ext_getElem? fun j => ?_
        by_cases hj : j < a.length
        · exact h2 j (by omega)
        · rw [List.getElem?_eq_none (by omega), List.getElem?_eq_none (by omega)]
    · rintro _ (⟨rfl, h⟩ | ⟨rfl, h⟩)
      · exact .pure (by symm; rw [beq_eq_false_iff_ne]; exact h)
      · exact .pure (by symm; rw [beq_iff_eq]; exact h)
  obtain ⟨r, h, rfl⟩ := this
  exact h

theorem sameBools_ok {a b : List Bool} (hl : a.length ≤ 1000) : L.ref23_SameBools a b = some (a == b) := by
  have : Ok (L.ref23_SameBools a b) fun r => r = (a == b) := by
    unfold L.ref23_SameBools
    refine Ok.iteU (fun h => .pure ?_) fun h => ?_
    · symm; rw [beq_eq_false_iff_ne]; rintro rfl; exact h rfl
    have hl2 : a.length = b.length := by omega
    refine .bind (Q := fun d : Bool ⊕ Unit => (d = .inl false ∧ a ≠ b) ∨ (d = .inr () ∧ a = b)) ?_ ?_
    · refine .loop (fun st : Int => 0 ≤ st ∧ st ≤ (a.length : Int) ∧ ∀ j : Nat, (j : Int) < st → a[j]? = b[j]?) (fun st => a.length - st.toNat) ⟨by omega, by omega, fun j hj => by omega⟩ (by omega) ?_
      rintro st ⟨h0, h1, h2⟩
      obtain ⟨k, rfl⟩ := nat_of h0
      unfold L.ref23_SameBools.B2
      refine Ok.iteD (fun hlt => ?_) fun hge => .pure (.inr ⟨rfl, ?_⟩)
      · have ha : a[k]? = some (a[k]'(by omega)) := List.getElem?_eq_getElem _
        have hb : b[k]? = some (b[k]'(by omega)) := List.getElem?_eq_getElem _
        generalize a[k]'(by omega) = x at ha
        generalize b[k]'(by omega) = y at hb
        refine .bind' (.eq (ix_nat ha) (.bind' (.eq (ix_nat hb) (Ok.iteB (fun hne => .pure (.inl ⟨rfl, ?_⟩)) fun heq => .pure ?_))))
        · intro he; rw [he, hb] at ha; simp at ha; subst ha; simp at hne
        · rw [wr_id (by omega)]
          have hxy : x = y := by simpa using heq
          refine ⟨⟨by omega, by omega, fun j hj => ?_⟩, by omega⟩
          by_cases hjk : j = k
          · subst hjk; rw [ha, hb, hxy]
          · exact h2 j (by omega)
      · refine List.ext_getElem? fun j => ?_
        by_cases hj : j < a.length
        · exact h2 j (by omega)
        · rw [List.getElem?_eq_none (by omega), List.getElem?_eq_none (by omega)]
    · rintro _ (⟨rfl, h⟩ | ⟨rfl, h⟩)
      · exact .pure (by symm; rw [beq_eq_false_iff_ne]; exact h)
      · exact .pure (by symm; rw [beq_iff_eq]; exact h)
  obtain ⟨r, h, rfl⟩ := this
  exact h

theorem samePlan_ok {a b : Plan} (h1 : a.Rates.length ≤ 1000) (h2 : a.Ports.length ≤ 1000) (h3 : a.Pumps.length ≤ 1000) (h : a = b) : L.ref25_SamePlan a b = some true := by
  subst h
  unfold L.ref25_SamePlan L.ref25_SamePlan.J1
  rw [sameInts_ok h1, sameInts_ok h2, sameBools_ok h3]
  simp

/-- All of the paths of a plan: sums are within the plan. -/
theorem Divided.all {n : Network} {up : Bool} {p : Plan} {l : List Path} (h : Divided n up p l) : (∀ (k : Nat) (r : Int), p.Rates[k]? = some r → (0 ≤ r → 0 ≤ segSum k l ∧ segSum k l ≤ r) ∧ (r ≤ 0 → r ≤ segSum k l ∧ segSum k l ≤ 0)) ∧
    ∀ (k : Nat) (r : Int), p.Ports[k]? = some r → (0 ≤ r → 0 ≤ portSum k l ∧ portSum k l ≤ r) ∧ (r ≤ 0 → r ≤ portSum k l ∧ portSum k l ≤ 0) :=
  ⟨fun k r hr => by have := h.sumR k r hr; omega, fun k r hr => by have := h.sumP k r hr; omega⟩

theorem plan_ext {n : Network} {p q : Plan} {l : List Path} (hp : PlanOk n p) (hq : PlanOk n q) (hm : q.Pumps = p.Pumps) (h1 : ∀ (k : Nat) (r : Int), p.Rates[k]? = some r → r = segSum k l) (h2 : ∀ (k : Nat) (r : Int), p.Ports[k]? = some r → r = portSum k l)
    (h3 : ∀ (k : Nat) (r : Int), q.Rates[k]? = some r → r = segSum k l) (h4 : ∀ (k : Nat) (r : Int), q.Ports[k]? = some r → r = portSum k l) : p = q := by
  have e1 : p.Rates = q.Rates := List.ext_getElem (by rw [hp.rl, hq.rl]) fun k a b => by rw [h1 k _ (List.getElem?_eq_getElem a), h3 k _ (List.getElem?_eq_getElem b)]
  have e2 : p.Ports = q.Ports := List.ext_getElem (by rw [hp.pl, hq.pl]) fun k a b => by rw [h2 k _ (List.getElem?_eq_getElem a), h4 k _ (List.getElem?_eq_getElem b)]
  cases p; cases q
  simp_all

theorem alike_ok {x y : Path} (hl : x.Hops.length ≤ 1000) : Ok (L.ref25_Alike x y) fun r => r = true ↔ (x.In = y.In ∧ x.Out = y.Out ∧ x.Hops = y.Hops) := by
  unfold L.ref25_Alike
  refine Ok.iteB (fun hb => .pure ?_) fun hb => ?_
  · simp only [Bool.false_eq_true, false_iff]
    rintro ⟨h1, h2, h3⟩
    simp [h1, h2, h3] at hb
  simp at hb
  obtain ⟨h1, h2, h3⟩ := hb
  refine .bind (Q := fun d : Bool ⊕ Unit => (d = .inl false ∧ x.Hops ≠ y.Hops) ∨ (d = .inr () ∧ x.Hops = y.Hops)) ?_ ?_
  · refine .loop (fun st : Int => 0 ≤ st ∧ st ≤ (x.Hops.length : Int) ∧ ∀ j : Nat, (j : Int) < st → x.Hops[j]? = y.Hops[j]?) (fun st => x.Hops.length - st.toNat) ⟨by omega, by omega, fun j hj => by omega⟩ (by omega) ?_
    rintro st ⟨h0, h4, h5⟩
    obtain ⟨k, rfl⟩ := nat_of h0
    unfold L.ref25_Alike.B2
    refine Ok.iteD (fun hlt => ?_) fun hge => .pure (.inr ⟨rfl, ?_⟩)
    · have ha : x.Hops[k]? = some (x.Hops[k]'(by omega)) := List.getElem?_eq_getElem _
      have hb : y.Hops[k]? = some (y.Hops[k]'(by omega)) := List.getElem?_eq_getElem _
      generalize x.Hops[k]'(by omega) = u at ha
      generalize y.Hops[k]'(by omega) = v at hb
      refine .bind' (.eq (ix_nat ha) (.bind' (.eq (ix_nat hb) (Ok.iteN (fun h => .pure (.inl ⟨rfl, ?_⟩)) fun h => .pure ?_))))
      · intro he; rw [he, hb] at ha; simp at ha; subst ha; simp at h
      · rw [wr_id (by omega)]
        have huv : u = v := by
          simp at h
          cases u; cases v; simp_all
        refine ⟨⟨by omega, by omega, fun j hj => ?_⟩, by omega⟩
        by_cases hjk : j = k
        · subst hjk; rw [ha, hb, huv]
        · exact h5 j (by omega)
    · refine List.ext_getElem? fun j => ?_
      by_cases hj : j < x.Hops.length
      · exact h5 j (by omega)
      · rw [List.getElem?_eq_none (by omega), List.getElem?_eq_none (by omega)]
  · rintro _ (⟨rfl, h⟩ | ⟨rfl, h⟩)
    · refine .pure ?_
      simp only [Bool.false_eq_true, false_iff]
      rintro ⟨_, _, h3⟩; exact h h3
    · simp only [Sum.elim_inr]
      unfold L.ref25_Alike.J1
      exact .pure ⟨fun _ => ⟨h1, h2, h⟩, fun _ => rfl⟩

theorem PathOk.small {n : Network} {p : Plan} {x : Path} (h : PathOk n p x) : x.Hops.length ≤ 5 ∧ 1 ≤ x.Rate ∧ x.Rate ≤ 1000 := by
  obtain ⟨i, o, p0, po, y0, y1, nd, e1, e2, e3, e4, e5, e6, e7, e8, w, e9, e10, e11, e12, e13⟩ := h
  exact ⟨e11, e12, e13⟩

theorem wake25 : Ok (L.law25_awake.bind fun r => some r) fun r => r = true := by rw [awake25]; exact .pure rfl

theorem pathsSum (l : List Int) : L.law25_PathsSum l = some true := by
  have : Ok (L.law25_PathsSum l) fun r => r = true := by
    unfold L.law25_PathsSum
    refine Ok.iteN (fun _ => wake25) fun _ => .bind (new_ok l) fun s hs => .bind (net_ok hs) ?_
    rintro ⟨n, s1⟩ ⟨hn, hs⟩
    refine .bind (plan_ok hn hs) ?_
    rintro ⟨p, s2⟩ ⟨hp, _⟩
    dsimp only at hn hp
    have h1 := hn.segs1; have h2 := hn.ports1; have h3 := hn.sts1; have h4 := hp.rl; have h5 := hp.pl; have h6 := hp.ml
    refine .bind (divide_ok hn hp) ?_
    rintro ⟨x, _⟩ ⟨rfl, up, hd⟩
    dsimp only at hd
    have hxl := hd.count
    refine .bind (sum_ok hn hp hd.res hd.paths (by omega) hd.all.1 hd.all.2 h6) ?_
    rintro ⟨q, _⟩ ⟨rfl, hq, hm, hq1, hq2⟩
    dsimp only at hq hm hq1 hq2
    refine Ok.iteU (fun h => absurd rfl h) fun _ => Ok.iteU (fun h => absurd rfl h) fun _ => ?_
    dsimp only
    rw [samePlan_ok (by omega) (by omega) (by omega) (plan_ext hp hq hm hd.sumR hd.sumP hq1 hq2)]
    refine .bind' (.pure ?_)
    unfold L.law25_PathsSum.J1
    refine Ok.iteB (fun h => by cases h) fun _ => ?_
    refine .bind (Q := fun d : Bool ⊕ Unit => d = .inr ()) ?_ ?_
    · refine .loop (fun st : Int => 0 ≤ st ∧ st ≤ (x.length : Int)) (fun st => x.length - st.toNat) ⟨by omega, by omega⟩ (by omega) ?_
      rintro st ⟨h0, hle⟩
      obtain ⟨k, rfl⟩ := nat_of h0
      unfold L.law25_PathsSum.B3
      refine Ok.iteD (fun hlt => ?_) fun hge => .pure rfl
      dsimp only at hlt
      have hx : x[k]? = some (x[k]'(by omega)) := List.getElem?_eq_getElem _
      generalize x[k]'(by omega) = u at hx
      have hu := hd.paths u (List.mem_of_getElem? hx)
      refine .bind' (.eq (ix_nat hx) ?_)
      refine .bind (Q := fun b => b = true) ?_ ?_
      · unfold L.paths_Valid L.paths_Valid.J1
        dsimp only
        rw [netCheck hn, valid_ok hd.res hu]
        exact .bind' (.pure (Ok.iteE (fun _ => .bind' (.pure (.pure rfl))) fun h => absurd rfl h))
      rintro _ rfl
      refine Ok.iteN (fun h => by cases h) fun _ => ?_
      refine .bind (Q := fun d : Bool ⊕ Unit => d = .inr ()) ?_ ?_
      · refine .loop (fun st : Int => 0 ≤ st ∧ st ≤ (k : Int)) (fun st => k - st.toNat) ⟨by omega, by omega⟩ (by omega) ?_
        rintro st ⟨h0, hle⟩
        obtain ⟨j, rfl⟩ := nat_of h0
        unfold L.law25_PathsSum.B5
        refine Ok.iteD (fun hlt2 => ?_) fun hge => .pure rfl
        have hy : x[j]? = some (x[j]'(by omega)) := List.getElem?_eq_getElem _
        generalize x[j]'(by omega) = v at hy
        refine .bind' (.eq (ix_nat hy) (.bind (alike_ok (by have := hu.small; dsimp only; omega)) fun r hr => Ok.iteB (fun h => ?_) fun _ => .pure ?_))
        · obtain ⟨a1, a2, a3⟩ := hr.1 h
          exact absurd ⟨a1.symm, a2.symm, a3.symm⟩ (hd.apart j k v u (by omega) hy hx)
        · rw [wr_id (by omega)]
          exact ⟨⟨by omega, by omega⟩, by omega⟩
      · rintro _ rfl
        simp only [Sum.elim_inr]
        unfold L.law25_PathsSum.J4
        rw [wr_id (by omega)]
        exact .pure ⟨⟨by omega, by omega⟩, by omega⟩
    · rintro _ rfl
      simp only [Sum.elim_inr]
      unfold L.law25_PathsSum.J2
      exact wake25
  obtain ⟨r, h, rfl⟩ := this
  exact h

end Go.Proofs.Ytndfiddakngjdaa
