/- The law of paths that are divided in two, for the pure functions. No condition. -/
import Derived.Test.YtndfiddakngjdaaQ7
namespace Go.Proofs.Ytndfiddakngjdaa
set_option linter.unusedVariables false
set_option linter.unusedSimpArgs false
open Go.Aw

theorem hsum_add (a b : Int) (k : Nat) : ∀ l : List Hop, hsum (a + b) k l = hsum a k l + hsum b k l
  | [] => by simp [hsum]
  | h :: l => by
    simp only [hsum, hsum_add a b k l]
    have : sgn (a + b) h = sgn a h + sgn b h := by unfold sgn; split <;> omega
    rw [this]; split <;> omega
theorem hsum_none (k : Nat) (l : List Hop) : hsum 0 k l = 0 := by
  have := hsum_add 0 0 k l
  simp at this
  omega

theorem PathOk.rated {n : Network} {p : Plan} {x : Path} (h : PathOk n p x) {r : Int} (hr : 1 ≤ r ∧ r ≤ 1000) : PathOk n p ⟨x.In, x.Out, x.Hops, r⟩ := by
  obtain ⟨i, o, p0, po, y0, y1, nd, e1, e2, e3, e4, e5, e6, e7, e8, w, e9, e10, e11, e12, e13⟩ := h
  exact ⟨i, o, p0, po, y0, y1, nd, e1, e2, e3, e4, e5, e6, e7, e8, w, e9, e10, e11, hr.1, hr.2⟩

theorem PathOk.sign {n : Network} {up : Bool} {p : Plan} (hr : Res n up p.Rates p.Ports) {x : Path} (hx : PathOk n p x) {k : Nat} {r : Int} (hk : p.Rates[k]? = some r) : (0 ≤ r → 0 ≤ hsum x.Rate k x.Hops) ∧ (r ≤ 0 → hsum x.Rate k x.Hops ≤ 0) := by
  have := hx.small
  rcases hx.over hr hk with ⟨_, e⟩ | ⟨_, _, ⟨e1, e⟩ | ⟨e1, e⟩⟩ <;> omega

theorem PathOk.psign {n : Network} {p : Plan} {x : Path} (hx : PathOk n p x) {k : Nat} {r : Int} (hk : p.Ports[k]? = some r) : (0 ≤ r → 0 ≤ portOf k x) ∧ (r ≤ 0 → portOf k x ≤ 0) := by
  obtain ⟨i, o, p0, po, y0, y1, nd, e1, e2, e3, e4, e5, e6, e7, e8, w, e9, e10, e11, e12, e13⟩ := hx
  unfold portOf
  rw [e1, e2]
  by_cases hi : i = k
  · subst hi
    rw [e5] at hk; simp at hk; subst hk
    have : o ≠ i := by rintro rfl; rw [e5] at e7; simp at e7; omega
    rw [if_pos rfl, if_neg (by omega)]; omega
  · rw [if_neg (by omega)]
    by_cases ho : o = k
    · subst ho
      rw [e7] at hk; simp at hk; subst hk
      rw [if_pos rfl]; omega
    · rw [if_neg (by omega)]; omega

theorem sums_sign {n : Network} {up : Bool} {p : Plan} (hr : Res n up p.Rates p.Ports) {k : Nat} {r : Int} (hk : p.Rates[k]? = some r) : ∀ {l : List Path}, (∀ x, x ∈ l → PathOk n p x) → (0 ≤ r → 0 ≤ segSum k l) ∧ (r ≤ 0 → segSum k l ≤ 0)
  | [], _ => by simp [segSum]
  | x :: l, h => by
    have := sums_sign hr hk (l := l) fun y hy => h y (by simp [hy])
    have := (h x (by simp)).sign hr hk
    simp only [segSum]; omega
theorem psums_sign {n : Network} {p : Plan} {k : Nat} {r : Int} (hk : p.Ports[k]? = some r) : ∀ {l : List Path}, (∀ x, x ∈ l → PathOk n p x) → (0 ≤ r → 0 ≤ portSum k l) ∧ (r ≤ 0 → portSum k l ≤ 0)
  | [], _ => by simp [portSum]
  | x :: l, h => by
    have := psums_sign hk (l := l) fun y hy => h y (by simp [hy])
    have := (h x (by simp)).psign hk
    simp only [portSum]; omega

theorem portOf_add (i : Nat) (a b : Int) (x : Path) : portOf i ⟨x.In, x.Out, x.Hops, a⟩ + portOf i ⟨x.In, x.Out, x.Hops, b⟩ = portOf i ⟨x.In, x.Out, x.Hops, a + b⟩ := by
  unfold portOf; dsimp only; split <;> split <;> omega
theorem portOf_none (i : Nat) (x : Path) : portOf i ⟨x.In, x.Out, x.Hops, 0⟩ = 0 := by unfold portOf; dsimp only; split <;> split <;> omega

theorem copy_ok {x : Path} (h : x.Hops.length ≤ 1000) : L.ref25_Copy x = some x := by
  unfold L.ref25_Copy
  rw [app?_eq (by simp; omega)]; rfl

theorem pathsAdded (l : List Int) : L.law25_PathsAdded l = some true := by
  have : Ok (L.law25_PathsAdded l) fun r => r = true := by
    unfold L.law25_PathsAdded
    refine Ok.iteN (fun _ => wake25) fun _ => .bind (new_ok l) fun s hs => .bind (net_ok hs) ?_
    rintro ⟨n, s1⟩ ⟨hn, hs⟩
    refine .bind (plan_ok hn hs) ?_
    rintro ⟨p, s2⟩ ⟨hp, hs⟩
    dsimp only at hn hp hs
    have h1 := hn.segs1; have h2 := hn.ports1; have h3 := hn.sts1; have h4 := hp.rl; have h5 := hp.pl; have h6 := hp.ml
    refine .bind (divide_ok hn hp) ?_
    rintro ⟨x, _⟩ ⟨rfl, up, hd⟩
    dsimp only at hd
    have hxl := hd.count
    have hres := hd.res
    refine .bind (Q := fun d : List Path × List Path => (∀ x, x ∈ d.1 → PathOk n p x) ∧ (∀ x, x ∈ d.2 → PathOk n p x) ∧ d.1.length ≤ 14 ∧ d.2.length ≤ 14 ∧ (∀ k, segSum k d.1 + segSum k d.2 = segSum k x) ∧ ∀ k, portSum k d.1 + portSum k d.2 = portSum k x) ?_ ?_
    · refine .loop (fun st : List Int × Int × List Path × List Path × Int => ∃ j : Nat, st.2.2.2.2 = (j : Int) ∧ j ≤ x.length ∧ SrcOk ⟨st.1, st.2.1⟩ ∧ (∀ x, x ∈ st.2.2.1 → PathOk n p x) ∧ (∀ x, x ∈ st.2.2.2.1 → PathOk n p x) ∧ st.2.2.1.length ≤ j ∧ st.2.2.2.1.length ≤ j ∧ (∀ k, segSum k st.2.2.1 + segSum k st.2.2.2.1 = segSum k (x.take j)) ∧ ∀ k, portSum k st.2.2.1 + portSum k st.2.2.2.1 = portSum k (x.take j))
        (fun st => x.length - st.2.2.2.2.toNat) ⟨0, rfl, Nat.zero_le _, hs, by simp, by simp, by simp, by simp, by simp [segSum], by simp [portSum]⟩ (by dsimp only; omega) ?_
      rintro ⟨L_, At, a, b, i⟩ ⟨j, rfl, hj, i1, i2, i3, i4, i5, i6, i7⟩
      dsimp only at i1 i2 i3 i4 i5 i6 i7
      unfold L.law25_PathsAdded.B6
      refine Ok.iteD (fun hlt => ?_) fun hge => .pure ?_
      · dsimp only at hlt
        have hx : x[j]? = some (x[j]'(by omega)) := List.getElem?_eq_getElem _
        generalize x[j]'(by omega) = u at hx
        have hu := hd.paths u (List.mem_of_getElem? hx)
        have hus := hu.small
        refine .bind' (.eq (ix_nat hx) ?_)
        dsimp only
        rw [wr_id (by omega)]
        refine .bind (n_ok i1 (by omega) (by omega)) ?_
        rintro ⟨r, s'⟩ ⟨hs', hr0, hr1⟩
        dsimp only at hs' hr0 hr1
        rw [copy_ok (by omega)]
        refine .bind' (.pure (.bind' (.pure ?_)))
        have seg : ∀ k, hsum r k u.Hops + hsum (u.Rate - r) k u.Hops = hsum u.Rate k u.Hops := fun k => by rw [← hsum_add]; congr 1; omega
        have prt : ∀ k, portOf k ⟨u.In, u.Out, u.Hops, r⟩ + portOf k ⟨u.In, u.Out, u.Hops, u.Rate - r⟩ = portOf k u := fun k => by
          rw [portOf_add, show r + (u.Rate - r) = u.Rate by omega]
        have j9 : ∀ a' : List Path, (∀ x, x ∈ a' → PathOk n p x) → a'.length ≤ j + 1 → (∀ k, segSum k a' = segSum k a + hsum r k u.Hops) → (∀ k, portSum k a' = portSum k a + portOf k ⟨u.In, u.Out, u.Hops, r⟩) →
            Ok (L.law25_PathsAdded.J9 (L_, At, a, b, (j : Int)) (j, u) (r, s') (u.In, u.Out, u.Hops, u.Rate, u.In, u.Out, u.Hops, u.Rate) a') (Sum.elim (fun st : List Int × Int × List Path × List Path × Int => (∃ j : Nat, st.2.2.2.2 = (j : Int) ∧ j ≤ x.length ∧ SrcOk ⟨st.1, st.2.1⟩ ∧ (∀ x, x ∈ st.2.2.1 → PathOk n p x) ∧ (∀ x, x ∈ st.2.2.2.1 → PathOk n p x) ∧ st.2.2.1.length ≤ j ∧ st.2.2.2.1.length ≤ j ∧ (∀ k, segSum k st.2.2.1 + segSum k st.2.2.2.1 = segSum k (x.take j)) ∧ ∀ k, portSum k st.2.2.1 + portSum k st.2.2.2.1 = portSum k (x.take j)) ∧ x.length - st.2.2.2.2.toNat < x.length - (j : Int).toNat)
              fun d : List Path × List Path => (∀ x, x ∈ d.1 → PathOk n p x) ∧ (∀ x, x ∈ d.2 → PathOk n p x) ∧ d.1.length ≤ 14 ∧ d.2.length ≤ 14 ∧ (∀ k, segSum k d.1 + segSum k d.2 = segSum k x) ∧ ∀ k, portSum k d.1 + portSum k d.2 = portSum k x) := by
          intro a' ha1 ha2 ha3 ha4
          unfold L.law25_PathsAdded.J9
          dsimp only
          rw [wr_id (x := u.Rate - r) (by omega)]
          refine Ok.iteD (fun hpos => .bind' (.app (by simp; omega) ?_)) fun hno => ?_
          · unfold L.law25_PathsAdded.J7
            dsimp only
            rw [wr_id (by omega)]
            refine .pure ⟨⟨j + 1, by simp, by omega, hs', ha1, fun y hy => ?_, ha2, by simp; omega, fun k => ?_, fun k => ?_⟩, by dsimp only; omega⟩
            · rcases List.mem_append.1 hy with hy | hy
              · exact i3 y hy
              · simp at hy; subst hy; exact hu.rated (by omega)
            · have := i6 k; have := seg k; have := ha3 k
              dsimp only
              rw [segSum_append, segSum_take hx]; simp only [segSum]; omega
            · have := i7 k; have := prt k; have := ha4 k
              dsimp only
              rw [portSum_append, portSum_take hx]; simp only [portSum]; omega
          · unfold L.law25_PathsAdded.J7
            dsimp only
            rw [wr_id (by omega)]
            have hz : u.Rate - r = 0 := by omega
            refine .pure ⟨⟨j + 1, by simp, by omega, hs', ha1, i3, ha2, by dsimp only; omega, fun k => ?_, fun k => ?_⟩, by dsimp only; omega⟩
            · dsimp only
              rw [segSum_take hx]
              have h8 := seg k; rw [hz, hsum_none] at h8
              have h9 := ha3 k
              have h10 := i6 k
              omega
            · have h7 := i7 k; have h8 := prt k; have h9 := ha4 k
              rw [hz, portOf_none] at h8
              dsimp only
              rw [portSum_take hx]; omega
        unfold L.law25_PathsAdded.J8
        dsimp only
        refine Ok.iteD (fun hpos => .bind' (.app (by simp; omega) (j9 _ (fun y hy => ?_) (by simp; omega) (fun k => ?_) fun k => ?_))) fun hno => j9 a i2 (by omega) (fun k => ?_) fun k => ?_
        · rcases List.mem_append.1 hy with hy | hy
          · exact i2 y hy
          · simp at hy; subst hy; exact hu.rated (by omega)
        · rw [segSum_append]; simp [segSum]
        · rw [portSum_append]; simp [portSum]
        · have : r = 0 := by omega
          rw [this, hsum_none]; omega
        · have : r = 0 := by omega
          rw [this, portOf_none]; omega
      · dsimp only at hge
        have : j = x.length := by omega
        subst this
        rw [List.take_length] at i6 i7
        exact ⟨i2, i3, by dsimp only; omega, by dsimp only; omega, i6, i7⟩
    rintro ⟨a, b⟩ ⟨ha, hb, hal, hbl, hsr, hsp⟩
    dsimp only at ha hb hal hbl hsr hsp
    unfold L.law25_PathsAdded.J1
    have fits : ∀ {a b : List Path}, (∀ x, x ∈ a → PathOk n p x) → (∀ x, x ∈ b → PathOk n p x) → (∀ k, segSum k a + segSum k b = segSum k x) → (∀ k, portSum k a + portSum k b = portSum k x) →
        (∀ (k : Nat) (r : Int), p.Rates[k]? = some r → (0 ≤ r → 0 ≤ segSum k a ∧ segSum k a ≤ r) ∧ (r ≤ 0 → r ≤ segSum k a ∧ segSum k a ≤ 0)) ∧ ∀ (k : Nat) (r : Int), p.Ports[k]? = some r → (0 ≤ r → 0 ≤ portSum k a ∧ portSum k a ≤ r) ∧ (r ≤ 0 → r ≤ portSum k a ∧ portSum k a ≤ 0) := by
      intro a b ha hb hsr hsp
      refine ⟨fun k r hr => ?_, fun k r hr => ?_⟩
      · have := sums_sign hres hr ha; have := sums_sign hres hr hb; have := hsr k; have := hd.sumR k r hr
        omega
      · have := psums_sign hr ha; have := psums_sign hr hb; have := hsp k; have := hd.sumP k r hr
        omega
    have fa := fits ha hb hsr hsp
    have fb := fits hb ha (fun k => by have := hsr k; omega) fun k => by have := hsp k; omega
    refine .bind (sum_ok hn hp hres ha (by omega) fa.1 fa.2 h6) ?_
    rintro ⟨u, _⟩ ⟨rfl, hu, hum, hu1, hu2⟩
    refine .bind (sum_ok hn hp hres hb (by omega) fb.1 fb.2 h6) ?_
    rintro ⟨v, _⟩ ⟨rfl, hv, hvm, hv1, hv2⟩
    dsimp only at hu hum hu1 hu2 hv hvm hv1 hv2
    have a1 := hu.rl; have a2 := hu.pl; have a3 := hv.rl; have a4 := hv.pl
    refine Ok.iteB (fun hb => by simp at hb; omega) fun _ => ?_
    refine .bind (Q := fun d : Bool ⊕ Unit => d = .inr ()) ?_ ?_
    · refine .loop (fun st : Int => 0 ≤ st ∧ st ≤ (p.Rates.length : Int)) (fun st => p.Rates.length - st.toNat) ⟨by omega, by omega⟩ (by omega) ?_
      rintro st ⟨h0, hle⟩
      obtain ⟨k, rfl⟩ := nat_of h0
      unfold L.law25_PathsAdded.B5
      refine Ok.iteD (fun hlt => ?_) fun hge => .pure rfl
      dsimp only at hlt
      have e1 : u.Rates[k]? = some (u.Rates[k]'(by omega)) := List.getElem?_eq_getElem _
      have e2 : v.Rates[k]? = some (v.Rates[k]'(by omega)) := List.getElem?_eq_getElem _
      have e3 : p.Rates[k]? = some (p.Rates[k]'(by omega)) := List.getElem?_eq_getElem _
      generalize u.Rates[k]'(by omega) = z1 at e1
      generalize v.Rates[k]'(by omega) = z2 at e2
      generalize p.Rates[k]'(by omega) = z3 at e3
      have q1 := hu1 k z1 e1; have q2 := hv1 k z2 e2; have q3 := hd.sumR k z3 e3; have q4 := hsr k; have q5 := hres.rng k z3 _ e3 (List.getElem?_eq_getElem (by omega))
      refine .bind' (.eq (ix_nat e1) (.bind' (.eq (ix_nat e2) (.bind' (.eq (ix_nat e3) ?_)))))
      dsimp only
      rw [wr_id (by omega), wr_id (by omega)]
      exact Ok.iteU (fun h => by omega) fun _ => .pure ⟨⟨by omega, by omega⟩, by omega⟩
    · rintro _ rfl
      simp only [Sum.elim_inr]
      unfold L.law25_PathsAdded.J2
      refine .bind (Q := fun d : Bool ⊕ Unit => d = .inr ()) ?_ ?_
      · refine .loop (fun st : Int => 0 ≤ st ∧ st ≤ (p.Ports.length : Int)) (fun st => p.Ports.length - st.toNat) ⟨by omega, by omega⟩ (by omega) ?_
        rintro st ⟨h0, hle⟩
        obtain ⟨k, rfl⟩ := nat_of h0
        unfold L.law25_PathsAdded.B4
        refine Ok.iteD (fun hlt => ?_) fun hge => .pure rfl
        dsimp only at hlt
        have e1 : u.Ports[k]? = some (u.Ports[k]'(by omega)) := List.getElem?_eq_getElem _
        have e2 : v.Ports[k]? = some (v.Ports[k]'(by omega)) := List.getElem?_eq_getElem _
        have e3 : p.Ports[k]? = some (p.Ports[k]'(by omega)) := List.getElem?_eq_getElem _
        generalize u.Ports[k]'(by omega) = z1 at e1
        generalize v.Ports[k]'(by omega) = z2 at e2
        generalize p.Ports[k]'(by omega) = z3 at e3
        have q1 := hu2 k z1 e1; have q2 := hv2 k z2 e2; have q3 := hd.sumP k z3 e3; have q4 := hsp k; have q5 := hres.prt k z3 e3
        refine .bind' (.eq (ix_nat e1) (.bind' (.eq (ix_nat e2) (.bind' (.eq (ix_nat e3) ?_)))))
        dsimp only
        rw [wr_id (by omega), wr_id (by omega)]
        exact Ok.iteU (fun h => by omega) fun _ => .pure ⟨⟨by omega, by omega⟩, by omega⟩
      · rintro _ rfl
        simp only [Sum.elim_inr]
        unfold L.law25_PathsAdded.J3
        exact wake25
  obtain ⟨r, h, rfl⟩ := this
  exact h

end Go.Proofs.Ytndfiddakngjdaa
