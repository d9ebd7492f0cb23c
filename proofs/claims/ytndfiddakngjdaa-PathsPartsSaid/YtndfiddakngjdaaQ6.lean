/- Adding paths up to a plan. No condition. -/
import Derived.Test.YtndfiddakngjdaaQ5
import Derived.Test.YtndfiddakngjdaaDq
namespace Go.Proofs.Ytndfiddakngjdaa
set_option linter.unusedVariables false
set_option linter.unusedSimpArgs false
open Go.Aw

theorem containsInt {s : List Int} {v : Int} (h : v ∉ s) : L.slices_Contains_int_int s v = some false := by
  have : Ok (L.slices_Contains_int_int s v) fun r => r = false := by
    unfold L.slices_Contains_int_int
    refine .bind index_int_int fun r hr => .pure ?_
    rcases hr with ⟨rfl, _⟩ | ⟨k, y, rfl, hk, he, _⟩
    · rfl
    · have : v = y := by simpa using he
      subst this
      exact absurd (List.mem_of_getElem? hk) h
  obtain ⟨r, h, rfl⟩ := this
  exact h

theorem valid_ok {n : Network} {up : Bool} {p : Plan} (hr : Res n up p.Rates p.Ports) {x : Path} (hx : PathOk n p x) : L.paths_valid n x = some true := by
  have : Ok (L.paths_valid n x) fun r => r = true := by
    obtain ⟨i, o, p0, po, y0, y1, nd, e1, e2, e3, e4, e5, e6, e7, e8, w, e9, e10, e11, e12, e13⟩ := hx
    have hil := (List.getElem?_eq_some_iff.1 e3).1
    have hol := (List.getElem?_eq_some_iff.1 e4).1
    have hne : i ≠ o := by rintro rfl; rw [e5] at e7; simp at e7; omega
    unfold L.paths_valid
    refine Ok.iteB (fun hb => ?_) fun _ => ?_
    · simp [L.paths_valid_1, e1, e2] at hb; omega
    rw [e1]
    refine .bind' (.eq (ix_nat e3) (.bind' (.forL (fun j (st : Int × List Int) => st.1 = nd j ∧ st.2 = (List.range (j + 1)).map nd) (fun _ => False) ⟨e9.symm, by simp [e9]⟩ ?_ ?_ fun _ h => h.elim)))
    · rintro j h ⟨a, l⟩ hj ⟨rfl, rfl⟩
      obtain ⟨k, s, r, q1, q2, q3, q4⟩ := w.hop j h hj
      have hkl := (List.getElem?_eq_some_iff.1 q2).1
      have hjl := (List.getElem?_eq_some_iff.1 hj).1
      unfold L.paths_valid.B2
      refine Ok.iteB (fun hb => ?_) fun _ => ?_
      · rw [q1] at hb; simp at hb; omega
      refine .bind (Q := fun r : Int × Int => r = (nd j, nd (j + 1))) ?_ ?_
      · unfold L.paths_ends
        rw [q1]
        refine .bind' (.eq (ix_nat q2) ?_)
        rcases q4 with ⟨b, _, a1, a2⟩ | ⟨b, _, a1, a2⟩
        · rw [b]; exact Ok.iteB (fun h => by cases h) fun _ => .pure (by dsimp only; rw [a1, a2])
        · rw [b]; exact Ok.iteB (fun _ => .pure (by dsimp only; rw [a1, a2])) fun h => by cases h
      rintro _ rfl
      refine Ok.iteU (fun h => absurd rfl h) fun _ => ?_
      dsimp only
      rw [containsInt (v := nd (j + 1)) (s := (List.range (j + 1)).map nd)]
      · refine .bind' (.pure ?_)
        unfold L.paths_valid.J3
        refine Ok.iteB (fun h => by cases h) fun _ => .bind' (.app (by simp; omega) (.pure ⟨rfl, ?_⟩))
        dsimp only
        rw [List.range_succ (n := j + 1), List.map_append]; rfl
      · simp only [List.mem_map, List.mem_range, not_exists, not_and]
        intro i' hi' he
        exact (w.mono hr (j + 1) i' (by omega) (by omega)).ne he
    · rintro ⟨a, l⟩ ⟨ha, _⟩
      simp only [Sum.elim_inl]
      unfold L.paths_valid.J1
      rw [e2]
      refine .bind' (.eq (ix_nat e4) (.pure ?_))
      dsimp only at ha ⊢
      rw [ha, e10]; simp
  obtain ⟨r, h, rfl⟩ := this
  exact h

theorem mget_mset {α : Type} {i : Int} {y : α} : ∀ {l : List (Int × α)} {k : Int} {b : α}, mget (mset l i y) k = some b → (k = i ∧ b = y) ∨ mget l k = some b
  | [], k, b, h => by simp [mset, mget] at h
  | (k', x) :: l, k, b, h => by
    simp only [mset] at h
    split at h
    · rename_i hk
      simp only [mget] at h ⊢
      split at h
      · rename_i hkk; simp at h; exact .inl ⟨by omega, h.symm⟩
      · rename_i hkk; rw [if_neg hkk]; exact .inr h
    · rename_i hk
      simp only [mget] at h ⊢
      split at h
      · rename_i hkk; rw [if_pos hkk]; exact .inr h
      · rename_i hkk; rw [if_neg hkk]; exact mget_mset h
theorem mget_append {α : Type} {i : Int} {y : α} : ∀ {l : List (Int × α)} {k : Int} {b : α}, mget (l ++ [(i, y)]) k = some b → (k = i ∧ b = y) ∨ mget l k = some b
  | [], k, b, h => by
    simp only [List.nil_append, mget] at h
    split at h
    · simp at h; exact .inl ⟨by omega, h.symm⟩
    · cases h
  | (k', x) :: l, k, b, h => by
    simp only [List.cons_append, mget] at h ⊢
    split at h
    · rename_i hkk; rw [if_pos hkk]; exact .inr h
    · rename_i hkk; rw [if_neg hkk]; exact mget_append h
theorem mget_mput {α : Type} {i : Int} {y : α} {l : List (Int × α)} {k : Int} {b : α} (h : mget (mput l i y) k = some b) : (k = i ∧ b = y) ∨ mget l k = some b := by
  unfold mput at h
  split at h
  · exact mget_mset h
  · exact mget_append h

theorem opposed_ok {n : Network} {p : Plan} {l : List Path} (hl : ∀ x, x ∈ l → PathOk n p x) : L.paths_opposed l = some false := by
  have : Ok (L.paths_opposed l) fun r => r = false := by
    unfold L.paths_opposed
    let Inv : List (Int × Bool) → Prop := fun st => ∀ (k : Int) (b : Bool), mget st k = some b → ∃ (kk : Nat) (r : Int), k = (kk : Int) ∧ p.Rates[kk]? = some r ∧ b = decide (r < 0)
    refine .bind' (.forL (fun _ st => Inv st) (fun _ => False) (fun k b h => by simp [mget] at h) ?_ ?_ fun _ h => h.elim)
    · intro j x st hx hst
      obtain ⟨i, o, p0, po, y0, y1, nd, e1, e2, e3, e4, e5, e6, e7, e8, w, e9, e10, e11, e12, e13⟩ := hl x (List.mem_of_getElem? hx)
      unfold L.paths_opposed.B2
      refine .bind' (.forL (fun _ st => Inv st) (fun _ => False) hst ?_ ?_ fun _ h => h.elim)
      · intro t h st hh hst
        obtain ⟨k, s, r, q1, q2, q3, q4⟩ := w.hop t h hh
        have hb : h.Back = decide (r < 0) := by
          rcases q4 with ⟨b, q, _⟩ | ⟨b, q, _⟩
          · rw [b]; symm; simpa using (by omega : 0 ≤ r)
          · rw [b]; symm; simpa using q
        unfold L.paths_opposed.B4
        refine Ok.iteB (fun hc => ?_) fun _ => .pure fun k' b' hk' => ?_
        · exfalso
          cases hm : mget st h.Segment with
          | none => rw [hm] at hc; simp at hc
          | some b =>
            obtain ⟨kk, r', a1, a2, a3⟩ := hst _ _ hm
            have : kk = k := by omega
            subst this
            rw [q3] at a2; simp at a2; subst a2
            rw [hm, hb, a3] at hc; simp at hc
        · rcases mget_mput hk' with ⟨rfl, rfl⟩ | hk'
          · exact ⟨k, r, q1, q3, hb⟩
          · exact hst k' b' hk'
      · intro st hst
        simp only [Sum.elim_inl]
        unfold L.paths_opposed.J3
        exact .pure hst
    · intro st _
      exact .pure rfl
  obtain ⟨r, h, rfl⟩ := this
  exact h

/-- A plan that a path is added to. -/
theorem grow_ok {n : Network} {up : Bool} {p : Plan} (hr : Res n up p.Rates p.Ports) {x : Path} (hx : PathOk n p x) {rates ports : List Int} {pumps : List Bool} (hrl : rates.length = n.Segments.length) (hpl : ports.length = n.Ports.length)
    (hrb : ∀ (k : Nat) (r : Int), rates[k]? = some r → -1000000 ≤ r ∧ r ≤ 1000000) (hpb : ∀ (k : Nat) (r : Int), ports[k]? = some r → -1000000 ≤ r ∧ r ≤ 1000000) :
    Ok (L.paths_Grow ⟨rates, ports, pumps⟩ x x.Rate) fun q => q.Rates.length = rates.length ∧ q.Ports.length = ports.length ∧ q.Pumps = pumps ∧ (∀ (k : Nat) (r : Int), rates[k]? = some r → q.Rates[k]? = some (r + hsum x.Rate k x.Hops)) ∧
      (∀ (k : Nat) (r : Int), ports[k]? = some r → q.Ports[k]? = some (r + portOf k x)) ∧ ∀ v, dot (wt n v) q.Rates + dot (wp n v) q.Ports = dot (wt n v) rates + dot (wp n v) ports := by
  obtain ⟨i, o, p0, po, y0, y1, nd, e1, e2, e3, e4, e5, e6, e7, e8, w, e9, e10, e11, e12, e13⟩ := hx
  have hil := (List.getElem?_eq_some_iff.1 e3).1
  have hol := (List.getElem?_eq_some_iff.1 e4).1
  have hne : i ≠ o := by rintro rfl; rw [e5] at e7; simp at e7; omega
  have hpi : ports[i]? = some (ports[i]'(by omega)) := List.getElem?_eq_getElem _
  have hpo : ports[o]? = some (ports[o]'(by omega)) := List.getElem?_eq_getElem _
  generalize ports[i]'(by omega) = zi at hpi
  generalize ports[o]'(by omega) = zo at hpo
  have hzi := hpb i zi hpi
  have hzo := hpb o zo hpo
  have w1 : wr (zi + x.Rate) = zi + x.Rate := wr_id (by omega)
  have w2 : wr (zo - x.Rate) = zo - x.Rate := wr_id (by omega)
  have hset : (ports.set i (zi + x.Rate))[o]? = some zo := by rw [List.getElem?_set_ne hne]; exact hpo
  unfold L.paths_Grow
  rw [e1, e2]
  refine .bind' (.eq (ix_nat hpi) ?_)
  dsimp only
  rw [w1]
  refine .bind' (.eq (ix_nat hset) ?_)
  dsimp only
  rw [w2]
  refine .bind (.forS (fun j st => st.length = rates.length ∧ (∀ (k : Nat) (r : Int), rates[k]? = some r → st[k]? = some (r + hsum x.Rate k (x.Hops.take j))) ∧ ∀ v, dot (wt n v) st = dot (wt n v) rates + (x.Rate * ind (nd j) v - x.Rate * ind (nd 0) v)) ⟨rfl, fun k r hr => by simp [hsum, hr], fun v => by omega⟩ ?_ fun st h => h) ?_
  · rintro j h st hj ⟨i1, i2, i3⟩
    have hjl := (List.getElem?_eq_some_iff.1 hj).1
    obtain ⟨k, s, r0, q1, q2, q3, q4⟩ := w.hop j h hj
    have hkl := (List.getElem?_eq_some_iff.1 q2).1
    have hrk : rates[k]? = some (rates[k]'(by omega)) := List.getElem?_eq_getElem _
    generalize rates[k]'(by omega) = r at hrk
    have hst := i2 k r hrk
    have hrr := hrb k r hrk
    have hb := hsum_bnd (rate := x.Rate) (by omega) k (x.Hops.take j)
    rw [List.length_take] at hb
    unfold L.paths_Grow.B1
    rw [q1]
    refine .bind' (.eq (ix_nat hst) (.pure ?_))
    dsimp only
    rw [signed_eq (by omega)]
    have hsg : -1000 ≤ sgn x.Rate h ∧ sgn x.Rate h ≤ 1000 := by unfold sgn; split <;> omega
    rw [wr_id (by omega)]
    refine ⟨by simp [i1], fun k' r' hr' => ?_, fun v => ?_⟩
    · rw [hsum_take hj, get_set]
      have hkl := (List.getElem?_eq_some_iff.1 hst).1
      by_cases hkk : k = k'
      · subst hkk
        rw [hr'] at hrk; simp at hrk; subst hrk
        rw [if_pos ⟨rfl, hkl⟩, if_pos q1]; congr 1; omega
      · rw [if_neg (fun h => hkk h.1), if_neg (by omega), i2 k' r' hr']; simp
    · rw [dot_set (wt_at v q2) hst, i3 v]
      have : (ind s.To v - ind s.From v) * (r + hsum x.Rate k (x.Hops.take j) + sgn x.Rate h - (r + hsum x.Rate k (x.Hops.take j))) = x.Rate * ind (nd (j + 1)) v - x.Rate * ind (nd j) v := by
        rw [show r + hsum x.Rate k (x.Hops.take j) + sgn x.Rate h - (r + hsum x.Rate k (x.Hops.take j)) = sgn x.Rate h by omega]
        unfold sgn
        rcases q4 with ⟨b, _, a1, a2⟩ | ⟨b, _, a1, a2⟩
        · rw [b, a1, a2, if_neg (by simp), Int.sub_mul, Int.mul_comm, Int.mul_comm (ind (nd j) v)]
        · rw [b, a1, a2, if_pos rfl, Int.sub_mul, Int.mul_neg, Int.mul_neg, Int.mul_comm, Int.mul_comm (ind (nd (j + 1)) v)]; omega
      rw [this]; omega
  rintro st ⟨i1, i2, i3⟩
  rw [List.take_length] at i2
  refine .pure ⟨i1, by simp, rfl, i2, fun k z hk => ?_, fun v => ?_⟩
  · dsimp only
    unfold portOf
    rw [e1, e2, get_set, get_set]
    by_cases hko : o = k
    · subst hko
      rw [hpo] at hk; simp at hk; subst hk
      rw [if_pos ⟨rfl, by simp; omega⟩, if_neg (by omega), if_pos rfl]; congr 1; omega
    · rw [if_neg (fun h => hko h.1)]
      by_cases hki : i = k
      · subst hki
        rw [hpi] at hk; simp at hk; subst hk
        rw [if_pos ⟨rfl, by omega⟩, if_pos rfl, if_neg (by omega)]; congr 1; omega
      · rw [if_neg (fun h => hki h.1), if_neg (by omega), if_neg (by omega), hk]; simp
  · dsimp only
    rw [i3 v, dot_set (wp_at v e4) hset, dot_set (wp_at v e3) hpi, e9, e10]
    have a1 : ind p0.Node v * (zi + x.Rate - zi) = x.Rate * ind p0.Node v := by rw [show zi + x.Rate - zi = x.Rate by omega, Int.mul_comm]
    have a2 : ind po.Node v * (zo - x.Rate - zo) = -(x.Rate * ind po.Node v) := by rw [show zo - x.Rate - zo = -x.Rate by omega, Int.mul_neg, Int.mul_comm]
    rw [a1, a2]; omega

theorem containsFunc_Path {s : List Path} {g : Path → Option Bool} (hg : ∀ (k : Nat) (x : Path), s[k]? = some x → g x = some false) : L.slices_ContainsFunc_api_Path_api_Path s g = some false := by
  have : Ok (L.slices_ContainsFunc_api_Path_api_Path s g) fun r => r = false := by
    unfold L.slices_ContainsFunc_api_Path_api_Path
    refine .bind (Q := fun r => r = -1) ?_ ?_
    · unfold L.slices_IndexFunc_api_Path_api_Path
      refine .bind' (.forL (fun k _ => True) (fun r => False) trivial ?_ ?_ fun _ h => h.elim)
      · intro k x _ hx _
        unfold L.slices_IndexFunc_api_Path_api_Path.B2
        exact .bind' (.eq (hg k x hx) (Ok.iteB (fun h => by cases h) fun _ => .pure trivial))
      · intro _ _
        exact .pure rfl
    · rintro _ rfl
      exact .pure rfl
  obtain ⟨r, h, rfl⟩ := this
  exact h

theorem segSum_take {l : List Path} {k j : Nat} {x : Path} (h : l[j]? = some x) : segSum k (l.take (j + 1)) = segSum k (l.take j) + hsum x.Rate k x.Hops := by
  rw [List.take_add_one, h, segSum_append]; simp [segSum]
theorem portSum_take {l : List Path} {k j : Nat} {x : Path} (h : l[j]? = some x) : portSum k (l.take (j + 1)) = portSum k (l.take j) + portOf k x := by
  rw [List.take_add_one, h, portSum_append]; simp [portSum]
theorem segSum_bnd {n : Network} {p : Plan} (k : Nat) : ∀ {l : List Path}, (∀ x, x ∈ l → PathOk n p x) → -(5000 * (l.length : Int)) ≤ segSum k l ∧ segSum k l ≤ 5000 * (l.length : Int)
  | [], _ => by simp [segSum]
  | x :: l, h => by
    have ih := segSum_bnd k (l := l) fun y hy => h y (by simp [hy])
    obtain ⟨i, o, p0, po, y0, y1, nd, e1, e2, e3, e4, e5, e6, e7, e8, w, e9, e10, e11, e12, e13⟩ := h x (by simp)
    have := hsum_bnd (rate := x.Rate) (by omega) k x.Hops
    simp only [segSum, List.length_cons]; omega
theorem portSum_bnd {n : Network} {p : Plan} (k : Nat) : ∀ {l : List Path}, (∀ x, x ∈ l → PathOk n p x) → -(5000 * (l.length : Int)) ≤ portSum k l ∧ portSum k l ≤ 5000 * (l.length : Int)
  | [], _ => by simp [portSum]
  | x :: l, h => by
    have ih := portSum_bnd k (l := l) fun y hy => h y (by simp [hy])
    obtain ⟨i, o, p0, po, y0, y1, nd, e1, e2, e3, e4, e5, e6, e7, e8, w, e9, e10, e11, e12, e13⟩ := h x (by simp)
    simp only [portSum, portOf, List.length_cons]
    split <;> split <;> omega

/-- Paths of a plan, with no more than flows in it, add up to a plan. -/
theorem sum_ok {n : Network} (hn : NetOk n) {up : Bool} {p : Plan} (hp : PlanOk n p) (hr : Res n up p.Rates p.Ports) {l : List Path} (hl : ∀ x, x ∈ l → PathOk n p x) (hlen : l.length ≤ 64)
    (hsr : ∀ (k : Nat) (r : Int), p.Rates[k]? = some r → (0 ≤ r → 0 ≤ segSum k l ∧ segSum k l ≤ r) ∧ (r ≤ 0 → r ≤ segSum k l ∧ segSum k l ≤ 0))
    (hsp : ∀ (k : Nat) (r : Int), p.Ports[k]? = some r → (0 ≤ r → 0 ≤ portSum k l ∧ portSum k l ≤ r) ∧ (r ≤ 0 → r ≤ portSum k l ∧ portSum k l ≤ 0)) {pumps : List Bool} (hpu : pumps.length = n.Stations.length) :
    Ok (L.paths_Sum n l pumps) fun q => q.2 = 0 ∧ PlanOk n q.1 ∧ q.1.Pumps = pumps ∧ (∀ (k : Nat) (r : Int), q.1.Rates[k]? = some r → r = segSum k l) ∧ ∀ (k : Nat) (r : Int), q.1.Ports[k]? = some r → r = portSum k l := by
  have h1 := hn.segs1; have h2 := hn.ports1; have h3 := hn.sts1; have h4 := hp.rl; have h5 := hp.pl
  unfold L.paths_Sum
  rw [netCheck hn]
  refine .bind' (.pure (Ok.iteU (fun h => absurd rfl h) fun _ => Ok.iteD (fun h => by omega) fun _ => ?_))
  rw [containsFunc_Path fun k x hx => by unfold L.paths_Sum_1; rw [valid_ok hr (hl x (List.mem_of_getElem? hx))]; rfl]
  refine .bind' (.pure (Ok.iteB (fun h => by cases h) fun _ => ?_))
  rw [opposed_ok hl]
  refine .bind' (.pure ?_)
  unfold L.paths_Sum.J1
  refine Ok.iteB (fun h => by cases h) fun _ => Ok.iteU (fun h => by omega) fun _ => .bind' (.mk n.Segments.length rfl (by omega) (.bind' (.mk n.Ports.length rfl (by omega) ?_)))
  have hcl : L.slices_Clone_bool_bool pumps = some pumps := by unfold L.slices_Clone_bool_bool; rw [app?_eq (by simp; omega)]; rfl
  rw [hcl]
  refine .bind' (.pure ?_)
  unfold L.paths_Sum.J2
  refine .bind (.forS (fun j (st : List Int × List Int × List Bool) => st.1.length = n.Segments.length ∧ st.2.1.length = n.Ports.length ∧ st.2.2 = pumps ∧ (∀ (k : Nat) (r : Int), st.1[k]? = some r → r = segSum k (l.take j)) ∧ (∀ (k : Nat) (r : Int), st.2.1[k]? = some r → r = portSum k (l.take j)) ∧ ∀ v, dot (wt n v) st.1 + dot (wp n v) st.2.1 = 0)
    ⟨by simp, by simp, rfl, fun k r hk => ?_, fun k r hk => ?_, fun v => by rw [dot_zero, dot_zero]; rfl⟩ ?_ fun st h => h) ?_
  · have := List.mem_of_getElem? hk; simp at this; simp [segSum]; omega
  · have := List.mem_of_getElem? hk; simp at this; simp [portSum]; omega
  · rintro j x ⟨rates, ports, pu⟩ hx ⟨i1, i2, i3, i4, i5, i6⟩
    dsimp only at i1 i2 i3 i4 i5 i6
    have hjl := (List.getElem?_eq_some_iff.1 hx).1
    have ht : ∀ x, x ∈ l.take j → PathOk n p x := fun x hx => hl x (List.mem_of_mem_take hx)
    have htl : (l.take j).length ≤ 64 := by rw [List.length_take]; omega
    unfold L.paths_Sum.B4
    refine .bind (grow_ok hr (hl x (List.mem_of_getElem? hx)) i1 i2 (fun k r hk => by have := i4 k r hk; have := segSum_bnd k ht; omega) fun k r hk => by have := i5 k r hk; have := portSum_bnd k ht; omega) ?_
    rintro q ⟨g1, g2, g3, g4, g5, g6⟩
    dsimp only at g1 g2 g3 g4 g5 g6
    refine .pure ⟨by dsimp only; omega, by dsimp only; omega, by dsimp only; rw [g3, i3], fun k r hk => ?_, fun k r hk => ?_, fun v => by have := g6 v; have := i6 v; dsimp only; omega⟩
    · dsimp only at hk
      have hkl := (List.getElem?_eq_some_iff.1 hk).1
      have h0 : rates[k]? = some (rates[k]'(by omega)) := List.getElem?_eq_getElem _
      have ha := g4 k _ h0
      have hb := i4 k _ h0
      rw [hk] at ha; simp at ha
      rw [segSum_take hx]; omega
    · dsimp only at hk
      have hkl := (List.getElem?_eq_some_iff.1 hk).1
      have h0 : ports[k]? = some (ports[k]'(by omega)) := List.getElem?_eq_getElem _
      have ha := g5 k _ h0
      have hb := i5 k _ h0
      rw [hk] at ha; simp at ha
      rw [portSum_take hx]; omega
  rintro ⟨rates, ports, pu⟩ ⟨i1, i2, i3, i4, i5, i6⟩
  rw [List.take_length] at i4 i5
  dsimp only at i1 i2 i3 i4 i5 i6
  have old : ∀ (k : Nat) (r : Int), rates[k]? = some r → ∃ r0, p.Rates[k]? = some r0 ∧ ((0 ≤ r0 → 0 ≤ r ∧ r ≤ r0) ∧ (r0 ≤ 0 → r0 ≤ r ∧ r ≤ 0)) := fun k r hk => by
    have hkl := (List.getElem?_eq_some_iff.1 hk).1
    have h0 : p.Rates[k]? = some (p.Rates[k]'(by omega)) := List.getElem?_eq_getElem _
    refine ⟨_, h0, ?_⟩
    have := hsr k _ h0
    have := i4 k r hk
    omega
  have ok : PlanOk n ⟨rates, ports, pu⟩ := by
    refine ⟨i1, i2, by dsimp only; rw [i3]; exact hpu, fun k r s hk hs => ?_, fun k r hk => ?_, i6, ?_⟩
    · obtain ⟨r0, a1, a2⟩ := old k r hk
      have := hp.rng k r0 s a1 hs
      omega
    · dsimp only at hk
      have hkl := (List.getElem?_eq_some_iff.1 hk).1
      have h0 : p.Ports[k]? = some (p.Ports[k]'(by omega)) := List.getElem?_eq_getElem _
      have := hsp k _ h0
      have := i5 k r hk
      have := hp.prt k _ h0
      omega
    · rcases hp.dir with hd | hd
      · refine .inl fun k r s hk hs => ?_
        obtain ⟨r0, a1, a2⟩ := old k r hk
        have := hd k r0 s a1 hs
        exact ⟨fun h => this.1 (by omega), fun h => this.2 (by omega)⟩
      · refine .inr fun k r s hk hs => ?_
        obtain ⟨r0, a1, a2⟩ := old k r hk
        have := hd k r0 s a1 hs
        exact ⟨fun h => this.1 (by omega), fun h => this.2 (by omega)⟩
  unfold L.paths_Sum.J3
  dsimp only
  rw [flowCheck hn ok]
  exact .bind' (.pure (Ok.iteU (fun h => absurd rfl h) fun _ => .pure ⟨rfl, ok, i3, i4, i5⟩))

end Go.Proofs.Ytndfiddakngjdaa
