/- The law of parts of paths, for the pure functions. No condition. -/
import Derived.Test.YtndfiddakngjdaaQ8
import Derived.Test.YtndfiddakngjdaaP16
namespace Go.Proofs.Ytndfiddakngjdaa
set_option linter.unusedVariables false
set_option linter.unusedSimpArgs false
open Go.Aw

def rated (u : Path) (r : Int) : Path := ⟨u.In, u.Out, u.Hops, r⟩
/-- Paths with other rates; those with none are left out. -/
def sel : List Path → List Int → List Path
  | u :: l, r :: rs => if 0 < r then rated u r :: sel l rs else sel l rs
  | _, _ => []
theorem sel_append : ∀ {l : List Path} {rs : List Int} {u : Path} {r : Int}, rs.length = l.length → sel (l ++ [u]) (rs ++ [r]) = sel l rs ++ if 0 < r then [rated u r] else []
  | [], [], u, r, _ => by simp [sel]
  | [], _ :: _, u, r, h => by simp at h
  | _ :: _, [], u, r, h => by simp at h
  | v :: l, s :: rs, u, r, h => by
    have := sel_append (l := l) (rs := rs) (u := u) (r := r) (by simpa using h)
    simp only [List.cons_append, sel, this]
    split <;> simp
theorem mem_sel : ∀ {l : List Path} {rs : List Int} {y : Path}, y ∈ sel l rs → ∃ (i : Nat) (u : Path) (r : Int), l[i]? = some u ∧ rs[i]? = some r ∧ 0 < r ∧ y = rated u r
  | [], _, y, h => by simp [sel] at h
  | _ :: _, [], y, h => by simp [sel] at h
  | v :: l, s :: rs, y, h => by
    simp only [sel] at h
    have tl : y ∈ sel l rs → ∃ (i : Nat) (u : Path) (r : Int), (v :: l)[i]? = some u ∧ (s :: rs)[i]? = some r ∧ 0 < r ∧ y = rated u r := fun h => by
      obtain ⟨i, u, r, h1, h2, h3⟩ := mem_sel h
      exact ⟨i + 1, u, r, by simpa using h1, by simpa using h2, h3⟩
    split at h
    · rename_i hs
      rcases List.mem_cons.1 h with rfl | h
      · exact ⟨0, v, s, rfl, rfl, hs, rfl⟩
      · exact tl h
    · exact tl h
theorem sel_mem : ∀ {l : List Path} {rs : List Int} {i : Nat} {u : Path} {r : Int}, l[i]? = some u → rs[i]? = some r → 0 < r → rated u r ∈ sel l rs
  | [], _, i, u, r, h, _, _ => by simp at h
  | _ :: _, [], i, u, r, _, h, _ => by simp at h
  | v :: l, s :: rs, 0, u, r, h1, h2, h3 => by
    simp at h1 h2; subst h1; subst h2
    simp [sel, h3]
  | v :: l, s :: rs, i + 1, u, r, h1, h2, h3 => by
    have := sel_mem (l := l) (rs := rs) (i := i) (by simpa using h1) (by simpa using h2) h3
    simp only [sel]; split <;> simp [this]
theorem sel_len : ∀ (l : List Path) (rs : List Int), (sel l rs).length ≤ l.length
  | [], _ => by simp [sel]
  | _ :: _, [] => by simp [sel]
  | v :: l, s :: rs => by have := sel_len l rs; simp only [sel]; split <;> simp <;> omega
/-- What is left of paths. -/
def left (l : List Path) (rs : List Int) : List Int := List.zipWith (fun u r => u.Rate - r) l rs
theorem left_at {l : List Path} {rs : List Int} {i : Nat} {u : Path} {r : Int} (h1 : l[i]? = some u) (h2 : rs[i]? = some r) : (left l rs)[i]? = some (u.Rate - r) := by
  unfold left; rw [List.getElem?_zipWith, h1, h2]
theorem sel_sum {k : Nat} : ∀ {l : List Path} {rs : List Int}, rs.length = l.length → (∀ (i : Nat) (u : Path) (r : Int), l[i]? = some u → rs[i]? = some r → 0 ≤ r ∧ r ≤ u.Rate) → segSum k (sel l (left l rs)) + segSum k (sel l rs) = segSum k l
  | [], [], _, _ => by simp [sel, segSum]
  | [], _ :: _, h, _ => by simp at h
  | _ :: _, [], h, _ => by simp at h
  | u :: l, r :: rs, h, hh => by
    have h0 := hh 0 u r rfl rfl
    have ih := sel_sum (k := k) (l := l) (rs := rs) (by simpa using h) fun i v s hv hs => hh (i + 1) v s (by simpa using hv) (by simpa using hs)
    have ha := hsum_add (u.Rate - r) r k u.Hops
    rw [show u.Rate - r + r = u.Rate by omega] at ha
    have hn := hsum_none k u.Hops
    simp only [left, List.zipWith_cons_cons, sel] at ih ⊢
    by_cases hr : 0 < r <;> by_cases hr2 : 0 < u.Rate - r <;> simp only [hr, hr2, if_true, if_false, segSum, rated]
    · omega
    · rw [show u.Rate - r = 0 by omega, hn] at ha; omega
    · rw [show r = 0 by omega] at ha; rw [hn] at ha; rw [show u.Rate - r = u.Rate - 0 by omega]; omega
    · rw [show u.Rate - r = 0 by omega, show r = 0 by omega, hn] at ha; omega
theorem sel_psum {k : Nat} : ∀ {l : List Path} {rs : List Int}, rs.length = l.length → (∀ (i : Nat) (u : Path) (r : Int), l[i]? = some u → rs[i]? = some r → 0 ≤ r ∧ r ≤ u.Rate) → portSum k (sel l (left l rs)) + portSum k (sel l rs) = portSum k l
  | [], [], _, _ => by simp [sel, portSum]
  | [], _ :: _, h, _ => by simp at h
  | _ :: _, [], h, _ => by simp at h
  | u :: l, r :: rs, h, hh => by
    have h0 := hh 0 u r rfl rfl
    have ih := sel_psum (k := k) (l := l) (rs := rs) (by simpa using h) fun i v s hv hs => hh (i + 1) v s (by simpa using hv) (by simpa using hs)
    simp only [left, List.zipWith_cons_cons, sel] at ih ⊢
    by_cases hr : 0 < r <;> by_cases hr2 : 0 < u.Rate - r <;> simp only [hr, hr2, if_true, if_false, portSum, rated, portOf]
    · split <;> split <;> omega
    · split <;> split <;> omega
    · split <;> split <;> omega
    · split <;> split <;> omega

theorem equalHops {a b : List Hop} : Ok (L.slices_Equal_api_Hop_api_Hop a b) fun r => r = true ↔ a = b := by
  unfold L.slices_Equal_api_Hop_api_Hop
  refine Ok.iteU (fun h => .pure ?_) fun h => ?_
  · simp only [Bool.false_eq_true, false_iff]; rintro rfl; exact h rfl
  have hl : a.length = b.length := by omega
  refine .bind' (.forL (fun k _ => ∀ j : Nat, j < k → a[j]? = b[j]?) (fun r => r = false ∧ a ≠ b) (fun j h => absurd h (Nat.not_lt_zero _)) ?_ ?_ ?_)
  · intro k x _ hx hi
    have hkl := (List.getElem?_eq_some_iff.1 hx).1
    have hb : b[k]? = some (b[k]'(by omega)) := List.getElem?_eq_getElem _
    generalize b[k]'(by omega) = y at hb
    unfold L.slices_Equal_api_Hop_api_Hop.B2
    refine .bind' (.eq (ix_nat hb) (Ok.iteN (fun h => .pure ⟨rfl, ?_⟩) fun h => .pure fun j hj => ?_))
    · intro he; rw [he, hb] at hx; simp at hx; subst hx; simp at h
    · have hxy : x = y := by
        simp at h
        cases x; cases y; simp_all
      by_cases hjk : j = k
      · subst hjk; rw [hx, hb, hxy]
      · exact hi j (by omega)
  · intro _ hi
    simp only [Sum.elim_inl]
    unfold L.slices_Equal_api_Hop_api_Hop.J1
    refine .pure ⟨fun _ => ?_, fun _ => rfl⟩
    refine List.ext_getElem? fun j => ?_
    by_cases hj : j < a.length
    · exact hi j hj
    · rw [List.getElem?_eq_none (by omega), List.getElem?_eq_none (by omega)]
  · rintro _ ⟨rfl, h⟩
    exact .pure ⟨fun h' => (by cases h'), fun h' => absurd h' h⟩

def Alike (x y : Path) : Prop := x.In = y.In ∧ x.Out = y.Out ∧ x.Hops = y.Hops

theorem palike_ok {x y : Path} : Ok (L.paths_Alike x y) fun r => r = true ↔ Alike x y := by
  unfold L.paths_Alike L.paths_Alike.J1
  refine Ok.iteE (fun h1 => Ok.iteE (fun h2 => .bind equalHops fun r hr => .pure ?_) fun h2 => .pure ?_) fun h1 => .pure ?_
  · rw [hr]; exact ⟨fun h => ⟨h1, h2, h⟩, fun h => h.2.2⟩
  · simp only [Bool.false_eq_true, false_iff]; exact fun h => h2 h.2.1
  · simp only [Bool.false_eq_true, false_iff]; exact fun h => h1 h.1

theorem find_path {l : List Path} {p : Path} : Ok (L.paths_Find l p) fun r => (r = -1 ∧ ∀ y, y ∈ l → ¬ Alike y p) ∨ ∃ (m : Nat) (y : Path), r = (m : Int) ∧ l[m]? = some y ∧ Alike y p := by
  unfold L.paths_Find
  refine .bind (Q := fun r => (r = -1 ∧ ∀ y, y ∈ l → ¬ Alike y p) ∨ ∃ (m : Nat) (y : Path), r = (m : Int) ∧ l[m]? = some y ∧ Alike y p) ?_ fun r hr => .pure hr
  unfold L.slices_IndexFunc_api_Path_api_Path
  refine .bind' (.forL (fun k _ => ∀ (j : Nat) (y : Path), j < k → l[j]? = some y → ¬ Alike y p) (fun r => ∃ (m : Nat) (y : Path), r = (m : Int) ∧ l[m]? = some y ∧ Alike y p) (fun j y h => absurd h (Nat.not_lt_zero _)) ?_ ?_ ?_)
  · intro k x _ hx hi
    unfold L.slices_IndexFunc_api_Path_api_Path.B2 L.paths_Find_1
    refine .bind (.bind palike_ok fun r hr => .pure hr) fun r hr => Ok.iteB (fun h => .pure ⟨k, x, rfl, hx, hr.1 h⟩) fun h => .pure fun j y hj hy => ?_
    by_cases hjk : j = k
    · subst hjk
      rw [hx] at hy; simp at hy; subst hy
      intro ha
      have := hr.2 ha
      rw [h] at this; cases this
    · exact hi j y (by omega) hy
  · intro _ hi
    simp only [Sum.elim_inl]
    unfold L.slices_IndexFunc_api_Path_api_Path.J1
    refine .pure (.inl ⟨rfl, fun y hy => ?_⟩)
    obtain ⟨j, hj⟩ := List.getElem?_of_mem hy
    exact hi j y (List.getElem?_eq_some_iff.1 hj).1 hj
  · rintro b hb
    exact .pure (.inr hb)

theorem same_ok {a : List Path} (h : ∀ x, x ∈ a → x.Hops.length ≤ 1000) (hl : a.length ≤ 1000) : L.ref25_Same a a = some true := by
  have : Ok (L.ref25_Same a a) fun r => r = true := by
    unfold L.ref25_Same
    refine Ok.iteU (fun h => absurd rfl h) fun _ => ?_
    refine .bind (Q := fun d : Bool ⊕ Unit => d = .inr ()) ?_ ?_
    · refine .loop (fun st : Int => 0 ≤ st ∧ st ≤ (a.length : Int)) (fun st => a.length - st.toNat) ⟨by omega, by omega⟩ (by omega) ?_
      rintro st ⟨h0, h1⟩
      obtain ⟨k, rfl⟩ := nat_of h0
      unfold L.ref25_Same.B2
      refine Ok.iteD (fun hlt => ?_) fun _ => .pure rfl
      have hx : a[k]? = some (a[k]'(by omega)) := List.getElem?_eq_getElem _
      generalize a[k]'(by omega) = x at hx
      refine .bind' (.eq (ix_nat hx) (.bind' (.eq (ix_nat hx) (.bind (alike_ok (h x (List.mem_of_getElem? hx))) fun r hr => ?_))))
      have := hr.2 ⟨rfl, rfl, rfl⟩
      subst this
      refine Ok.iteN (fun h => by cases h) fun _ => ?_
      unfold L.ref25_Same.J3
      refine Ok.iteU (fun h => absurd rfl h) fun _ => .pure ?_
      rw [wr_id (by omega)]
      exact ⟨⟨by omega, by omega⟩, by omega⟩
    · rintro _ rfl
      exact .pure rfl
  obtain ⟨r, h, rfl⟩ := this
  exact h

theorem pathsParts (l : List Int) : L.law25_PathsParts l = some true := by
  have : Ok (L.law25_PathsParts l) fun r => r = true := by
    unfold L.law25_PathsParts
    refine Ok.iteN (fun _ => wake25) fun _ => .bind (new_ok l) fun s hs => .bind (net_ok hs) ?_
    rintro ⟨n, s1⟩ ⟨hn, hs⟩
    refine .bind (plan_ok hn hs) ?_
    rintro ⟨p, s2⟩ ⟨hp, hs⟩
    dsimp only at hn hp hs
    have h1 := hn.segs1; have h2 := hn.ports1; have h3 := hn.sts1; have h4 := hp.rl; have h5 := hp.pl; have h6 := hp.ml
    refine .bind (divide_ok hn hp) ?_
    rintro ⟨x, _⟩ ⟨rfl, up, hd⟩
    dsimp only at hd
    have hxl := hd.count
    have hres := hd.res
    refine Ok.iteU (fun h => absurd rfl h) fun _ => ?_
    refine .bind (Q := fun part => ∃ rs : List Int, rs.length = x.length ∧ (∀ (i : Nat) (u : Path) (r : Int), x[i]? = some u → rs[i]? = some r → 0 ≤ r ∧ r ≤ u.Rate) ∧ part = sel x rs) ?_ ?_
    · refine .loop (fun st : List Int × Int × List Path × Int => ∃ (j : Nat) (rs : List Int), st.2.2.2 = (j : Int) ∧ j ≤ x.length ∧ SrcOk ⟨st.1, st.2.1⟩ ∧ rs.length = j ∧ (∀ (i : Nat) (u : Path) (r : Int), x[i]? = some u → rs[i]? = some r → 0 ≤ r ∧ r ≤ u.Rate) ∧ st.2.2.1 = sel (x.take j) rs)
        (fun st => x.length - st.2.2.2.toNat) ⟨0, [], rfl, Nat.zero_le _, hs, rfl, by simp, by simp [sel]⟩ (by dsimp only; omega) ?_
      rintro ⟨L_, At, part, i⟩ ⟨j, rs, rfl, hj, i1, i2, i3, rfl⟩
      dsimp only at i1
      unfold L.law25_PathsParts.B8
      refine Ok.iteD (fun hlt => ?_) fun hge => .pure ?_
      · dsimp only at hlt
        have hx : x[j]? = some (x[j]'(by omega)) := List.getElem?_eq_getElem _
        generalize x[j]'(by omega) = u at hx
        have hu := hd.paths u (List.mem_of_getElem? hx)
        have hus := hu.small
        have hsl := sel_len (x.take j) rs
        rw [List.length_take] at hsl
        refine .bind' (.eq (ix_nat hx) ?_)
        dsimp only
        rw [wr_id (by omega)]
        refine .bind (n_ok i1 (by omega) (by omega)) ?_
        rintro ⟨r, s'⟩ ⟨hs', hr0, hr1⟩
        dsimp only at hs' hr0 hr1
        have j9 : ∀ (m : List Int × Int × List Path), SrcOk ⟨m.1, m.2.1⟩ → m.2.2 = sel (x.take (j + 1)) (rs ++ [r]) → Ok (L.law25_PathsParts.J9 (L_, At, sel (x.take j) rs, (j : Int)) m) (Sum.elim (fun st : List Int × Int × List Path × Int => (∃ (j : Nat) (rs : List Int), st.2.2.2 = (j : Int) ∧ j ≤ x.length ∧ SrcOk ⟨st.1, st.2.1⟩ ∧ rs.length = j ∧ (∀ (i : Nat) (u : Path) (r : Int), x[i]? = some u → rs[i]? = some r → 0 ≤ r ∧ r ≤ u.Rate) ∧ st.2.2.1 = sel (x.take j) rs) ∧ x.length - st.2.2.2.toNat < x.length - (j : Int).toNat)
            fun part => ∃ rs : List Int, rs.length = x.length ∧ (∀ (i : Nat) (u : Path) (r : Int), x[i]? = some u → rs[i]? = some r → 0 ≤ r ∧ r ≤ u.Rate) ∧ part = sel x rs) := by
          intro m hm1 hm2
          unfold L.law25_PathsParts.J9
          dsimp only
          rw [wr_id (by omega)]
          refine .pure ⟨⟨j + 1, rs ++ [r], by simp, by omega, hm1, by simp [i2], fun i v q hv hq => ?_, hm2⟩, by dsimp only; omega⟩
          rw [List.getElem?_append] at hq
          split at hq
          · exact i3 i v q hv hq
          · have hql := (List.getElem?_eq_some_iff.1 hq).1
            simp at hql
            have : i = j := by omega
            subst this
            rw [hx] at hv; simp at hv; subst hv
            simp [i2] at hq; omega
        have hsel : sel (x.take (j + 1)) (rs ++ [r]) = sel (x.take j) rs ++ if 0 < r then [rated u r] else [] := by
          rw [List.take_add_one, hx, Option.toList_some, sel_append (by rw [List.length_take]; omega)]
        refine Ok.iteD (fun hpos => ?_) fun hno => j9 (_, _, _) hs' ?_
        · rw [copy_ok (by omega)]
          refine .bind' (.pure (.bind' (.app (by simp; omega) (j9 (_, _, _) hs' ?_))))
          rw [hsel, if_pos hpos]; rfl
        · rw [hsel, if_neg hno, List.append_nil]
      · dsimp only at hge
        have : j = x.length := by omega
        subst this
        rw [List.take_length]
        exact ⟨rs, i2, i3, rfl⟩
    rintro _ ⟨rs, hrl, hrs, rfl⟩
    -- the paths, and what is left of them
    have hpart : ∀ y, y ∈ sel x rs → PathOk n p y := fun y hy => by
      obtain ⟨i, u, r, a1, a2, a3, rfl⟩ := mem_sel hy
      have hu := hd.paths u (List.mem_of_getElem? a1)
      exact hu.rated (by have := hrs i u r a1 a2; have := hu.small; omega)
    have hrest : ∀ y, y ∈ sel x (left x rs) → PathOk n p y := fun y hy => by
      obtain ⟨i, u, r, a1, a2, a3, rfl⟩ := mem_sel hy
      have hu := hd.paths u (List.mem_of_getElem? a1)
      have hil := (List.getElem?_eq_some_iff.1 a1).1
      have h0 : rs[i]? = some (rs[i]'(by omega)) := List.getElem?_eq_getElem _
      rw [left_at a1 h0] at a2; simp at a2
      exact hu.rated (by have := hrs i u _ a1 h0; have := hu.small; omega)
    have hpl := sel_len x rs
    have hrl2 := sel_len x (left x rs)
    have hsum := fun k => sel_sum (k := k) hrl hrs
    have hpsum := fun k => sel_psum (k := k) hrl hrs
    have fits : (∀ (k : Nat) (r : Int), p.Rates[k]? = some r → (0 ≤ r → 0 ≤ segSum k (sel x rs) ∧ segSum k (sel x rs) ≤ r) ∧ (r ≤ 0 → r ≤ segSum k (sel x rs) ∧ segSum k (sel x rs) ≤ 0)) ∧ ∀ (k : Nat) (r : Int), p.Ports[k]? = some r → (0 ≤ r → 0 ≤ portSum k (sel x rs) ∧ portSum k (sel x rs) ≤ r) ∧ (r ≤ 0 → r ≤ portSum k (sel x rs) ∧ portSum k (sel x rs) ≤ 0) := by
      refine ⟨fun k r hr => ?_, fun k r hr => ?_⟩
      · have := sums_sign hres hr hpart; have := sums_sign hres hr hrest; have := hsum k; have := hd.sumR k r hr
        omega
      · have := psums_sign hr hpart; have := psums_sign hr hrest; have := hpsum k; have := hd.sumP k r hr
        omega
    have uniq : ∀ (i j : Nat) (u v : Path), x[i]? = some u → x[j]? = some v → Alike u v → i = j := by
      intro i j u v hu hv ha
      rcases Nat.lt_trichotomy i j with h | h | h
      · exact absurd ha (hd.apart i j u v h hu hv)
      · exact h
      · exact absurd ⟨ha.1.symm, ha.2.1.symm, ha.2.2.symm⟩ (hd.apart j i v u h hv hu)
    unfold L.law25_PathsParts.J1
    refine .bind (sum_ok hn hp hres hpart (by omega) fits.1 fits.2 h6) ?_
    rintro ⟨q, _⟩ ⟨rfl, hq, hqm, hq1, hq2⟩
    dsimp only at hq hqm hq1 hq2
    refine Ok.iteU (fun h => absurd rfl h) fun _ => ?_
    dsimp only
    rw [check16 hn hq.flow]
    refine .bind' (.pure ?_)
    unfold L.law25_PathsParts.J2
    refine Ok.iteU (fun h => absurd rfl h) fun _ => ?_
    have a1 := hq.rl
    refine .bind (Q := fun d : Bool ⊕ Unit => d = .inr ()) ?_ ?_
    · refine .loop (fun st : Int => 0 ≤ st ∧ st ≤ (q.Rates.length : Int)) (fun st => q.Rates.length - st.toNat) ⟨by omega, by omega⟩ (by omega) ?_
      rintro st ⟨h0, hle⟩
      obtain ⟨k, rfl⟩ := nat_of h0
      unfold L.law25_PathsParts.B6
      refine Ok.iteD (fun hlt => ?_) fun hge => .pure rfl
      dsimp only at hlt
      have e1 : q.Rates[k]? = some (q.Rates[k]'(by omega)) := List.getElem?_eq_getElem _
      have e3 : p.Rates[k]? = some (p.Rates[k]'(by omega)) := List.getElem?_eq_getElem _
      generalize q.Rates[k]'(by omega) = z1 at e1
      generalize p.Rates[k]'(by omega) = z3 at e3
      have q1 := hq1 k z1 e1; have q4 := fits.1 k z3 e3; have q5 := hres.rng k z3 _ e3 (List.getElem?_eq_getElem (by omega))
      have hmul : 0 ≤ z1 * z3 ∧ z1 * z3 ≤ 1000000 := by
        by_cases hz : z3 < 0
        · have b1 := Int.mul_nonneg_of_nonpos_of_nonpos (a := z1) (b := z3) (by omega) (by omega)
          have b2 := Int.mul_le_mul (a := -z1) (b := -z3) (c := 1000) (d := 1000) (by omega) (by omega) (by omega) (by omega)
          rw [Int.neg_mul_neg] at b2
          omega
        · have b1 := Int.mul_nonneg (a := z1) (b := z3) (by omega) (by omega)
          have b2 := Int.mul_le_mul (a := z1) (b := z3) (c := 1000) (d := 1000) (by omega) (by omega) (by omega) (by omega)
          omega
      refine .bind' (.eq (ix_nat e1) (.bind' (.eq (ix_nat e3) ?_)))
      dsimp only
      rw [wr_id (x := z1 * z3) (by omega), wr_id (x := 0 - z1) (by omega), wr_id (x := 0 - z3) (by omega)]
      refine Ok.iteD (fun h => by omega) fun _ => ?_
      unfold L.law25_PathsParts.J7
      refine Ok.iteD (fun h => by omega) fun _ => .pure ?_
      rw [wr_id (by omega)]
      exact ⟨⟨by omega, by omega⟩, by omega⟩
    rintro _ rfl
    simp only [Sum.elim_inr]
    unfold L.law25_PathsParts.J3
    dsimp only
    -- what both have in common
    have found : ∀ (i : Nat) (u : Path) (r : Int), x[i]? = some u → rs[i]? = some r → Ok (L.paths_Find (sel x rs) u) fun m => (m = -1 ∧ r = 0) ∨ ∃ k : Nat, m = (k : Int) ∧ (sel x rs)[k]? = some (rated u r) ∧ 0 < r := by
      intro i u r hu hr
      refine find_path.mono ?_
      rintro m (⟨rfl, hno⟩ | ⟨k, y, rfl, hy, ha⟩)
      · refine .inl ⟨rfl, ?_⟩
        have := hrs i u r hu hr
        by_cases hr0 : 0 < r
        · exact absurd ⟨rfl, rfl, rfl⟩ (hno _ (sel_mem hu hr hr0))
        · omega
      · obtain ⟨i', u', r', b1, b2, b3, rfl⟩ := mem_sel (List.mem_of_getElem? hy)
        have := uniq i' i u' u b1 hu ha
        subst this
        rw [b1] at hu; simp at hu; subst hu
        rw [b2] at hr; simp at hr; subst hr
        exact .inr ⟨k, rfl, hy, b3⟩
    refine .bind (Q := fun c => c = sel x rs) ?_ ?_
    · unfold L.paths_Common
      refine .bind (.forS (fun j st => st = sel (x.take j) (rs.take j)) (by simp [sel]) ?_ fun st h => h) ?_
      · rintro j u _ hx rfl
        have hjl := (List.getElem?_eq_some_iff.1 hx).1
        have hr : rs[j]? = some (rs[j]'(by omega)) := List.getElem?_eq_getElem _
        generalize rs[j]'(by omega) = r at hr
        have hus := (hd.paths u (List.mem_of_getElem? hx)).small
        have hrr := hrs j u r hx hr
        have hsl := sel_len (x.take j) (rs.take j)
        rw [List.length_take] at hsl
        have hsel : sel (x.take (j + 1)) (rs.take (j + 1)) = sel (x.take j) (rs.take j) ++ if 0 < r then [rated u r] else [] := by
          rw [List.take_add_one, List.take_add_one, hx, hr, Option.toList_some, Option.toList_some, sel_append (by rw [List.length_take, List.length_take]; omega)]
        unfold L.paths_Common.B2
        refine .bind (found j u r hx hr) ?_
        rintro m (⟨rfl, rfl⟩ | ⟨k, rfl, hk, hr0⟩)
        · refine Ok.iteD (fun h => by omega) fun _ => ?_
          unfold L.paths_Common.J3
          exact .pure (by rw [hsel]; simp)
        · refine Ok.iteD (fun _ => .bind' (.eq (ix_nat hk) ?_)) fun h => by omega
          have hmin : min u.Rate (rated u r).Rate = r := by show min u.Rate r = r; omega
          dsimp only
          rw [hmin, with_ok (by omega)]
          refine .bind' (.pure (.bind' (.app (by simp; omega) ?_)))
          unfold L.paths_Common.J3
          exact .pure (by rw [hsel, if_pos hr0]; rfl)
      · rintro _ rfl
        unfold L.paths_Common.J1
        exact .pure (by rw [List.take_length, ← hrl, List.take_length])
    rintro _ rfl
    refine .bind (Q := fun c : List Path × Bool => c = (sel x (left x rs), true)) ?_ ?_
    · unfold L.paths_Less
      refine .bind' (.forL (fun _ _ => True) (fun _ => False) trivial ?_ ?_ fun _ h => h.elim)
      · intro j y _ hy _
        obtain ⟨i, u, r, b1, b2, b3, rfl⟩ := mem_sel (List.mem_of_getElem? hy)
        have hrr := hrs i u r b1 b2
        unfold L.paths_Less.B6
        refine .bind find_path ?_
        rintro m (⟨rfl, hno⟩ | ⟨k, v, rfl, hv, ha⟩)
        · exact absurd ⟨rfl, rfl, rfl⟩ (hno u (List.mem_of_getElem? b1))
        · have := uniq k i v u hv b1 ha
          subst this
          rw [b1] at hv; simp at hv; subst hv
          refine Ok.iteD (fun h => by omega) fun _ => .bind' (.eq (ix_nat b1) ?_)
          unfold L.paths_Less.J7
          exact Ok.iteD (fun h => by dsimp only [rated] at h; omega) fun _ => .pure trivial
      · intro _ _
        simp only [Sum.elim_inl]
        unfold L.paths_Less.J1
        refine .bind (.forS (fun j st => st = sel (x.take j) ((left x rs).take j)) (by simp [sel]) ?_ fun st h => h) ?_
        · rintro j u _ hx rfl
          have hjl := (List.getElem?_eq_some_iff.1 hx).1
          have hr : rs[j]? = some (rs[j]'(by omega)) := List.getElem?_eq_getElem _
          generalize rs[j]'(by omega) = r at hr
          have hus := (hd.paths u (List.mem_of_getElem? hx)).small
          have hrr := hrs j u r hx hr
          have hsl := sel_len (x.take j) ((left x rs).take j)
          rw [List.length_take] at hsl
          have hll : (left x rs).length = x.length := by unfold left; simp [hrl]
          have hsel : sel (x.take (j + 1)) ((left x rs).take (j + 1)) = sel (x.take j) ((left x rs).take j) ++ if 0 < u.Rate - r then [rated u (u.Rate - r)] else [] := by
            rw [List.take_add_one, List.take_add_one, hx, left_at hx hr, Option.toList_some, Option.toList_some, sel_append (by rw [List.length_take, List.length_take]; omega)]
          have j5 : Ok (L.paths_Less.J5 u (sel (x.take j) ((left x rs).take j)) (u.Rate - r)) fun st => st = sel (x.take (j + 1)) ((left x rs).take (j + 1)) := by
            unfold L.paths_Less.J5 L.paths_Less.J4
            refine Ok.iteU (fun h => ?_) fun h => .pure (by rw [hsel, if_neg (by omega)]; simp)
            rw [with_ok (by omega)]
            refine .bind' (.pure (.bind' (.app (by simp; omega) (.pure ?_))))
            rw [hsel, if_pos (by omega)]; rfl
          unfold L.paths_Less.B3
          refine .bind (found j u r hx hr) ?_
          rintro m (⟨rfl, rfl⟩ | ⟨k, rfl, hk, hr0⟩)
          · refine Ok.iteD (fun h => by omega) fun _ => ?_
            rw [show u.Rate - 0 = u.Rate by omega] at j5
            exact j5
          · refine Ok.iteD (fun _ => .bind' (.eq (ix_nat hk) ?_)) fun h => by omega
            have : wr (u.Rate - (rated u r).Rate) = u.Rate - r := wr_id (by show _ ≤ u.Rate - r ∧ u.Rate - r ≤ _; omega)
            dsimp only
            rw [this]; exact j5
        · rintro _ rfl
          unfold L.paths_Less.J2
          have hll : (left x rs).length = x.length := by unfold left; simp [hrl]
          exact .pure (by rw [List.take_length, ← hll, List.take_length])
    rintro _ rfl
    refine .bind' (.app (by dsimp only; omega) ?_)
    dsimp only
    have hall : ∀ y, y ∈ sel x (left x rs) ++ sel x rs → PathOk n p y := fun y hy => by
      rcases List.mem_append.1 hy with hy | hy
      · exact hrest y hy
      · exact hpart y hy
    have whole : ∀ k, segSum k (sel x (left x rs) ++ sel x rs) = segSum k x := fun k => by rw [segSum_append]; exact hsum k
    have pwhole : ∀ k, portSum k (sel x (left x rs) ++ sel x rs) = portSum k x := fun k => by rw [portSum_append]; exact hpsum k
    refine .bind (sum_ok hn hp hres hall (by simp; omega) (fun k r hr => by rw [whole]; exact hd.all.1 k r hr) (fun k r hr => by rw [pwhole]; exact hd.all.2 k r hr) h6) ?_
    rintro ⟨z, _⟩ ⟨rfl, hz, hzm, hz1, hz2⟩
    dsimp only at hz hzm hz1 hz2
    unfold L.law25_PathsParts.J4 L.law25_PathsParts.J5
    refine Ok.iteB (fun _ => ?_) fun h => by cases h
    rw [same_ok (fun y hy => by have := (hpart y hy).small; omega) (by omega)]
    refine .bind' (.pure (Ok.iteB (fun _ => Ok.iteE (fun _ => ?_) fun h => absurd rfl h) fun h => by cases h))
    have heq : z = p := plan_ext hz hp hzm.symm (fun k r hr => by rw [hz1 k r hr, whole]) (fun k r hr => by rw [hz2 k r hr, pwhole]) hd.sumR hd.sumP
    dsimp only
    have hz3 := hz.rl; have hz4 := hz.pl; have hz5 := hz.ml
    rw [samePlan_ok (by dsimp only; omega) (by dsimp only; omega) (by dsimp only; omega) (show (⟨z.Rates, z.Ports, z.Pumps⟩ : Plan) = p from heq)]
    exact .bind' (.pure (Ok.iteB (fun _ => wake25) fun h => by cases h))
  obtain ⟨r, h, rfl⟩ := this
  exact h

end Go.Proofs.Ytndfiddakngjdaa
