/- The rise of a change of plans. No condition. -/
import Derived.Test.YtndfiddakngjdaaP11
namespace Go.Proofs.Ytndfiddakngjdaa
set_option linter.unusedVariables false
set_option linter.unusedSimpArgs false
open Go.Aw

def wave (n : Network) (i : Nat) : Int := match n.Segments[i]? with | some s => s.Wave | none => 0
def rt (a : Plan) (i : Nat) : Int := a.Rates.getD i 0
def wv (n : Network) (a b : Plan) (i : Nat) : Int := wave n i * max (rt b i - rt a i) (rt a i - rt b i)

def sumw (f : Nat → Int) : List Int → Int
  | [] => 0
  | x :: l => f x.toNat + sumw f l
theorem sumw_append (f : Nat → Int) : ∀ l m : List Int, sumw f (l ++ m) = sumw f l + sumw f m
  | [], m => by simp [sumw]
  | x :: l, m => by simp only [List.cons_append, sumw, sumw_append f l m]; omega
theorem sumw_take (f : Nat → Int) {l : List Int} {k : Nat} {x : Int} (h : l[k]? = some x) : sumw f (l.take (k + 1)) = sumw f (l.take k) + f x.toNat := by
  rw [List.take_add_one, h, sumw_append]; simp [sumw]
theorem sumw_congr {f g : Nat → Int} : ∀ {l : List Int}, (∀ x, x ∈ l → f x.toNat = g x.toNat) → sumw f l = sumw g l
  | [], _ => rfl
  | x :: l, h => by simp only [sumw]; rw [h x (by simp), sumw_congr fun y hy => h y (by simp [hy])]
theorem sumw_le {f g h : Nat → Int} : ∀ {l : List Int}, (∀ x, x ∈ l → f x.toNat ≤ g x.toNat + h x.toNat) → sumw f l ≤ sumw g l + sumw h l
  | [], _ => by simp [sumw]
  | x :: l, hh => by
    have := hh x (by simp)
    have := sumw_le (l := l) fun y hy => hh y (by simp [hy])
    simp only [sumw]; omega
theorem sumw_bnd {f : Nat → Int} {b : Int} : ∀ {l : List Int}, (∀ x, x ∈ l → 0 ≤ f x.toNat ∧ f x.toNat ≤ b) → 0 ≤ sumw f l ∧ sumw f l ≤ b * l.length
  | [], _ => by simp [sumw]
  | x :: l, h => by
    have := h x (by simp)
    have := sumw_bnd (l := l) (b := b) fun y hy => h y (by simp [hy])
    simp only [sumw, List.length_cons]
    have e : b * ((l.length + 1 : Nat) : Int) = b * l.length + b := by rw [show ((l.length + 1 : Nat) : Int) = (l.length : Int) + 1 by omega, Int.mul_add, Int.mul_one]
    rw [e]; omega

theorem grp_len {n : Network} {a b : Plan} {ρ : Nat → Nat} {k r : Nat} : (grp n a b ρ k r).length ≤ k := by
  unfold grp
  rw [List.length_map]
  exact Nat.le_trans (List.length_filter_le _ _) (by simp)

/-- What the rise needs of a network and its plans. -/
structure RiseIn (n : Network) (a b : Plan) : Prop where
  net : Ends n
  al : a.Rates.length = n.Segments.length
  bl : b.Rates.length = n.Segments.length
  wave : ∀ (k : Nat) (s : Segment), n.Segments[k]? = some s → 0 ≤ s.Wave ∧ s.Wave ≤ 100000
  ar : ∀ (k : Nat) (r : Int), a.Rates[k]? = some r → -1000 ≤ r ∧ r ≤ 1000
  br : ∀ (k : Nat) (r : Int), b.Rates[k]? = some r → -1000 ≤ r ∧ r ≤ 1000

/-- What the rise of a change is. -/
structure RiseIs (n : Network) (a b : Plan) (st : List Int) (ρ : Nat → Nat) : Prop where
  len : st.length = n.Segments.length
  conn : ∀ x y, ρ x = ρ y ↔ Conn (Rk n a b n.Segments.length) x y
  is : ∀ (i : Nat) (v : Int), st[i]? = some v → v = if Fl a b i = true then sumw (wv n a b) (grp n a b ρ n.Segments.length (ρ (fr n i))) else 0

def RMark (n : Network) (a b : Plan) (ρ : Nat → Nat) (heads : List Nat) (g i : Nat) (v : Int) : Prop :=
  (v = 0 ∧ ∀ (j r : Nat), j < g → heads[j]? = some r → ¬ (Fl a b i = true ∧ ρ (fr n i) = r)) ∨ ∃ (j r : Nat), j < g ∧ heads[j]? = some r ∧ (Fl a b i = true ∧ ρ (fr n i) = r) ∧ v = sumw (wv n a b) (grp n a b ρ n.Segments.length r)

theorem wv_bnd {n : Network} {a b : Plan} (h : RiseIn n a b) {i : Nat} (hi : i < n.Segments.length) : 0 ≤ wv n a b i ∧ wv n a b i ≤ 200000000 := by
  have hs : n.Segments[i]? = some n.Segments[i] := List.getElem?_eq_getElem hi
  have ha : a.Rates[i]? = some (a.Rates[i]'(by rw [h.al]; exact hi)) := List.getElem?_eq_getElem _
  have hb : b.Rates[i]? = some (b.Rates[i]'(by rw [h.bl]; exact hi)) := List.getElem?_eq_getElem _
  have h1 := h.wave i _ hs; have h2 := h.ar i _ ha; have h3 := h.br i _ hb
  unfold wv wave rt
  rw [hs, List.getD_eq_getElem?_getD, List.getD_eq_getElem?_getD, ha, hb]
  dsimp only [Option.getD_some]
  have hm : 0 ≤ max ((b.Rates[i]'(by rw [h.bl]; exact hi)) - (a.Rates[i]'(by rw [h.al]; exact hi))) ((a.Rates[i]'(by rw [h.al]; exact hi)) - (b.Rates[i]'(by rw [h.bl]; exact hi))) ∧ max ((b.Rates[i]'(by rw [h.bl]; exact hi)) - (a.Rates[i]'(by rw [h.al]; exact hi))) ((a.Rates[i]'(by rw [h.al]; exact hi)) - (b.Rates[i]'(by rw [h.bl]; exact hi))) ≤ 2000 := by omega
  refine ⟨Int.mul_nonneg h1.1 hm.1, ?_⟩
  have := Int.mul_le_mul h1.2 hm.2 hm.1 (by omega : (0 : Int) ≤ 100000)
  omega

theorem wv_at {n : Network} {a b : Plan} (h : RiseIn n a b) {i : Nat} {s : Segment} {x y : Int} (hs : n.Segments[i]? = some s) (ha : a.Rates[i]? = some x) (hb : b.Rates[i]? = some y) : wv n a b i = s.Wave * max (y - x) (x - y) := by
  unfold wv wave rt
  rw [hs, List.getD_eq_getElem?_getD, List.getD_eq_getElem?_getD, ha, hb]
  rfl

theorem rise_ok {n : Network} {a b : Plan} (h : RiseIn n a b) : Ok (L.surge_rise n a b) fun st => ∃ ρ, RiseIs n a b st ρ := by
  have hl := h.net.len; have hal := h.al; have hbl := h.bl
  unfold L.surge_rise
  refine .bind' (.mk n.Segments.length rfl (by omega) ?_)
  refine .bind (groups_ok h.net h.al h.bl) ?_
  rintro out ⟨ρ, heads, hg⟩
  refine .bind (.forS (fun g (st : List Int) => st.length = n.Segments.length ∧ ∀ (i : Nat) (v : Int), st[i]? = some v → RMark n a b ρ heads g i v) ⟨by simp, fun i v hv => ?_⟩ ?_ fun st h => h) ?_
  · rw [List.getElem?_replicate] at hv
    split at hv
    · simp at hv; exact .inl ⟨hv.symm, fun j r hj => absurd hj (Nat.not_lt_zero _)⟩
    · cases hv
  · rintro g l st hgo ⟨i1, i2⟩
    rw [hg.out, List.getElem?_map] at hgo
    obtain ⟨r, hr, rfl⟩ := Option.map_eq_some_iff.1 hgo
    unfold L.surge_rise.B2
    have hbnd : ∀ x, x ∈ grp n a b ρ n.Segments.length r → 0 ≤ wv n a b x.toNat ∧ wv n a b x.toNat ≤ 200000000 := fun x hx => by
      obtain ⟨i, rfl, hi, _⟩ := mem_grp.1 hx
      exact wv_bnd h hi
    refine .bind (Q := fun s => s = sumw (wv n a b) (grp n a b ρ n.Segments.length r)) ?_ ?_
    · refine .forS (fun k s => s = sumw (wv n a b) ((grp n a b ρ n.Segments.length r).take k)) (by simp [sumw]) ?_ fun s hs => by rw [hs, List.take_of_length_le (Nat.le_refl _)]
      rintro k x _ hx rfl
      have hm := List.mem_of_getElem? hx
      have hkl := (List.getElem?_eq_some_iff.1 hx).1
      have hgl := grp_len (n := n) (a := a) (b := b) (ρ := ρ) (k := n.Segments.length) (r := r)
      obtain ⟨i, rfl, hi, _⟩ := mem_grp.1 hm
      have hs : n.Segments[i]? = some n.Segments[i] := List.getElem?_eq_getElem hi
      have ha : a.Rates[i]? = some (a.Rates[i]'(by omega)) := List.getElem?_eq_getElem _
      have hb : b.Rates[i]? = some (b.Rates[i]'(by omega)) := List.getElem?_eq_getElem _
      have h2 := h.ar i _ ha; have h3 := h.br i _ hb
      have hw := wv_at h hs ha hb
      have hwb := wv_bnd h hi
      have hsb := sumw_bnd (f := wv n a b) (b := 200000000) (l := (grp n a b ρ n.Segments.length r).take k) fun x hx => hbnd x (List.mem_of_mem_take hx)
      rw [List.length_take] at hsb
      unfold L.surge_rise.B6
      refine .bind' (.eq (ix_nat hb) (.bind' (.eq (ix_nat ha) (.bind' (.eq (ix_nat hs) (.pure ?_))))))
      rw [sumw_take _ hx]
      dsimp only
      generalize hA : a.Rates[i]'(by omega) = x at *
      generalize hB : b.Rates[i]'(by omega) = y at *
      have e : max (wr (y - x)) (wr (0 - wr (y - x))) = max (y - x) (x - y) := by
        rw [wr_id (x := y - x) (by omega), wr_id (by omega)]; omega
      rw [e, ← hw, wr_id (x := wv n a b i) (by omega), wr_id (by omega)]; rfl
    rintro _ rfl
    unfold L.surge_rise.J4
    refine .bind (Q := fun st : List Int => st.length = n.Segments.length ∧ ∀ (i : Nat) (v : Int), st[i]? = some v → RMark n a b ρ heads (g + 1) i v) ?_ fun st hst => by unfold L.surge_rise.J3; exact .pure hst
    refine .forS (fun t (st : List Int) => st.length = n.Segments.length ∧ ∀ (i : Nat) (v : Int), st[i]? = some v → ((i : Int) ∈ (grp n a b ρ n.Segments.length r).take t → v = sumw (wv n a b) (grp n a b ρ n.Segments.length r)) ∧ ((i : Int) ∉ (grp n a b ρ n.Segments.length r).take t → RMark n a b ρ heads g i v)) ⟨i1, fun i v hv => ⟨by simp, fun _ => i2 i v hv⟩⟩ ?_ ?_
    · rintro t x st hx ⟨j1, j2⟩
      obtain ⟨i, rfl, hi, hfi, hri⟩ := mem_grp.1 (List.mem_of_getElem? hx)
      have hil : i < st.length := by omega
      unfold L.surge_rise.B5
      refine .bind' (.ix i rfl hil (.pure ⟨by simp [j1], fun i' v hv' => ?_⟩))
      dsimp only at hv'
      rw [get_set] at hv'
      rw [List.take_add_one, hx]
      split at hv'
      · rename_i h
        obtain ⟨rfl, _⟩ := h
        simp at hv'
        exact ⟨fun _ => hv'.symm, fun h => by simp at h⟩
      · rename_i h
        have hne : i ≠ i' := fun he => h ⟨he, by rw [← he]; exact hil⟩
        have := j2 i' v hv'
        refine ⟨fun h => this.1 ?_, fun h => this.2 fun h' => h (List.mem_append_left _ h')⟩
        rcases List.mem_append.1 h with h | h
        · exact h
        · simp at h; omega
    · rintro st ⟨j1, j2⟩
      refine ⟨j1, fun i v hv => ?_⟩
      have := j2 i v hv
      rw [List.take_of_length_le (Nat.le_refl _)] at this
      by_cases hin : (i : Int) ∈ grp n a b ρ n.Segments.length r
      · obtain ⟨i', hii, _, h1, h2⟩ := mem_grp.1 hin
        have : i' = i := by omega
        subst this
        exact .inr ⟨g, r, by omega, hr, ⟨h1, h2⟩, (this.1 hin)⟩
      · rcases this.2 hin with ⟨h1, h2⟩ | ⟨j, r', h1, h2⟩
        · refine .inl ⟨h1, fun j r' hj hr' hh => ?_⟩
          by_cases hjg : j = g
          · subst hjg
            rw [hr] at hr'; simp at hr'; subst hr'
            exact hin (mem_grp.2 ⟨i, rfl, by have := (List.getElem?_eq_some_iff.1 hv).1; omega, hh⟩)
          · exact h2 j r' (by omega) hr' hh
        · exact .inr ⟨j, r', by omega, h2⟩
  · rintro st ⟨i1, i2⟩
    unfold L.surge_rise.J1
    have hol : out.length = heads.length := by rw [hg.out]; simp
    rw [hol] at i2
    refine .pure ⟨ρ, i1, hg.conn, fun i v hv => ?_⟩
    have hil := (List.getElem?_eq_some_iff.1 hv).1
    rcases i2 i v hv with ⟨rfl, h⟩ | ⟨j, r, h1, h2, ⟨h3, h4⟩, rfl⟩
    · rw [if_neg]
      intro hf
      obtain ⟨j, hj⟩ := List.getElem?_of_mem ((hg.mem (ρ (fr n i))).2 ⟨i, by omega, hf, rfl⟩)
      exact absurd ⟨hf, rfl⟩ (h j _ (List.getElem?_eq_some_iff.1 hj).1 hj)
    · rw [if_pos h3, h4]

theorem riseInF {n : Network} (hn : NetOk n) {a b : Plan} (ha : FlowOk n a) (hb : FlowOk n b) : RiseIn n a b := by
  have hr : ∀ {p : Plan}, FlowOk n p → ∀ (k : Nat) (r : Int), p.Rates[k]? = some r → -1000 ≤ r ∧ r ≤ 1000 := fun {p} hp k r hk => by
    have hkl := (List.getElem?_eq_some_iff.1 hk).1
    have hs : n.Segments[k]? = some (n.Segments[k]'(by rw [← hp.rl]; exact hkl)) := List.getElem?_eq_getElem _
    have := hp.rng k r _ hk hs
    omega
  exact ⟨hn.ends, ha.rl, hb.rl, fun k s hs => (hn.segs k s hs).wave, hr ha, hr hb⟩

theorem riseIn {n : Network} (hn : NetOk n) {a b : Plan} (ha : PlanOk n a) (hb : PlanOk n b) : RiseIn n a b := riseInF hn ha.flow hb.flow

theorem riseCallF {n : Network} (hn : NetOk n) {a b : Plan} (ha : FlowOk n a) (hb : FlowOk n b) : Ok (L.surge_Rise n a b) fun r => r.2 = 0 ∧ ∃ ρ, RiseIs n a b r.1 ρ := by
  unfold L.surge_Rise L.surge_check
  rw [flowCheckF hn ha, flowCheckF hn hb]
  refine .bind (Q := fun r => r = 0) (.bind' (.pure (Ok.iteU (fun h => absurd rfl h) fun _ => .bind' (.pure (.pure rfl))))) ?_
  rintro _ rfl
  exact Ok.iteU (fun h => absurd rfl h) fun _ => .bind (rise_ok (riseInF hn ha hb)) fun r hr => .pure ⟨rfl, hr⟩

theorem riseCall {n : Network} (hn : NetOk n) {a b : Plan} (ha : PlanOk n a) (hb : PlanOk n b) : Ok (L.surge_Rise n a b) fun r => r.2 = 0 ∧ ∃ ρ, RiseIs n a b r.1 ρ := riseCallF hn ha.flow hb.flow

/-- Groups of changes in which the same segments flow are the same. -/
theorem grp_same {n : Network} {a b a' b' : Plan} {ρ ρ' : Nat → Nat} (hf : ∀ i, i < n.Segments.length → Fl a b i = Fl a' b' i) (h : ∀ x y, ρ x = ρ y ↔ Conn (Rk n a b n.Segments.length) x y)
    (h' : ∀ x y, ρ' x = ρ' y ↔ Conn (Rk n a' b' n.Segments.length) x y) (i : Nat) : grp n a b ρ n.Segments.length (ρ (fr n i)) = grp n a' b' ρ' n.Segments.length (ρ' (fr n i)) := by
  have hR : ∀ x y, ρ x = ρ y ↔ ρ' x = ρ' y := fun x y => (h x y).trans (Iff.trans ⟨fun c => c.mono fun _ _ ⟨i, h1, h2, h3⟩ => .edge ⟨i, h1, by rw [← hf i h1]; exact h2, h3⟩, fun c => c.mono fun _ _ ⟨i, h1, h2, h3⟩ => .edge ⟨i, h1, by rw [hf i h1]; exact h2, h3⟩⟩ (h' x y).symm)
  unfold grp
  congr 1
  refine List.filter_congr fun j hj => ?_
  rw [hf j (by simpa using hj)]
  congr 1
  have := hR (fr n j) (fr n i)
  by_cases hh : ρ (fr n j) = ρ (fr n i)
  · rw [hh, this.1 hh]; simp
  · have h1 : Nat.beq (ρ (fr n j)) (ρ (fr n i)) = false := by rw [Bool.eq_false_iff]; exact fun h => hh (Nat.eq_of_beq_eq_true h)
    have h2 : Nat.beq (ρ' (fr n j)) (ρ' (fr n i)) = false := by rw [Bool.eq_false_iff]; exact fun h => hh (this.2 (Nat.eq_of_beq_eq_true h))
    rw [h1, h2]

theorem Fl_comm (a b : Plan) (i : Nat) : Fl a b i = Fl b a i := by unfold Fl; rw [Bool.or_comm]
theorem wv_comm (n : Network) (a b : Plan) (i : Nat) : wv n a b i = wv n b a i := by unfold wv; rw [Int.max_comm]
theorem wv_self (n : Network) (a : Plan) (i : Nat) : wv n a a i = 0 := by unfold wv; simp

theorem ints_ok {a b : List Int} : L.keep_Ints a b = some (a == b) := by
  have : Ok (L.keep_Ints a b) fun r => r = (a == b) := by
    unfold L.keep_Ints
    refine Ok.iteU (fun h => .pure ?_) fun h => ?_
    · symm; rw [beq_eq_false_iff_ne]; rintro rfl; exact h rfl
    have hl : a.length = b.length := by omega
    refine .bind' (.forL (fun k _ => ∀ j : Nat, j < k → a[j]? = b[j]?) (fun r => r = false ∧ a ≠ b) (fun j h => absurd h (Nat.not_lt_zero _)) ?_ ?_ ?_)
    · intro k x _ hx hi
      have hkl := (List.getElem?_eq_some_iff.1 hx).1
      have hb : b[k]? = some b[k] := List.getElem?_eq_getElem (by omega)
      unfold L.keep_Ints.B2
      refine .bind' (.eq (ix_nat hb) (Ok.iteU (fun h => .pure ⟨rfl, ?_⟩) fun h => .pure fun j hj => ?_))
      · rintro rfl; rw [hx] at hb; simp at hb; exact h hb
      · by_cases hjk : j = k
        · subst hjk; rw [hx, hb, h]
        · exact hi j (by omega)
    · intro _ hi
      simp only [Sum.elim_inl]
      unfold L.keep_Ints.J1
      refine .pure ?_
      symm; rw [beq_iff_eq]
      refine List.ext_getElem? fun j => ?_
      by_cases hj : j < a.length
      · exact hi j hj
      · rw [List.getElem?_eq_none (by omega), List.getElem?_eq_none (by omega)]
    · rintro _ ⟨rfl, h⟩
      exact .pure (by symm; rw [beq_eq_false_iff_ne]; exact h)
  obtain ⟨r, h, rfl⟩ := this
  exact h

theorem surgeTurns (l : List Int) : L.law22_SurgeTurns l = some true := by
  have : Ok (L.law22_SurgeTurns l) fun r => r = true := by
    unfold L.law22_SurgeTurns
    refine .bind (new_ok l) fun s hs => .bind (net_ok hs) ?_
    rintro ⟨n, s1⟩ ⟨hn, hs⟩
    refine .bind (plan_ok hn hs) ?_
    rintro ⟨a, s2⟩ ⟨ha, hs⟩
    refine .bind (plan_ok hn hs) ?_
    rintro ⟨b, s3⟩ ⟨hb, hs⟩
    dsimp only at hn ha hb
    clear hs
    have hsl := hn.segs1
    have hra := ha.rl; have hrb := hb.rl
    have hin := riseIn hn ha hb
    unfold L.law22_SurgeTurns.J1
    refine .bind (riseCall hn ha hb) ?_
    rintro ⟨x, _⟩ ⟨rfl, ρx, hx⟩
    refine .bind (riseCall hn hb ha) ?_
    rintro ⟨y, _⟩ ⟨rfl, ρy, hy⟩
    refine .bind (riseCall hn ha ha) ?_
    rintro ⟨z, _⟩ ⟨rfl, ρz, hz⟩
    replace hx : RiseIs n a b x ρx := hx
    replace hy : RiseIs n b a y ρy := hy
    replace hz : RiseIs n a a z ρz := hz
    have hxl := hx.len; have hyl := hy.len; have hzl := hz.len
    refine Ok.iteU (fun h => absurd rfl h) fun _ => Ok.iteU (fun h => absurd rfl h) fun _ => Ok.iteU (fun h => absurd rfl h) fun _ => ?_
    refine Ok.iteU (fun h => absurd (by dsimp only; omega) h) fun _ => Ok.iteU (fun h => absurd (by dsimp only; omega) h) fun _ => .bind' (.eq ints_ok ?_)
    have hxy : x = y := by
      refine List.ext_getElem (by omega) fun i h1 h2 => ?_
      have e1 := hx.is i x[i] (List.getElem?_eq_getElem h1)
      have e2 := hy.is i y[i] (List.getElem?_eq_getElem h2)
      rw [e1, e2, Fl_comm a b i]
      split
      · rw [grp_same (fun i _ => Fl_comm a b i) hx.conn hy.conn i]
        exact sumw_congr fun x _ => wv_comm n a b x.toNat
      · rfl
    dsimp only
    rw [show (x == y) = true by simpa using hxy]
    unfold L.law22_SurgeTurns.J2
    refine Ok.iteB (fun h => by cases h) fun _ => .bind (groupsCall hn ha hb) ?_
    rintro ⟨out, _⟩ ⟨rfl, ρ, heads, hg⟩
    replace hg : Groups n a b out ρ heads := hg
    refine .bind' (.forL (fun _ _ => True) (fun _ => False) trivial ?_ ?_ fun _ h => h.elim)
    · rintro g l _ hgo _
      dsimp only at hgo
      rw [hg.out, List.getElem?_map] at hgo
      obtain ⟨r, hr, rfl⟩ := Option.map_eq_some_iff.1 hgo
      unfold L.law22_SurgeTurns.B7
      refine .bind (Q := fun s => s = sumw (wv n a b) (grp n a b ρ n.Segments.length r)) ?_ ?_
      · refine .forS (fun k s => s = sumw (wv n a b) ((grp n a b ρ n.Segments.length r).take k)) (by simp [sumw]) ?_ fun s hs => by rw [hs, List.take_of_length_le (Nat.le_refl _)]
        rintro k x _ hx rfl
        have hm := List.mem_of_getElem? hx
        have hkl := (List.getElem?_eq_some_iff.1 hx).1
        have hgl := grp_len (n := n) (a := a) (b := b) (ρ := ρ) (k := n.Segments.length) (r := r)
        obtain ⟨i, rfl, hi, _⟩ := mem_grp.1 hm
        have hs : n.Segments[i]? = some n.Segments[i] := List.getElem?_eq_getElem hi
        have ha : a.Rates[i]? = some (a.Rates[i]'(by omega)) := List.getElem?_eq_getElem _
        have hb : b.Rates[i]? = some (b.Rates[i]'(by omega)) := List.getElem?_eq_getElem _
        have h2 := hin.ar i _ ha; have h3 := hin.br i _ hb
        have hw := wv_at hin hs ha hb
        have hwb := wv_bnd hin hi
        have hsb := sumw_bnd (f := wv n a b) (b := 200000000) (l := (grp n a b ρ n.Segments.length r).take k) fun x hx => by
          obtain ⟨i, rfl, hi, _⟩ := mem_grp.1 (List.mem_of_mem_take hx)
          exact wv_bnd hin hi
        rw [List.length_take] at hsb
        unfold L.law22_SurgeTurns.B11
        refine .bind' (.eq (ix_nat hs) (.bind' (.eq (ix_nat ha) (.bind' (.eq (ix_nat hb) (.pure ?_))))))
        rw [sumw_take _ hx]
        dsimp only
        generalize hA : a.Rates[i]'(by omega) = x at *
        generalize hB : b.Rates[i]'(by omega) = y at *
        have e : L.ref16_Abs (wr (x - y)) = max (y - x) (x - y) := by
          unfold L.ref16_Abs
          rw [wr_id (x := x - y) (by omega), wr_id (by omega)]; omega
        rw [e, ← hw, wr_id (x := wv n a b i) (by omega), wr_id (by omega)]; rfl
      rintro _ rfl
      unfold L.law22_SurgeTurns.J9
      refine .bind' (.forL (fun _ _ => True) (fun _ => False) trivial ?_ ?_ fun _ h => h.elim)
      · intro t v _ hv _
        obtain ⟨i, rfl, hi, hfi, hri⟩ := mem_grp.1 (List.mem_of_getElem? hv)
        have hxi : x[i]? = some x[i] := List.getElem?_eq_getElem (by omega)
        have e1 := hx.is i _ hxi
        rw [if_pos hfi, grp_same (fun _ _ => rfl) hx.conn hg.conn i, hri] at e1
        unfold L.law22_SurgeTurns.B10
        exact .bind' (.eq (ix_nat hxi) (Ok.iteU (fun h => absurd e1 h) fun _ => .pure trivial))
      · intro _ _
        exact .pure trivial
    · intro _ _
      simp only [Sum.elim_inl]
      unfold L.law22_SurgeTurns.J3
      refine .bind' (.forI (fun _ _ => True) (fun _ => False) trivial ?_ ?_ fun _ h => h.elim)
      · intro i _ hi _
        have hzi : z[i]? = some z[i] := List.getElem?_eq_getElem hi
        have e1 := hz.is i _ hzi
        have e2 : z[i] = 0 := by
          rw [e1]
          split
          · rw [sumw_congr (g := fun _ => 0) fun x _ => wv_self n a x.toNat]
            have : ∀ l : List Int, sumw (fun _ => 0) l = 0 := fun l => by induction l with | nil => rfl | cons x l ih => simp [sumw, ih]
            exact this _
          · rfl
        unfold L.law22_SurgeTurns.B6
        exact .bind' (.eq (ix_nat hzi) (Ok.iteU (fun h => absurd e2 h) fun _ => .pure trivial))
      · intro _ _
        simp only [Sum.elim_inl]
        unfold L.law22_SurgeTurns.J4
        refine Ok.iteE (fun _ => ?_) fun h => absurd rfl h
        rw [awake22]
        exact .bind' (.pure (.pure rfl))
  obtain ⟨r, h, rfl⟩ := this
  exact h

end Go.Proofs.Ytndfiddakngjdaa
