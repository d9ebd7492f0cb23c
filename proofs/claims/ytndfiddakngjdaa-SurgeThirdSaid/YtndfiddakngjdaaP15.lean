/- The law of the third plan, for the pure functions. No condition. -/
import Derived.Test.YtndfiddakngjdaaP12
import Derived.Test.YtndfiddakngjdaaP14
import Derived.Test.YtndfiddakngjdaaDt
namespace Go.Proofs.Ytndfiddakngjdaa
set_option linter.unusedVariables false
set_option linter.unusedSimpArgs false
open Go.Aw

theorem zip_ok {l m : List Int} {f : Nat → Int → List Int → Option (List Int)} (hf : ∀ k x st, f k x st = (ix m (k : Int)).bind fun p => (app? st [wr (x + p.2)]).bind fun y => some y) (hl : l.length = m.length) (h1 : l.length ≤ 1000)
    (hr : ∀ (k : Nat) (x : Int), l[k]? = some x → -1000000 ≤ x ∧ x ≤ 1000000) (hs : ∀ (k : Nat) (x : Int), m[k]? = some x → -1000000 ≤ x ∧ x ≤ 1000000) : Ok (forS f 0 l []) fun r => r = List.zipWith (· + ·) l m := by
  refine .forS (fun k st => st = List.zipWith (· + ·) (l.take k) (m.take k)) (by simp) ?_ fun st h => by rw [h, List.take_length, hl, List.take_length]
  rintro k x st hx rfl
  rw [hf]
  have hk := (List.getElem?_eq_some_iff.1 hx).1
  have hm : m[k]? = some m[k] := List.getElem?_eq_getElem (by omega)
  have := hr k x hx
  have := hs k _ hm
  refine .bind' (.eq (ix_nat hm) (.bind' (.app (by simp; omega) (.pure ?_))))
  dsimp only
  rw [List.take_add_one, List.take_add_one, hx, hm, wr_id (by omega), Option.toList_some, Option.toList_some, List.zipWith_append (by simp; omega)]
  rfl

theorem added_ok {n : Network} (hn : NetOk n) {p q : Plan} (hp : PlanOk n p) (hq : PlanOk n q) : Ok (L.keep_Added p q) fun r => r.Rates.length = n.Segments.length ∧ r.Ports.length = n.Ports.length := by
  have h1 := hn.segs1; have h2 := hn.ports1; have h3 := hn.sts1
  have h4 := hp.rl; have h5 := hq.rl; have h6 := hp.pl; have h7 := hq.pl; have h8 := hp.ml
  have hr : ∀ {p : Plan}, PlanOk n p → ∀ (k : Nat) (r : Int), p.Rates[k]? = some r → -1000000 ≤ r ∧ r ≤ 1000000 := fun {p} hp k r hk => by
    have hkl := (List.getElem?_eq_some_iff.1 hk).1
    have hs : n.Segments[k]? = some (n.Segments[k]'(by rw [← hp.rl]; exact hkl)) := List.getElem?_eq_getElem _
    have := hp.rng k r _ hk hs
    omega
  unfold L.keep_Added
  refine .bind' (.app (by simp; omega) (Ok.iteB (fun h => by simp at h; omega) fun _ => ?_))
  refine .bind (zip_ok (m := q.Rates) (fun _ _ _ => rfl) (by omega) (by omega) (hr hp) (hr hq)) ?_
  rintro _ rfl
  unfold L.keep_Added.J1
  refine .bind (zip_ok (m := q.Ports) (fun _ _ _ => rfl) (by omega) (by omega) (fun k x hx => by have := hp.prt k x hx; omega) fun k x hx => by have := hq.prt k x hx; omega) ?_
  rintro _ rfl
  unfold L.keep_Added.J2
  exact .pure ⟨by simp; omega, by simp; omega⟩

theorem Fl_at {a b : Plan} {i : Nat} {x y : Int} (ha : a.Rates[i]? = some x) (hb : b.Rates[i]? = some y) : Fl a b i = (x != 0 || y != 0) := by
  unfold Fl; rw [List.getD_eq_getElem?_getD, List.getD_eq_getElem?_getD, ha, hb]; rfl

theorem surgeThird (l : List Int) : L.law22_SurgeThird l = some true := by
  have : Ok (L.law22_SurgeThird l) fun r => r = true := by
    unfold L.law22_SurgeThird
    refine .bind (new_ok l) fun s hs => .bind (net_ok hs) ?_
    rintro ⟨n, s1⟩ ⟨hn, hs⟩
    refine .bind (plan_ok hn hs) ?_
    rintro ⟨a, s2⟩ ⟨ha, hs⟩
    refine .bind (plan_ok hn hs) ?_
    rintro ⟨b, s3⟩ ⟨hb, hs⟩
    dsimp only at hn ha hb hs
    have hsl := hn.segs1
    have hra := ha.rl; have hrb := hb.rl
    unfold L.law22_SurgeThird.J1
    refine .bind (plan_ok hn hs) ?_
    rintro ⟨q, s4⟩ ⟨hq, _⟩
    dsimp only at hq
    refine .bind (added_ok hn ha hq) ?_
    rintro c ⟨hrc, hpc⟩
    unfold L.law22_SurgeThird.J2
    have wake : Ok (L.law22_awake.bind fun r => some r) fun r => r = true := by rw [awake22]; exact .pure rfl
    have wakeR : ∀ {α : Type} {I : α → Prop}, Ok (L.law22_awake.bind fun r => some ((.inr r : α ⊕ Bool))) (Sum.elim I fun r => r = true) := by rw [awake22]; exact .pure rfl
    dsimp only
    refine .bind' (.forL (fun k _ => ∀ i : Nat, i < k → Fl a b i = Fl a c i ∧ Fl c b i = Fl a c i) (fun r => r = true) (fun i h => absurd h (Nat.not_lt_zero _)) ?_ ?_ fun r hr => .pure hr)
    · intro k x _ hx hi
      have hkl := (List.getElem?_eq_some_iff.1 hx).1
      have hb' : b.Rates[k]? = some b.Rates[k] := List.getElem?_eq_getElem (by omega)
      have hc' : c.Rates[k]? = some c.Rates[k] := List.getElem?_eq_getElem (by omega)
      generalize b.Rates[k] = y at hb'
      generalize c.Rates[k] = z at hc'
      have j7 : ∀ w : Bool, (w = false → Fl a b k = Fl a c k ∧ Fl c b k = Fl a c k) → Ok (L.law22_SurgeThird.J7 w) (Sum.elim (fun _ : Unit => ∀ i : Nat, i < k + 1 → Fl a b i = Fl a c i ∧ Fl c b i = Fl a c i) fun r => r = true) := by
        intro w hw
        unfold L.law22_SurgeThird.J7
        refine Ok.iteB (fun _ => wakeR) fun hwf => .pure fun i hik => ?_
        by_cases h : i = k
        · subst h; exact hw hwf
        · exact hi i (by omega)
      rw [Fl_at hx hb', Fl_at hx hc', Fl_at hc' hb'] at j7
      unfold L.law22_SurgeThird.B6
      dsimp only
      refine Ok.iteU (fun hx0 => Ok.iteB (fun h => absurd h (by decide)) fun _ => .bind' (.eq (ix_nat hb') (Ok.iteU (fun hy0 => j7 _ fun _ => ?_) fun hy0 => .bind' (.eq (ix_nat hc') (j7 _ fun hw => ?_))))) fun hx0 => .bind' (.eq (ix_nat hb') (.bind' (.eq (ix_nat hc') ?_)))
      · dsimp only at hy0
        have e1 : (x != 0) = true := by simpa using hx0
        have e2 : (y != 0) = true := by simpa using hy0
        simp [e1, e2]
      · dsimp only at hy0 hw
        have e1 : (x != 0) = true := by simpa using hx0
        have e2 : (z != 0) = true := by simpa using hw
        simp [e1, e2]
      · dsimp only
        refine Ok.iteB (fun _ => j7 _ fun h => by cases h) fun hyz => Ok.iteU (fun hy0 => j7 _ fun hw => ?_) fun hy0 => j7 _ fun hw => ?_
        · have e1 : (y != 0) = true := by simpa using hy0
          have e2 : (z != 0) = true := by simpa using hw
          simp [hx0, e1, e2]
        · have hz0 : z = 0 := by simpa [hy0] using hyz
          simp [hx0, hy0, hz0]
    intro _ hfl
    simp only [Sum.elim_inl]
    unfold L.law22_SurgeThird.J3
    dsimp only
    refine .bind (check16_ok hn) fun r78 h78 => Ok.iteU (fun _ => wake) fun h0 => ?_
    have hc : FlowOk n c := h78 h0
    refine .bind (riseCallF hn ha.flow hb.flow) ?_
    rintro ⟨x, _⟩ ⟨rfl, ρx, hx⟩
    refine .bind (riseCallF hn ha.flow hc) ?_
    rintro ⟨y, _⟩ ⟨rfl, ρy, hy⟩
    refine .bind (riseCallF hn hc hb.flow) ?_
    rintro ⟨z, _⟩ ⟨rfl, ρz, hz⟩
    replace hx : RiseIs n a b x ρx := hx
    replace hy : RiseIs n a c y ρy := hy
    replace hz : RiseIs n c b z ρz := hz
    have hxl := hx.len; have hyl := hy.len; have hzl := hz.len
    refine Ok.iteB (fun h => by simp [hxl, hyl, hzl] at h) fun _ => ?_
    dsimp only
    refine .bind' (.forI (fun _ _ => True) (fun _ => False) trivial ?_ ?_ fun _ h => h.elim)
    · intro i _ hi _
      have hxi : x[i]? = some x[i] := List.getElem?_eq_getElem hi
      have hyi : y[i]? = some y[i] := List.getElem?_eq_getElem (by omega)
      have hzi : z[i]? = some z[i] := List.getElem?_eq_getElem (by omega)
      have e1 := hx.is i _ hxi
      have e2 := hy.is i _ hyi
      have e3 := hz.is i _ hzi
      obtain ⟨f1, f2⟩ := hfl i (by omega)
      have hff : ∀ i, i < n.Segments.length → Fl a b i = Fl a c i ∧ Fl c b i = Fl a c i := fun i hi => hfl i (by omega)
      rw [grp_same (fun i hi => (hff i hi).1) hx.conn hy.conn i, f1] at e1
      rw [grp_same (fun i hi => (hff i hi).2) hz.conn hy.conn i, f2] at e3
      have key : x[i] ≤ y[i] + z[i] ∧ 0 ≤ y[i] + z[i] ∧ y[i] + z[i] ≤ 100000000000 := by
        rw [e1, e2, e3]
        split
        · have hgl := grp_len (n := n) (a := a) (b := c) (ρ := ρy) (k := n.Segments.length) (r := ρy (fr n i))
          have hm : ∀ t, t ∈ grp n a c ρy n.Segments.length (ρy (fr n i)) → t.toNat < n.Segments.length := fun t ht => by
            obtain ⟨j, rfl, hj, _⟩ := mem_grp.1 ht; exact hj
          have hI1 := riseInF hn ha.flow hc
          have hI2 := riseInF hn hc hb.flow
          have b1 := sumw_bnd (f := wv n a c) (b := 200000000) (l := grp n a c ρy n.Segments.length (ρy (fr n i))) fun t ht => wv_bnd hI1 (hm t ht)
          have b2 := sumw_bnd (f := wv n c b) (b := 200000000) (l := grp n a c ρy n.Segments.length (ρy (fr n i))) fun t ht => wv_bnd hI2 (hm t ht)
          refine ⟨sumw_le fun t ht => ?_, by omega, by omega⟩
          have htl := hm t ht
          have hs : n.Segments[t.toNat]? = some n.Segments[t.toNat] := List.getElem?_eq_getElem htl
          have hw := (hn.segs _ _ hs).wave
          unfold wv
          have hwv : wave n t.toNat = n.Segments[t.toNat].Wave := by unfold wave; rw [hs]
          rw [hwv, ← Int.mul_add]
          exact Int.mul_le_mul_of_nonneg_left (by omega) hw.1
        · omega
      unfold L.law22_SurgeThird.B5
      refine .bind' (.eq (ix_nat hyi) (.bind' (.eq (ix_nat hzi) (.bind' (.eq (ix_nat hxi) ?_)))))
      dsimp only
      rw [wr_id (by omega)]
      exact Ok.iteD (fun h => by omega) fun _ => .pure trivial
    · intro _ _
      simp only [Sum.elim_inl]
      unfold L.law22_SurgeThird.J4
      exact wake
  obtain ⟨r, h, rfl⟩ := this
  exact h

end Go.Proofs.Ytndfiddakngjdaa
