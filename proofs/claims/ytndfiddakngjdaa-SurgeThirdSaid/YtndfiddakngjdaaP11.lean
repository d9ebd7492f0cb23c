/- The law of the groups, for the pure functions. No condition. -/
import Derived.Test.YtndfiddakngjdaaP10
import Derived.KernelRfl
namespace Go.Proofs.Ytndfiddakngjdaa
set_option linter.unusedVariables false
set_option linter.unusedSimpArgs false
open Go.Aw

theorem awake22 : L.law22_awake = some true := by kernel_rfl

theorem groupsCall {n : Network} (hn : NetOk n) {a b : Plan} (ha : PlanOk n a) (hb : PlanOk n b) : Ok (L.surge_Groups n a b) fun r => r.2 = 0 ∧ ∃ ρ heads, Groups n a b r.1 ρ heads := by
  unfold L.surge_Groups L.surge_check
  rw [flowCheck hn ha, flowCheck hn hb]
  refine .bind (Q := fun r => r = 0) (.bind' (.pure (Ok.iteU (fun h => absurd rfl h) fun _ => .bind' (.pure (.pure rfl))))) ?_
  rintro _ rfl
  exact Ok.iteU (fun h => absurd rfl h) fun _ => .bind (groups_ok hn.ends ha.rl hb.rl) fun r hr => .pure ⟨rfl, hr⟩

theorem mem_grp {n : Network} {a b : Plan} {ρ : Nat → Nat} {k r : Nat} {x : Int} : x ∈ grp n a b ρ k r ↔ ∃ i : Nat, x = (i : Int) ∧ i < k ∧ Fl a b i = true ∧ ρ (fr n i) = r := by
  unfold grp
  simp only [List.mem_map, List.mem_filter, List.mem_range, Bool.and_eq_true]
  constructor
  · rintro ⟨i, ⟨h1, h2, h3⟩, rfl⟩
    exact ⟨i, rfl, h1, h2, Nat.eq_of_beq_eq_true h3⟩
  · rintro ⟨i, rfl, h1, h2, rfl⟩
    exact ⟨i, ⟨h1, h2, by simp⟩, rfl⟩

theorem grp_lt (n : Network) (a b : Plan) (ρ : Nat → Nat) (k r : Nat) : (grp n a b ρ k r).Pairwise (· < ·) := by
  unfold grp
  exact List.Pairwise.map _ (fun a b h => by omega) (List.Pairwise.filter _ List.pairwise_lt_range)

theorem notin_take {l : List Int} (h : l.Pairwise (· < ·)) {t : Nat} {x : Int} (hx : l[t]? = some x) : x ∉ l.take t := by
  intro hm
  obtain ⟨j, hj⟩ := List.getElem?_of_mem hm
  have hjl := (List.getElem?_eq_some_iff.1 hj).1
  simp at hjl
  have hjt : j < t := by omega
  rw [List.getElem?_take_of_lt hjt] at hj
  obtain ⟨h1, h2⟩ := List.getElem?_eq_some_iff.1 hj
  obtain ⟨h3, h4⟩ := List.getElem?_eq_some_iff.1 hx
  have := List.pairwise_iff_getElem.1 h j t h1 h3 hjt
  rw [h2, h4] at this
  omega

/-- The mark of a segment, when so many groups were gone through. -/
def Mark (n : Network) (a b : Plan) (ρ : Nat → Nat) (heads : List Nat) (g i : Nat) (v : Int) : Prop :=
  (v = -1 ∧ ∀ (j r : Nat), j < g → heads[j]? = some r → ¬ (Fl a b i = true ∧ ρ (fr n i) = r)) ∨ ∃ (j r : Nat), j < g ∧ heads[j]? = some r ∧ (Fl a b i = true ∧ ρ (fr n i) = r) ∧ v = (j : Int)

theorem surgeGroups (l : List Int) : L.law22_SurgeGroups l = some true := by
  have : Ok (L.law22_SurgeGroups l) fun r => r = true := by
    unfold L.law22_SurgeGroups
    refine .bind (new_ok l) fun s hs => .bind (net_ok hs) ?_
    rintro ⟨n, s1⟩ ⟨hn, hs⟩
    refine .bind (plan_ok hn hs) ?_
    rintro ⟨a, s2⟩ ⟨ha, hs⟩
    refine .bind (plan_ok hn hs) ?_
    rintro ⟨b, s3⟩ ⟨hb, hs⟩
    dsimp only at hn ha hb
    clear hs
    have hsl := hn.segs1
    have hra := ha.rl; have hrb := hb.rl
    unfold L.law22_SurgeGroups.J1
    refine .bind (groupsCall hn ha hb) ?_
    rintro ⟨out, e⟩ ⟨he, ρ, heads, hg⟩
    dsimp only at he hg
    subst he
    replace hg : Groups n a b out ρ heads := hg
    refine Ok.iteU (fun h => absurd rfl h) fun _ => .bind' (.mk n.Segments.length rfl (by omega) ?_)
    refine .bind (Q := fun st => st = List.replicate n.Segments.length (-1)) ?_ ?_
    · refine .forJ (fun k st => st = List.replicate k (-1) ++ List.replicate (n.Segments.length - k) 0) (by simp) ?_ fun st h => by rw [h]; simp
      rintro k _ hk rfl
      simp at hk
      unfold L.law22_SurgeGroups.B14
      refine .bind' (.ix k rfl (by simp; omega) (.pure ?_))
      dsimp only
      rw [List.set_append_right _ _ (by simp), List.replicate_succ', List.append_assoc]
      congr 1
      rw [show n.Segments.length - k = (n.Segments.length - (k + 1)) + 1 by omega]
      simp [List.replicate_succ]
    rintro _ rfl
    unfold L.law22_SurgeGroups.J2
    dsimp only
    refine .bind' (.forL (fun g (st : List Int) => st.length = n.Segments.length ∧ ∀ (i : Nat) (v : Int), st[i]? = some v → Mark n a b ρ heads g i v) (fun _ => False) ⟨by simp, fun i v hv => ?_⟩ ?_ ?_ fun _ h => h.elim)
    · rw [List.getElem?_replicate] at hv
      split at hv
      · simp at hv; exact .inl ⟨hv.symm, fun j r hj => absurd hj (Nat.not_lt_zero _)⟩
      · cases hv
    · rintro g l st hgo ⟨i1, i2⟩
      rw [hg.out, List.getElem?_map] at hgo
      obtain ⟨r, hr, rfl⟩ := Option.map_eq_some_iff.1 hgo
      have hgl := (List.getElem?_eq_some_iff.1 hr).1
      unfold L.law22_SurgeGroups.B10
      refine .bind' (.forL (fun t (st : List Int) => st.length = n.Segments.length ∧ ∀ (i : Nat) (v : Int), st[i]? = some v → ((i : Int) ∈ (grp n a b ρ n.Segments.length r).take t → v = (g : Int)) ∧ ((i : Int) ∉ (grp n a b ρ n.Segments.length r).take t → Mark n a b ρ heads g i v)) (fun _ => False) ⟨i1, fun i v hv => ⟨by simp, fun _ => i2 i v hv⟩⟩ ?_ ?_ fun _ h => h.elim)
      · rintro t x st hx ⟨j1, j2⟩
        obtain ⟨i, rfl, hi, hfi, hri⟩ := mem_grp.1 (List.mem_of_getElem? hx)
        have hil : i < st.length := by omega
        have hv : st[i]? = some st[i] := List.getElem?_eq_getElem hil
        have hnot := notin_take (grp_lt n a b ρ n.Segments.length r) hx
        have hm : st[i] = -1 := by
          rcases (j2 i _ hv).2 hnot with ⟨h, _⟩ | ⟨j, r', hj, hr', ⟨_, hrr⟩, _⟩
          · exact h
          · have : r' = r := hrr.symm.trans hri
            subst this
            have := (List.getElem?_inj hgl hg.nodup).1 (hr.trans hr'.symm)
            omega
        unfold L.law22_SurgeGroups.B12
        refine Ok.iteD (fun h => by omega) fun _ => Ok.iteD (fun h => by omega) fun _ => .bind' (.eq (ix_nat hv) ?_)
        unfold L.law22_SurgeGroups.J13
        refine Ok.iteD (fun h => by dsimp only at h; omega) fun _ => .bind' (.eq (ix_nat hv) (.pure ⟨by simp [j1], fun i' v hv' => ?_⟩))
        dsimp only at hv'
        rw [get_set] at hv'
        rw [List.take_add_one, hx]
        split at hv'
        · rename_i h
          obtain ⟨rfl, _⟩ := h
          simp at hv'
          exact ⟨fun _ => hv'.symm, fun h => by simp at h⟩
        · rename_i h
          have hne : i ≠ i' := fun he => h ⟨he, by rw [← he]; exact hil⟩
          have := j2 i' v hv'
          refine ⟨fun h => this.1 ?_, fun h => this.2 fun h' => h (List.mem_append_left _ h')⟩
          rcases List.mem_append.1 h with h | h
          · exact h
          · simp at h; omega
      · rintro st ⟨j1, j2⟩
        simp only [Sum.elim_inl]
        unfold L.law22_SurgeGroups.J11
        refine .pure ⟨j1, fun i v hv => ?_⟩
        have := j2 i v hv
        rw [List.take_of_length_le (Nat.le_refl _)] at this
        by_cases hin : (i : Int) ∈ grp n a b ρ n.Segments.length r
        · obtain ⟨i', hii, _, h1, h2⟩ := mem_grp.1 hin
          have : i' = i := by omega
          subst this
          exact .inr ⟨g, r, by omega, hr, ⟨h1, h2⟩, (this.1 hin)⟩
        · rcases this.2 hin with ⟨h1, h2⟩ | ⟨j, r', h1, h2⟩
          · refine .inl ⟨h1, fun j r' hj hr' hh => ?_⟩
            by_cases hjg : j = g
            · subst hjg
              rw [hr] at hr'; simp at hr'; subst hr'
              exact hin (mem_grp.2 ⟨i, rfl, by have := (List.getElem?_eq_some_iff.1 hv).1; omega, hh⟩)
            · exact h2 j r' (by omega) hr' hh
          · exact .inr ⟨j, r', by omega, h2⟩
    rintro st ⟨i1, i2⟩
    have hol : out.length = heads.length := by rw [hg.out]; simp
    rw [hol] at i2
    -- what a mark says
    have mark : ∀ (i : Nat) (v : Int), st[i]? = some v → (v ≥ 0 ↔ Fl a b i = true) ∧ (v ≥ 0 → ∃ j : Nat, v = (j : Int) ∧ heads[j]? = some (ρ (fr n i))) := by
      intro i v hv
      have hil := (List.getElem?_eq_some_iff.1 hv).1
      rcases i2 i v hv with ⟨rfl, h⟩ | ⟨j, r, h1, h2, ⟨h3, h4⟩, rfl⟩
      · refine ⟨⟨fun h => by omega, fun hf => ?_⟩, fun h => by omega⟩
        obtain ⟨j, hj⟩ := List.getElem?_of_mem ((hg.mem (ρ (fr n i))).2 ⟨i, by omega, hf, rfl⟩)
        exact absurd ⟨hf, rfl⟩ (h j _ (List.getElem?_eq_some_iff.1 hj).1 hj)
      · exact ⟨⟨fun _ => h3, fun _ => by omega⟩, fun _ => ⟨j, rfl, by rw [h4]; exact h2⟩⟩
    have frn : ∀ {k : Nat} {s : Segment}, n.Segments[k]? = some s → s.From = (fr n k : Int) ∧ s.To = (to n k : Int) := by
      intro k s hs
      have := (hn.segs k s hs).ends
      unfold fr to
      rw [hs]
      dsimp only; omega
    have both : ∀ i, i < n.Segments.length → Fl a b i = true → ρ (fr n i) = ρ (to n i) := fun i hi hf => (hg.conn _ _).2 (.edge ⟨i, hi, hf, rfl, rfl⟩)
    simp only [Sum.elim_inl]
    unfold L.law22_SurgeGroups.J3
    refine .bind' (.forL (fun _ _ => True) (fun _ => False) trivial ?_ ?_ fun _ h => h.elim)
    · intro i s _ hs _
      dsimp only at hs
      have hil := (List.getElem?_eq_some_iff.1 hs).1
      have hv : st[i]? = some st[i] := List.getElem?_eq_getElem (by omega)
      have hra' : a.Rates[i]? = some a.Rates[i] := List.getElem?_eq_getElem (by omega)
      have hrb' : b.Rates[i]? = some b.Rates[i] := List.getElem?_eq_getElem (by omega)
      obtain ⟨m1, m2⟩ := mark i _ hv
      have hfl : Fl a b i = (a.Rates[i] != 0 || b.Rates[i] != 0) := by unfold Fl; rw [List.getD_eq_getElem?_getD, List.getD_eq_getElem?_getD, hra', hrb']; rfl
      have j7 : ∀ x : Bool, x = false → Ok (L.law22_SurgeGroups.J7 (n, s1) st i s x) (Sum.elim (fun _ : Unit => True) fun _ : Bool => False) := by
        rintro _ rfl
        unfold L.law22_SurgeGroups.J7
        refine Ok.iteB (fun h => by cases h) fun _ => .bind' (.forL (fun _ _ => True) (fun _ => False) trivial ?_ ?_ fun _ h => h.elim)
        · intro k t _ ht _
          dsimp only at ht
          have hkl := (List.getElem?_eq_some_iff.1 ht).1
          have hvk : st[k]? = some st[k] := List.getElem?_eq_getElem (by omega)
          obtain ⟨m3, m4⟩ := mark k _ hvk
          have no : Ok (L.law22_SurgeGroups.J9 false) (Sum.elim (fun _ : Unit => True) fun _ : Bool => False) := by
            unfold L.law22_SurgeGroups.J9; exact .pure trivial
          unfold L.law22_SurgeGroups.B8
          refine .bind' (.eq (ix_nat hv) (Ok.iteD (fun h1 => .bind' (.eq (ix_nat hvk) (Ok.iteD (fun h2 => ?_) fun _ => no))) fun _ => no))
          dsimp only at h1 h2 ⊢
          obtain ⟨j, e1, e2⟩ := m2 h1
          obtain ⟨j', e3, e4⟩ := m4 h2
          have b1 := both i hil (m1.1 h1)
          have b2 := both k hkl (m3.1 h2)
          have f1 := frn hs
          have f2 := frn ht
          have yes : ρ (fr n i) = ρ (fr n k) → Ok (L.law22_SurgeGroups.J9 (st[i] != st[k])) (Sum.elim (fun _ : Unit => True) fun _ : Bool => False) := by
            intro h
            rw [h] at e2
            have := (List.getElem?_inj (List.getElem?_eq_some_iff.1 e2).1 hg.nodup).1 (e2.trans e4.symm)
            rw [show st[i] = st[k] by omega]
            simpa using no
          refine Ok.iteE (fun h => yes ?_) fun _ => Ok.iteE (fun h => yes ?_) fun _ => Ok.iteE (fun h => yes ?_) fun _ => Ok.iteE (fun h => yes ?_) fun _ => no
          · rw [show fr n i = fr n k by omega]
          · rw [show fr n i = to n k by omega, b2]
          · rw [b1, show to n i = fr n k by omega]
          · rw [b1, show to n i = to n k by omega, b2]
        · intro _ _
          exact .pure trivial
      unfold L.law22_SurgeGroups.B5
      refine .bind' (.eq (ix_nat hv) (.bind' (.eq (ix_nat hra') (Ok.iteU (fun h0 => j7 _ ?_) fun h0 => .bind' (.eq (ix_nat hrb') (j7 _ ?_))))))
      · dsimp only at h0 ⊢
        have : Fl a b i = true := by rw [hfl]; simp [h0]
        simp [m1.2 this]
      · dsimp only at h0 ⊢
        rw [h0] at hfl
        simp at hfl
        rw [← hfl]
        by_cases hp : st[i] ≥ 0
        · simp [hp, m1.1 hp]
        · have : Fl a b i = false := by rw [Bool.eq_false_iff]; exact fun h => hp (m1.2 h)
          simp [hp, this]
    · intro _ _
      simp only [Sum.elim_inl]
      unfold L.law22_SurgeGroups.J4
      rw [awake22]
      exact .pure rfl
  obtain ⟨r, h, rfl⟩ := this
  exact h

end Go.Proofs.Ytndfiddakngjdaa
