/- The law of the sections, for the pure functions. No condition. -/
import Derived.Test.YtndfiddakngjdaaP16
import Derived.Test.YtndfiddakngjdaaS2
import Derived.KernelRfl
namespace Go.Proofs.Ytndfiddakngjdaa
set_option linter.unusedVariables false
set_option linter.unusedSimpArgs false
open Go.Aw

theorem awake35 : L.law35_awake = some true := by kernel_rfl
theorem ref34Nil : L.ref34_Check [] = some 0 := by kernel_rfl

def Mk (ρ : Nat → Nat) (heads : List Nat) (g i : Nat) (v : Int) : Prop :=
  (v = -1 ∧ ∀ (j r : Nat), j < g → heads[j]? = some r → ρ i ≠ r) ∨ ∃ (j r : Nat), j < g ∧ heads[j]? = some r ∧ ρ i = r ∧ v = (j : Int)

theorem gr_notin {ρ : Nat → Nat} {k r t : Nat} {x : Int} (hx : (gr ρ k r)[t]? = some x) : x ∉ (gr ρ k r).take t := by
  intro hm
  obtain ⟨j, hj⟩ := List.getElem?_of_mem hm
  have hjt : j < t := by have := (List.getElem?_eq_some_iff.1 hj).1; rw [List.length_take] at this; omega
  rw [List.getElem?_take_of_lt hjt] at hj
  have h1 := (List.getElem?_eq_some_iff.1 hj).1
  have h2 := (List.getElem?_eq_some_iff.1 hx).1
  have := List.pairwise_iff_getElem.1 (gr_lt ρ k r) j t h1 h2 hjt
  rw [(List.getElem?_eq_some_iff.1 hj).2, (List.getElem?_eq_some_iff.1 hx).2] at this
  omega

theorem leakSections (l : List Int) : L.law35_LeakSections l = some true := by
  have : Ok (L.law35_LeakSections l) fun r => r = true := by
    unfold L.law35_LeakSections
    refine Ok.iteN (fun _ => ?_) fun _ => ?_
    · rw [awake35]; exact .bind' (.pure (.pure rfl))
    refine .bind (new_ok l) fun s hs => .bind (net_ok hs) ?_
    rintro ⟨n, s1⟩ ⟨hn, hs⟩
    dsimp only at hn hs
    have hsl := hn.segs1; have hnl := hn.nodes
    have hends : ∀ (k : Nat) (s : Segment), n.Segments[k]? = some s → 0 ≤ s.From ∧ s.From < (n.Nodes.length : Int) ∧ 0 ≤ s.To ∧ s.To < (n.Nodes.length : Int) := fun k s h => by have := (hn.segs k s h).ends; omega
    refine .bind (Q := fun d : List Bool × List Bool => d.1.length = n.Nodes.length ∧ d.2 = List.replicate n.Nodes.length true) ?_ ?_
    · refine .loop (fun st : List Int × Int × List Bool × List Bool × Int => SrcOk ⟨st.1, st.2.1⟩ ∧ (st.2.2.1.length : Int) = st.2.2.2.2 ∧ st.2.2.1.length ≤ n.Nodes.length ∧ st.2.2.2.1 = List.replicate st.2.2.1.length true) (fun st => n.Nodes.length - st.2.2.1.length)
        ⟨hs, by simp, by simp, by simp⟩ (by dsimp only; omega) ?_
      rintro ⟨L_, At, some_, all_, i⟩ ⟨h1, h2, h3, h4⟩
      dsimp only at h1 h2 h3 h4
      subst h4
      unfold L.law35_LeakSections.B18
      dsimp only
      refine Ok.iteD (fun hi => ?_) fun hi => .pure ⟨by dsimp only; omega, by dsimp only; rw [show some_.length = n.Nodes.length by omega]⟩
      refine .bind (n_ok h1 (by decide) (by decide)) fun r hr => .bind' (.app (by simp; omega) (.bind' (.app (by simp; omega) (.pure ⟨⟨hr.1, ?_, ?_, ?_⟩, ?_⟩))))
      · dsimp only; rw [wr_id (by omega)]; simp; omega
      · dsimp only; simp; omega
      · dsimp only; simp [List.replicate_succ']
      · dsimp only; simp; omega
    rintro ⟨m, _⟩ ⟨hm, rfl⟩
    dsimp only at hm
    unfold L.law35_LeakSections.J1
    dsimp only
    refine .bind (sections_ok hn hm) ?_
    rintro ⟨out, _⟩ ⟨rfl, ρ, heads, hx⟩
    refine .bind (sections_ok hn (by simp)) ?_
    rintro ⟨out', _⟩ ⟨rfl, ρ', heads', hy⟩
    dsimp only at hx hy
    have hyl : out'.length = n.Segments.length := by
      rw [hy.out, List.length_map]
      refine hy.all ?_
      rintro x y ⟨s, t, hs, _, h⟩
      have he := hends x s hs
      have no : ∀ z : Int, 0 ≤ z → z < (n.Nodes.length : Int) → sh1 (List.replicate n.Nodes.length true) z t = false := by
        intro z h1 h2
        unfold sh1
        rw [getD_at (k := z.toNat) (v := true) (by omega) (by rw [List.getElem?_replicate, if_pos (by omega)])]
        rfl
      unfold sh at h
      rw [no _ (by omega) (by omega), no _ (by omega) (by omega)] at h
      cases h
    refine Ok.iteU (fun h => absurd rfl h) fun _ => Ok.iteU (fun h => absurd rfl h) fun _ => .bind' (.eq (check12 hn) (Ok.iteU (fun h => absurd rfl h) fun _ => ?_))
    dsimp only
    rw [show ((out'.length : Int) != (n.Segments.length : Int)) = false by simp [hyl]]
    unfold L.law35_LeakSections.J2
    refine Ok.iteB (fun h => by cases h) fun _ => .bind' (.mk n.Segments.length rfl (by omega) ?_)
    refine .bind (Q := fun st : List Int => st = List.replicate n.Segments.length (-1)) ?_ ?_
    · refine .loop (fun st : List Int × Int => ∃ k : Nat, st.2 = (k : Int) ∧ k ≤ n.Segments.length ∧ st.1 = List.replicate k (-1) ++ List.replicate (n.Segments.length - k) 0) (fun st => n.Segments.length - st.2.toNat)
        ⟨0, rfl, by omega, by simp⟩ (by dsimp only; omega) ?_
      rintro ⟨_, _⟩ ⟨k, h1, hk, h2⟩
      dsimp only at h1 h2
      subst h1; subst h2
      unfold L.law35_LeakSections.B17
      dsimp only
      refine Ok.iteD (fun h => ?_) fun h => .pure ?_
      · have hlt : k < n.Segments.length := by simp at h; omega
        refine .bind' (.ix k rfl (by simp; omega) (.pure ⟨⟨k + 1, ?_, by omega, ?_⟩, ?_⟩))
        · dsimp only; rw [wr_id (by omega)]; omega
        · dsimp only
          rw [List.set_append_right _ _ (by simp), List.replicate_succ', List.append_assoc]
          congr 1
          rw [show n.Segments.length - k = (n.Segments.length - (k + 1)) + 1 by omega]
          simp [List.replicate_succ]
        · dsimp only; rw [wr_id (by omega)]; omega
      · have : k = n.Segments.length := by simp at h; omega
        subst this; simp
    rintro _ rfl
    unfold L.law35_LeakSections.J3
    have hol : out.length = heads.length := by rw [hx.out]; simp
    have hhl : heads.length ≤ 1000 := by
      have := List.Nodup.length_le_of_subset (l₁ := heads) (l₂ := (List.range n.Segments.length).map ρ) hx.nodup (fun r hr => by
        obtain ⟨i, hi, rfl⟩ := (hx.mem r).1 hr
        exact List.mem_map.2 ⟨i, by simpa using hi, rfl⟩)
      simp at this; omega
    refine .bind (Q := Sum.elim (fun _ : Bool => False) fun st : List Int => st.length = n.Segments.length ∧ ∀ (i : Nat) (v : Int), st[i]? = some v → Mk ρ heads heads.length i v) ?_ ?_
    · refine .loop (fun st : List Int × Int => ∃ g : Nat, st.2 = (g : Int) ∧ g ≤ heads.length ∧ st.1.length = n.Segments.length ∧ ∀ (i : Nat) (v : Int), st.1[i]? = some v → Mk ρ heads g i v) (fun st => heads.length - st.2.toNat)
        ⟨0, rfl, by omega, by simp, fun i v hv => ?_⟩ (by dsimp only; omega) ?_
      · dsimp only at hv
        rw [List.getElem?_replicate] at hv
        split at hv
        · simp at hv; exact .inl ⟨hv.symm, fun j r hj => absurd hj (Nat.not_lt_zero _)⟩
        · cases hv
      rintro ⟨st, _⟩ ⟨g, rfl, hg, i1, i2⟩
      dsimp only at i1 i2
      unfold L.law35_LeakSections.B13
      dsimp only
      refine Ok.iteD (fun h => ?_) fun h => .pure ⟨i1, by rw [show heads.length = g by omega]; exact i2⟩
      have hgl : g < heads.length := by omega
      have hr : heads[g]? = some heads[g] := List.getElem?_eq_getElem hgl
      obtain ⟨r, hre⟩ : ∃ r, r = heads[g] := ⟨_, rfl⟩
      rw [← hre] at hr
      have hgo : out[g]? = some (gr ρ n.Segments.length r) := by rw [hx.out, List.getElem?_map, hr]; rfl
      refine .bind (Q := Sum.elim (fun _ : Bool => False) fun st : List Int => st.length = n.Segments.length ∧ ∀ (i : Nat) (v : Int), st[i]? = some v → Mk ρ heads (g + 1) i v) ?_ ?_
      · refine .loop (fun st : List Int × Int => ∃ t : Nat, st.2 = (t : Int) ∧ t ≤ (gr ρ n.Segments.length r).length ∧ st.1.length = n.Segments.length ∧ ∀ (i : Nat) (v : Int), st.1[i]? = some v → ((i : Int) ∈ (gr ρ n.Segments.length r).take t → v = (g : Int)) ∧ ((i : Int) ∉ (gr ρ n.Segments.length r).take t → Mk ρ heads g i v))
          (fun st => (gr ρ n.Segments.length r).length - st.2.toNat) ⟨0, rfl, by omega, i1, fun i v hv => ⟨by simp, fun _ => i2 i v hv⟩⟩ (by have := gr_len ρ n.Segments.length r; dsimp only; omega) ?_
        rintro ⟨st, _⟩ ⟨t, rfl, ht, j1, j2⟩
        dsimp only at j1 j2
        have hgrl := gr_len ρ n.Segments.length r
        unfold L.law35_LeakSections.B15
        dsimp only
        refine .bind' (.eq (ix_nat hgo) (Ok.iteD (fun h => ?_) fun h => ?_))
        · have htl : t < (gr ρ n.Segments.length r).length := by dsimp only at h; omega
          have hx' : (gr ρ n.Segments.length r)[t]? = some (gr ρ n.Segments.length r)[t] := List.getElem?_eq_getElem htl
          obtain ⟨i, hie, hi, hri⟩ := mem_gr.1 (List.mem_of_getElem? hx')
          rw [hie] at hx'
          have hil : i < st.length := by omega
          have hv : st[i]? = some st[i] := List.getElem?_eq_getElem hil
          have hm1 : st[i] = -1 := by
            rcases (j2 i _ hv).2 (gr_notin hx') with ⟨h, _⟩ | ⟨j, r', hj, hr', hrr, _⟩
            · exact h
            · have : r' = r := hrr.symm.trans hri
              subst this
              have := (List.getElem?_inj hgl hx.nodup).1 (hr.trans hr'.symm)
              omega
          refine .bind' (.eq (ix_nat hx') ?_)
          dsimp only
          refine Ok.iteD (fun h => by omega) fun _ => Ok.iteD (fun h => by omega) fun _ => .bind' (.eq (ix_nat hv) ?_)
          unfold L.law35_LeakSections.J16
          refine Ok.iteD (fun h => by dsimp only at h; omega) fun _ => .bind' (.eq (ix_nat hv) (.pure ⟨⟨t + 1, ?_, by omega, by simp [j1], fun i' v hv' => ?_⟩, ?_⟩))
          · dsimp only; rw [wr_id (by omega)]; omega
          · dsimp only at hv'
            rw [get_set] at hv'
            rw [List.take_add_one, hx']
            split at hv'
            · rename_i h
              obtain ⟨rfl, _⟩ := h
              simp at hv'
              exact ⟨fun _ => hv'.symm, fun h => by simp at h⟩
            · rename_i h
              have hne : i ≠ i' := fun he => h ⟨he, by rw [← he]; exact hil⟩
              have := j2 i' v hv'
              refine ⟨fun h => this.1 ?_, fun h => this.2 fun h' => h (List.mem_append_left _ h')⟩
              rcases List.mem_append.1 h with h | h
              · exact h
              · simp at h; omega
          · dsimp only; rw [wr_id (by omega)]; omega
        · have htl : t = (gr ρ n.Segments.length r).length := by dsimp only at h; omega
          refine .pure ⟨j1, fun i v hv => ?_⟩
          have := j2 i v hv
          rw [htl, List.take_of_length_le (Nat.le_refl _)] at this
          by_cases hin : (i : Int) ∈ gr ρ n.Segments.length r
          · obtain ⟨i', hii, _, h1⟩ := mem_gr.1 hin
            have : i' = i := by omega
            subst this
            exact .inr ⟨g, r, by omega, hr, h1, (this.1 hin)⟩
          · rcases this.2 hin with ⟨h1, h2⟩ | ⟨j, r', h1, h2⟩
            · refine .inl ⟨h1, fun j r' hj hr' hh => ?_⟩
              by_cases hjg : j = g
              · subst hjg
                rw [hr] at hr'; simp at hr'; subst hr'
                exact hin (mem_gr.2 ⟨i, rfl, by have := (List.getElem?_eq_some_iff.1 hv).1; omega, hh⟩)
              · exact h2 j r' (by omega) hr' hh
            · exact .inr ⟨j, r', by omega, h2⟩
      rintro (_ | st') h
      · exact h.elim
      obtain ⟨k1, k2⟩ := h
      simp only [Sum.elim_inr]
      unfold L.law35_LeakSections.J14
      refine .pure ⟨⟨g + 1, ?_, by omega, k1, k2⟩, ?_⟩
      · dsimp only; rw [wr_id (by omega)]; omega
      · dsimp only; rw [wr_id (by omega)]; omega
    rintro (_ | st) h
    · exact h.elim
    obtain ⟨i1, i2⟩ := h
    have mark : ∀ (i : Nat) (v : Int), st[i]? = some v → ∃ j : Nat, v = (j : Int) ∧ heads[j]? = some (ρ i) := by
      intro i v hv
      have hil := (List.getElem?_eq_some_iff.1 hv).1
      rcases i2 i v hv with ⟨rfl, h⟩ | ⟨j, r, h1, h2, rfl, rfl⟩
      · obtain ⟨j, hj⟩ := List.getElem?_of_mem ((hx.mem (ρ i)).2 ⟨i, by omega, rfl⟩)
        exact absurd rfl (h j _ (List.getElem?_eq_some_iff.1 hj).1 hj)
      · exact ⟨j, rfl, h2⟩
    simp only [Sum.elim_inr]
    unfold L.law35_LeakSections.J4
    refine .bind (Q := Sum.elim (fun _ : Bool => False) fun _ : Unit => True) ?_ ?_
    · refine .loop (fun st' : Int => ∃ i : Nat, st' = (i : Int) ∧ i ≤ st.length) (fun st' => st.length - st'.toNat) ⟨0, rfl, by omega⟩ (by omega) ?_
      rintro _ ⟨i, rfl, hi⟩
      unfold L.law35_LeakSections.B7
      refine Ok.iteD (fun h => ?_) fun h => .pure trivial
      have hil : i < st.length := by omega
      have hv : st[i]? = some st[i] := List.getElem?_eq_getElem hil
      obtain ⟨j, e1, e2⟩ := mark i _ hv
      refine .bind' (.eq (ix_nat hv) ?_)
      dsimp only
      refine Ok.iteD (fun h => by omega) fun _ => ?_
      refine .bind (Q := Sum.elim (fun _ : Bool => False) fun _ : Unit => True) ?_ ?_
      · refine .loop (fun st' : Int => ∃ k : Nat, st' = (k : Int) ∧ k ≤ i) (fun st' => i - st'.toNat) ⟨0, rfl, by omega⟩ (by omega) ?_
        rintro _ ⟨k, rfl, hk⟩
        unfold L.law35_LeakSections.B9
        refine Ok.iteD (fun h => ?_) fun h => .pure trivial
        have hki : k < i := by omega
        have ha : n.Segments[i]? = some (n.Segments[i]'(by omega)) := List.getElem?_eq_getElem _
        have hb : n.Segments[k]? = some (n.Segments[k]'(by omega)) := List.getElem?_eq_getElem _
        obtain ⟨a, hae⟩ : ∃ a, a = n.Segments[i]'(by omega) := ⟨_, rfl⟩
        obtain ⟨b, hbe⟩ : ∃ b, b = n.Segments[k]'(by omega) := ⟨_, rfl⟩
        rw [← hae] at ha; rw [← hbe] at hb
        have hvk : st[k]? = some (st[k]'(by omega)) := List.getElem?_eq_getElem _
        obtain ⟨j', e3, e4⟩ := mark k _ hvk
        have hea := hends i a ha
        refine .bind' (.eq (ix_nat ha) (.bind' (.eq (ix_nat hb) ?_)))
        dsimp only
        have no : Ok (L.law35_LeakSections.J12 (k : Int) false) (Sum.elim (fun s : Int => (∃ k : Nat, s = (k : Int) ∧ k ≤ i) ∧ i - s.toNat < i - ((k : Int)).toNat) (Sum.elim (fun _ : Bool => False) fun _ : Unit => True)) := by
          unfold L.law35_LeakSections.J12
          refine Ok.iteB (fun h => by cases h) fun _ => .pure ⟨⟨k + 1, ?_, by omega⟩, ?_⟩
          · rw [wr_id (by omega)]; omega
          · rw [wr_id (by omega)]; omega
        have j11 : ∀ c : Bool, (c = true → sh m a b = true) → Ok (L.law35_LeakSections.J11 st (i, st[i]) (k : Int) c) (Sum.elim (fun s : Int => (∃ k : Nat, s = (k : Int) ∧ k ≤ i) ∧ i - s.toNat < i - ((k : Int)).toNat) (Sum.elim (fun _ : Bool => False) fun _ : Unit => True)) := by
          intro c hc
          unfold L.law35_LeakSections.J11
          refine Ok.iteB (fun h => .bind' (.eq (ix_nat hvk) ?_)) fun _ => no
          have hρ := hx.share i k hki (by omega) ⟨a, b, ha, hb, hc h⟩
          dsimp only
          rw [hρ] at e2
          have := (List.getElem?_inj (List.getElem?_eq_some_iff.1 e2).1 hx.nodup).1 (e2.trans e4.symm)
          rw [show (st[i] != st[k]'(by omega)) = false by rw [e1, e3, this]; simp]
          exact no
        unfold L.law35_LeakSections.J10
        dsimp only
        have second : ∀ c0 : Bool, Ok (Option.bind (ix m a.To) fun p1195 => if (!p1195.2) = true then if (a.To == b.From) = true then L.law35_LeakSections.J11 st (i, st[i]) (k : Int) true else L.law35_LeakSections.J11 st (i, st[i]) (k : Int) (a.To == b.To) else L.law35_LeakSections.J11 st (i, st[i]) (k : Int) false)
            (Sum.elim (fun s : Int => (∃ k : Nat, s = (k : Int) ∧ k ≤ i) ∧ i - s.toNat < i - ((k : Int)).toNat) (Sum.elim (fun _ : Bool => False) fun _ : Unit => True)) := by
          intro _
          refine .bind' (.ix' (by omega) (by omega) fun q v hq hv => ?_)
          have hg := getD_at hq hv
          refine Ok.iteN (fun hf => Ok.iteE (fun he => j11 true fun _ => ?_) fun he => j11 _ fun h => ?_) fun hf => j11 false fun h => by cases h
          · dsimp only at hf; unfold sh sh1; rw [hg, hf]; simp [he]
          · dsimp only at hf; unfold sh sh1; rw [hg, hf]; simp at h; simp [h]
        refine .bind' (.ix' (by omega) (by omega) fun q v hq hv => ?_)
        have hg := getD_at hq hv
        refine Ok.iteN (fun hf => Ok.iteE (fun he => j11 true fun _ => ?_) fun he => Ok.iteE (fun he => j11 true fun _ => ?_) fun _ => second true) fun hf => second true
        · dsimp only at hf; unfold sh sh1; rw [hg, hf]; simp [he]
        · dsimp only at hf; unfold sh sh1; rw [hg, hf]; simp [he]
      rintro (_ | _) h
      · exact h.elim
      simp only [Sum.elim_inr]
      unfold L.law35_LeakSections.J8
      refine .pure ⟨⟨i + 1, ?_, by omega⟩, ?_⟩
      · rw [wr_id (by omega)]; omega
      · rw [wr_id (by omega)]; omega
    rintro (_ | _) h
    · exact h.elim
    simp only [Sum.elim_inr]
    unfold L.law35_LeakSections.J5
    refine .bind' (.eq ref34Nil (Ok.iteE (fun _ => ?_) fun h => absurd rfl h))
    rw [awake35]
    refine .bind' (.pure ?_)
    unfold L.law35_LeakSections.J6
    exact .pure rfl
  obtain ⟨r, h, rfl⟩ := this
  exact h

end Go.Proofs.Ytndfiddakngjdaa
