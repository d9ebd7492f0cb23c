/- The sections of a network. No condition. -/
import Derived.Test.YtndfiddakngjdaaP9
import Derived.Test.YtndfiddakngjdaaS1
import Derived.Test.YtndfiddakngjdaaDl
namespace Go.Proofs.Ytndfiddakngjdaa
set_option linter.unusedVariables false
set_option linter.unusedSimpArgs false
open Go.Aw

def sh1 (m : List Bool) (x : Int) (b : Segment) : Bool := (!(m.getD x.toNat true)) && (x == b.From || x == b.To)
/-- Two segments end at one node without a meter. -/
def sh (m : List Bool) (a b : Segment) : Bool := sh1 m a.From b || sh1 m a.To b

theorem getD_at {m : List Bool} {i : Int} {k : Nat} {v : Bool} (hi : i = (k : Int)) (h : m[k]? = some v) : m.getD i.toNat true = v := by
  subst hi
  rw [List.getD_eq_getElem?_getD, show ((k : Int)).toNat = k from rfl, h]; rfl

theorem shares_ok {a b : Segment} {m : List Bool} (h1 : 0 ≤ a.From ∧ a.From < (m.length : Int)) (h2 : 0 ≤ a.To ∧ a.To < (m.length : Int)) : Ok (L.leak_shares a b m) fun r => r = sh m a b := by
  unfold L.leak_shares
  have fin : ∀ x : Int, 0 ≤ x ∧ x < (m.length : Int) → ∀ k : Nat, ([a.From, a.To] : List Int)[k]? = some x → ∀ (P : Unit ⊕ Bool → Prop), (sh1 m x b = true → P (.inr true)) → (sh1 m x b = false → P (.inl ())) → Ok (L.leak_shares.B2 a b m k ()) P := by
    intro x hx k hk P p1 p2
    have j3 : ∀ c : Bool, (c = true → P (.inr true)) → (c = false → P (.inl ())) → Ok (L.leak_shares.J3 c) P := by
      intro c q1 q2
      unfold L.leak_shares.J3
      exact Ok.iteB (fun h => .pure (q1 h)) fun h => .pure (q2 h)
    unfold L.leak_shares.B2
    refine .bind' (.eq (ix_nat hk) (.bind' (.ix' hx.1 hx.2 fun i v hi hv => ?_)))
    dsimp only at hi ⊢
    have hg := getD_at hi hv
    refine Ok.iteN (fun hf => Ok.iteE (fun he => j3 true (fun _ => p1 ?_) fun h => by cases h) fun he => j3 _ (fun h => p1 ?_) fun h => p2 ?_) fun hf => j3 false (fun h => by cases h) fun _ => p2 ?_
    · unfold sh1; rw [hg]; rw [hf]; simp [he]
    · unfold sh1; rw [hg]; rw [hf]; simp at h; simp [h]
    · unfold sh1; rw [hg]; rw [hf]; simp at h; simp [he, h]
    · unfold sh1; rw [hg]; rw [hf]; simp
  refine .bind' (.forI (fun k _ => (1 ≤ k → sh1 m a.From b = false) ∧ (2 ≤ k → sh1 m a.To b = false)) (fun r => r = true ∧ sh m a b = true) ⟨fun h => by omega, fun h => by omega⟩ ?_ ?_ ?_)
  · intro k _ hk ⟨i1, i2⟩
    simp only [List.length_cons, List.length_nil] at hk
    match k, hk with
    | 0, _ => exact fin a.From h1 0 rfl _ (fun h => ⟨rfl, by unfold sh; simp [h]⟩) fun h => ⟨fun _ => h, fun h => by omega⟩
    | 1, _ => exact fin a.To h2 1 rfl _ (fun h => ⟨rfl, by unfold sh; simp [h]⟩) fun h => ⟨fun _ => i1 (by omega), fun _ => h⟩
    | k + 2, hk => omega
  · rintro _ ⟨i1, i2⟩
    simp only [List.length_cons, List.length_nil] at i1 i2
    simp only [Sum.elim_inl]
    unfold L.leak_shares.J1
    exact .pure (by unfold sh; rw [i1 (by omega), i2 (by omega)]; rfl)
  · rintro r ⟨rfl, h⟩
    exact .pure h.symm

def Shr (n : Network) (m : List Bool) (x y : Nat) : Prop := ∃ s t, n.Segments[x]? = some s ∧ n.Segments[y]? = some t ∧ sh m s t = true

/-- What the sections of a network are. -/
structure Secs (n : Network) (m : List Bool) (out : List (List Int)) (ρ : Nat → Nat) (heads : List Nat) : Prop where
  nodup : heads.Nodup
  mem : ∀ r, r ∈ heads ↔ ∃ i, i < n.Segments.length ∧ ρ i = r
  out : out = heads.map (gr ρ n.Segments.length)
  share : ∀ x y, y < x → x < n.Segments.length → Shr n m x y → ρ x = ρ y
  all : (∀ x y, ¬ Shr n m x y) → heads.length = n.Segments.length

theorem sections_ok {n : Network} (hn : NetOk n) {m : List Bool} (hm : m.length = n.Nodes.length) : Ok (L.leak_Sections n m) fun r => r.2 = 0 ∧ ∃ ρ heads, Secs n m r.1 ρ heads := by
  have hl := hn.segs1
  unfold L.leak_Sections
  refine .bind' (.eq (netCheck hn) (Ok.iteU (fun h => absurd rfl h) fun _ => Ok.iteU (fun h => absurd (by omega) h) fun _ => ?_))
  refine .bind (Q := fun st : List (Int × Int) => ∃ ρ : Nat → Nat, st = enu n.Segments.length ρ ∧ (∀ x y, y < x → x < n.Segments.length → Shr n m x y → ρ x = ρ y) ∧ ((∀ x y, ¬ Shr n m x y) → ∀ x, x < n.Segments.length → ρ x = x)) ?_ ?_
  · refine .forS (fun k (st : List (Int × Int)) => ∃ ρ : Nat → Nat, st = enu k ρ ∧ (∀ x y, y < x → x < k → Shr n m x y → ρ x = ρ y) ∧ ((∀ x y, ¬ Shr n m x y) → ∀ x, x < k → ρ x = x))
      ⟨fun x => x, rfl, fun x y _ h => absurd h (Nat.not_lt_zero _), fun _ x h => absurd h (Nat.not_lt_zero _)⟩ ?_ fun st h => h
    rintro k s st hs ⟨ρ, rfl, i1, i2⟩
    have hkl := (List.getElem?_eq_some_iff.1 hs).1
    have he := (hn.segs k s hs).ends
    unfold L.leak_Sections.B5
    refine .bind' (.chk (by omega) ?_)
    rw [show ((k : Int)).toNat = k from rfl, mput_enu]
    refine .bind (.forJ (fun j (st : List (Int × Int)) => ∃ ρ : Nat → Nat, st = enu (k + 1) ρ ∧ (∀ x y, y < x → x < k → Shr n m x y → ρ x = ρ y) ∧ (∀ y, y < j → Shr n m k y → ρ k = ρ y) ∧ ((∀ x y, ¬ Shr n m x y) → ∀ x, x < k + 1 → ρ x = x))
      ⟨_, rfl, fun x y hy hx hs => ?_, fun y h => absurd h (Nat.not_lt_zero _), fun hno x hx => ?_⟩ ?_ fun st h => h) ?_
    · have h1 : x ≠ k := by omega
      have h2 : y ≠ k := by omega
      simp only [h1, h2, if_false]
      exact i1 x y hy hx hs
    · by_cases hxk : x = k
      · simp [hxk]
      · simp only [hxk, if_false]
        exact i2 hno x (by omega)
    · rintro j st hj ⟨ρ, rfl, j1, j2, j3⟩
      have ht : n.Segments[j]? = some (n.Segments[j]'(by omega)) := List.getElem?_eq_getElem _
      have e1 : (mget (enu (k + 1) ρ) (j : Int)).getD 0 = (ρ j : Int) := by rw [mget_enu (by omega)]; rfl
      have e2 : (mget (enu (k + 1) ρ) (k : Int)).getD 0 = (ρ k : Int) := by rw [mget_enu (by omega)]; rfl
      unfold L.leak_Sections.B7
      refine .bind' (.eq (ix_nat ht) (.bind (shares_ok (by omega) (by omega)) ?_))
      rintro _ rfl
      dsimp only
      rw [e1, e2]
      have stay : (Shr n m k j → ρ k = ρ j) → Ok (L.leak_Sections.J8 (enu (k + 1) ρ)) fun st => ∃ ρ : Nat → Nat, st = enu (k + 1) ρ ∧ (∀ x y, y < x → x < k → Shr n m x y → ρ x = ρ y) ∧ (∀ y, y < j + 1 → Shr n m k y → ρ k = ρ y) ∧ ((∀ x y, ¬ Shr n m x y) → ∀ x, x < k + 1 → ρ x = x) := by
        intro hkj
        unfold L.leak_Sections.J8
        refine .pure ⟨ρ, rfl, j1, fun y hy hs => ?_, j3⟩
        by_cases hyj : y = j
        · subst hyj; exact hkj hs
        · exact j2 y (by omega) hs
      refine Ok.iteB (fun hsh => ?_) fun hsh => ?_
      · have hshr : Shr n m k j := ⟨s, _, hs, ht, hsh⟩
        unfold L.leak_Sections.J9
        refine Ok.iteU (fun hne => ?_) fun heq => stay fun _ => by omega
        rw [e1, e2]
        unfold L.leak_join
        rw [if_pos (enu_fst _ _), enu_join]
        refine .bind' (.pure ?_)
        unfold L.leak_Sections.J8
        refine .pure ⟨_, rfl, fun x y hy hx hs => jn2_eq (j1 x y hy hx hs), fun y hy hs => ?_, fun hno => absurd hshr (hno _ _)⟩
        by_cases hyj : y = j
        · subst hyj; exact jn2_ab.symm
        · exact jn2_eq (j2 y (by omega) hs)
      · unfold L.leak_Sections.J9
        refine Ok.iteB (fun h => by cases h) fun _ => stay fun ⟨s', t', h1, h2, h3⟩ => ?_
        rw [hs] at h1; rw [ht] at h2
        cases h1; cases h2
        rw [hsh] at h3; cases h3
    · rintro st ⟨ρ, rfl, j1, j2, j3⟩
      unfold L.leak_Sections.J6
      refine .pure ⟨ρ, rfl, fun x y hy hx hxy => ?_, j3⟩
      by_cases hxk : x = k
      · rw [hxk] at hxy hy ⊢; exact j2 y hy hxy
      · exact j1 x y hy (by omega) hxy
  rintro _ ⟨ρ, rfl, hsh, hid⟩
  unfold L.leak_Sections.J1
  refine .bind (Q := fun st : List (Int × Int) × List (List Int) => ∃ heads : List Nat, heads.Nodup ∧ (∀ r, r ∈ heads ↔ ∃ i, i < n.Segments.length ∧ ρ i = r) ∧ st.2 = heads.map (gr ρ n.Segments.length) ∧ ((∀ x y, ¬ Shr n m x y) → heads.length = n.Segments.length)) ?_ ?_
  · refine .forS (fun k (st : List (Int × Int) × List (List Int)) => ∃ heads : List Nat, heads.length ≤ k ∧ heads.Nodup ∧ (∀ r, r ∈ heads ↔ ∃ i, i < k ∧ ρ i = r) ∧ st.2 = heads.map (gr ρ k) ∧ st.1 = hds heads ∧ ((∀ x y, ¬ Shr n m x y) → heads.length = k))
      ⟨[], by simp, by simp, by simp, by simp, rfl, fun _ => rfl⟩ ?_ fun st ⟨heads, _, h2, h3, h4, _, h5⟩ => ⟨heads, h2, h3, h4, h5⟩
    rintro k s ⟨_, _⟩ hs ⟨heads, i1, i2, i3, rfl, rfl, i4⟩
    have hkl := (List.getElem?_eq_some_iff.1 hs).1
    have e1 : (mget (enu n.Segments.length ρ) (k : Int)).getD 0 = (ρ k : Int) := by rw [mget_enu hkl]; rfl
    have mem' : ∀ h : List Nat, (∀ r, r ∈ h ↔ r ∈ heads ∨ r = ρ k) → ∀ r, r ∈ h ↔ ∃ i, i < k + 1 ∧ ρ i = r := by
      intro h hh r
      rw [hh r, i3 r]
      constructor
      · rintro (⟨i, hi, h⟩ | rfl)
        · exact ⟨i, by omega, h⟩
        · exact ⟨k, by omega, rfl⟩
      · rintro ⟨i, hi, h2⟩
        by_cases hik : i = k
        · subst hik; exact .inr h2.symm
        · exact .inl ⟨i, by omega, h2⟩
    unfold L.leak_Sections.B3
    dsimp only
    rw [e1, mget_hds]
    by_cases hin : ρ k ∈ heads
    · simp only [hin, if_true, Option.isSome_some, Bool.not_true, Bool.false_eq_true, if_false, Option.getD_some]
      have hjl := List.idxOf_lt_length_of_mem hin
      obtain ⟨j, hj⟩ : ∃ j, j = heads.idxOf (ρ k) := ⟨_, rfl⟩
      rw [← hj] at hjl ⊢
      have hr : heads[j]? = some (ρ k) := by rw [List.getElem?_eq_getElem hjl]; subst hj; rw [List.getElem_idxOf]
      unfold L.leak_Sections.J4
      dsimp only
      have hg : (heads.map (gr ρ k))[j]? = some (gr ρ k (ρ k)) := by rw [List.getElem?_map, hr]; rfl
      have hgl := gr_len ρ k (ρ k)
      refine .bind' (.eq (ix_nat hg) (.bind' (.app (by simp; omega) (.pure ⟨heads, by omega, i2, mem' _ (fun r => ⟨.inl, fun h => h.elim id fun h => h ▸ hin⟩), ?_, rfl, fun hno => ?_⟩))))
      · dsimp only
        refine List.ext_getElem? fun i => ?_
        rw [get_set, List.getElem?_map, List.getElem?_map]
        by_cases hij : j = i
        · subst hij
          rw [if_pos ⟨rfl, by simpa using hjl⟩, hr]
          simp only [Option.map_some, Option.some.injEq]
          rw [gr_succ, if_pos rfl]
        · rw [if_neg (fun h => hij h.1)]
          cases hi : heads[i]? with
          | none => rfl
          | some r =>
            simp only [Option.map_some, Option.some.injEq]
            rw [gr_succ, if_neg, List.append_nil]
            rintro rfl
            exact hij ((List.getElem?_inj hjl i2).1 (hr.trans hi.symm))
      · exfalso
        obtain ⟨i, hi, hik⟩ := (i3 _).1 hin
        have := hid hno k hkl
        have := hid hno i (by omega)
        omega
    · simp only [hin, if_false, Option.isSome_none, Bool.not_false, if_true, List.length_map]
      refine .bind' (.app (by simp; omega) ?_)
      rw [mput_hds hin]
      unfold L.leak_Sections.J4
      dsimp only
      refine .bind' (.ix heads.length rfl (by simp) ?_)
      have e5 : (heads.map (gr ρ k) ++ [[]])[heads.length]'(by simp) = ([] : List Int) := by simp
      dsimp only
      rw [e5]
      refine .bind' (.app (by simp) (.pure ⟨heads ++ [ρ k], by simp; omega, ?_, mem' _ (by simp), ?_, rfl, fun hno => by simp [i4 hno]⟩))
      · exact List.nodup_append.2 ⟨i2, by simp, fun x hx y hy => by simp at hy; subst hy; exact fun h => hin (h ▸ hx)⟩
      · have e6 : gr ρ k (ρ k) = [] := by
          unfold gr
          rw [List.map_eq_nil_iff, List.filter_eq_nil_iff]
          intro i hi hh
          simp only [List.mem_range] at hi
          exact hin ((i3 _).2 ⟨i, hi, Nat.eq_of_beq_eq_true hh⟩)
        dsimp only
        rw [List.set_append_right _ _ (by simp), List.map_append]
        simp only [List.length_map, Nat.sub_self, List.set_cons_zero, List.map_cons, List.map_nil, List.nil_append]
        congr 1
        · refine List.map_congr_left fun r hr => ?_
          rw [gr_succ, if_neg, List.append_nil]
          rintro rfl; exact hin hr
        · rw [gr_succ, if_pos rfl, e6]; rfl
  · rintro ⟨_, out⟩ ⟨heads, h1, h2, h3, h4⟩
    unfold L.leak_Sections.J2
    exact .pure ⟨rfl, ρ, heads, h1, h2, h3, hsh, h4⟩

end Go.Proofs.Ytndfiddakngjdaa
