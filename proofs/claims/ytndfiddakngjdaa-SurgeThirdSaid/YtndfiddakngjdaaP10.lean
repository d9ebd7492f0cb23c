/- The groups of a change of plans. No condition. -/
import Derived.Test.YtndfiddakngjdaaP9
import Derived.Test.YtndfiddakngjdaaDs
namespace Go.Proofs.Ytndfiddakngjdaa
set_option linter.unusedVariables false
set_option linter.unusedSimpArgs false
open Go.Aw

theorem start_ok : Ok L.surge_start fun r => Uni 24 r.l 0 fun x => x := by
  unfold L.surge_start
  refine .bind (.forJ (fun k (st : Arr Int 24) => ∀ j : Nat, j < k → st.l[j]? = some (j : Int)) (fun j hj => absurd hj (Nat.not_lt_zero _)) ?_ fun st h => h) fun st h => ?_
  · intro k st hk hi
    unfold L.surge_start.B2
    refine .bind' (.ix k rfl (by rw [st.h]; exact hk) (.pure fun j hj => ?_))
    show (st.l.set k (k : Int))[j]? = _
    rw [get_set]
    split
    · rename_i h; rw [h.1]
    · rename_i h
      refine hi j ?_
      have := st.h
      by_cases hjk : k = j
      · exact absurd ⟨hjk, by omega⟩ h
      · omega
  · unfold L.surge_start.J1
    exact .pure ⟨st.h, fun _ h => h, fun k hk => ⟨0, Nat.le_refl _, .root (h k hk)⟩⟩

theorem find_ok {u : Arr Int 24} {d : Nat} {ρ : Nat → Nat} (h : Uni 24 u.l d ρ) (hd : d < 1000) {k : Nat} (hk : k < 24) : Ok (L.surge_union_find u (k : Int)) fun r => r.1 = (ρ k : Int) ∧ Uni 24 r.2.l d ρ := by
  obtain ⟨m, hm, hr⟩ := h.rep k hk
  unfold L.surge_union_find
  refine .bind (Q := fun r : Arr Int 24 × Int => r.2 = (ρ k : Int) ∧ Uni 24 r.1.l d ρ) ?_ fun r hr => by unfold L.surge_union_find.J1; exact .pure hr
  refine .loopE (m := m) (fun m (st : Arr Int 24 × Int) => ∃ j : Nat, st.2 = (j : Int) ∧ j < 24 ∧ Uni 24 st.1.l d ρ ∧ ρ j = ρ k ∧ Rep st.1.l m j (ρ j)) ⟨k, rfl, hk, h, rfl, hr⟩ (by omega) ?_
  rintro m ⟨u, _⟩ ⟨j, rfl, hj, hu, he, hrep⟩
  dsimp only at hu hrep
  obtain ⟨i, hi, hil, hie⟩ := hu.at_ hj
  obtain ⟨i2, hi2, hil2, hie2⟩ := hu.at_ hil
  unfold L.surge_union_find.B2
  refine .bind' (.eq (ix_nat hi) (Ok.iteU (fun hne => ?_) fun heq => .pure ⟨?_, hu⟩))
  · dsimp only at hne
    have hne' : j ≠ i := by omega
    refine .bind' (.eq (ix_nat hi2) ?_)
    have hset : (u.l.set j (i2 : Int))[j]? = some (i2 : Int) := by
      rw [get_set, if_pos ⟨rfl, (List.getElem?_eq_some_iff.1 hi).1⟩]
    refine .bind' (.eq (ix_nat hset) (.pure ?_))
    obtain ⟨m', h1, h2, h3⟩ := hu.step hi hne' hi2 hrep
    exact ⟨m', h1, i2, rfl, hil2, hu.halve hi hne' hi2, h3.trans he, h2⟩
  · dsimp only at heq
    have : i = j := by omega
    subst this
    dsimp only
    rw [← he, hu.fix hj hi]

theorem join_ok {u : Arr Int 24} {d : Nat} {ρ : Nat → Nat} (h : Uni 24 u.l d ρ) (hd : d < 1000) {a b : Nat} (ha : a < 24) (hb : b < 24) :
    Ok (L.surge_union_join u (a : Int) (b : Int)) fun r => Uni 24 r.l (d + 1) fun x => if ρ x = ρ a then ρ b else ρ x := by
  unfold L.surge_union_join
  refine .bind (find_ok h hd ha) fun r1 h1 => .bind (find_ok h1.2 hd hb) fun r3 h3 => ?_
  rw [h1.1, h3.1]
  have hl := h3.2.len
  have := h.lt a ha
  refine .bind' (.ix (ρ a) rfl (by omega) (.pure ?_))
  exact h3.2.link ha hb

/-- What groups need of a network. -/
structure Ends (n : Network) : Prop where
  len : n.Segments.length ≤ 32
  ends : ∀ (k : Nat) (s : Segment), n.Segments[k]? = some s → 0 ≤ s.From ∧ s.From < 24 ∧ 0 ≤ s.To ∧ s.To < 24

theorem NetOk.ends {n : Network} (h : NetOk n) : Ends n := ⟨by have := h.segs1; omega, fun k s hs => by have := (h.segs k s hs).ends; have := h.nodes; omega⟩

def Fl (a b : Plan) (i : Nat) : Bool := a.Rates.getD i 0 != 0 || b.Rates.getD i 0 != 0
def fr (n : Network) (i : Nat) : Nat := match n.Segments[i]? with | some s => s.From.toNat | none => 0
def to (n : Network) (i : Nat) : Nat := match n.Segments[i]? with | some s => s.To.toNat | none => 0
def Rk (n : Network) (a b : Plan) (k x y : Nat) : Prop := ∃ i, i < k ∧ Fl a b i = true ∧ x = fr n i ∧ y = to n i

theorem flows_ok {a b : Plan} {k : Nat} (ha : k < a.Rates.length) (hb : k < b.Rates.length) : Ok (L.surge_groups_1 (k : Int) a b) fun r => r = Fl a b k := by
  have e1 : a.Rates.getD k 0 = a.Rates[k] := by simp [List.getD_eq_getElem?_getD, ha]
  have e2 : b.Rates.getD k 0 = b.Rates[k] := by simp [List.getD_eq_getElem?_getD, hb]
  unfold L.surge_groups_1 L.surge_groups_1.J1 Fl
  rw [e1, e2]
  refine .bind' (.ix k rfl ha (Ok.iteB (fun h => .pure ?_) fun h => .bind' (.ix k rfl hb (.pure ?_))))
  · dsimp only at h; rw [h]; rfl
  · dsimp only at h; rw [h]; rfl

/-- The elements of a group, up to a place. -/
def grp (n : Network) (a b : Plan) (ρ : Nat → Nat) (k r : Nat) : List Int := ((List.range k).filter fun i => Fl a b i && Nat.beq (ρ (fr n i)) r).map fun (i : Nat) => (i : Int)

theorem grp_succ (n : Network) (a b : Plan) (ρ : Nat → Nat) (k r : Nat) : grp n a b ρ (k + 1) r = grp n a b ρ k r ++ (if Fl a b k = true ∧ ρ (fr n k) = r then [(k : Int)] else []) := by
  unfold grp
  rw [List.range_succ, List.filter_append, List.map_append]
  congr 1
  by_cases h1 : Fl a b k = true
  · by_cases h2 : ρ (fr n k) = r
    · simp [h1, h2]
    · have : Nat.beq (ρ (fr n k)) r = false := by rw [Bool.eq_false_iff]; exact fun h => h2 (Nat.eq_of_beq_eq_true h)
      simp [h1, h2, this]
  · simp [h1]

/-- What the groups of a change are. -/
structure Groups (n : Network) (a b : Plan) (out : List (List Int)) (ρ : Nat → Nat) (heads : List Nat) : Prop where
  conn : ∀ x y, ρ x = ρ y ↔ Conn (Rk n a b n.Segments.length) x y
  nodup : heads.Nodup
  mem : ∀ r, r ∈ heads ↔ ∃ i, i < n.Segments.length ∧ Fl a b i = true ∧ ρ (fr n i) = r
  out : out = heads.map (grp n a b ρ n.Segments.length)

theorem groups_ok {n : Network} (hn : Ends n) {a b : Plan} (ha : a.Rates.length = n.Segments.length) (hb : b.Rates.length = n.Segments.length) :
    Ok (L.surge_groups n a b) fun out => ∃ ρ heads, Groups n a b out ρ heads := by
  have hl := hn.len
  have frn : ∀ {k : Nat} {s : Segment}, n.Segments[k]? = some s → s.From = (fr n k : Int) ∧ s.To = (to n k : Int) ∧ fr n k < 24 ∧ to n k < 24 := by
    intro k s hs
    have := hn.ends k s hs
    unfold fr to
    rw [hs]
    dsimp only; omega
  unfold L.surge_groups
  refine .bind start_ok fun r7 h7 => ?_
  refine .bind (Q := fun u : Arr Int 24 => ∃ ρ, Uni 24 u.l 32 ρ ∧ ∀ x y, ρ x = ρ y ↔ Conn (Rk n a b n.Segments.length) x y) ?_ ?_
  · refine .forS (fun k (u : Arr Int 24) => ∃ ρ, Uni 24 u.l k ρ ∧ ∀ x y, ρ x = ρ y ↔ Conn (Rk n a b k) x y) ⟨_, h7, fun x y => ?_⟩ ?_ ?_
    · refine conn_id.trans ⟨fun c => c.mono fun _ _ h => h.elim, fun c => c.mono fun _ _ ⟨i, h, _⟩ => absurd h (Nat.not_lt_zero _)⟩
    · rintro k s u hs ⟨ρ, hu, hc⟩
      have hkl := (List.getElem?_eq_some_iff.1 hs).1
      obtain ⟨e1, e2, e3, e4⟩ := frn hs
      unfold L.surge_groups.B6
      refine .bind (flows_ok (by omega) (by omega)) ?_
      rintro _ rfl
      refine Ok.iteB (fun hf => ?_) fun hf => ?_
      · rw [e1, e2]
        refine .bind (join_ok hu (by omega) e3 e4) fun r hr => ?_
        unfold L.surge_groups.J7
        refine .pure ⟨_, hr, fun x y => (conn_link hc (fr n k) (to n k) x y).trans ⟨fun c => c.mono ?_, fun c => c.mono ?_⟩⟩
        · rintro p q (⟨i, hi, h⟩ | ⟨rfl, rfl⟩)
          · exact .edge ⟨i, by omega, h⟩
          · exact .edge ⟨k, by omega, hf, rfl, rfl⟩
        · rintro p q ⟨i, hi, h1, rfl, rfl⟩
          by_cases hik : i = k
          · subst hik; exact .edge (.inr ⟨rfl, rfl⟩)
          · exact .edge (.inl ⟨i, by omega, h1, rfl, rfl⟩)
      · unfold L.surge_groups.J7
        refine .pure ⟨ρ, ⟨hu.len, hu.lt, fun x hx => let ⟨m, h1, h2⟩ := hu.rep x hx; ⟨m, by omega, h2⟩⟩, fun x y => (hc x y).trans ⟨fun c => c.mono ?_, fun c => c.mono ?_⟩⟩
        · rintro p q ⟨i, hi, h⟩
          exact .edge ⟨i, by omega, h⟩
        · rintro p q ⟨i, hi, h1, h2⟩
          have : i ≠ k := by rintro rfl; rw [hf] at h1; cases h1
          exact .edge ⟨i, by omega, h1, h2⟩
    · rintro u ⟨ρ, hu, hc⟩
      exact ⟨ρ, ⟨hu.len, hu.lt, fun x hx => let ⟨m, h1, h2⟩ := hu.rep x hx; ⟨m, by omega, h2⟩⟩, hc⟩
  rintro u ⟨ρ, hu, hc⟩
  unfold L.surge_groups.J1
  refine .bind (Q := fun st : Arr Int 24 × List (List Int) × List Int => ∃ heads : List Nat, heads.Nodup ∧ (∀ r, r ∈ heads ↔ ∃ i, i < n.Segments.length ∧ Fl a b i = true ∧ ρ (fr n i) = r) ∧ st.2.1 = heads.map (grp n a b ρ n.Segments.length)) ?_ ?_
  · refine .forS (fun k (st : Arr Int 24 × List (List Int) × List Int) => Uni 24 st.1.l 32 ρ ∧ ∃ heads : List Nat, heads.length ≤ k ∧ heads.Nodup ∧ (∀ r, r ∈ heads ↔ ∃ i, i < k ∧ Fl a b i = true ∧ ρ (fr n i) = r) ∧ st.2.1 = heads.map (grp n a b ρ k) ∧ st.2.2 = heads.map fun (r : Nat) => (r : Int))
      ⟨hu, [], by simp, by simp, by simp, by simp, by simp⟩ ?_ fun st ⟨_, heads, _, h2, h3, h4, _⟩ => ⟨heads, h2, h3, h4⟩
    rintro k s ⟨u, out, hd⟩ hs ⟨hu, heads, i1, i2, i3, rfl, rfl⟩
    have hkl := (List.getElem?_eq_some_iff.1 hs).1
    obtain ⟨e1, e2, e3, e4⟩ := frn hs
    unfold L.surge_groups.B3
    refine .bind (flows_ok (by omega) (by omega)) ?_
    rintro _ rfl
    refine Ok.iteN (fun hf => ?_) fun hf => ?_
    · unfold L.surge_groups.J4
      refine .pure ⟨hu, heads, by omega, i2, fun r => (i3 r).trans ⟨?_, ?_⟩, ?_, rfl⟩
      · rintro ⟨i, hi, h⟩; exact ⟨i, by omega, h⟩
      · rintro ⟨i, hi, h1, h2⟩
        have : i ≠ k := by rintro rfl; rw [hf] at h1; cases h1
        exact ⟨i, by omega, h1, h2⟩
      · refine List.map_congr_left fun r _ => ?_
        rw [grp_succ]; simp [hf]
    · rw [e1]
      refine .bind (find_ok hu (by omega) e3) ?_
      rintro ⟨r, u'⟩ ⟨rfl, hu'⟩
      dsimp only at hu'
      refine .bind index_int_int fun ri hri => ?_
      have mem' : ∀ h : List Nat, (∀ r, r ∈ h ↔ r ∈ heads ∨ r = ρ (fr n k)) → ∀ r, r ∈ h ↔ ∃ i, i < k + 1 ∧ Fl a b i = true ∧ ρ (fr n i) = r := by
        intro h hh r
        rw [hh r, i3 r]
        constructor
        · rintro (⟨i, hi, h⟩ | rfl)
          · exact ⟨i, by omega, h⟩
          · exact ⟨k, by omega, hf, rfl⟩
        · rintro ⟨i, hi, h1, h2⟩
          by_cases hik : i = k
          · subst hik; exact .inr h2.symm
          · exact .inl ⟨i, by omega, h1, h2⟩
      rcases hri with ⟨rfl, hno⟩ | ⟨j, y, rfl, hj, hy, _⟩
      · -- a new group
        have hnot : ρ (fr n k) ∉ heads := by
          intro hm
          obtain ⟨j, hj⟩ := List.getElem?_of_mem hm
          have := hno j (ρ (fr n k)) (by dsimp only; rw [List.getElem?_map, hj]; rfl)
          simp at this
        refine Ok.iteD (fun _ => ?_) fun h => absurd (show (-1 : Int) < 0 by decide) h
        refine .bind' (.app (by simp; omega) (.bind' (.app (by simp; omega) ?_)))
        unfold L.surge_groups.J5
        dsimp only
        refine .bind' (.ix heads.length (by simp) (by simp) ?_)
        have e5 : (heads.map (grp n a b ρ k) ++ [[]])[heads.length]'(by simp) = ([] : List Int) := by simp
        dsimp only
        rw [e5]
        refine .bind' (.app (by simp) ?_)
        unfold L.surge_groups.J4
        refine .pure ⟨hu', heads ++ [ρ (fr n k)], by simp; omega, ?_, mem' _ (by simp), ?_, by simp⟩
        · exact List.nodup_append.2 ⟨i2, by simp, fun x hx y hy => by simp at hy; subst hy; exact fun h => hnot (h ▸ hx)⟩
        · have e6 : grp n a b ρ k (ρ (fr n k)) = [] := by
            unfold grp
            rw [List.map_eq_nil_iff, List.filter_eq_nil_iff]
            intro i hi hh
            simp only [List.mem_range] at hi
            simp only [Bool.and_eq_true] at hh
            exact hnot ((i3 _).2 ⟨i, hi, hh.1, Nat.eq_of_beq_eq_true hh.2⟩)
          dsimp only
          rw [List.set_append_right _ _ (by simp), List.map_append]
          simp only [List.length_map, Nat.sub_self, List.set_cons_zero, List.map_cons, List.map_nil, List.nil_append]
          congr 1
          · refine List.map_congr_left fun r hr => ?_
            rw [grp_succ, if_neg, List.append_nil]
            rintro ⟨_, rfl⟩; exact hnot hr
          · rw [grp_succ, if_pos ⟨hf, rfl⟩, e6]; rfl
      · -- an old one
        refine Ok.iteD (fun h => by omega) fun _ => ?_
        dsimp only at hj
        rw [List.getElem?_map] at hj
        obtain ⟨r, hr, rfl⟩ := Option.map_eq_some_iff.1 hj
        have hrk : ρ (fr n k) = r := by simp at hy; omega
        subst hrk
        have hjl := (List.getElem?_eq_some_iff.1 hr).1
        unfold L.surge_groups.J5
        dsimp only
        have hg : (heads.map (grp n a b ρ k))[j]? = some (grp n a b ρ k (ρ (fr n k))) := by rw [List.getElem?_map, hr]; rfl
        refine .bind' (.eq (ix_nat hg) ?_)
        have hgl : (grp n a b ρ k (ρ (fr n k))).length ≤ k := by
          unfold grp
          rw [List.length_map]
          exact Nat.le_trans (List.length_filter_le _ _) (by simp)
        refine .bind' (.app (by simp; omega) ?_)
        unfold L.surge_groups.J4
        have hmem : ρ (fr n k) ∈ heads := List.mem_of_getElem? hr
        refine .pure ⟨hu', heads, by omega, i2, mem' _ (fun r => ⟨.inl, fun h => h.elim id fun h => h ▸ hmem⟩), ?_, rfl⟩
        dsimp only
        refine List.ext_getElem? fun i => ?_
        rw [get_set, List.getElem?_map, List.getElem?_map]
        by_cases hij : j = i
        · subst hij
          rw [if_pos ⟨rfl, by simpa using hjl⟩, hr]
          simp only [Option.map_some, Option.some.injEq]
          rw [grp_succ, if_pos ⟨hf, rfl⟩]
        · rw [if_neg (fun h => hij h.1)]
          cases hi : heads[i]? with
          | none => rfl
          | some r =>
            simp only [Option.map_some, Option.some.injEq]
            rw [grp_succ, if_neg, List.append_nil]
            rintro ⟨_, rfl⟩
            exact hij ((List.getElem?_inj hjl i2).1 (hr.trans hi.symm))
  · rintro ⟨u, out, hd⟩ ⟨heads, h1, h2, h3⟩
    unfold L.surge_groups.J2
    exact .pure ⟨ρ, heads, hc, h1, h2, h3⟩

end Go.Proofs.Ytndfiddakngjdaa
