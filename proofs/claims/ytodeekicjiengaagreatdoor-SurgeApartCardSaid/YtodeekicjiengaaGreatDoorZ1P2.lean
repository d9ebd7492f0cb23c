/- Plain proofs. No condition. -/
import Derived.Test.YtodeekicjiengaaGreatDoorZ1P1
import Derived.Test.YtodeekicjiengaaGreatDoorZ1P0
import Derived.Test.YtodeekicjiengaaGreatDoorZ1D
import Derived.KernelRfl
import Derived.Test.YtodeekicjiengaaGreatDoorZ1B1
import Derived.ProofKit
import Derived.SizedLaws
import Derived.Carry
import Derived.OpenShut
import Derived.ChangeSame
import Derived.LaidMore
import Derived.MakeChecks
import Derived.Stop.Joined
namespace Go.Proofs.YtodeekicjiengaaGreatDoor
set_option linter.unusedVariables false
set_option linter.unusedSimpArgs false
open Go.Aw
theorem start_ok : Ok L.surge_start fun r => Uni 24 r.l 0 fun x => x := by
  unfold L.surge_start
  refine .bind (.forJ (fun k (st : Arr Int 24) => ∀ j : Nat, j < k → st.l[j]? = some (j : Int)) (fun j hj => absurd hj (Nat.not_lt_zero _)) ?_ fun st h => h) fun st h => ?_
  · intro k st hk hi
    unfold L.surge_start.B2
    refine .bind' (.ix k rfl (by rw [st.h]; exact hk) (.pure fun j hj => ?_))
    show (st.l.set k (k : Int))[j]? = _
    rw [get_set]
    split
    · rename_i h; rw [h.1]
    · rename_i h
      refine hi j ?_
      have := st.h
      by_cases hjk : k = j
      · exact absurd ⟨hjk, by omega⟩ h
      · omega
  · unfold L.surge_start.J1
    exact .pure ⟨st.h, fun _ h => h, fun k hk => ⟨0, Nat.le_refl _, .root (h k hk)⟩⟩
theorem find_ok {u : Arr Int 24} {d : Nat} {ρ : Nat → Nat} (h : Uni 24 u.l d ρ) (hd : d < 1000) {k : Nat} (hk : k < 24) : Ok (L.surge_union_find u (k : Int)) fun r => r.1 = (ρ k : Int) ∧ Uni 24 r.2.l d ρ := by
  obtain ⟨m, hm, hr⟩ := h.rep k hk
  unfold L.surge_union_find
  refine .bind (Q := fun r : Arr Int 24 × Int => r.2 = (ρ k : Int) ∧ Uni 24 r.1.l d ρ) ?_ fun r hr => by unfold L.surge_union_find.J1; exact .pure hr
  refine .loopE (m := m) (fun m (st : Arr Int 24 × Int) => ∃ j : Nat, st.2 = (j : Int) ∧ j < 24 ∧ Uni 24 st.1.l d ρ ∧ ρ j = ρ k ∧ Rep st.1.l m j (ρ j)) ⟨k, rfl, hk, h, rfl, hr⟩ (by omega) ?_
  rintro m ⟨u, _⟩ ⟨j, rfl, hj, hu, he, hrep⟩
  dsimp only at hu hrep
  obtain ⟨i, hi, hil, hie⟩ := hu.at_ hj
  obtain ⟨i2, hi2, hil2, hie2⟩ := hu.at_ hil
  unfold L.surge_union_find.B2
  refine .bind' (.eq (ix_nat hi) (Ok.iteU (fun hne => ?_) fun heq => .pure ⟨?_, hu⟩))
  · dsimp only at hne
    have hne' : j ≠ i := by omega
    refine .bind' (.eq (ix_nat hi2) ?_)
    have hset : (u.l.set j (i2 : Int))[j]? = some (i2 : Int) := by
      rw [get_set, if_pos ⟨rfl, (List.getElem?_eq_some_iff.1 hi).1⟩]
    refine .bind' (.eq (ix_nat hset) (.pure ?_))
    obtain ⟨m', h1, h2, h3⟩ := hu.step hi hne' hi2 hrep
    exact ⟨m', h1, i2, rfl, hil2, hu.halve hi hne' hi2, h3.trans he, h2⟩
  · dsimp only at heq
    have : i = j := by omega
    subst this
    dsimp only
    rw [← he, hu.fix hj hi]
theorem join_ok {u : Arr Int 24} {d : Nat} {ρ : Nat → Nat} (h : Uni 24 u.l d ρ) (hd : d < 1000) {a b : Nat} (ha : a < 24) (hb : b < 24) :
    Ok (L.surge_union_join u (a : Int) (b : Int)) fun r => Uni 24 r.l (d + 1) fun x => if ρ x = ρ a then ρ b else ρ x := by
  unfold L.surge_union_join
  refine .bind (find_ok h hd ha) fun r1 h1 => .bind (find_ok h1.2 hd hb) fun r3 h3 => ?_
  rw [h1.1, h3.1]
  have hl := h3.2.len
  have := h.lt a ha
  refine .bind' (.ix (ρ a) rfl (by omega) (.pure ?_))
  exact h3.2.link ha hb
structure Ends (n : Network) : Prop where
  len : n.Segments.length ≤ 32
  ends : ∀ (k : Nat) (s : Segment), n.Segments[k]? = some s → 0 ≤ s.From ∧ s.From < 24 ∧ 0 ≤ s.To ∧ s.To < 24
theorem NetOk.ends {n : Network} (h : NetOk n) : Ends n := ⟨by have := h.segs1; omega, fun k s hs => by have := (h.segs k s hs).ends; have := h.nodes; omega⟩
def Fl (a b : Plan) (i : Nat) : Bool := a.Rates.getD i 0 != 0 || b.Rates.getD i 0 != 0
def fr (n : Network) (i : Nat) : Nat := match n.Segments[i]? with | some s => s.From.toNat | none => 0
def to (n : Network) (i : Nat) : Nat := match n.Segments[i]? with | some s => s.To.toNat | none => 0
def Rk (n : Network) (a b : Plan) (k x y : Nat) : Prop := ∃ i, i < k ∧ Fl a b i = true ∧ x = fr n i ∧ y = to n i
theorem flows_ok {a b : Plan} {k : Nat} (ha : k < a.Rates.length) (hb : k < b.Rates.length) : Ok (L.surge_groups_1 (k : Int) a b) fun r => r = Fl a b k := by
  have e1 : a.Rates.getD k 0 = a.Rates[k] := by simp [List.getD_eq_getElem?_getD, ha]
  have e2 : b.Rates.getD k 0 = b.Rates[k] := by simp [List.getD_eq_getElem?_getD, hb]
  unfold L.surge_groups_1 L.surge_groups_1.J1 Fl
  rw [e1, e2]
  refine .bind' (.ix k rfl ha (Ok.iteB (fun h => .pure ?_) fun h => .bind' (.ix k rfl hb (.pure ?_))))
  · dsimp only at h; rw [h]; rfl
  · dsimp only at h; rw [h]; rfl
def grp (n : Network) (a b : Plan) (ρ : Nat → Nat) (k r : Nat) : List Int := ((List.range k).filter fun i => Fl a b i && Nat.beq (ρ (fr n i)) r).map fun (i : Nat) => (i : Int)
theorem grp_succ (n : Network) (a b : Plan) (ρ : Nat → Nat) (k r : Nat) : grp n a b ρ (k + 1) r = grp n a b ρ k r ++ (if Fl a b k = true ∧ ρ (fr n k) = r then [(k : Int)] else []) := by
  unfold grp
  rw [List.range_succ, List.filter_append, List.map_append]
  congr 1
  by_cases h1 : Fl a b k = true
  · by_cases h2 : ρ (fr n k) = r
    · simp [h1, h2]
    · have : Nat.beq (ρ (fr n k)) r = false := by rw [Bool.eq_false_iff]; exact fun h => h2 (Nat.eq_of_beq_eq_true h)
      simp [h1, h2, this]
  · simp [h1]
structure Groups (n : Network) (a b : Plan) (out : List (List Int)) (ρ : Nat → Nat) (heads : List Nat) : Prop where
  conn : ∀ x y, ρ x = ρ y ↔ Conn (Rk n a b n.Segments.length) x y
  nodup : heads.Nodup
  mem : ∀ r, r ∈ heads ↔ ∃ i, i < n.Segments.length ∧ Fl a b i = true ∧ ρ (fr n i) = r
  out : out = heads.map (grp n a b ρ n.Segments.length)
theorem groups_ok {n : Network} (hn : Ends n) {a b : Plan} (ha : a.Rates.length = n.Segments.length) (hb : b.Rates.length = n.Segments.length) :
    Ok (L.surge_groups n a b) fun out => ∃ ρ heads, Groups n a b out ρ heads := by
  have hl := hn.len
  have frn : ∀ {k : Nat} {s : Segment}, n.Segments[k]? = some s → s.From = (fr n k : Int) ∧ s.To = (to n k : Int) ∧ fr n k < 24 ∧ to n k < 24 := by
    intro k s hs
    have := hn.ends k s hs
    unfold fr to
    rw [hs]
    dsimp only; omega
  unfold L.surge_groups
  refine .bind start_ok fun r7 h7 => ?_
  refine .bind (Q := fun u : Arr Int 24 => ∃ ρ, Uni 24 u.l 32 ρ ∧ ∀ x y, ρ x = ρ y ↔ Conn (Rk n a b n.Segments.length) x y) ?_ ?_
  · refine .forS (fun k (u : Arr Int 24) => ∃ ρ, Uni 24 u.l k ρ ∧ ∀ x y, ρ x = ρ y ↔ Conn (Rk n a b k) x y) ⟨_, h7, fun x y => ?_⟩ ?_ ?_
    · refine conn_id.trans ⟨fun c => c.mono fun _ _ h => h.elim, fun c => c.mono fun _ _ ⟨i, h, _⟩ => absurd h (Nat.not_lt_zero _)⟩
    · rintro k s u hs ⟨ρ, hu, hc⟩
      have hkl := (List.getElem?_eq_some_iff.1 hs).1
      obtain ⟨e1, e2, e3, e4⟩ := frn hs
      unfold L.surge_groups.B6
      refine .bind (flows_ok (by omega) (by omega)) ?_
      rintro _ rfl
      refine Ok.iteB (fun hf => ?_) fun hf => ?_
      · rw [e1, e2]
        refine .bind (join_ok hu (by omega) e3 e4) fun r hr => ?_
        unfold L.surge_groups.J7
        refine .pure ⟨_, hr, fun x y => (conn_link hc (fr n k) (to n k) x y).trans ⟨fun c => c.mono ?_, fun c => c.mono ?_⟩⟩
        · rintro p q (⟨i, hi, h⟩ | ⟨rfl, rfl⟩)
          · exact .edge ⟨i, by omega, h⟩
          · exact .edge ⟨k, by omega, hf, rfl, rfl⟩
        · rintro p q ⟨i, hi, h1, rfl, rfl⟩
          by_cases hik : i = k
          · subst hik; exact .edge (.inr ⟨rfl, rfl⟩)
          · exact .edge (.inl ⟨i, by omega, h1, rfl, rfl⟩)
      · unfold L.surge_groups.J7
        refine .pure ⟨ρ, ⟨hu.len, hu.lt, fun x hx => let ⟨m, h1, h2⟩ := hu.rep x hx; ⟨m, by omega, h2⟩⟩, fun x y => (hc x y).trans ⟨fun c => c.mono ?_, fun c => c.mono ?_⟩⟩
        · rintro p q ⟨i, hi, h⟩
          exact .edge ⟨i, by omega, h⟩
        · rintro p q ⟨i, hi, h1, h2⟩
          have : i ≠ k := by rintro rfl; rw [hf] at h1; cases h1
          exact .edge ⟨i, by omega, h1, h2⟩
    · rintro u ⟨ρ, hu, hc⟩
      exact ⟨ρ, ⟨hu.len, hu.lt, fun x hx => let ⟨m, h1, h2⟩ := hu.rep x hx; ⟨m, by omega, h2⟩⟩, hc⟩
  rintro u ⟨ρ, hu, hc⟩
  unfold L.surge_groups.J1
  refine .bind (Q := fun st : Arr Int 24 × List (List Int) × List Int => ∃ heads : List Nat, heads.Nodup ∧ (∀ r, r ∈ heads ↔ ∃ i, i < n.Segments.length ∧ Fl a b i = true ∧ ρ (fr n i) = r) ∧ st.2.1 = heads.map (grp n a b ρ n.Segments.length)) ?_ ?_
  · refine .forS (fun k (st : Arr Int 24 × List (List Int) × List Int) => Uni 24 st.1.l 32 ρ ∧ ∃ heads : List Nat, heads.length ≤ k ∧ heads.Nodup ∧ (∀ r, r ∈ heads ↔ ∃ i, i < k ∧ Fl a b i = true ∧ ρ (fr n i) = r) ∧ st.2.1 = heads.map (grp n a b ρ k) ∧ st.2.2 = heads.map fun (r : Nat) => (r : Int))
      ⟨hu, [], by simp, by simp, by simp, by simp, by simp⟩ ?_ fun st ⟨_, heads, _, h2, h3, h4, _⟩ => ⟨heads, h2, h3, h4⟩
    rintro k s ⟨u, out, hd⟩ hs ⟨hu, heads, i1, i2, i3, rfl, rfl⟩
    have hkl := (List.getElem?_eq_some_iff.1 hs).1
    obtain ⟨e1, e2, e3, e4⟩ := frn hs
    unfold L.surge_groups.B3
    refine .bind (flows_ok (by omega) (by omega)) ?_
    rintro _ rfl
    refine Ok.iteN (fun hf => ?_) fun hf => ?_
    · unfold L.surge_groups.J4
      refine .pure ⟨hu, heads, by omega, i2, fun r => (i3 r).trans ⟨?_, ?_⟩, ?_, rfl⟩
      · rintro ⟨i, hi, h⟩; exact ⟨i, by omega, h⟩
      · rintro ⟨i, hi, h1, h2⟩
        have : i ≠ k := by rintro rfl; rw [hf] at h1; cases h1
        exact ⟨i, by omega, h1, h2⟩
      · refine List.map_congr_left fun r _ => ?_
        rw [grp_succ]; simp [hf]
    · rw [e1]
      refine .bind (find_ok hu (by omega) e3) ?_
      rintro ⟨r, u'⟩ ⟨rfl, hu'⟩
      dsimp only at hu'
      refine .bind index_int_int fun ri hri => ?_
      have mem' : ∀ h : List Nat, (∀ r, r ∈ h ↔ r ∈ heads ∨ r = ρ (fr n k)) → ∀ r, r ∈ h ↔ ∃ i, i < k + 1 ∧ Fl a b i = true ∧ ρ (fr n i) = r := by
        intro h hh r
        rw [hh r, i3 r]
        constructor
        · rintro (⟨i, hi, h⟩ | rfl)
          · exact ⟨i, by omega, h⟩
          · exact ⟨k, by omega, hf, rfl⟩
        · rintro ⟨i, hi, h1, h2⟩
          by_cases hik : i = k
          · subst hik; exact .inr h2.symm
          · exact .inl ⟨i, by omega, h1, h2⟩
      rcases hri with ⟨rfl, hno⟩ | ⟨j, y, rfl, hj, hy, _⟩
      · -- a new group
        have hnot : ρ (fr n k) ∉ heads := by
          intro hm
          obtain ⟨j, hj⟩ := List.getElem?_of_mem hm
          have := hno j (ρ (fr n k)) (by dsimp only; rw [List.getElem?_map, hj]; rfl)
          simp at this
        refine Ok.iteD (fun _ => ?_) fun h => absurd (show (-1 : Int) < 0 by decide) h
        refine .bind' (.app (by simp; omega) (.bind' (.app (by simp; omega) ?_)))
        unfold L.surge_groups.J5
        dsimp only
        refine .bind' (.ix heads.length (by simp) (by simp) ?_)
        have e5 : (heads.map (grp n a b ρ k) ++ [[]])[heads.length]'(by simp) = ([] : List Int) := by simp
        dsimp only
        rw [e5]
        refine .bind' (.app (by simp) ?_)
        unfold L.surge_groups.J4
        refine .pure ⟨hu', heads ++ [ρ (fr n k)], by simp; omega, ?_, mem' _ (by simp), ?_, by simp⟩
        · exact List.nodup_append.2 ⟨i2, by simp, fun x hx y hy => by simp at hy; subst hy; exact fun h => hnot (h ▸ hx)⟩
        · have e6 : grp n a b ρ k (ρ (fr n k)) = [] := by
            unfold grp
            rw [List.map_eq_nil_iff, List.filter_eq_nil_iff]
            intro i hi hh
            simp only [List.mem_range] at hi
            simp only [Bool.and_eq_true] at hh
            exact hnot ((i3 _).2 ⟨i, hi, hh.1, Nat.eq_of_beq_eq_true hh.2⟩)
          dsimp only
          rw [List.set_append_right _ _ (by simp), List.map_append]
          simp only [List.length_map, Nat.sub_self, List.set_cons_zero, List.map_cons, List.map_nil, List.nil_append]
          congr 1
          · refine List.map_congr_left fun r hr => ?_
            rw [grp_succ, if_neg, List.append_nil]
            rintro ⟨_, rfl⟩; exact hnot hr
          · rw [grp_succ, if_pos ⟨hf, rfl⟩, e6]; rfl
      · -- an old one
        refine Ok.iteD (fun h => by omega) fun _ => ?_
        dsimp only at hj
        rw [List.getElem?_map] at hj
        obtain ⟨r, hr, rfl⟩ := Option.map_eq_some_iff.1 hj
        have hrk : ρ (fr n k) = r := by simp at hy; omega
        subst hrk
        have hjl := (List.getElem?_eq_some_iff.1 hr).1
        unfold L.surge_groups.J5
        dsimp only
        have hg : (heads.map (grp n a b ρ k))[j]? = some (grp n a b ρ k (ρ (fr n k))) := by rw [List.getElem?_map, hr]; rfl
        refine .bind' (.eq (ix_nat hg) ?_)
        have hgl : (grp n a b ρ k (ρ (fr n k))).length ≤ k := by
          unfold grp
          rw [List.length_map]
          exact Nat.le_trans (List.length_filter_le _ _) (by simp)
        refine .bind' (.app (by simp; omega) ?_)
        unfold L.surge_groups.J4
        have hmem : ρ (fr n k) ∈ heads := List.mem_of_getElem? hr
        refine .pure ⟨hu', heads, by omega, i2, mem' _ (fun r => ⟨.inl, fun h => h.elim id fun h => h ▸ hmem⟩), ?_, rfl⟩
        dsimp only
        refine List.ext_getElem? fun i => ?_
        rw [get_set, List.getElem?_map, List.getElem?_map]
        by_cases hij : j = i
        · subst hij
          rw [if_pos ⟨rfl, by simpa using hjl⟩, hr]
          simp only [Option.map_some, Option.some.injEq]
          rw [grp_succ, if_pos ⟨hf, rfl⟩]
        · rw [if_neg (fun h => hij h.1)]
          cases hi : heads[i]? with
          | none => rfl
          | some r =>
            simp only [Option.map_some, Option.some.injEq]
            rw [grp_succ, if_neg, List.append_nil]
            rintro ⟨_, rfl⟩
            exact hij ((List.getElem?_inj hjl i2).1 (hr.trans hi.symm))
  · rintro ⟨u, out, hd⟩ ⟨heads, h1, h2, h3⟩
    unfold L.surge_groups.J2
    exact .pure ⟨ρ, heads, hc, h1, h2, h3⟩
set_option linter.unusedVariables false
set_option linter.unusedSimpArgs false
open Go.Aw
theorem awake22 : L.law22_awake = some true := by kernel_rfl
theorem mem_grp {n : Network} {a b : Plan} {ρ : Nat → Nat} {k r : Nat} {x : Int} : x ∈ grp n a b ρ k r ↔ ∃ i : Nat, x = (i : Int) ∧ i < k ∧ Fl a b i = true ∧ ρ (fr n i) = r := by
  unfold grp
  simp only [List.mem_map, List.mem_filter, List.mem_range, Bool.and_eq_true]
  constructor
  · rintro ⟨i, ⟨h1, h2, h3⟩, rfl⟩
    exact ⟨i, rfl, h1, h2, Nat.eq_of_beq_eq_true h3⟩
  · rintro ⟨i, rfl, h1, h2, rfl⟩
    exact ⟨i, ⟨h1, h2, by simp⟩, rfl⟩
set_option linter.unusedVariables false
set_option linter.unusedSimpArgs false
open Go.Aw
def wave (n : Network) (i : Nat) : Int := match n.Segments[i]? with | some s => s.Wave | none => 0
def rt (a : Plan) (i : Nat) : Int := a.Rates.getD i 0
def wv (n : Network) (a b : Plan) (i : Nat) : Int := wave n i * max (rt b i - rt a i) (rt a i - rt b i)
def sumw (f : Nat → Int) : List Int → Int
  | [] => 0
  | x :: l => f x.toNat + sumw f l
theorem sumw_append (f : Nat → Int) : ∀ l m : List Int, sumw f (l ++ m) = sumw f l + sumw f m
  | [], m => by simp [sumw]
  | x :: l, m => by simp only [List.cons_append, sumw, sumw_append f l m]; omega
theorem sumw_take (f : Nat → Int) {l : List Int} {k : Nat} {x : Int} (h : l[k]? = some x) : sumw f (l.take (k + 1)) = sumw f (l.take k) + f x.toNat := by
  rw [List.take_add_one, h, sumw_append]; simp [sumw]
theorem sumw_bnd {f : Nat → Int} {b : Int} : ∀ {l : List Int}, (∀ x, x ∈ l → 0 ≤ f x.toNat ∧ f x.toNat ≤ b) → 0 ≤ sumw f l ∧ sumw f l ≤ b * l.length
  | [], _ => by simp [sumw]
  | x :: l, h => by
    have := h x (by simp)
    have := sumw_bnd (l := l) (b := b) fun y hy => h y (by simp [hy])
    simp only [sumw, List.length_cons]
    have e : b * ((l.length + 1 : Nat) : Int) = b * l.length + b := by rw [show ((l.length + 1 : Nat) : Int) = (l.length : Int) + 1 by omega, Int.mul_add, Int.mul_one]
    rw [e]; omega
theorem grp_len {n : Network} {a b : Plan} {ρ : Nat → Nat} {k r : Nat} : (grp n a b ρ k r).length ≤ k := by
  unfold grp
  rw [List.length_map]
  exact Nat.le_trans (List.length_filter_le _ _) (by simp)
structure RiseIn (n : Network) (a b : Plan) : Prop where
  net : Ends n
  al : a.Rates.length = n.Segments.length
  bl : b.Rates.length = n.Segments.length
  wave : ∀ (k : Nat) (s : Segment), n.Segments[k]? = some s → 0 ≤ s.Wave ∧ s.Wave ≤ 100000
  ar : ∀ (k : Nat) (r : Int), a.Rates[k]? = some r → -1000 ≤ r ∧ r ≤ 1000
  br : ∀ (k : Nat) (r : Int), b.Rates[k]? = some r → -1000 ≤ r ∧ r ≤ 1000
structure RiseIs (n : Network) (a b : Plan) (st : List Int) (ρ : Nat → Nat) : Prop where
  len : st.length = n.Segments.length
  conn : ∀ x y, ρ x = ρ y ↔ Conn (Rk n a b n.Segments.length) x y
  is : ∀ (i : Nat) (v : Int), st[i]? = some v → v = if Fl a b i = true then sumw (wv n a b) (grp n a b ρ n.Segments.length (ρ (fr n i))) else 0
def RMark (n : Network) (a b : Plan) (ρ : Nat → Nat) (heads : List Nat) (g i : Nat) (v : Int) : Prop :=
  (v = 0 ∧ ∀ (j r : Nat), j < g → heads[j]? = some r → ¬ (Fl a b i = true ∧ ρ (fr n i) = r)) ∨ ∃ (j r : Nat), j < g ∧ heads[j]? = some r ∧ (Fl a b i = true ∧ ρ (fr n i) = r) ∧ v = sumw (wv n a b) (grp n a b ρ n.Segments.length r)
theorem wv_bnd {n : Network} {a b : Plan} (h : RiseIn n a b) {i : Nat} (hi : i < n.Segments.length) : 0 ≤ wv n a b i ∧ wv n a b i ≤ 200000000 := by
  have hs : n.Segments[i]? = some n.Segments[i] := List.getElem?_eq_getElem hi
  have ha : a.Rates[i]? = some (a.Rates[i]'(by rw [h.al]; exact hi)) := List.getElem?_eq_getElem _
  have hb : b.Rates[i]? = some (b.Rates[i]'(by rw [h.bl]; exact hi)) := List.getElem?_eq_getElem _
  have h1 := h.wave i _ hs; have h2 := h.ar i _ ha; have h3 := h.br i _ hb
  unfold wv wave rt
  rw [hs, List.getD_eq_getElem?_getD, List.getD_eq_getElem?_getD, ha, hb]
  dsimp only [Option.getD_some]
  have hm : 0 ≤ max ((b.Rates[i]'(by rw [h.bl]; exact hi)) - (a.Rates[i]'(by rw [h.al]; exact hi))) ((a.Rates[i]'(by rw [h.al]; exact hi)) - (b.Rates[i]'(by rw [h.bl]; exact hi))) ∧ max ((b.Rates[i]'(by rw [h.bl]; exact hi)) - (a.Rates[i]'(by rw [h.al]; exact hi))) ((a.Rates[i]'(by rw [h.al]; exact hi)) - (b.Rates[i]'(by rw [h.bl]; exact hi))) ≤ 2000 := by omega
  refine ⟨Int.mul_nonneg h1.1 hm.1, ?_⟩
  have := Int.mul_le_mul h1.2 hm.2 hm.1 (by omega : (0 : Int) ≤ 100000)
  omega
theorem wv_at {n : Network} {a b : Plan} (h : RiseIn n a b) {i : Nat} {s : Segment} {x y : Int} (hs : n.Segments[i]? = some s) (ha : a.Rates[i]? = some x) (hb : b.Rates[i]? = some y) : wv n a b i = s.Wave * max (y - x) (x - y) := by
  unfold wv wave rt
  rw [hs, List.getD_eq_getElem?_getD, List.getD_eq_getElem?_getD, ha, hb]
  rfl
theorem rise_ok {n : Network} {a b : Plan} (h : RiseIn n a b) : Ok (L.surge_rise n a b) fun st => ∃ ρ, RiseIs n a b st ρ := by
  have hl := h.net.len; have hal := h.al; have hbl := h.bl
  unfold L.surge_rise
  refine .bind' (.mk n.Segments.length rfl (by omega) ?_)
  refine .bind (groups_ok h.net h.al h.bl) ?_
  rintro out ⟨ρ, heads, hg⟩
  refine .bind (.forS (fun g (st : List Int) => st.length = n.Segments.length ∧ ∀ (i : Nat) (v : Int), st[i]? = some v → RMark n a b ρ heads g i v) ⟨by simp, fun i v hv => ?_⟩ ?_ fun st h => h) ?_
  · rw [List.getElem?_replicate] at hv
    split at hv
    · simp at hv; exact .inl ⟨hv.symm, fun j r hj => absurd hj (Nat.not_lt_zero _)⟩
    · cases hv
  · rintro g l st hgo ⟨i1, i2⟩
    rw [hg.out, List.getElem?_map] at hgo
    obtain ⟨r, hr, rfl⟩ := Option.map_eq_some_iff.1 hgo
    unfold L.surge_rise.B2
    have hbnd : ∀ x, x ∈ grp n a b ρ n.Segments.length r → 0 ≤ wv n a b x.toNat ∧ wv n a b x.toNat ≤ 200000000 := fun x hx => by
      obtain ⟨i, rfl, hi, _⟩ := mem_grp.1 hx
      exact wv_bnd h hi
    refine .bind (Q := fun s => s = sumw (wv n a b) (grp n a b ρ n.Segments.length r)) ?_ ?_
    · refine .forS (fun k s => s = sumw (wv n a b) ((grp n a b ρ n.Segments.length r).take k)) (by simp [sumw]) ?_ fun s hs => by rw [hs, List.take_of_length_le (Nat.le_refl _)]
      rintro k x _ hx rfl
      have hm := List.mem_of_getElem? hx
      have hkl := (List.getElem?_eq_some_iff.1 hx).1
      have hgl := grp_len (n := n) (a := a) (b := b) (ρ := ρ) (k := n.Segments.length) (r := r)
      obtain ⟨i, rfl, hi, _⟩ := mem_grp.1 hm
      have hs : n.Segments[i]? = some n.Segments[i] := List.getElem?_eq_getElem hi
      have ha : a.Rates[i]? = some (a.Rates[i]'(by omega)) := List.getElem?_eq_getElem _
      have hb : b.Rates[i]? = some (b.Rates[i]'(by omega)) := List.getElem?_eq_getElem _
      have h2 := h.ar i _ ha; have h3 := h.br i _ hb
      have hw := wv_at h hs ha hb
      have hwb := wv_bnd h hi
      have hsb := sumw_bnd (f := wv n a b) (b := 200000000) (l := (grp n a b ρ n.Segments.length r).take k) fun x hx => hbnd x (List.mem_of_mem_take hx)
      rw [List.length_take] at hsb
      unfold L.surge_rise.B6
      refine .bind' (.eq (ix_nat hb) (.bind' (.eq (ix_nat ha) (.bind' (.eq (ix_nat hs) (.pure ?_))))))
      rw [sumw_take _ hx]
      dsimp only
      generalize hA : a.Rates[i]'(by omega) = x at *
      generalize hB : b.Rates[i]'(by omega) = y at *
      have e : max (wr (y - x)) (wr (0 - wr (y - x))) = max (y - x) (x - y) := by
        rw [wr_id (x := y - x) (by omega), wr_id (by omega)]; omega
      rw [e, ← hw, wr_id (x := wv n a b i) (by omega), wr_id (by omega)]; rfl
    rintro _ rfl
    unfold L.surge_rise.J4
    refine .bind (Q := fun st : List Int => st.length = n.Segments.length ∧ ∀ (i : Nat) (v : Int), st[i]? = some v → RMark n a b ρ heads (g + 1) i v) ?_ fun st hst => by unfold L.surge_rise.J3; exact .pure hst
    refine .forS (fun t (st : List Int) => st.length = n.Segments.length ∧ ∀ (i : Nat) (v : Int), st[i]? = some v → ((i : Int) ∈ (grp n a b ρ n.Segments.length r).take t → v = sumw (wv n a b) (grp n a b ρ n.Segments.length r)) ∧ ((i : Int) ∉ (grp n a b ρ n.Segments.length r).take t → RMark n a b ρ heads g i v)) ⟨i1, fun i v hv => ⟨by simp, fun _ => i2 i v hv⟩⟩ ?_ ?_
    · rintro t x st hx ⟨j1, j2⟩
      obtain ⟨i, rfl, hi, hfi, hri⟩ := mem_grp.1 (List.mem_of_getElem? hx)
      have hil : i < st.length := by omega
      unfold L.surge_rise.B5
      refine .bind' (.ix i rfl hil (.pure ⟨by simp [j1], fun i' v hv' => ?_⟩))
      dsimp only at hv'
      rw [get_set] at hv'
      rw [List.take_add_one, hx]
      split at hv'
      · rename_i h
        obtain ⟨rfl, _⟩ := h
        simp at hv'
        exact ⟨fun _ => hv'.symm, fun h => by simp at h⟩
      · rename_i h
        have hne : i ≠ i' := fun he => h ⟨he, by rw [← he]; exact hil⟩
        have := j2 i' v hv'
        refine ⟨fun h => this.1 ?_, fun h => this.2 fun h' => h (List.mem_append_left _ h')⟩
        rcases List.mem_append.1 h with h | h
        · exact h
        · simp at h; omega
    · rintro st ⟨j1, j2⟩
      refine ⟨j1, fun i v hv => ?_⟩
      have := j2 i v hv
      rw [List.take_of_length_le (Nat.le_refl _)] at this
      by_cases hin : (i : Int) ∈ grp n a b ρ n.Segments.length r
      · obtain ⟨i', hii, _, h1, h2⟩ := mem_grp.1 hin
        have : i' = i := by omega
        subst this
        exact .inr ⟨g, r, by omega, hr, ⟨h1, h2⟩, (this.1 hin)⟩
      · rcases this.2 hin with ⟨h1, h2⟩ | ⟨j, r', h1, h2⟩
        · refine .inl ⟨h1, fun j r' hj hr' hh => ?_⟩
          by_cases hjg : j = g
          · subst hjg
            rw [hr] at hr'; simp at hr'; subst hr'
            exact hin (mem_grp.2 ⟨i, rfl, by have := (List.getElem?_eq_some_iff.1 hv).1; omega, hh⟩)
          · exact h2 j r' (by omega) hr' hh
        · exact .inr ⟨j, r', by omega, h2⟩
  · rintro st ⟨i1, i2⟩
    unfold L.surge_rise.J1
    have hol : out.length = heads.length := by rw [hg.out]; simp
    rw [hol] at i2
    refine .pure ⟨ρ, i1, hg.conn, fun i v hv => ?_⟩
    have hil := (List.getElem?_eq_some_iff.1 hv).1
    rcases i2 i v hv with ⟨rfl, h⟩ | ⟨j, r, h1, h2, ⟨h3, h4⟩, rfl⟩
    · rw [if_neg]
      intro hf
      obtain ⟨j, hj⟩ := List.getElem?_of_mem ((hg.mem (ρ (fr n i))).2 ⟨i, by omega, hf, rfl⟩)
      exact absurd ⟨hf, rfl⟩ (h j _ (List.getElem?_eq_some_iff.1 hj).1 hj)
    · rw [if_pos h3, h4]
theorem riseInF {n : Network} (hn : NetOk n) {a b : Plan} (ha : FlowOk n a) (hb : FlowOk n b) : RiseIn n a b := by
  have hr : ∀ {p : Plan}, FlowOk n p → ∀ (k : Nat) (r : Int), p.Rates[k]? = some r → -1000 ≤ r ∧ r ≤ 1000 := fun {p} hp k r hk => by
    have hkl := (List.getElem?_eq_some_iff.1 hk).1
    have hs : n.Segments[k]? = some (n.Segments[k]'(by rw [← hp.rl]; exact hkl)) := List.getElem?_eq_getElem _
    have := hp.rng k r _ hk hs
    omega
  exact ⟨hn.ends, ha.rl, hb.rl, fun k s hs => (hn.segs k s hs).wave, hr ha, hr hb⟩
theorem riseIn {n : Network} (hn : NetOk n) {a b : Plan} (ha : PlanOk n a) (hb : PlanOk n b) : RiseIn n a b := riseInF hn ha.flow hb.flow
set_option linter.unusedVariables false
set_option linter.unusedSimpArgs false
open Go.Aw
theorem rise_ex {n : Network} {a b : Plan} (hn : NetOk n) (ha : PlanOk n a) (hb : PlanOk n b) : ∃ r, L.surge_rise n a b = some r ∧ ExOk n r := by
  have hi := riseIn hn ha hb
  have hs1 := hn.segs1
  obtain ⟨r, h, ρ, hr⟩ := rise_ok hi
  refine ⟨r, h, hr.len, fun x hx => ?_⟩
  obtain ⟨i, hxi⟩ := List.getElem?_of_mem hx
  have hv := hr.is i x hxi
  have hbnd := sumw_bnd (f := wv n a b) (b := 200000000) (l := grp n a b ρ n.Segments.length (ρ (fr n i))) fun y hy => by
    obtain ⟨j, rfl, hj, _⟩ := mem_grp.1 hy
    exact wv_bnd hi hj
  have hgl := grp_len (n := n) (a := a) (b := b) (ρ := ρ) (k := n.Segments.length) (r := ρ (fr n i))
  split at hv
  · rw [hv]; omega
  · omega
theorem surge_one {n : Network} (hn : NetOk n) {cs : List Change} (hcl : cs.length ≤ 1000) {k : Nat} {a c : Change} (ha : cs[k]? = some a) (hc : cs[k + 1]? = some c) (hpa : PlanOk n a.Plan) (hpc : PlanOk n c.Plan)
    (ht : ∀ (j : Nat) (x : Change), 1 ≤ j → j < k + 1 → cs[j]? = some x → n.Settle < c.Tick - x.Tick ∧ c.Tick - x.Tick ≤ 1099511627776) : L.surge_surge n cs ((k + 1 : Nat) : Int) = L.surge_rise n a.Plan c.Plan := by
  obtain ⟨r, hr, hre⟩ := rise_ex hn hpa hpc
  have hs1 := hn.segs1; have hse := hn.settle
  have hrl := hre.len
  have hk := (List.getElem?_eq_some_iff.1 hc).1
  rw [hr]
  have : Ok (L.surge_surge n cs ((k + 1 : Nat) : Int)) fun q => q = r := by
    unfold L.surge_surge
    refine .bind' (.mk n.Segments.length rfl (by omega) (.bind (Q := fun d : List Int => d = r) ?_ (by rintro _ rfl; unfold L.surge_surge.J1; exact .pure rfl)))
    refine .loop (fun st : List Int × Int => ∃ m : Nat, st.2 = (m : Int) ∧ 1 ≤ m ∧ m ≤ k + 2 ∧ st.1 = if m ≤ k + 1 then List.replicate n.Segments.length (0 : Int) else r) (fun st => k + 2 - st.2.toNat) ⟨1, rfl, by omega, by omega, by rw [if_pos (by omega)]⟩ (by dsimp only; omega) ?_
    rintro ⟨out, j⟩ ⟨m, e1, e2, e3, e4⟩
    dsimp only at e1 e4
    subst e1
    unfold L.surge_surge.B2
    dsimp only
    refine Ok.iteD (fun hle => ?_) fun hn' => .pure ?_
    · have hmk : m ≤ k + 1 := by omega
      rw [if_pos hmk] at e4
      have hx : cs[m]? = some (cs[m]'(by omega)) := List.getElem?_eq_getElem _
      refine .bind' (.eq (ix_nat hc) (.bind' (.eq (ix_nat hx) ?_)))
      dsimp only
      by_cases hm : m = k + 1
      · subst hm
        rw [hc] at hx
        rw [← Option.some.inj hx, Int.sub_self, wr_id (x := (0 : Int)) (by decide)]
        refine Ok.iteD (fun h => by omega) fun _ => ?_
        rw [wr_id (by omega), show ((k + 1 : Nat) : Int) - 1 = (k : Int) by omega]
        refine .bind' (.eq (ix_nat ha) (.bind' (.eq hr ?_)))
        subst e4
        refine .bind (Q := fun q : List Int => q = r) ?_ ?_
        · refine .forJ (fun i (q : List Int) => q.length = n.Segments.length ∧ ∀ t : Nat, t < n.Segments.length → q[t]? = if t < i then r[t]? else some 0) ⟨by simp, fun t ht => by rw [if_neg (Nat.not_lt_zero _), List.getElem?_replicate, if_pos ht]⟩ ?_ ?_
          · rintro i q hi ⟨q1, q2⟩
            have hri : r[i]? = some (r[i]'hi) := List.getElem?_eq_getElem _
            have hqi : q[i]? = some 0 := by rw [q2 i (by omega), if_neg (by omega)]
            have hrb := hre.all _ (List.mem_of_getElem? hri)
            unfold L.surge_surge.B4
            refine .bind' (.eq (ix_nat hri) (.bind' (.eq (ix_nat hqi) (.pure ⟨by simp [q1], fun t ht => ?_⟩))))
            dsimp only
            rw [Int.zero_add, wr_id (by omega)]
            by_cases hti : t = i
            · subst hti
              rw [List.getElem?_set_self (by omega), if_pos (by omega), hri]
            · rw [List.getElem?_set_ne (by omega), q2 t ht]
              by_cases h3 : t < i
              · rw [if_pos h3, if_pos (by omega)]
              · rw [if_neg h3, if_neg (by omega)]
          · rintro q ⟨q1, q2⟩
            apply List.ext_getElem?
            intro t
            by_cases ht : t < n.Segments.length
            · rw [q2 t ht, if_pos (by omega)]
            · rw [List.getElem?_eq_none (by omega), List.getElem?_eq_none (by omega)]
        · rintro _ rfl
          unfold L.surge_surge.J3
          refine .pure ⟨⟨k + 2, ?_, by omega, by omega, by dsimp only; rw [if_neg (by omega)]⟩, ?_⟩
          · dsimp only; rw [wr_id (by omega)]; omega
          · dsimp only; rw [wr_id (by omega)]; omega
      · have := ht m _ (by omega) (by omega) hx
        rw [wr_id (by omega)]
        refine Ok.iteD (fun _ => ?_) fun h => by omega
        unfold L.surge_surge.J3
        refine .pure ⟨⟨m + 1, ?_, by omega, by omega, by dsimp only; rw [if_pos (by omega)]; exact e4⟩, ?_⟩
        · dsimp only; rw [wr_id (by omega)]; omega
        · dsimp only; rw [wr_id (by omega)]; omega
    · simp only [Sum.elim_inr]
      rw [e4, if_neg (by omega)]
  obtain ⟨q, h, rfl⟩ := this
  exact h
theorem ordered_ok {cs : List Change} (hl : 1 ≤ cs.length ∧ cs.length ≤ 40) (h0 : ∀ c, cs[0]? = some c → c.Tick = 0) (hup : ∀ (i : Nat) (a c : Change), cs[i]? = some a → cs[i + 1]? = some c → a.Tick < c.Tick) (hm : ∀ c, c ∈ cs → c.Tick ≤ 1099511627776) : L.surge_ordered cs = some 0 := by
  have : Ok (L.surge_ordered cs) fun r => r = 0 := by
    unfold L.surge_ordered
    refine Ok.iteB (fun h => ?_) fun _ => .bind' (.forL (fun _ _ => True) (fun _ => False) trivial ?_ (fun _ _ => .pure rfl) fun _ h => h.elim)
    · simp only [Bool.or_eq_true, beq_iff_eq, decide_eq_true_eq] at h; omega
    intro k c _ hc _
    have hb := hm c (List.mem_of_getElem? hc)
    have hk := (List.getElem?_eq_some_iff.1 hc).1
    have no : Ok (L.surge_ordered.J3 (decide (c.Tick > 1099511627776))) (Sum.elim (fun _ : Unit => True) fun _ : Int => False) := by
      rw [show decide (c.Tick > 1099511627776) = false by simp; omega]
      unfold L.surge_ordered.J3
      exact Ok.iteB (fun h => by cases h) fun _ => .pure trivial
    have prev : 0 < k → Ok (Option.bind (ix cs (wr ((k : Int) - 1))) fun p118 => if decide (c.Tick ≤ p118.2.Tick) = true then L.surge_ordered.J3 true else L.surge_ordered.J3 (decide (c.Tick > 1099511627776))) (Sum.elim (fun _ : Unit => True) fun _ : Int => False) := by
      intro hk0
      have ha : cs[k - 1]? = some (cs[k - 1]'(by omega)) := List.getElem?_eq_getElem _
      have := hup (k - 1) _ c ha (by rw [show k - 1 + 1 = k by omega]; exact hc)
      rw [wr_id (by omega), show (k : Int) - 1 = ((k - 1 : Nat) : Int) by omega]
      exact .bind' (.eq (ix_nat ha) (Ok.iteD (fun h => by dsimp only at h; omega) fun _ => no))
    unfold L.surge_ordered.B2
    refine Ok.iteE (fun h => ?_) fun h => Ok.iteD (fun _ => prev (by omega)) fun _ => no
    have : k = 0 := by omega
    subst this
    exact Ok.iteU (fun h1 => absurd (h0 c hc) h1) fun _ => Ok.iteD (fun h => by omega) fun _ => no
  obtain ⟨r, h, rfl⟩ := this
  exact h
section
variable (n : Network) (b : List Batch) (pr : List Product) (f : List (List Piece))
def Brk (p : Plan) (e : List Int) : Prop := ∃ x, L.steady_Solve n b pr f p = some (x, 0) ∧ Broken n p x e
def zeros : List Int := List.replicate n.Segments.length 0
def Good (cs : List Change) : Prop :=
  (∀ c, cs[0]? = some c → ¬ Brk n b pr f c.Plan (zeros n)) ∧ ∀ (k : Nat) (a c : Change) (r : List Int), cs[k]? = some a → cs[k + 1]? = some c → L.surge_rise n a.Plan c.Plan = some r → ¬ Brk n b pr f a.Plan r ∧ ¬ Brk n b pr f c.Plan r
end
theorem zeros_ok (n : Network) : ExOk n (zeros n) := ⟨by simp [zeros], fun x hx => by have := List.eq_of_mem_replicate hx; omega⟩
set_option maxHeartbeats 2000000 in
theorem safe_ok {n : Network} {b : List Batch} {pr : List Product} {f : List (List Piece)} (hw : W21 n b pr f) {cs : List Change} (hl : 1 ≤ cs.length ∧ cs.length ≤ 40) (hord : L.surge_ordered cs = some 0) (hp : ∀ c, c ∈ cs → PlanOk n c.Plan)
    (hsu : ∀ (k : Nat) (a c : Change), cs[k]? = some a → cs[k + 1]? = some c → L.surge_surge n cs ((k + 1 : Nat) : Int) = L.surge_rise n a.Plan c.Plan) :
    Ok (L.surge_Safe n b pr f cs) fun r => (r.2 = 0 ∧ Good n b pr f cs) ∨ (r.2 = 15 ∧ ¬ Good n b pr f cs) := by
  have hn := hw.net
  have hs1 := hn.segs1
  unfold L.surge_Safe
  refine .bind' (.eq hord (Ok.iteU (fun h => absurd rfl h) fun _ => .bind' (.forL (fun _ _ => True) (fun _ => False) trivial ?_ ?_ fun _ h => h.elim)))
  · intro k c _ hc _
    unfold L.surge_Safe.B10
    exact .bind' (.eq (flowCheck hn (hp c (List.mem_of_getElem? hc))) (Ok.iteU (fun h => absurd rfl h) fun _ => .pure trivial))
  intro _ _
  simp only [Sum.elim_inl]
  unfold L.surge_Safe.J1
  refine .bind' (.forL (fun k (st : List Pressures) => st.length = k ∧ ∀ (j : Nat) (x : Pressures) (c : Change), st[j]? = some x → cs[j]? = some c → L.steady_Solve n b pr f c.Plan = some (x, 0) ∧ Inv n 400000000000 x.Known x.Nodes x.Segments) (fun _ => False) ⟨rfl, by simp⟩ ?_ ?_ fun _ h => h.elim)
  · rintro k c st hc ⟨i1, i2⟩
    have hk := (List.getElem?_eq_some_iff.1 hc).1
    obtain ⟨x, hx1, hx2⟩ := solve_ok hw (hp c (List.mem_of_getElem? hc)).flow
    unfold L.surge_Safe.B9
    refine .bind' (.eq hx1 (Ok.iteU (fun h => absurd rfl h) fun _ => .bind' (.app (by simp; omega) (.pure ⟨by simp [i1], fun j y d hy hd => ?_⟩))))
    rw [List.getElem?_append] at hy
    split at hy
    · exact i2 j y d hy hd
    · have := (List.getElem?_eq_some_iff.1 hy).1
      simp at this
      have : j = st.length := by omega
      subst this
      subst i1
      rw [hc] at hd; cases hd
      simp at hy; subst hy
      exact ⟨hx1, hx2⟩
  rintro X ⟨hXl, hX⟩
  simp only [Sum.elim_inl]
  have look : ∀ (k : Nat) (c : Change) (x : Pressures) (e : List Int), cs[k]? = some c → X[k]? = some x → ExOk n e → Ok (L.steady_Break n x c.Plan e) fun r => (r.2 = true ↔ Brk n b pr f c.Plan e) := by
    intro k c x e hc hx he
    obtain ⟨h1, h2⟩ := hX k x c hx hc
    refine (break_ok hn (hp c (List.mem_of_getElem? hc)).ml h2 he).mono fun r hr => hr.trans ⟨fun h => ⟨x, h1, h⟩, ?_⟩
    rintro ⟨x', h, h'⟩
    rw [h1] at h; cases h; exact h'
  have hc0 : cs[0]? = some (cs[0]'(by omega)) := List.getElem?_eq_getElem _
  have hx0 : X[0]? = some (X[0]'(by omega)) := List.getElem?_eq_getElem _
  have hc0' : ix cs 0 = some (0, cs[0]'(by omega)) := ix_nat hc0
  have hx0' : ix X 0 = some (0, X[0]'(by omega)) := ix_nat hx0
  unfold L.surge_Safe.J2
  rw [hc0', hx0']
  refine .bind' (.pure (.bind' (.pure (.bind' (.mk n.Segments.length rfl (by omega) (.bind (look 0 _ _ _ hc0 hx0 (zeros_ok n)) ?_))))))
  rintro ⟨⟨fk, fi, fa⟩, found⟩ hf
  dsimp only at hf ⊢
  unfold L.surge_Safe.J3
  dsimp only
  refine Ok.iteB (fun hfo => .pure (.inr ⟨rfl, fun hg => hg.1 _ hc0 (hf.1 hfo)⟩)) fun hfo => ?_
  have hb0 : ¬ Brk n b pr f (cs[0]'(by omega)).Plan (zeros n) := fun h => by rw [hf.2 h] at hfo; cases hfo
  refine .bind (Q := Sum.elim (fun d : Fault × Int => d.2 = 15 ∧ ¬ Good n b pr f cs) fun _ : Unit => Good n b pr f cs) ?_ ?_
  · refine .loop (fun st : Int => ∃ k : Nat, st = ((k + 1 : Nat) : Int) ∧ k + 1 ≤ cs.length ∧ ∀ (j : Nat) (a c : Change) (r : List Int), j < k → cs[j]? = some a → cs[j + 1]? = some c → L.surge_rise n a.Plan c.Plan = some r → ¬ Brk n b pr f a.Plan r ∧ ¬ Brk n b pr f c.Plan r) (fun st => cs.length - st.toNat)
      ⟨0, rfl, by omega, fun j a c r h => absurd h (Nat.not_lt_zero _)⟩ (by omega) ?_
    rintro _ ⟨k, rfl, hk, hJ⟩
    unfold L.surge_Safe.B5
    refine Ok.iteD (fun hlt => ?_) fun hge => .pure ⟨fun c hc => ?_, fun j a c r ha hc hr => hJ j a c r ?_ ha hc hr⟩
    · obtain ⟨A, ha⟩ : ∃ A, cs[k]? = some A := ⟨_, List.getElem?_eq_getElem (by omega)⟩
      obtain ⟨C, hc⟩ : ∃ C, cs[k + 1]? = some C := ⟨_, List.getElem?_eq_getElem (by omega)⟩
      obtain ⟨xa, hxa⟩ : ∃ x, X[k]? = some x := ⟨_, List.getElem?_eq_getElem (by omega)⟩
      obtain ⟨xc, hxc⟩ : ∃ x, X[k + 1]? = some x := ⟨_, List.getElem?_eq_getElem (by omega)⟩
      obtain ⟨r, hr, hre⟩ := rise_ex hn (hp _ (List.mem_of_getElem? ha)) (hp _ (List.mem_of_getElem? hc))
      have ecl : L.slices_Clone_int_int r = some r := by
        unfold L.slices_Clone_int_int
        rw [app?_eq (by have := hre.len; simp; omega)]; rfl
      rw [hsu k _ _ ha hc]
      refine .bind' (.eq hr (.bind' (.eq ecl ?_)))
      rw [wr_id (x := ((k + 1 : Nat) : Int) - 1) (by omega), show ((k + 1 : Nat) : Int) - 1 = (k : Int) by omega]
      refine .bind (Q := Sum.elim (fun _ : Unit => ¬ Brk n b pr f A.Plan r ∧ ¬ Brk n b pr f C.Plan r) fun d : Fault × Int => d.2 = 15 ∧ ¬ Good n b pr f cs)
        (.forI (fun i _ => (1 ≤ i → ¬ Brk n b pr f A.Plan r) ∧ (2 ≤ i → ¬ Brk n b pr f C.Plan r)) (fun d => d.2 = 15 ∧ ¬ Good n b pr f cs) ⟨fun h => by omega, fun h => by omega⟩ ?_ ?_ fun _ h => h) ?_
      · rintro i _ hi ⟨q1, q2⟩
        simp only [List.length_cons, List.length_nil] at hi
        have j8 : ∀ (c : Change) (t : Fault × Bool), (t.2 = true ↔ Brk n b pr f c.Plan r) → (c = A ∧ i = 0 ∨ c = C ∧ i = 1) → Ok (L.surge_Safe.J8 (t.1.Kind, t.1.Index, t.1.At, t.2)) (Sum.elim (fun _ : Unit => (1 ≤ i + 1 → ¬ Brk n b pr f A.Plan r) ∧ (2 ≤ i + 1 → ¬ Brk n b pr f C.Plan r)) fun d : Fault × Int => d.2 = 15 ∧ ¬ Good n b pr f cs) := by
          intro c t ht hci
          unfold L.surge_Safe.J8
          refine Ok.iteB (fun h => .pure ⟨rfl, fun hg => ?_⟩) fun h => .pure ?_
          · have hbr := ht.1 h
            rcases hci with ⟨rfl, _⟩ | ⟨rfl, _⟩
            · exact (hg.2 k _ _ r ha hc hr).1 hbr
            · exact (hg.2 k _ _ r ha hc hr).2 hbr
          · have hnb : ¬ Brk n b pr f c.Plan r := fun hb => by have := ht.2 hb; dsimp only at h; rw [this] at h; cases h
            rcases hci with ⟨rfl, rfl⟩ | ⟨rfl, rfl⟩
            · exact ⟨fun _ => hnb, fun h => by omega⟩
            · exact ⟨fun _ => q1 (by omega), fun _ => hnb⟩
        unfold L.surge_Safe.B7
        have hwr : wr (((k + 1 : Nat) : Int) - 1) = (k : Int) := by rw [wr_id (by omega)]; omega
        rw [hwr]
        have hi01 : i = 0 ∨ i = 1 := by omega
        rcases hi01 with rfl | rfl
        · have e0 : ix ([(k : Int), ((k + 1 : Nat) : Int)] : List Int) ((0 : Nat) : Int) = some (0, (k : Int)) := rfl
          rw [e0]
          simp only [Option.bind_some]
          rw [ix_nat hxa, ix_nat ha]
          simp only [Option.bind_some]
          exact .bind (look k A xa r ha hxa hre) fun t ht => j8 A t ht (.inl ⟨rfl, rfl⟩)
        · have e0 : ix ([(k : Int), ((k + 1 : Nat) : Int)] : List Int) ((1 : Nat) : Int) = some (1, ((k + 1 : Nat) : Int)) := rfl
          rw [e0]
          simp only [Option.bind_some]
          rw [ix_nat hxc, ix_nat hc]
          simp only [Option.bind_some]
          exact .bind (look (k + 1) C xc r hc hxc hre) fun t ht => j8 C t ht (.inr ⟨rfl, rfl⟩)
      · rintro _ ⟨q1, q2⟩
        exact ⟨q1 (by simp), q2 (by simp)⟩
      · rintro (_ | d) hd
        · unfold L.surge_Safe.J6
          refine .pure ⟨⟨k + 1, ?_, by omega, fun j a c r' hj ha' hc' hr' => ?_⟩, ?_⟩
          · rw [wr_id (by omega)]; omega
          · by_cases hjk : j = k
            · subst hjk
              rw [ha] at ha'; cases ha'
              rw [hc] at hc'; cases hc'
              rw [hr] at hr'; cases hr'
              exact hd
            · exact hJ j a c r' (by omega) ha' hc' hr'
          · rw [wr_id (by omega)]; omega
        · exact .pure hd
    · rw [hc0] at hc; cases hc; exact hb0
    · have := (List.getElem?_eq_some_iff.1 hc).1; omega
  · rintro (d | _) hd
    · exact .pure (.inr hd)
    · unfold L.surge_Safe.J4
      exact .pure (.inl ⟨rfl, hd⟩)
theorem brk_mono {n : Network} {b : List Batch} {pr : List Product} {f : List (List Piece)} {p : Plan} {e : List Int} (he : ExOk n e) (h : Brk n b pr f p (zeros n)) : Brk n b pr f p e := by
  obtain ⟨x, h1, h2⟩ := h
  refine ⟨x, h1, h2.mono (by simp [zeros, he.len]) fun i a a' ha ha' => ?_⟩
  have := he.all _ (List.mem_of_getElem? ha')
  have : a = 0 := List.eq_of_mem_replicate (List.mem_of_getElem? ha)
  omega
set_option linter.unusedVariables false
set_option linter.unusedSimpArgs false
open Go.Aw
section
variable {n : Network} {b : List Batch} {pr : List Product} {f : List (List Piece)}
theorem safe_two (hw : W21 n b pr f) {p q : Plan} (hp : PlanOk n p) (hq : PlanOk n q) {t : Int} (ht : 1 ≤ t ∧ t ≤ 1000) :
    Ok (L.surge_Safe n b pr f [⟨0, p⟩, ⟨t, q⟩]) fun r => (r.2 = 0 ∧ Good n b pr f [⟨0, p⟩, ⟨t, q⟩]) ∨ (r.2 = 15 ∧ ¬ Good n b pr f [⟨0, p⟩, ⟨t, q⟩]) := by
  refine safe_ok hw ⟨by simp, by simp⟩ (ordered_ok ⟨by simp, by simp⟩ (by rintro c ⟨⟩; rfl) ?_ ?_) ?_ ?_
  · rintro (_ | i) x c h1 h2
    · cases h1; cases h2; dsimp only; omega
    · simp at h2
  · intro c hc
    simp only [List.mem_cons, List.not_mem_nil, or_false] at hc
    rcases hc with rfl | rfl <;> dsimp only <;> omega
  · intro c hc
    simp only [List.mem_cons, List.not_mem_nil, or_false] at hc
    rcases hc with rfl | rfl <;> assumption
  · rintro (_ | k) x c h1 h2
    · cases h1; cases h2
      exact surge_one hw.net (by simp) (k := 0) (by rfl) (by rfl) hp hq fun j x h1 h2 => by omega
    · simp at h2
theorem safe_three (hw : W21 n b pr f) {p q z : Plan} (hp : PlanOk n p) (hq : PlanOk n q) (hz : PlanOk n z) :
    Ok (L.surge_Safe n b pr f [⟨0, p⟩, ⟨n.Settle + 1, q⟩, ⟨2 * (n.Settle + 1), z⟩]) fun r => (r.2 = 0 ∧ Good n b pr f [⟨0, p⟩, ⟨n.Settle + 1, q⟩, ⟨2 * (n.Settle + 1), z⟩]) ∨ (r.2 = 15 ∧ ¬ Good n b pr f [⟨0, p⟩, ⟨n.Settle + 1, q⟩, ⟨2 * (n.Settle + 1), z⟩]) := by
  have hs := hw.net.settle
  refine safe_ok hw ⟨by simp, by simp⟩ (ordered_ok ⟨by simp, by simp⟩ (by rintro c ⟨⟩; rfl) ?_ ?_) ?_ ?_
  · rintro (_ | _ | i) x c h1 h2
    · cases h1; cases h2; dsimp only; omega
    · cases h1; cases h2; dsimp only; omega
    · simp at h2
  · intro c hc
    simp only [List.mem_cons, List.not_mem_nil, or_false] at hc
    rcases hc with rfl | rfl | rfl <;> dsimp only <;> omega
  · intro c hc
    simp only [List.mem_cons, List.not_mem_nil, or_false] at hc
    rcases hc with rfl | rfl | rfl <;> assumption
  · rintro (_ | _ | k) x c h1 h2
    · cases h1; cases h2
      exact surge_one hw.net (by simp) (k := 0) (by rfl) (by rfl) hp hq fun j x h1 h2 => by omega
    · cases h1; cases h2
      refine surge_one hw.net (by simp) (k := 1) (by rfl) (by rfl) hq hz fun j x h1 h2 h3 => ?_
      have : j = 1 := by omega
      subst this
      cases h3
      dsimp only; omega
    · simp at h2
theorem good_two {p q : Plan} {t : Int} : Good n b pr f [⟨0, p⟩, ⟨t, q⟩] ↔ (¬ Brk n b pr f p (zeros n) ∧ ∀ r, L.surge_rise n p q = some r → ¬ Brk n b pr f p r ∧ ¬ Brk n b pr f q r) := by
  constructor
  · rintro ⟨h1, h2⟩
    exact ⟨h1 ⟨0, p⟩ rfl, fun r hr => h2 0 ⟨0, p⟩ ⟨t, q⟩ r rfl rfl hr⟩
  · rintro ⟨h1, h2⟩
    refine ⟨by rintro c ⟨⟩; exact h1, ?_⟩
    rintro (_ | k) x c r e1 e2 hr
    · cases e1; cases e2; exact h2 r hr
    · simp at e2
theorem good_three (hn : NetOk n) {p q z : Plan} (hp : PlanOk n p) (hq : PlanOk n q) {t u : Int} : Good n b pr f [⟨0, p⟩, ⟨t, q⟩, ⟨u, z⟩] ↔ (Good n b pr f [⟨0, p⟩, ⟨1, q⟩] ∧ Good n b pr f [⟨0, q⟩, ⟨1, z⟩]) := by
  rw [good_two, good_two]
  constructor
  · rintro ⟨h1, h2⟩
    have hr2 : ∀ r, L.surge_rise n p q = some r → ¬ Brk n b pr f p r ∧ ¬ Brk n b pr f q r := fun r hr => h2 0 ⟨0, p⟩ ⟨t, q⟩ r rfl rfl hr
    refine ⟨⟨h1 ⟨0, p⟩ rfl, hr2⟩, ?_, fun r hr => h2 1 ⟨t, q⟩ ⟨u, z⟩ r rfl rfl hr⟩
    obtain ⟨r, hr, hre⟩ := rise_ex hn hp hq
    exact fun hb => (hr2 r hr).2 (brk_mono hre hb)
  · rintro ⟨⟨h1, h2⟩, h3, h4⟩
    refine ⟨by rintro c ⟨⟩; exact h1, ?_⟩
    rintro (_ | _ | k) x c r e1 e2 hr
    · cases e1; cases e2; exact h2 r hr
    · cases e1; cases e2; exact h4 r hr
    · simp at e2
end
theorem surgeApart (l : List Int) : L.law22_SurgeApart l = some true := by
  have : Ok (L.law22_SurgeApart l) fun r => r = true := by
    unfold L.law22_SurgeApart
    refine .bind (new_ok l) fun s hs => .bind (net_ok hs) ?_
    rintro ⟨n, s1⟩ ⟨hn, hs1⟩
    dsimp only at hn hs1 ⊢
    refine .bind (products_ok hs1) ?_
    rintro ⟨pr, s2⟩ ⟨hpr, hs2⟩
    dsimp only at hpr hs2 ⊢
    refine .bind (fills_ok hn hs2) ?_
    rintro ⟨f, s3⟩ ⟨hf, hs3⟩
    dsimp only at hf hs3 ⊢
    refine .bind (batches_ok hs3 hpr.len) ?_
    rintro ⟨b, s4⟩ ⟨hb, hs4⟩
    dsimp only at hb hs4 ⊢
    have hw : W21 n b pr f := ⟨hn, hpr, hb, hf⟩
    refine .bind (plan_ok hn hs4) ?_
    rintro ⟨p, s5⟩ ⟨hp, hs5⟩
    dsimp only at hp hs5 ⊢
    refine .bind (plan_ok hn hs5) ?_
    rintro ⟨q, s6⟩ ⟨hq, hs6⟩
    dsimp only at hq hs6 ⊢
    refine .bind (plan_ok hn hs6) ?_
    rintro ⟨z, s7⟩ ⟨hz, hs7⟩
    dsimp only at hz hs7 ⊢
    have hse := hn.settle
    refine .bind (Q := fun cs => cs = [⟨0, p⟩, ⟨n.Settle + 1, q⟩, ⟨2 * (n.Settle + 1), z⟩]) ?_ ?_
    · refine .forS (fun k (st : List Change) => st = ([⟨0, p⟩, ⟨n.Settle + 1, q⟩, ⟨2 * (n.Settle + 1), z⟩] : List Change).take k) rfl ?_ fun st h => h
      rintro k x _ hx rfl
      unfold L.law22_SurgeApart.B7
      have e1 : wr (n.Settle + 1) = n.Settle + 1 := wr_id (by omega)
      dsimp only
      rw [e1]
      have hk := (List.getElem?_eq_some_iff.1 hx).1
      simp only [List.length_cons, List.length_nil] at hk
      refine .bind' (.app (by simp; omega) (.pure ?_))
      have hk3 : k = 0 ∨ k = 1 ∨ k = 2 := by omega
      rcases hk3 with rfl | rfl | rfl <;> cases hx
      · show [(⟨wr (((0 : Nat) : Int) * (n.Settle + 1)), p⟩ : Change)] = _
        rw [show ((0 : Nat) : Int) * (n.Settle + 1) = 0 by omega, wr_id (by decide)]; rfl
      · show [(⟨0, p⟩ : Change), ⟨wr (((1 : Nat) : Int) * (n.Settle + 1)), q⟩] = _
        rw [show ((1 : Nat) : Int) * (n.Settle + 1) = n.Settle + 1 by omega, wr_id (by omega)]; rfl
      · show [(⟨0, p⟩ : Change), ⟨n.Settle + 1, q⟩, ⟨wr (((2 : Nat) : Int) * (n.Settle + 1)), z⟩] = _
        rw [wr_id (by omega)]; rfl
    rintro _ rfl
    unfold L.law22_SurgeApart.J1
    dsimp only
    refine .bind (safe_three hw hp hq hz) ?_
    rintro ⟨fa, e⟩ he
    dsimp only at he ⊢
    rw [good_three hn hp hq] at he
    refine .bind (Q := fun g : Int => (g = 0 ∧ Good n b pr f [⟨0, p⟩, ⟨1, q⟩] ∧ Good n b pr f [⟨0, q⟩, ⟨1, z⟩]) ∨ (g = 15 ∧ ¬ (Good n b pr f [⟨0, p⟩, ⟨1, q⟩] ∧ Good n b pr f [⟨0, q⟩, ⟨1, z⟩]))) ?_ ?_
    · refine .loop (fun st : Int × Int => (st.2 = 1 ∧ st.1 = 0) ∨ (st.2 = 2 ∧ ((st.1 = 0 ∧ Good n b pr f [⟨0, p⟩, ⟨1, q⟩]) ∨ (st.1 = 15 ∧ ¬ Good n b pr f [⟨0, p⟩, ⟨1, q⟩]))) ∨
          (st.2 = 3 ∧ ((st.1 = 0 ∧ Good n b pr f [⟨0, p⟩, ⟨1, q⟩] ∧ Good n b pr f [⟨0, q⟩, ⟨1, z⟩]) ∨ (st.1 = 15 ∧ ¬ (Good n b pr f [⟨0, p⟩, ⟨1, q⟩] ∧ Good n b pr f [⟨0, q⟩, ⟨1, z⟩])))))
        (fun st => 3 - st.2.toNat) (.inl ⟨rfl, rfl⟩) (by decide) ?_
      rintro ⟨al, i⟩ hI
      dsimp only at hI
      unfold L.law22_SurgeApart.B4
      dsimp only
      rcases hI with ⟨rfl, rfl⟩ | ⟨rfl, hI⟩ | ⟨rfl, hI⟩
      · refine Ok.iteD (fun _ => ?_) fun h => absurd (show (1 : Int) < 3 by decide) h
        rw [show wr ((1 : Int) - 1) = 0 from by decide]
        refine .bind' (.eq (show ix [p, q, z] 0 = some (0, p) from rfl) (.bind' (.eq (show ix [p, q, z] 1 = some (1, q) from rfl) (.bind (safe_two hw hp hq (by decide)) ?_))))
        rintro ⟨_, g⟩ hg
        dsimp only at hg ⊢
        unfold L.law22_SurgeApart.J6 L.law22_SurgeApart.J5
        have : wr ((1 : Int) + 1) = 2 := by decide
        rcases hg with ⟨rfl, hg⟩ | ⟨rfl, hg⟩
        · exact Ok.pure ⟨.inr (.inl ⟨this, .inl ⟨rfl, hg⟩⟩), by dsimp only; rw [this]; decide⟩
        · exact Ok.pure ⟨.inr (.inl ⟨this, .inr ⟨rfl, hg⟩⟩), by dsimp only; rw [this]; decide⟩
      · refine Ok.iteD (fun _ => ?_) fun h => absurd (show (2 : Int) < 3 by decide) h
        rw [show wr ((2 : Int) - 1) = 1 from by decide]
        refine .bind' (.eq (show ix [p, q, z] 1 = some (1, q) from rfl) (.bind' (.eq (show ix [p, q, z] 2 = some (2, z) from rfl) (.bind (safe_two hw hq hz (by decide)) ?_))))
        rintro ⟨_, g⟩ hg
        dsimp only at hg ⊢
        unfold L.law22_SurgeApart.J6 L.law22_SurgeApart.J5
        have : wr ((2 : Int) + 1) = 3 := by decide
        rcases hg with ⟨rfl, hg⟩ | ⟨rfl, hg⟩
        · refine Ok.pure ⟨.inr (.inr ⟨this, ?_⟩), by dsimp only; rw [this]; decide⟩
          rcases hI with ⟨rfl, hI⟩ | ⟨rfl, hI⟩
          · exact .inl ⟨rfl, hI, hg⟩
          · exact .inr ⟨rfl, fun h => hI h.1⟩
        · exact Ok.pure ⟨.inr (.inr ⟨this, .inr ⟨rfl, fun h => hg h.2⟩⟩), by dsimp only; rw [this]; decide⟩
      · refine Ok.iteD (fun h => absurd (show (3 : Int) < 3 from h) (by decide)) fun _ => .pure hI
    · intro g hg
      unfold L.law22_SurgeApart.J2 L.law22_SurgeApart.J3
      rw [awake22]
      dsimp only
      rcases he with ⟨rfl, he⟩ | ⟨rfl, he⟩ <;> rcases hg with ⟨rfl, hg⟩ | ⟨rfl, hg⟩
      · exact .pure rfl
      · exact absurd he hg
      · exact absurd hg he
      · exact .pure rfl
  obtain ⟨r, h, rfl⟩ := this
  exact h
end Go.Proofs.YtodeekicjiengaaGreatDoor
namespace Go.Aw
set_option linter.unusedVariables false
set_option linter.unusedSimpArgs false
open Go.ChangeShapes Go.WideShapes Go.ChangeAt Go.RowKit
section
variable {H : Type} {enc : TypeId × Value → H} {P : Program}
theorem trodAll_below (hl : laidOutB P = true) {W W' : World} (hb : Below W.heap.size W W') : ∀ {ts : List TypeId} {vs : List Value} {ds : List (DataW H)} {ps : List MemPlace},
    (∀ t, t ∈ ts → P.readableRec t = true ∧ t < P.types.size) → (∀ x, x ∈ ps → x.block < W.heap.size) → DataW.TrodAll enc P W 0 (fun _ => true) true ts vs ds ps →
    DataW.TrodAll enc P W' 0 (fun b => decide (b < W.heap.size)) true ts vs ds ps
  | [], vs, ds, ps, _, _, h => by
    cases vs <;> cases ds <;> simp [DataW.TrodAll] at h ⊢
    exact h
  | t :: ts, vs, ds, ps, ht, hlt, h => by
    obtain ⟨v, vs', d, ds', p, q, rfl, rfl, rfl, h1, h2⟩ := trodAll_cons h
    have hr := ht t (by simp)
    exact ⟨p, q, Below.trod hl hr.1 hr.2 h1 hb (fun x hx => hlt x (by simp [hx])), trodAll_below hl hb (fun t ht' => ht t (by simp [ht'])) (fun x hx => hlt x (by simp [hx])) h2, rfl⟩
theorem law_post {f : Func} {s : ChangeSpec} {W W' : World} {args : Array Value} {ds : List (DataW H)} {p : List MemPlace} {t : TypeId} (hW : DataW.Whole enc P f.params.toList s.vars false W args.toList ds [] (p ++ []))
    (hA : DataW.TrodAll enc P W 0 (fun _ => true) true f.params.toList args.toList ds p)
    (hres : (s.fn H (ds ++ [])).results = [.lit (.bool true)]) (hargs : (s.fn H (ds ++ [])).args = ds) (hv : (s.fn H (ds ++ [])).vars = []) (hsv : s.vars = [])
    (hrt : f.resultTypes.toList = [t]) (hu : P.underlying t = some .bool) (hl : laidOutB P = true) (hall : ∀ t, t ∈ f.params.toList → P.readableRec t = true ∧ t < P.types.size)
    (hb : Below W.heap.size W W') : s.post enc P f false true false false W args (.bool true) W' := by
  have hlt : ∀ x, x ∈ p → x.block < W.heap.size := fun x hx => hW.lt x (by simp [hx])
  have hsz : f.resultTypes.size = 1 := by rw [← Array.length_toList, hrt]; rfl
  refine ⟨ds, [], p ++ [], [], p, [], hW, ?_, ?_, ?_, hb.frame _, fun h => by cases h⟩
  · rw [hres, hrt, hsz]
    exact trodAll_mk1 (shut_bool hu true)
  · rw [hargs]
    exact trodAll_below hl hb hall hlt hA
  · rw [hv, hsv]; rfl
def encK (k : IntKind) (l : List Int) : T := .list 1 (l.map fun n => [.v (.int k n)])
theorem open_list {t e : TypeId} {k : IntKind} {W : World} {base : Nat} {r : Reach} {v : Value} {d : DataW H} {ps : List MemPlace} (ht : P.underlying t = some (.slice e)) (he : P.underlying e = some (.int k)) (hc : P.cellsOf e = 1)
    (hval : Value.okWide P W r base t v) (h : DataW.Trod enc P W 0 (fun _ => true) true t v d ps) :
    ∃ l : List Int, (l.length ≤ maxL → VR (fun b => W.heap[b]?) v (encK k l)) ∧ (∀ n, n ∈ l → (Lit.int k n).wf = true) ∧ (l = [] ∨ ∃ elems spare, d = .slice elems spare ∧ l.length = elems.length) := by
  obtain ⟨a0, len, cap, rfl⟩ := okWide_slice ht hval
  obtain ⟨fuel, hf⟩ := h
  rcases open_ints ht he hc hf with ⟨hcs, hx⟩ | ⟨a, len', cap', zs, hcs, _, hl, hm, hz, hx, hcell, hwz⟩
  · simp [Value.cells] at hcs
    obtain ⟨rfl, rfl, rfl⟩ := hcs
    exact ⟨[], fun _ => .empty _ _ _, by simp, .inl rfl⟩
  · simp [Value.cells] at hcs
    obtain ⟨rfl, rfl, rfl⟩ := hcs
    simp only [Prod.mk.injEq] at hx
    obtain ⟨rfl, rfl⟩ := hx
    simp only [if_true] at hz
    have hlt : (zs.take len).length = len := by simp; omega
    refine ⟨zs.take len, fun hmax => ?_, fun n hn => hwz n (List.mem_of_mem_take hn), .inr ⟨_, _, rfl, by simp [lits]⟩⟩
    by_cases hl0 : len = 0
    · subst hl0; simp only [List.take_zero, encK, List.map_nil]; exact .empty _ _ _
    · obtain ⟨b, off, spot⟩ := a
      have hspot : spot = none := by simpa [Addr.add] using World.cell?_spot (hcell 0 (by omega))
      subst hspot
      have hcell' : ∀ i, i < zs.length → W.cell? ⟨b, off + i, none⟩ = some (.int k (zs.getD i 0)) := fun i hi => by rw [← Addr.add_mk]; exact hcell i hi
      have hc0 := hcell' 0 (by omega)
      have hcs : ∃ cs ty fr, W.heap[b]? = some (.cells cs ty fr) := by
        unfold World.cell? at hc0
        split at hc0
        · rename_i c ty fr hh; exact ⟨_, _, _, hh⟩
        · cases hc0
      obtain ⟨cs, ty, fr, hh⟩ := hcs
      have hcs' : ∀ i, i < zs.length → cs[off + i]? = some (.int k (zs.getD i 0)) := fun i hi => by
        have := hcell' i hi
        simpa [World.cell?, hh] using this
      have hlen : ((zs.take len).map fun n => [T.v (.int k n)]).length = len := by rw [List.length_map, hlt]
      have hbig : off + len ≤ cs.size := by
        have := (Array.getElem?_eq_some_iff.1 (hcs' (len - 1) (by omega))).1
        omega
      have hgd : ∀ i e, ((zs.take len).map fun n => [T.v (.int k n)])[i]? = some e → ∀ (j : Nat) (x : T), e[j]? = some x → j = 0 ∧ x = .v (.int k (zs.getD i 0)) ∧ cs.getD (off + i * 1 + j) undef = .int k (zs.getD i 0) := by
        intro i e he j x hx
        simp only [List.getElem?_map, Option.map_eq_some_iff] at he
        obtain ⟨n, hn, rfl⟩ := he
        have hil := (List.getElem?_eq_some_iff.1 hn).1
        rw [hlt] at hil
        rw [List.getElem?_take_of_lt hil] at hn
        have hj : j = 0 := by have := (List.getElem?_eq_some_iff.1 hx).1; simp at this; exact this
        subst hj
        simp at hx
        have hzi : zs.getD i 0 = n := by simp [List.getD, hn]
        refine ⟨rfl, by rw [hzi]; exact hx.symm, ?_⟩
        rw [Array.getD_eq_getD_getElem?, show off + i * 1 + 0 = off + i by omega, hcs' i (by omega)]; rfl
      have := VR.list (H := fun b => W.heap[b]?) b off cap 1 ((zs.take len).map fun n => [T.v (.int k n)]) cs ty fr hh (by rw [hlen]; exact hl) (by rw [List.length_map]; exact hmax) (by rw [hlen]; omega)
        (fun i e he => by simp only [List.getElem?_map, Option.map_eq_some_iff] at he; obtain ⟨n, _, rfl⟩ := he; rfl)
        (fun i e he j x hx => by rw [(hgd i e he j x hx).2.2]; rfl) (fun i e he j x hx => by rw [(hgd i e he j x hx).2.2, (hgd i e he j x hx).2.1]; exact .v _)
      rw [hlen] at this
      exact this
end
theorem law_calls {E : Env} {f : FuncId} {xs : List T} {W : World} {args : Array Value} (hgl : Held fun b => W.heap[b]?) (hc : ACalls E f xs [] fun x _ => x = .v (.bool true)) (hsz : args.size = xs.length)
    (hv : ∀ (i : Nat) (x : T), xs[i]? = some x → VR (fun b => W.heap[b]?) (args.getD i undef) x) : Calls E.P f args W fun e W' => e = .returned (.bool true) ∧ Below W.heap.size W W' := by
  refine (hc.2 (fun b => W.heap[b]?) W args hsz hv ⟨fun _ _ h => h, hgl⟩ (by simp) (by simp)).mono ?_
  rintro e w' ⟨v, x, fp', H', rfl, rfl, hvr, _, _, _, _, hs, ⟨e1, e2, e3⟩, hfr⟩
  refine ⟨by rw [hvr.v_eq], ⟨e1, e2, e3, hs, fun k hk => (hfr k hk (by simp)).1⟩⟩
set_option linter.unusedVariables false
set_option linter.unusedSimpArgs false
open Go.ChangeShapes Go.WideShapes Go.ChangeAt Go.RowKit
section
variable {H : Type} {enc : TypeId × Value → H} {P : Program} {w : World} {base : Nat} {spare : Nat → Bool} {held : Bool} {fuel : Nat} {t e i : TypeId} {cs : List Value} {p : List MemPlace}
theorem pair_cells {f0 f1 : Field} (ht : P.underlying t = some (.struct #[f0, f1])) (o0 : f0.offset = 0) (o1 : f1.offset = 1) (y0 : f0.type = i) (y1 : f1.type = i) (hi : P.underlying i = some (.int .i64)) (hc : P.cellsOf i = 1) (hct : P.cellsOf t = 2)
    {x : DataW H × List MemPlace} {a b : Int} (hx : x.1 = .agg [.lit (.int .i64 a), .lit (.int .i64 b)]) (h : DataW.trod enc P w base spare held fuel t cs = some x) : cs = [.int .i64 a, .int .i64 b] := by
  obtain ⟨z0, z1, n, rfl, hl, h0, h1⟩ := trod_struct2 ht h
  rw [hct] at hl
  rw [y0] at h0
  rw [y1] at h1
  obtain ⟨m0, e0, rfl, _⟩ := DataW.trod_int hi h0
  obtain ⟨m1, e1, rfl, _⟩ := DataW.trod_int hi h1
  rw [hc, o0] at e0
  rw [hc, o1] at e1
  simp only [DataW.agg.injEq, List.cons.injEq, DataW.lit.injEq, Lit.int.injEq, true_and, and_true] at hx
  match cs, hl with
  | [c0, c1], _ =>
    simp at e0 e1
    rw [e0, e1, hx.1, hx.2]
theorem spans_cells {f0 f1 : Field} (ht : P.underlying t = some (.array 4 e)) (he : P.underlying e = some (.struct #[f0, f1])) (o0 : f0.offset = 0) (o1 : f1.offset = 1) (y0 : f0.type = i) (y1 : f1.type = i) (hi : P.underlying i = some (.int .i64)) (hc : P.cellsOf i = 1) (hct : P.cellsOf e = 2) (hca : P.cellsOf t = 8)
    {a0 a1 a2 a3 a4 a5 a6 a7 : Int}
    (h : DataW.trod enc P w base spare held fuel t cs = some (.agg [.agg [.lit (.int .i64 a0), .lit (.int .i64 a1)], .agg [.lit (.int .i64 a2), .lit (.int .i64 a3)], .agg [.lit (.int .i64 a4), .lit (.int .i64 a5)], .agg [.lit (.int .i64 a6), .lit (.int .i64 a7)]], p)) :
    cs = [a0, a1, a2, a3, a4, a5, a6, a7].map fun n => .int .i64 n := by
  obtain ⟨xs, m, _, hx, hl, hn, hel⟩ := DataW.trod_array ht h
  rw [hca] at hl
  match xs, hn with
  | [x0, x1, x2, x3], _ =>
    simp only [Prod.mk.injEq, DataW.agg.injEq, List.map_cons, List.map_nil, List.cons.injEq, and_true] at hx
    obtain ⟨⟨g0, g1, g2, g3⟩, _⟩ := hx
    have k0 := pair_cells he o0 o1 y0 y1 hi hc hct g0.symm (by simpa using hel 0 (by decide))
    have k1 := pair_cells he o0 o1 y0 y1 hi hc hct g1.symm (by simpa using hel 1 (by decide))
    have k2 := pair_cells he o0 o1 y0 y1 hi hc hct g2.symm (by simpa using hel 2 (by decide))
    have k3 := pair_cells he o0 o1 y0 y1 hi hc hct g3.symm (by simpa using hel 3 (by decide))
    rw [hct] at k0 k1 k2 k3
    match cs, hl with
    | [c0, c1, c2, c3, c4, c5, c6, c7], _ =>
      simp at k0 k1 k2 k3
      simp [k0, k1, k2, k3]
theorem held_of {W : World} {n : String} {cs : Array Value} {l : List Int} (hn : P.globalNamed n = some 0) (h : W.var? P n = some cs) (hcs : cs.toList = l.map fun n => .int .i64 n) (hgl : gl = [(0, l.map fun n => .v (.int .i64 n))]) : Held fun b => W.heap[b]? := by
  have hb : ∃ ty fr, W.heap[0]? = some (.cells cs ty fr) := by
    simp only [World.var?, hn, Option.bind_some] at h
    split at h
    · rename_i c ty fr hh; cases h; exact ⟨ty, fr, hh⟩
    · cases h
  obtain ⟨ty, fr, hb⟩ := hb
  intro b m hm
  rw [hgl] at hm
  simp only [List.mem_cons, List.not_mem_nil, or_false, Prod.mk.injEq] at hm
  obtain ⟨rfl, rfl⟩ := hm
  have hget : ∀ (j : Nat) (x : T), (l.map fun n => T.v (.int .i64 n))[j]? = some x → ∃ n, x = .v (.int .i64 n) ∧ cs.getD (0 + j) undef = .int .i64 n := by
    intro j x hx
    simp only [List.getElem?_map, Option.map_eq_some_iff] at hx
    obtain ⟨n, hn, rfl⟩ := hx
    refine ⟨n, rfl, ?_⟩
    have : cs.toList[j]? = some (.int .i64 n) := by rw [hcs]; simp [hn]
    rw [Array.getElem?_toList] at this
    rw [Nat.zero_add, Array.getD_eq_getD_getElem?, this]; rfl
  refine .eptr 0 0 _ cs ty fr hb ?_ (fun j x hx => ?_) fun j x hx => ?_
  · have := congrArg List.length hcs
    simp at this
    simp; omega
  · obtain ⟨n, _, h⟩ := hget j x hx
    rw [h]; rfl
  · obtain ⟨n, rfl, h⟩ := hget j x hx
    rw [h]; exact .v _
end
end Go.Aw
