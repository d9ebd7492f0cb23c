/- The law of the paths over a segment, for the pure functions. No condition. -/
import Derived.Test.YtndfiddakngjdaaQ4
import Derived.KernelRfl
namespace Go.Proofs.Ytndfiddakngjdaa
set_option linter.unusedVariables false
set_option linter.unusedSimpArgs false
open Go.Aw

theorem awake25 : L.law25_awake = some true := by kernel_rfl

theorem indexFunc_Hop {s : List Hop} {g : Hop → Option Bool} {P : Hop → Bool} (hg : ∀ (k : Nat) (x : Hop), s[k]? = some x → g x = some (P x)) :
    Ok (L.slices_IndexFunc_api_Hop_api_Hop s g) fun r => (r = -1 ∧ ∀ (j : Nat) (y : Hop), s[j]? = some y → P y = false) ∨ ∃ (k : Nat) (x : Hop), r = (k : Int) ∧ s[k]? = some x ∧ P x = true ∧ ∀ (j : Nat) (y : Hop), j < k → s[j]? = some y → P y = false := by
  unfold L.slices_IndexFunc_api_Hop_api_Hop
  refine .bind' (.forL (fun k _ => ∀ (j : Nat) (y : Hop), j < k → s[j]? = some y → P y = false) (fun r => ∃ (k : Nat) (x : Hop), r = (k : Int) ∧ s[k]? = some x ∧ P x = true ∧ ∀ (j : Nat) (y : Hop), j < k → s[j]? = some y → P y = false) (fun j y h => absurd h (Nat.not_lt_zero _)) ?_ ?_ ?_)
  · intro k x _ hx hi
    unfold L.slices_IndexFunc_api_Hop_api_Hop.B2
    refine .bind' (.eq (hg k x hx) (Ok.iteB (fun hp => .pure ⟨k, x, rfl, hx, hp, hi⟩) fun hp => .pure fun j y hj hy => ?_))
    by_cases h : j < k
    · exact hi j y h hy
    · have : j = k := by omega
      subst this
      rw [hx] at hy; simp at hy; subst hy; exact hp
  · intro _ hi
    simp only [Sum.elim_inl]
    unfold L.slices_IndexFunc_api_Hop_api_Hop.J1
    exact .pure (.inl ⟨rfl, fun j y hy => hi j y (List.getElem?_eq_some_iff.1 hy).1 hy⟩)
  · intro b hb
    exact .pure (.inr hb)

theorem containsFunc_Hop {s : List Hop} {g : Hop → Option Bool} {P : Hop → Bool} (hg : ∀ (k : Nat) (x : Hop), s[k]? = some x → g x = some (P x)) :
    L.slices_ContainsFunc_api_Hop_api_Hop s g = some (s.any P) := by
  have : Ok (L.slices_ContainsFunc_api_Hop_api_Hop s g) fun r => r = s.any P := by
    unfold L.slices_ContainsFunc_api_Hop_api_Hop
    refine .bind (indexFunc_Hop hg) fun r hr => .pure ?_
    rcases hr with ⟨rfl, h⟩ | ⟨k, x, rfl, hx, hp, _⟩
    · rw [any_false h]; rfl
    · have : s.any P = true := List.any_eq_true.2 ⟨x, List.mem_of_getElem? hx, hp⟩
      rw [this]; simp
  obtain ⟨r, h, rfl⟩ := this
  exact h

theorem with_ok {x : Path} (h : x.Hops.length ≤ 1000) (r : Int) : L.paths_with x r = some ⟨x.In, x.Out, x.Hops, r⟩ := by
  unfold L.paths_with L.slices_Clone_api_Hop_api_Hop
  rw [app?_eq (by simp; omega)]; rfl

def goes (k : Nat) (x : Path) : Bool := x.Hops.any fun h => h.Segment == (k : Int)

theorem through_ok {n : Network} (hn : NetOk n) {l : List Path} {k : Nat} (hk : k < n.Segments.length) (hl : l.length ≤ 1000) (hh : ∀ x, x ∈ l → x.Hops.length ≤ 1000) : L.paths_Through n l (k : Int) = some (l.filter (goes k), 0) := by
  have : Ok (L.paths_Through n l (k : Int)) fun r => r = (l.filter (goes k), 0) := by
    unfold L.paths_Through
    rw [netCheck hn]
    refine .bind' (.pure (Ok.iteU (fun h => absurd rfl h) fun _ => Ok.iteB (fun h => by simp at h; omega) fun _ => ?_))
    refine .bind (.forS (fun j st => st = (l.take j).filter (goes k)) (by simp) ?_ fun st h => h) ?_
    · rintro j x _ hx rfl
      have hjl := (List.getElem?_eq_some_iff.1 hx).1
      unfold L.paths_Through.B2 L.paths_Through.J3
      refine .bind' (.eq (containsFunc_Hop (P := fun h => h.Segment == (k : Int)) fun _ _ _ => rfl) (Ok.iteB (fun hb => ?_) fun hb => .pure ?_))
      · rw [with_ok (hh x (List.mem_of_getElem? hx))]
        refine .bind' (.pure (.bind' (.app ?_ (.pure ?_))))
        · have := List.length_filter_le (goes k) (l.take j)
          simp at this ⊢; omega
        · rw [List.take_add_one, hx, List.filter_append]
          have : goes k x = true := hb
          simp [this]
      · rw [List.take_add_one, hx, List.filter_append]
        have : goes k x = false := hb
        simp [this]
    · rintro _ rfl
      unfold L.paths_Through.J1
      exact .pure (by simp)
  obtain ⟨r, h, rfl⟩ := this
  exact h

def hcnt (k : Nat) : List Hop → Int
  | [] => 0
  | h :: t => (if h.Segment = (k : Int) then 1 else 0) + hcnt k t
theorem hcnt_append (k : Nat) : ∀ l m : List Hop, hcnt k (l ++ m) = hcnt k l + hcnt k m
  | [], m => by simp [hcnt]
  | h :: l, m => by simp only [List.cons_append, hcnt, hcnt_append k l m]; omega
theorem hcnt_bnd (k : Nat) : ∀ l : List Hop, 0 ≤ hcnt k l ∧ hcnt k l ≤ (l.length : Int)
  | [] => by simp [hcnt]
  | h :: l => by have := hcnt_bnd k l; simp only [hcnt, List.length_cons]; split <;> omega
theorem hcnt_take {k j : Nat} {l : List Hop} {h : Hop} (hj : l[j]? = some h) : hcnt k (l.take (j + 1)) = hcnt k (l.take j) + if h.Segment = (k : Int) then 1 else 0 := by
  rw [List.take_add_one, hj, hcnt_append]; simp [hcnt]
theorem hcnt_zero {k : Nat} : ∀ {l : List Hop}, (∀ h, h ∈ l → h.Segment ≠ (k : Int)) → hcnt k l = 0
  | [], _ => rfl
  | h :: l, hh => by
    simp only [hcnt]
    rw [if_neg (hh h (by simp)), hcnt_zero fun x hx => hh x (by simp [hx])]; rfl
theorem hcnt_one {k : Nat} : ∀ {l : List Hop} {i : Nat} {h : Hop}, l[i]? = some h → h.Segment = (k : Int) → (∀ (j : Nat) (x : Hop), j ≠ i → l[j]? = some x → x.Segment ≠ (k : Int)) → hcnt k l = 1
  | [], i, h, hi, _, _ => by simp at hi
  | x :: l, 0, h, hi, hk, ho => by
    simp at hi; subst hi
    simp only [hcnt]
    rw [if_pos hk, hcnt_zero fun y hy => ?_]; omega
    obtain ⟨j, hj⟩ := List.getElem?_of_mem hy
    exact ho (j + 1) y (by omega) (by simpa using hj)
  | x :: l, i + 1, h, hi, hk, ho => by
    simp only [hcnt]
    rw [if_neg (ho 0 x (by omega) rfl), hcnt_one (i := i) (by simpa using hi) hk fun j y hj hy => ho (j + 1) y (by omega) (by simpa using hy)]; omega

def rateSum : List Path → Int
  | [] => 0
  | x :: l => x.Rate + rateSum l
theorem rateSum_append : ∀ l m : List Path, rateSum (l ++ m) = rateSum l + rateSum m
  | [], m => by simp [rateSum]
  | x :: l, m => by simp only [List.cons_append, rateSum, rateSum_append l m]; omega
theorem rateSum_take {l : List Path} {j : Nat} {x : Path} (h : l[j]? = some x) : rateSum (l.take (j + 1)) = rateSum (l.take j) + x.Rate := by
  rw [List.take_add_one, h, rateSum_append]; simp [rateSum]
theorem rateSum_bnd : ∀ {l : List Path}, (∀ x, x ∈ l → 1 ≤ x.Rate ∧ x.Rate ≤ 1000) → 0 ≤ rateSum l ∧ rateSum l ≤ 1000 * (l.length : Int)
  | [], _ => by simp [rateSum]
  | x :: l, h => by
    have := h x (by simp)
    have := rateSum_bnd (l := l) fun y hy => h y (by simp [hy])
    simp only [rateSum, List.length_cons]; omega

/-- Over a segment a path of a plan goes once at most, the way that the plan flows. -/
theorem PathOk.over {n : Network} {up : Bool} {p : Plan} (hr : Res n up p.Rates p.Ports) {x : Path} (hx : PathOk n p x) {k : Nat} {r : Int} (hk : p.Rates[k]? = some r) :
    (goes k x = false ∧ hsum x.Rate k x.Hops = 0) ∨ (goes k x = true ∧ hcnt k x.Hops = 1 ∧ (0 < r ∧ hsum x.Rate k x.Hops = x.Rate ∨ r < 0 ∧ hsum x.Rate k x.Hops = -x.Rate)) := by
  obtain ⟨i, o, p0, po, y0, y1, nd, e1, e2, e3, e4, e5, e6, e7, e8, w, e9, e10, e11, e12, e13⟩ := hx
  by_cases hex : ∃ (i : Nat) (h : Hop), x.Hops[i]? = some h ∧ h.Segment = (k : Int)
  · obtain ⟨j, h, hj, hs⟩ := hex
    have once : ∀ (j' : Nat) (y : Hop), j' ≠ j → x.Hops[j']? = some y → y.Segment ≠ (k : Int) := fun j' y hj' hy he => hj' (w.once hr hy hj (he.trans hs.symm))
    obtain ⟨k', s, r', q1, q2, q3, q4⟩ := w.hop j h hj
    have : k = k' := by omega
    subst this
    rw [hk] at q3; simp at q3; subst q3
    refine .inr ⟨List.any_eq_true.2 ⟨h, List.mem_of_getElem? hj, by simp [hs]⟩, hcnt_one hj hs once, ?_⟩
    rw [hsum_one hj hs once]
    unfold sgn
    rcases q4 with ⟨b, q, _⟩ | ⟨b, q, _⟩
    · exact .inl ⟨q, by rw [b]; rfl⟩
    · exact .inr ⟨q, by rw [b]; rfl⟩
  · have hno : ∀ h, h ∈ x.Hops → h.Segment ≠ (k : Int) := fun h hm hs => by
      obtain ⟨j, hj⟩ := List.getElem?_of_mem hm
      exact hex ⟨j, h, hj, hs⟩
    refine .inl ⟨?_, hsum_zero hno⟩
    unfold goes
    rw [List.any_eq_false]
    intro h hm
    have := hno h hm
    simpa using this

theorem over_sum {n : Network} {up : Bool} {p : Plan} (hr : Res n up p.Rates p.Ports) {k : Nat} {r : Int} (hk : p.Rates[k]? = some r) : ∀ {l : List Path}, (∀ x, x ∈ l → PathOk n p x) →
    (0 ≤ r → segSum k l = rateSum (l.filter (goes k))) ∧ (r ≤ 0 → segSum k l = -rateSum (l.filter (goes k)))
  | [], _ => by simp [segSum, rateSum]
  | x :: l, h => by
    have ih := over_sum hr hk (l := l) fun y hy => h y (by simp [hy])
    simp only [segSum]
    rcases (h x (by simp)).over hr hk with ⟨g, e⟩ | ⟨g, _, ⟨e1, e⟩ | ⟨e1, e⟩⟩
    · rw [List.filter_cons_of_neg (by simp [g]), e]
      exact ⟨fun h => by have := ih.1 h; omega, fun h => by have := ih.2 h; omega⟩
    · rw [List.filter_cons_of_pos g, e]
      simp only [rateSum]
      exact ⟨fun h => by have := ih.1 h; omega, fun h => by omega⟩
    · rw [List.filter_cons_of_pos g, e]
      simp only [rateSum]
      exact ⟨fun h => by omega, fun h => by have := ih.2 h; omega⟩

theorem pathsOver (l : List Int) (which : Int) : L.law25_PathsOver l which = some true := by
  have : Ok (L.law25_PathsOver l which) fun r => r = true := by
    have wake : Ok (L.law25_awake.bind fun r => some r) fun r => r = true := by rw [awake25]; exact .pure rfl
    unfold L.law25_PathsOver
    refine Ok.iteN (fun _ => wake) fun _ => .bind (new_ok l) fun s hs => .bind (net_ok hs) ?_
    rintro ⟨n, s1⟩ ⟨hn, hs⟩
    refine .bind (plan_ok hn hs) ?_
    rintro ⟨p, s2⟩ ⟨hp, _⟩
    dsimp only at hn hp
    have h1 := hn.segs1; have h2 := hn.nodes; have h3 := hp.rl
    refine .bind (Q := fun k => 0 ≤ k ∧ k < (n.Segments.length : Int)) ?_ ?_
    · unfold L.second_Mod
      exact .bind (mod_ok _ (by dsimp only; omega) (by dsimp only; omega)) fun x hx => .pure hx
    rintro kk ⟨hk0, hk1⟩
    obtain ⟨k, rfl⟩ := nat_of hk0
    refine .bind (divide_ok hn hp) ?_
    rintro ⟨x, _⟩ ⟨rfl, up, hd⟩
    have hres := hd.res
    dsimp only at hd
    have hxl := hd.count
    have hhops : ∀ y, y ∈ x → y.Hops.length ≤ 5 ∧ 1 ≤ y.Rate ∧ y.Rate ≤ 1000 := fun y hy => by
      obtain ⟨i, o, p0, po, y0, y1, nd, e1, e2, e3, e4, e5, e6, e7, e8, w, e9, e10, e11, e12, e13⟩ := hd.paths y hy
      exact ⟨e11, e12, e13⟩
    dsimp only
    rw [through_ok hn (by omega) (by omega) fun y hy => by have := hhops y hy; omega]
    refine .bind' (.pure ?_)
    have hfl := List.length_filter_le (goes k) x
    refine Ok.iteB (fun hb => by simp at hb; omega) fun _ => ?_
    have hr : p.Rates[k]? = some (p.Rates[k]'(by omega)) := List.getElem?_eq_getElem _
    generalize p.Rates[k]'(by omega) = r at hr
    have hrr := hres.rng k r _ hr (List.getElem?_eq_getElem (by omega))
    have mem : ∀ y, y ∈ x.filter (goes k) → y ∈ x ∧ goes k y = true := fun y hy => List.mem_filter.1 hy
    have hsb : ∀ j, 0 ≤ rateSum ((x.filter (goes k)).take j) ∧ rateSum ((x.filter (goes k)).take j) ≤ 14000 := fun j => by
      have := rateSum_bnd (l := (x.filter (goes k)).take j) fun y hy => (hhops y (mem y (List.mem_of_mem_take hy)).1).2
      have hl : ((x.filter (goes k)).take j).length ≤ 14 := by rw [List.length_take]; omega
      omega
    refine .bind (Q := fun d : Bool ⊕ Int => d = .inr (rateSum (x.filter (goes k)))) ?_ ?_
    · refine .loop (fun st : Int × Int => ∃ j : Nat, st.2 = (j : Int) ∧ j ≤ (x.filter (goes k)).length ∧ st.1 = rateSum ((x.filter (goes k)).take j)) (fun st => (x.filter (goes k)).length - st.2.toNat) ⟨0, rfl, Nat.zero_le _, by simp [rateSum]⟩ (by dsimp only; omega) ?_
      rintro ⟨sum, i⟩ ⟨j, rfl, hj, rfl⟩
      unfold L.law25_PathsOver.B3
      refine Ok.iteD (fun hlt => ?_) fun hge => .pure ?_
      · dsimp only at hlt
        have hy : (x.filter (goes k))[j]? = some ((x.filter (goes k))[j]'(by omega)) := List.getElem?_eq_getElem _
        generalize (x.filter (goes k))[j]'(by omega) = y at hy
        obtain ⟨m1, m2⟩ := mem y (List.mem_of_getElem? hy)
        have hyo := (hd.paths y m1).over hres hr
        have hyh := hhops y m1
        rcases hyo with ⟨g, _⟩ | ⟨_, hc, hsgn⟩
        · rw [m2] at g; cases g
        refine .bind' (.eq (ix_nat hy) ?_)
        refine .bind (Q := fun d : Bool ⊕ Int => d = .inr 1) ?_ ?_
        · refine .loop (fun st : Int × Int => ∃ j : Nat, st.2 = (j : Int) ∧ j ≤ y.Hops.length ∧ st.1 = hcnt k (y.Hops.take j)) (fun st => y.Hops.length - st.2.toNat) ⟨0, rfl, Nat.zero_le _, by simp [hcnt]⟩ (by dsimp only; omega) ?_
          rintro ⟨ov, i⟩ ⟨t, rfl, ht, rfl⟩
          have hcb := hcnt_bnd k (y.Hops.take t)
          rw [List.length_take] at hcb
          have j7 : ∀ (h : Hop) (z : Int), y.Hops[t]? = some h → z = hcnt k (y.Hops.take (t + 1)) → Ok (L.law25_PathsOver.J7 (hcnt k (y.Hops.take t), (t : Int)) z) (Sum.elim (fun st : Int × Int => (∃ j : Nat, st.2 = (j : Int) ∧ j ≤ y.Hops.length ∧ st.1 = hcnt k (y.Hops.take j)) ∧ y.Hops.length - st.2.toNat < y.Hops.length - (t : Int).toNat) fun d : Bool ⊕ Int => d = .inr 1) := by
            intro h z hh hz
            have htl := (List.getElem?_eq_some_iff.1 hh).1
            unfold L.law25_PathsOver.J7
            dsimp only
            rw [wr_id (by omega)]
            exact .pure ⟨⟨t + 1, by simp, by omega, hz⟩, by dsimp only; omega⟩
          unfold L.law25_PathsOver.B6
          refine Ok.iteD (fun hlt2 => ?_) fun hge => .pure ?_
          · dsimp only at hlt2
            have hh : y.Hops[t]? = some (y.Hops[t]'(by omega)) := List.getElem?_eq_getElem _
            generalize y.Hops[t]'(by omega) = h at hh
            have hct := hcnt_take (k := k) hh
            refine .bind' (.eq (ix_nat hh) (Ok.iteE (fun hs => .bind' (.eq (ix_nat hr) (Ok.iteB (fun hb => ?_) fun _ => j7 h _ hh ?_))) fun hs => j7 h _ hh ?_))
            · obtain ⟨i, o, p0, po, y0, y1, nd, e1, e2, e3, e4, e5, e6, e7, e8, w, e9, e10, e11, e12, e13⟩ := hd.paths y m1
              obtain ⟨k', s, r', q1, q2, q3, q4⟩ := w.hop t h hh
              dsimp only at hs hb
              have : k = k' := by omega
              subst this
              rw [hr] at q3; simp at q3; subst q3
              rcases q4 with ⟨b, q, _⟩ | ⟨b, q, _⟩
              · rw [b] at hb; simp at hb; omega
              · rw [b] at hb; simp at hb; omega
            · dsimp only at hs
              rw [if_pos hs] at hct
              rw [hct, wr_id (by omega)]
            · dsimp only at hs
              rw [if_neg hs] at hct
              dsimp only; omega
          · dsimp only at hge
            have : t = y.Hops.length := by omega
            subst this
            simp [hc]
        · rintro _ rfl
          simp only [Sum.elim_inr]
          unfold L.law25_PathsOver.J5
          refine Ok.iteU (fun h => absurd rfl h) fun _ => ?_
          unfold L.law25_PathsOver.J4
          have hs0 := hsb j; have hs1 := hsb (j + 1)
          have hst := rateSum_take hy
          dsimp only
          rw [wr_id (by omega), wr_id (by omega)]
          exact .pure ⟨⟨j + 1, by simp, by omega, hst.symm⟩, by dsimp only; omega⟩
      · dsimp only at hge
        have : j = (x.filter (goes k)).length := by omega
        subst this
        simp
    · rintro _ rfl
      simp only [Sum.elim_inr]
      unfold L.law25_PathsOver.J1 L.law25_PathsOver.J2
      refine .bind' (.eq (ix_nat hr) (Ok.iteE (fun _ => wake) fun h => ?_))
      refine absurd ?_ h
      have hs := hd.sumR k r hr
      have ho := over_sum hres hr (l := x) hd.paths
      have hs0 := hsb (x.filter (goes k)).length
      rw [List.take_length] at hs0
      dsimp only
      rw [wr_id (by omega)]
      rcases Int.lt_trichotomy r 0 with h0 | h0 | h0
      · have := ho.2 (by omega); omega
      · have := ho.2 (by omega); omega
      · have := ho.1 (by omega); omega
  obtain ⟨r, h, rfl⟩ := this
  exact h

end Go.Proofs.Ytndfiddakngjdaa
