/- Dividing a plan into paths. No condition. -/
import Derived.Test.YtndfiddakngjdaaQ2
namespace Go.Proofs.Ytndfiddakngjdaa
set_option linter.unusedVariables false
set_option linter.unusedSimpArgs false
open Go.Aw

/-- How many are not 0. -/
def nz : List Int → Nat
  | [] => 0
  | x :: l => (if x = 0 then 0 else 1) + nz l
theorem nz_len : ∀ l : List Int, nz l ≤ l.length
  | [] => Nat.le_refl _
  | x :: l => by have := nz_len l; simp only [nz, List.length_cons]; split <;> omega
theorem nz_le : ∀ {l m : List Int}, l.length = m.length → (∀ k : Nat, l[k]? = some 0 → m[k]? = some 0) → nz m ≤ nz l
  | [], [], _, _ => Nat.le_refl _
  | [], _ :: _, h, _ => by simp at h
  | _ :: _, [], h, _ => by simp at h
  | x :: l, y :: m, hl, h => by
    have h0 := h 0
    have := nz_le (l := l) (m := m) (by simpa using hl) fun k hk => by have := h (k + 1) (by simpa using hk); simpa using this
    simp at h0
    simp only [nz]
    by_cases hx : x = 0
    · rw [if_pos hx, if_pos (h0 hx)]; omega
    · rw [if_neg hx]; split <;> omega
theorem nz_lt : ∀ {l m : List Int} {i : Nat} {x : Int}, l.length = m.length → (∀ k : Nat, l[k]? = some 0 → m[k]? = some 0) → l[i]? = some x → x ≠ 0 → m[i]? = some 0 → nz m < nz l
  | [], _, i, _, _, _, h, _, _ => by simp at h
  | _ :: _, [], _, _, h, _, _, _, _ => by simp at h
  | a :: l, b :: m, 0, x, hl, h, hx, hn, hy => by
    have := nz_le (l := l) (m := m) (by simpa using hl) fun k hk => by have := h (k + 1) (by simpa using hk); simpa using this
    simp at hx hy
    simp only [nz]
    rw [if_pos hy, if_neg (show ¬ a = 0 by omega)]; omega
  | a :: l, b :: m, i + 1, x, hl, h, hx, hn, hy => by
    have h0 := h 0
    have := nz_lt (l := l) (m := m) (i := i) (by simpa using hl) (fun k hk => by have := h (k + 1) (by simpa using hk); simpa using this) (by simpa using hx) hn (by simpa using hy)
    simp at h0
    simp only [nz]
    by_cases ha : a = 0
    · rw [if_pos ha, if_pos (h0 ha)]; omega
    · rw [if_neg ha]; split <;> omega

/-- What paths carry over a segment, and at a port. -/
def segSum (k : Nat) : List Path → Int
  | [] => 0
  | x :: l => hsum x.Rate k x.Hops + segSum k l
def portOf (i : Nat) (x : Path) : Int := (if x.In = (i : Int) then x.Rate else 0) - (if x.Out = (i : Int) then x.Rate else 0)
def portSum (i : Nat) : List Path → Int
  | [] => 0
  | x :: l => portOf i x + portSum i l
theorem segSum_append (k : Nat) : ∀ l m : List Path, segSum k (l ++ m) = segSum k l + segSum k m
  | [], m => by simp [segSum]
  | x :: l, m => by simp only [List.cons_append, segSum, segSum_append k l m]; omega
theorem portSum_append (i : Nat) : ∀ l m : List Path, portSum i (l ++ m) = portSum i l + portSum i m
  | [], m => by simp [portSum]
  | x :: l, m => by simp only [List.cons_append, portSum, portSum_append i l m]; omega

/-- A path of a plan. -/
def PathOk (n : Network) (p : Plan) (x : Path) : Prop := ∃ (i o : Nat) (p0 po : Port) (y0 y1 : Int) (nd : Nat → Int), x.In = (i : Int) ∧ x.Out = (o : Int) ∧ n.Ports[i]? = some p0 ∧ n.Ports[o]? = some po ∧ p.Ports[i]? = some y0 ∧ 0 < y0 ∧ p.Ports[o]? = some y1 ∧ y1 < 0 ∧
  WayIs n p.Rates x.Hops nd ∧ nd 0 = p0.Node ∧ nd x.Hops.length = po.Node ∧ x.Hops.length ≤ 5 ∧ 1 ≤ x.Rate ∧ x.Rate ≤ 1000

def Dead (rates ports : List Int) (x : Path) : Prop := (∃ i : Nat, x.In = (i : Int) ∧ ports[i]? = some 0) ∨ (∃ o : Nat, x.Out = (o : Int) ∧ ports[o]? = some 0) ∨ ∃ (h : Hop) (k : Nat), h ∈ x.Hops ∧ h.Segment = (k : Int) ∧ rates[k]? = some 0

/-- What was divided so far. -/
structure DInv (n : Network) (up : Bool) (p : Plan) (rates ports : List Int) (out : List Path) : Prop where
  res : Res n up rates ports
  shape : ∀ (k : Nat) (r r0 : Int), rates[k]? = some r → p.Rates[k]? = some r0 → (0 ≤ r0 → 0 ≤ r ∧ r ≤ r0) ∧ (r0 ≤ 0 → r0 ≤ r ∧ r ≤ 0)
  pshape : ∀ (k : Nat) (r r0 : Int), ports[k]? = some r → p.Ports[k]? = some r0 → (0 ≤ r0 → 0 ≤ r ∧ r ≤ r0) ∧ (r0 ≤ 0 → r0 ≤ r ∧ r ≤ 0)
  sumR : ∀ (k : Nat) (r r0 : Int), rates[k]? = some r → p.Rates[k]? = some r0 → r = r0 - segSum k out
  sumP : ∀ (k : Nat) (r r0 : Int), ports[k]? = some r → p.Ports[k]? = some r0 → r = r0 - portSum k out
  paths : ∀ x, x ∈ out → PathOk n p x
  dead : ∀ x, x ∈ out → Dead rates ports x
  apart : ∀ (i j : Nat) (x y : Path), i < j → out[i]? = some x → out[j]? = some y → ¬ (x.In = y.In ∧ x.Out = y.Out ∧ x.Hops = y.Hops)
  count : out.length + nz rates + nz ports ≤ nz p.Rates + nz p.Ports

theorem DInv.start {n : Network} {up : Bool} {p : Plan} (h : Res n up p.Rates p.Ports) : DInv n up p p.Rates p.Ports [] :=
  ⟨h, fun k r r0 h1 h2 => by rw [h1] at h2; simp at h2; omega, fun k r r0 h1 h2 => by rw [h1] at h2; simp at h2; omega, fun k r r0 h1 h2 => by rw [h1] at h2; simp at h2; simp [segSum]; omega, fun k r r0 h1 h2 => by rw [h1] at h2; simp at h2; simp [portSum]; omega,
    by simp, by simp, by simp, by simp⟩

theorem DInv.follow {n : Network} {up : Bool} {p : Plan} (hp : Res n up p.Rates p.Ports) {rates ports : List Int} {out : List Path} (h : DInv n up p rates ports out) {i0 o : Nat} {x : Path} {d : paths_divider} {p0 po : Port} {x0 y : Int} {nd : Nat → Int}
    (f : Follow n up rates ports i0 x d o p0 po x0 y nd) : DInv n up p d.rates d.ports (out ++ [x]) ∧ nz d.rates + nz d.ports < nz rates + nz ports ∧ ∀ (j : Nat) (z : Int), d.ports[j]? = some z → ports[j]? = some z ∨ z ≤ 0 ∨ j = i0 := by
  obtain ⟨hx0, hx0p⟩ := f.hx0
  obtain ⟨hy, hyn⟩ := f.hy
  have hrt := f.rt
  have hne : i0 ≠ o := by rintro rfl; rw [hx0] at hy; simp at hy; omega
  have hil := (List.getElem?_eq_some_iff.1 hx0).1
  have hol := (List.getElem?_eq_some_iff.1 hy).1
  obtain ⟨rl, rr⟩ := f.hrates
  have hpl : d.ports.length = ports.length := by rw [f.hports]; simp
  -- the ports that are left
  have hport : ∀ (j : Nat) (z : Int), d.ports[j]? = some z → (j = i0 ∧ z = x0 - x.Rate) ∨ (j = o ∧ z = y + x.Rate) ∨ (j ≠ i0 ∧ j ≠ o ∧ ports[j]? = some z) := by
    intro j z hz
    rw [f.hports, get_set] at hz
    split at hz
    · rename_i hh; simp at hz; exact .inr (.inl ⟨hh.1.symm, hz.symm⟩)
    · rename_i hh
      rw [get_set] at hz
      have hjo : j ≠ o := fun he => hh ⟨he.symm, by simp; omega⟩
      split at hz
      · rename_i hg; simp at hz; exact .inl ⟨hg.1.symm, hz.symm⟩
      · rename_i hg
        have hji : j ≠ i0 := fun he => hg ⟨he.symm, by omega⟩
        exact .inr (.inr ⟨hji, hjo, hz⟩)
  have hin : d.ports[i0]? = some (x0 - x.Rate) := by rw [f.hports, get_set, if_neg (fun h => hne h.1.symm), get_set, if_pos ⟨rfl, hil⟩]
  have hou : d.ports[o]? = some (y + x.Rate) := by rw [f.hports, get_set, if_pos ⟨rfl, by simpa using hol⟩]
  have back : ∀ (k : Nat) (r' : Int), d.rates[k]? = some r' → ∃ r, rates[k]? = some r ∧ r' = r - hsum x.Rate k x.Hops := by
    intro k r' hr'
    have hkl := (List.getElem?_eq_some_iff.1 hr').1
    have hr : rates[k]? = some (rates[k]'(by omega)) := List.getElem?_eq_getElem _
    have := rr k _ hr
    rw [hr'] at this; simp at this
    exact ⟨_, hr, this⟩
  have zr : ∀ k : Nat, rates[k]? = some 0 → d.rates[k]? = some 0 := by
    intro k hk
    have h1 := rr k 0 hk
    have h2 := f.less k 0 hk
    rw [h1]; congr 1; omega
  have zp : ∀ k : Nat, ports[k]? = some 0 → d.ports[k]? = some 0 := by
    intro k hk
    have hki : k ≠ i0 := by rintro rfl; rw [hx0] at hk; simp at hk; omega
    have hko : k ≠ o := by rintro rfl; rw [hy] at hk; simp at hk; omega
    rw [f.hports, List.getElem?_set_ne (Ne.symm hko), List.getElem?_set_ne (Ne.symm hki)]; exact hk
  have hdead : Dead d.rates d.ports x := by
    rcases f.tight with ht | ht | ⟨hp, hm, ht⟩
    · exact .inl ⟨i0, f.in_, by rw [hin]; congr 1; omega⟩
    · exact .inr (.inl ⟨o, f.out, by rw [hou]; congr 1; omega⟩)
    · obtain ⟨j, hj⟩ := List.getElem?_of_mem hm
      obtain ⟨k, s, r, e1, e2, e3, e4⟩ := f.way.hop j hp hj
      refine .inr (.inr ⟨hp, k, hm, e1, ?_⟩)
      have h1 := rr k r e3
      rw [h1]
      have hs := hsum_one (rate := x.Rate) hj e1 fun j' y' hj' hy' he => hj' (f.way.once h.res hy' hj (he.trans e1.symm))
      rw [hs]
      rw [amt_at e1 e3] at ht
      unfold sgn
      congr 1
      rcases e4 with ⟨b, q, _, _⟩ | ⟨b, q, _, _⟩
      · rw [b, if_neg (by simp)]; omega
      · rw [b, if_pos rfl]; omega
  have keep : ∀ z, Dead rates ports z → Dead d.rates d.ports z := by
    rintro z (⟨i, h1, h2⟩ | ⟨i, h1, h2⟩ | ⟨hp, k, h1, h2, h3⟩)
    · exact .inl ⟨i, h1, zp i h2⟩
    · exact .inr (.inl ⟨i, h1, zp i h2⟩)
    · exact .inr (.inr ⟨hp, k, h1, h2, zr k h3⟩)
  have fresh : ∀ z : Path, z.In = x.In → z.Out = x.Out → z.Hops = x.Hops → ¬ Dead rates ports z := by
    rintro z z1 z2 z3 (⟨i, h1, h2⟩ | ⟨i, h1, h2⟩ | ⟨hp, k, h1, h2, h3⟩)
    · have : i = i0 := by have := f.in_; omega
      subst this; rw [hx0] at h2; simp at h2; omega
    · have : i = o := by have := f.out; omega
      subst this; rw [hy] at h2; simp at h2; omega
    · rw [z3] at h1
      obtain ⟨j, hj⟩ := List.getElem?_of_mem h1
      obtain ⟨k', s, r, e1, e2, e3, e4⟩ := f.way.hop j hp hj
      have : k = k' := by omega
      subst this
      rw [h3] at e3; simp at e3
      rcases e4 with ⟨_, q, _⟩ | ⟨_, q, _⟩ <;> omega
  have hlt : nz d.rates + nz d.ports < nz rates + nz ports := by
    have l1 := nz_le (l := rates) (m := d.rates) rl.symm zr
    have l2 := nz_le (l := ports) (m := d.ports) hpl.symm zp
    rcases hdead with ⟨i, h1, h2⟩ | ⟨i, h1, h2⟩ | ⟨hp, k, h1, h2, h3⟩
    · have : i = i0 := by have := f.in_; omega
      subst this
      have := nz_lt (l := ports) (m := d.ports) hpl.symm zp hx0 (by omega) h2
      omega
    · have : i = o := by have := f.out; omega
      subst this
      have := nz_lt (l := ports) (m := d.ports) hpl.symm zp hy (by omega) h2
      omega
    · obtain ⟨j, hj⟩ := List.getElem?_of_mem h1
      obtain ⟨k', s, r, e1, e2, e3, e4⟩ := f.way.hop j hp hj
      have : k = k' := by omega
      subst this
      have := nz_lt (l := rates) (m := d.rates) rl.symm zr e3 (by rcases e4 with ⟨_, q, _⟩ | ⟨_, q, _⟩ <;> omega) h3
      omega
  have hpi : p.Ports[i0]? = some (p.Ports[i0]'(by have := hp.pl; have := h.res.pl; omega)) := List.getElem?_eq_getElem _
  have hpo : p.Ports[o]? = some (p.Ports[o]'(by have := hp.pl; have := h.res.pl; omega)) := List.getElem?_eq_getElem _
  generalize p.Ports[i0]'(by have := hp.pl; have := h.res.pl; omega) = yi at hpi
  generalize p.Ports[o]'(by have := hp.pl; have := h.res.pl; omega) = yo at hpo
  have si := h.pshape i0 x0 yi hx0 hpi
  have so := h.pshape o y yo hy hpo
  have hxr := h.res.prt i0 x0 hx0
  refine ⟨⟨f.res, fun k r' r0 hr' hr0 => ?_, fun k z z0 hz hz0 => ?_, fun k r' r0 hr' hr0 => ?_, fun k z z0 hz hz0 => ?_, fun z hz => ?_, fun z hz => ?_, fun i j a b hij ha hb => ?_, ?_⟩, hlt, fun j z hz => ?_⟩
  · obtain ⟨r, hr, rfl⟩ := back k r' hr'
    have := h.shape k r r0 hr hr0
    have := f.less k r hr
    omega
  · rcases hport k z hz with ⟨rfl, rfl⟩ | ⟨rfl, rfl⟩ | ⟨_, _, hz'⟩
    · rw [hpi] at hz0; simp at hz0; omega
    · rw [hpo] at hz0; simp at hz0; omega
    · exact h.pshape k z z0 hz' hz0
  · obtain ⟨r, hr, rfl⟩ := back k r' hr'
    have := h.sumR k r r0 hr hr0
    rw [segSum_append]; simp only [segSum]; omega
  · rw [portSum_append]; simp only [portSum, portOf]
    rw [f.in_, f.out]
    rcases hport k z hz with ⟨rfl, rfl⟩ | ⟨rfl, rfl⟩ | ⟨n1, n2, hz'⟩
    · have := h.sumP k x0 z0 hx0 hz0
      rw [if_pos rfl, if_neg (by omega)]; omega
    · have := h.sumP k y z0 hy hz0
      rw [if_neg (by omega), if_pos rfl]; omega
    · have := h.sumP k z z0 hz' hz0
      rw [if_neg (by omega), if_neg (by omega)]; omega
  · rcases List.mem_append.1 hz with hz | hz
    · exact h.paths z hz
    · simp at hz; subst hz
      refine ⟨i0, o, p0, po, yi, yo, nd, f.in_, f.out, f.hp0, f.hpo, hpi, by omega, hpo, by omega, ⟨fun j hh hj => ?_⟩, f.ends.1, f.ends.2, f.len, by omega, by omega⟩
      obtain ⟨k, s, r, e1, e2, e3, e4⟩ := f.way.hop j hh hj
      have hkl := (List.getElem?_eq_some_iff.1 e3).1
      have hr0 : p.Rates[k]? = some (p.Rates[k]'(by have := hp.rl; have := h.res.rl; omega)) := List.getElem?_eq_getElem _
      generalize p.Rates[k]'(by have := hp.rl; have := h.res.rl; omega) = r0 at hr0
      have hsh := h.shape k r r0 e3 hr0
      refine ⟨k, s, r0, e1, e2, hr0, ?_⟩
      rcases e4 with ⟨b, q, q1, q2⟩ | ⟨b, q, q1, q2⟩
      · exact .inl ⟨b, by omega, q1, q2⟩
      · exact .inr ⟨b, by omega, q1, q2⟩
  · rcases List.mem_append.1 hz with hz | hz
    · exact keep z (h.dead z hz)
    · simp at hz; subst hz; exact hdead
  · have hbl := (List.getElem?_eq_some_iff.1 hb).1
    simp at hbl
    rw [List.getElem?_append_left (by omega)] at ha
    rw [List.getElem?_append] at hb
    split at hb
    · exact h.apart i j a b hij ha hb
    · have : j = out.length := by omega
      subst this
      simp at hb; subst hb
      rintro ⟨a1, a2, a3⟩
      exact fresh a a1 a2 a3 (h.dead a (List.mem_of_getElem? ha))
  · have := h.count
    simp; omega
  · rcases hport j z hz with ⟨rfl, rfl⟩ | ⟨rfl, rfl⟩ | ⟨_, _, hz'⟩
    · exact .inr (.inr rfl)
    · exact .inr (.inl (by omega))
    · exact .inl hz'

end Go.Proofs.Ytndfiddakngjdaa
