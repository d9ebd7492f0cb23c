/- Plain proofs. No condition. -/
import Derived.Test.YtmaamhgjeampmaaGreatYsP2
import Derived.Test.YtmaamhgjeampmaaGreatYsB1
import Derived.ProofKit
import Derived.SizedLaws
import Derived.Carry
set_option maxRecDepth 100000
namespace Go.Proofs.YtmaamhgjeampmaaGreat
set_option linter.unusedVariables false
set_option linter.unusedSimpArgs false
open Go.Aw
theorem alike_ok {x y : Path} (hl : x.Hops.length ≤ 1000) : Ok (L.zjuq x y) fun r => r = true ↔ (x.In = y.In ∧ x.Out = y.Out ∧ x.Hops = y.Hops) := by
 unfold L.zjuq
 refine Ok.iteB (fun hb => .pure ?_) fun hb => ?_
 ·simp only [Bool.false_eq_true, false_iff]
  rintro ⟨h1, h2, h3⟩
  simp [h1, h2, h3] at hb
 simp at hb
 obtain ⟨h1, h2, h3⟩ := hb
 refine .bind (Q := fun d : Bool ⊕ Unit => (d = .inl false ∧ x.Hops ≠ y.Hops) ∨ (d = .inr () ∧ x.Hops = y.Hops)) ?_ ?_
 ·refine .loop (fun st : Int => 0 ≤ st ∧ st ≤ (x.Hops.length : Int) ∧ ∀ j : Nat, (j : Int) < st → x.Hops[j]? = y.Hops[j]?) (fun st => x.Hops.length - st.toNat) ⟨by omega, by omega, fun j hj => by omega⟩ (by omega) ?_
  rintro st ⟨h0, h4, h5⟩
  obtain ⟨k, rfl⟩ := nat_of h0
  unfold L.zjuq.B2
  refine Ok.iteD (fun hlt => ?_) fun hge => .pure (.inr ⟨rfl, ?_⟩)
  ·have ha : x.Hops[k]? = some (x.Hops[k]'(by omega)) := gq _
   have hb : y.Hops[k]? = some (y.Hops[k]'(by omega)) := gq _
   generalize x.Hops[k]'(by omega) = u at ha
   generalize y.Hops[k]'(by omega) = v at hb
   refine .bind' (.eq (ix_nat ha) (.bind' (.eq (ix_nat hb) (Ok.iteN (fun h => .pure (.inl ⟨rfl, ?_⟩)) fun h => .pure ?_))))
   ·intro he; rw [he, hb] at ha; simp at ha; subst ha; simp at h
   ·rw [wr_id (by omega)]
    have huv : u = v := by
     simp at h
     cases u; cases v; simp_all
    refine ⟨⟨by omega, by omega, fun j hj => ?_⟩, by omega⟩
    by_cases hjk : j = k
    ·subst hjk; rw [ha, hb, huv]
    ·exact h5 j (by omega)
  ·refine List.ext_getElem? fun j => ?_
   by_cases hj : j < x.Hops.length
   ·exact h5 j (by omega)
   ·rw [List.getElem?_eq_none (by omega), List.getElem?_eq_none (by omega)]
 ·rintro _ (⟨rfl, h⟩ | ⟨rfl, h⟩)
  ·refine .pure ?_
   simp only [Bool.false_eq_true, false_iff]
   rintro ⟨_, _, h3⟩; exact h h3
  ·simp only [Sum.elim_inr]
   unfold L.zjuq.J1
   exact .pure ⟨fun _ => ⟨h1, h2, h⟩, fun _ => rfl⟩
theorem alike25 {x y : Path} (hl : x.Hops.length ≤ 1000) : L.zjuq x y = some (decide (Alike x y)) := by
 obtain ⟨r, h, hr⟩ := alike_ok (y := y) hl
 rw [h]; congr 1
 cases r with
 | true => exact (decide_eq_true (hr.1 rfl)).symm
 | false => exact (decide_eq_false fun h => by have := hr.2 h; cases this).symm
def FirstA (l : List Path) (p : Path) (k : Nat) (y : Path) : Prop := l[k]? = some y ∧ Alike y p ∧ ∀ (i : Nat) (z : Path), i < k → l[i]? = some z → ¬ Alike z p
theorem first25 {l : List Path} (h : ∀ x, x ∈ l → x.Hops.length ≤ 1000) (hl : l.length ≤ 1000) {p : Path} : Ok (L.zden l p) fun r => (r = -1 ∧ ∀ y, y ∈ l → ¬ Alike y p) ∨ ∃ k y, r = ((k : Nat) : Int) ∧ FirstA l p k y := by
 unfold L.zden
 refine .bind (Q := fun d : Int ⊕ Unit => (∃ k y, d = .inl ((k : Nat) : Int) ∧ FirstA l p k y) ∨ (d = .inr () ∧ ∀ y, y ∈ l → ¬ Alike y p)) ?_ ?_
 ·refine .loop (fun st : Int => 0 ≤ st ∧ st ≤ (l.length : Int) ∧ ∀ (i : Nat) (z : Path), (i : Int) < st → l[i]? = some z → ¬ Alike z p) (fun st => l.length - st.toNat) ⟨by omega, by omega, fun i z h => by omega⟩ (by omega) ?_
  rintro st ⟨h0, h1, hi⟩
  obtain ⟨k, rfl⟩ := nat_of h0
  unfold L.zden.B2
  refine Ok.iteD (fun hlt => ?_) fun hge => .pure (.inr ⟨rfl, fun y hy => ?_⟩)
  ·have hx : l[k]? = some (l[k]'(by omega)) := gq _
   generalize l[k]'(by omega) = x at hx
   refine .bind' (.eq (ix_nat hx) ?_)
   dsimp only
   rw [alike25 (h x (mg hx))]
   refine .bind' (.pure (Ok.iteD (fun ha => .pure (.inl ⟨k, x, rfl, hx, ha, fun i z hik => hi i z (by omega)⟩)) fun ha => .pure ?_))
   rw [wr_id (by omega)]
   refine ⟨⟨by omega, by omega, fun i z hik hz => ?_⟩, by omega⟩
   by_cases hik' : i = k
   ·subst hik'; rw [hx] at hz; simp at hz; subst hz; exact ha
   ·exact hi i z (by omega) hz
  ·obtain ⟨i, hi'⟩ := List.getElem?_of_mem hy
   exact hi i y (by have := (gs hi').1; omega) hi'
 ·rintro _ (⟨k, y, rfl, hf⟩ | ⟨rfl, hno⟩)
  ·exact .pure (.inr ⟨k, y, rfl, hf⟩)
  ·exact .pure (.inl ⟨rfl, hno⟩)
def rt : List Path → Path → Int
 | [], _ => 0
 | y :: l, u => if Alike y u then y.Rate else rt l u
theorem rt_none : ∀ {l : List Path} {u : Path}, (∀ y, y ∈ l → ¬ Alike y u) → rt l u = 0
 | [], _, _ => rfl
 | y :: l, u, h => by simp only [rt]; rw [if_neg (h y (by simp))]; exact rt_none fun z hz => h z (by simp [hz])
theorem rt_first : ∀ {l : List Path} {u y : Path} {k : Nat}, FirstA l u k y → rt l u = y.Rate
 | [], u, y, k, h => by have := h.1; simp at this
 | z :: l, u, y, 0, h => by
  obtain ⟨h1, h2, _⟩ := h
  simp at h1; subst h1
  simp only [rt]; rw [if_pos h2]
 | z :: l, u, y, k + 1, h => by
  obtain ⟨h1, h2, h3⟩ := h
  simp only [rt]
  rw [if_neg (h3 0 z (by omega) rfl)]
  exact rt_first (k := k) ⟨by simpa using h1, h2, fun i w hi hw => h3 (i + 1) w (by omega) (by simpa using hw)⟩
theorem rt_alike : ∀ {l : List Path} {u v : Path}, Alike u v → rt l u = rt l v
 | [], _, _, _ => rfl
 | y :: l, u, v, h => by
  simp only [rt]
  by_cases hy : Alike y u
  ·rw [if_pos hy, if_pos (hy.trans h)]
  ·rw [if_neg hy, if_neg fun h' => hy (h'.trans h.symm), rt_alike (l := l) h]
theorem mr_rt : ∀ {l : List Path} {u : Path}, 1 ≤ u.Rate → mr l u = min u.Rate (rt l u)
 | [], _, h => by simp only [mr, rt]; omega
 | y :: l, u, h => by simp only [mr, rt]; split <;> first | rfl | exact mr_rt h
theorem rt_rng : ∀ {l : List Path} {u : Path}, (∀ y, y ∈ l → 1 ≤ y.Rate ∧ y.Rate ≤ 1000) → 0 ≤ rt l u ∧ rt l u ≤ 1000
 | [], _, _ => by simp [rt]
 | y :: l, u, h => by
  have := h y (by simp)
  have := rt_rng (l := l) (u := u) fun z hz => h z (by simp [hz])
  simp only [rt]; split <;> omega
def isF (u : Path) (s : Step) : Bool := (s.Kind == 5) && decide (Alike s.Path u)
def sv (u : Path) : List Step → Int
 | [] => 0
 | s :: l => (if isF u s = true then s.Value else 0) + sv u l
theorem sv_append (u : Path) : ∀ l m : List Step, sv u (l ++ m) = sv u l + sv u m
 | [], m => by simp [sv]
 | s :: l, m => by simp only [List.cons_append, sv, sv_append u l m]; omega
theorem sv_none (u : Path) : ∀ {l : List Step}, (∀ s, s ∈ l → s.Kind ≠ 5) → sv u l = 0
 | [], _ => rfl
 | s :: l, h => by
  simp only [sv]
  rw [if_neg (by unfold isF; simp [h s (by simp)]), sv_none u fun x hx => h x (by simp [hx])]; rfl
theorem sv_falls {u y : Path} {sign ramp rest : Int} (hr : 1 ≤ ramp) : ∀ (m : Nat) (b : Int), b.toNat ≤ m → 0 ≤ b → sv u (falls y sign ramp rest b) = if Alike y u then sign * b else 0
 | 0, b, hb, h0 => by
  rw [falls_nil (by omega), show b = 0 by omega, Int.mul_zero]; simp [sv]
 | m + 1, b, hb, h0 => by
  by_cases hp : 0 < b
  ·rw [falls_pos hp (by omega)]
   simp only [sv]
   have hw : sv u (waits rest) = 0 := sv_none u fun s hs => by
    unfold waits at hs
    split at hs
    ·rw [List.mem_singleton] at hs; subst hs; intro h; cases h
    ·cases hs
   rw [sv_append, hw]
   have hi : isF u (sFlow y (sign * min b ramp)) = decide (Alike y u) := by unfold isF sFlow; simp [Alike]
   rw [hi]
   by_cases hle : ramp ≤ b
   ·rw [sv_falls hr m (b - ramp) (by omega) (by omega), show min b ramp = ramp by omega]
    by_cases ha : Alike y u
    ·simp only [ha, decide_true, if_true]; show sign * ramp + (0 + sign * (b - ramp)) = _; rw [Int.mul_sub]; omega
    ·simp [ha]
   ·rw [falls_nil (by omega), show min b ramp = b by omega]
    by_cases ha : Alike y u
    ·simp only [ha, decide_true, if_true, sv]; show sign * b + (0 + 0) = _; omega
    ·simp [ha, sv]
  ·rw [falls_nil (by omega), show b = 0 by omega, Int.mul_zero]; simp [sv]
theorem sv_fallsAll {u : Path} {sign ramp rest : Int} (hr : 1 ≤ ramp) {other : List Path} (ho : ∀ y, y ∈ other → 1 ≤ y.Rate ∧ y.Rate ≤ 1000) : ∀ {l : List Path}, Apart l → (∀ y, y ∈ l → 1 ≤ y.Rate ∧ y.Rate ≤ 1000) → sv u (fallsAll sign ramp rest l other) = sign * (rt l u - min (rt l u) (rt other u))
 | [], _, _ => by
  have := rt_rng (u := u) ho
  simp only [rt]
  rw [show (0 : Int) - min 0 (rt other u) = 0 by omega, Int.mul_zero]; rfl
 | y :: l, ha, hl => by
  have hy := hl y (by simp)
  have ih := sv_fallsAll (u := u) (sign := sign) (rest := rest) hr ho ha.2 fun z hz => hl z (by simp [hz])
  have hm := mr_rt (l := other) hy.1
  have hor := rt_rng (u := y) ho
  unfold fallsAll at ih ⊢
  rw [List.flatMap_cons, sv_append, ih, sv_falls hr _ _ (Nat.le_refl _) (by omega)]
  simp only [rt]
  by_cases h : Alike y u
  ·rw [if_pos h, if_pos h, hm, rt_alike h, rt_none fun z hz hzu => ha.1 z hz (h.trans hzu.symm)]
   have := rt_rng (u := u) ho
   rw [show (0 : Int) - min 0 (rt other u) = 0 by omega, Int.mul_zero]; omega
  ·rw [if_neg h, if_neg h]; omega
def Goes (a b : List Path) (s : Step) : Prop := s.Kind = 5 → ∃ y, (y ∈ a ∨ y ∈ b) ∧ s.Path = ⟨y.In, y.Out, y.Hops, 0⟩ ∧ (s.Value < 0 ∧ rt b y < rt a y ∨ 0 < s.Value ∧ rt a y < rt b y)
theorem falls_goes {a b : List Path} {y : Path} (hy : y ∈ a ∨ y ∈ b) {sign ramp rest : Int} (hr : 1 ≤ ramp) : ∀ (m : Nat) (c : Int), c.toNat ≤ m → (0 < c → sign = -1 ∧ rt b y < rt a y ∨ sign = 1 ∧ rt a y < rt b y) → ∀ s, s ∈ falls y sign ramp rest c → Goes a b s
 | 0, c, hb, hc, s, h => by rw [falls_nil (by omega)] at h; cases h
 | m + 1, c, hb, hc, s, h => by
  by_cases h0 : 0 < c
  ·rw [falls_pos h0 (by omega)] at h
   rcases List.mem_cons.1 h with rfl | h
   ·intro _
    refine ⟨y, hy, rfl, ?_⟩
    show (sign * min c ramp < 0 ∧ _) ∨ (0 < sign * min c ramp ∧ _)
    rcases hc h0 with ⟨rfl, h1⟩ | ⟨rfl, h1⟩
    ·exact .inl ⟨by omega, h1⟩
    ·exact .inr ⟨by omega, h1⟩
   ·rcases List.mem_append.1 h with h | h
    ·unfold waits at h
     split at h
     ·rw [List.mem_singleton] at h; subst h; intro hk; cases hk
     ·cases h
    ·exact falls_goes hy hr m (c - ramp) (by omega) (fun _ => hc h0) s h
  ·rw [falls_nil (by omega)] at h; cases h
theorem rt_mem : ∀ {l : List Path} {y : Path}, Apart l → y ∈ l → rt l y = y.Rate
 | z :: l, y, ha, hy => by
  simp only [rt]
  rcases List.mem_cons.1 hy with rfl | hy
  ·rw [if_pos ⟨rfl, rfl, rfl⟩]
  ·rw [if_neg fun h => ha.1 y hy h, rt_mem ha.2 hy]
theorem out_goes {ramp rest : Int} (hr : 1 ≤ ramp) {a b : List Path} (haa : Apart a) (hbb : Apart b) (ha : ∀ y, y ∈ a → 1 ≤ y.Rate ∧ y.Rate ≤ 1000) (hb : ∀ y, y ∈ b → 1 ≤ y.Rate ∧ y.Rate ≤ 1000) {sp cs os : List Nat} {most : Int} {ss : List Nat} {s : Step} (h : s ∈ out27 ramp rest a b sp cs os most ss) : Goes a b s := by
 unfold out27 at h
 simp only [List.mem_append, List.mem_map] at h
 rcases h with ((((⟨i, _, rfl⟩ | h) | ⟨i, _, rfl⟩ | ⟨i, _, rfl⟩) | h) | h) | ⟨i, _, rfl⟩
 ·intro hk; cases hk
 ·unfold fallsAll at h
  obtain ⟨u, hu, h⟩ := List.mem_flatMap.1 h
  refine falls_goes (.inl hu) hr _ _ (Nat.le_refl _) (fun h0 => .inl ⟨rfl, ?_⟩) s h
  rw [mr_rt (ha u hu).1] at h0
  rw [rt_mem haa hu]; omega
 ·intro hk; cases hk
 ·intro hk; cases hk
 ·unfold waits at h
  split at h
  ·rw [List.mem_singleton] at h; subst h; intro hk; cases hk
  ·cases h
 ·unfold fallsAll at h
  obtain ⟨u, hu, h⟩ := List.mem_flatMap.1 h
  refine falls_goes (.inr hu) hr _ _ (Nat.le_refl _) (fun h0 => .inr ⟨rfl, ?_⟩) s h
  rw [mr_rt (hb u hu).1] at h0
  rw [rt_mem hbb hu]; omega
 ·intro hk; cases hk
theorem out_sum {ramp rest : Int} (hr : 1 ≤ ramp) {a b : List Path} (haa : Apart a) (hbb : Apart b) (ha : ∀ y, y ∈ a → 1 ≤ y.Rate ∧ y.Rate ≤ 1000) (hb : ∀ y, y ∈ b → 1 ≤ y.Rate ∧ y.Rate ≤ 1000) {sp cs os : List Nat} {most : Int} {ss : List Nat} (u : Path) : sv u (out27 ramp rest a b sp cs os most ss) = rt b u - rt a u := by
 have n1 : ∀ (f : Nat → Step) (l : List Nat), (∀ i, (f i).Kind ≠ 5) → sv u (l.map f) = 0 := fun f l hf => sv_none u fun s hs => by
  obtain ⟨i, _, rfl⟩ := List.mem_map.1 hs; exact hf i
 have n2 : sv u (waits most) = 0 := sv_none u fun s hs => by
  unfold waits at hs
  split at hs
  ·rw [List.mem_singleton] at hs; subst hs; intro h; cases h
  ·cases hs
 unfold out27
 simp only [sv_append]
 rw [n1 sStop sp (fun i h => by cases h), n1 sClose cs (fun i h => by cases h), n1 sOpen os (fun i h => by cases h), n1 sStart ss (fun i h => by cases h), n2, sv_fallsAll hr hb haa ha, sv_fallsAll hr ha hbb hb]
 omega
def isIn (l : List Path) (s : Step) : Bool := (s.Kind == 5) && l.any fun y => decide (Alike s.Path y)
theorem isIn_snoc_old {l : List Path} {u z : Path} (hz : z ∈ l) (h : Alike z u) (s : Step) : isIn (l ++ [u]) s = isIn l s := by
 unfold isIn
 rw [List.any_append]
 cases hk : s.Kind == 5 with
 | false => rfl
 | true =>
  simp only [Bool.true_and, List.any_cons, List.any_nil, Bool.or_false]
  by_cases hu : Alike s.Path u
  ·have : l.any (fun y => decide (Alike s.Path y)) = true := List.any_eq_true.2 ⟨z, hz, decide_eq_true (hu.trans h.symm)⟩
   rw [this]; rfl
  ·simp [hu]
theorem countP_new {l : List Path} {u : Path} (h : ∀ z, z ∈ l → ¬ Alike z u) : ∀ m : List Step, m.countP (isIn (l ++ [u])) = m.countP (isIn l) + m.countP (isF u)
 | [] => rfl
 | s :: m => by
  have ih := countP_new h m
  simp only [List.countP_cons]
  rw [ih]
  have : (if isIn (l ++ [u]) s = true then 1 else 0) = (if isIn l s = true then 1 else 0) + (if isF u s = true then 1 else 0) := by
   unfold isIn isF
   rw [List.any_append]
   cases hk : s.Kind == 5 with
   | false => rfl
   | true =>
    simp only [Bool.true_and, List.any_cons, List.any_nil, Bool.or_false]
    by_cases hu : Alike s.Path u
    ·have : l.any (fun y => decide (Alike s.Path y)) = false := by
      rw [List.any_eq_false]
      intro z hz hd
      exact h z hz ((of_decide_eq_true hd).symm.trans hu)
     rw [this]; simp [hu]
    ·simp [hu]
  omega
theorem take_succ {α : Type} {l : List α} {k : Nat} {x : α} (h : l[k]? = some x) : l.take (k + 1) = l.take k ++ [x] := by
 rw [List.take_add_one, h]; rfl
theorem countP_take {α : Type} (p : α → Bool) {l : List α} {k : Nat} {x : α} (h : l[k]? = some x) : (l.take (k + 1)).countP p = (l.take k).countP p + if p x = true then 1 else 0 := by
 rw [take_succ h, List.countP_append]
 simp only [List.countP_cons, List.countP_nil]; omega
theorem sv_take (u : Path) {l : List Step} {k : Nat} {x : Step} (h : l[k]? = some x) : sv u (l.take (k + 1)) = sv u (l.take k) + if isF u x = true then x.Value else 0 := by
 rw [take_succ h, sv_append]
 simp only [sv]; omega
theorem sv_rng (u : Path) {r : Int} (hr : 0 ≤ r ∧ r ≤ 1000) : ∀ {l : List Step}, (∀ s, s ∈ l → FlowIn r s) → -(1000 * (l.length : Int)) ≤ sv u l ∧ sv u l ≤ 1000 * (l.length : Int)
 | [], _ => by simp [sv]
 | s :: l, h => by
  have ih := sv_rng u hr fun x hx => h x (List.mem_cons_of_mem _ hx)
  have h1 := h s (by simp)
  simp only [sv, List.length_cons]
  split
  ·rename_i hf
   have hk : s.Kind = 5 := by unfold isF at hf; simp at hf; exact hf.1
   have := h1 hk
   omega
  ·omega
theorem signs {x y : Int} (h : x < 0 ∧ y < 0 ∨ 0 < x ∧ 0 < y) : 0 < x * y := by
 rcases h with ⟨h1, h2⟩ | ⟨h1, h2⟩
 ·exact Int.mul_pos_of_neg_of_neg h1 h2
 ·exact Int.mul_pos h1 h2
theorem inner27 {out : List Step} {a b : List Path} (ha : ∀ y, y ∈ a → 1 ≤ y.Rate ∧ y.Rate ≤ 1000) (hb : ∀ y, y ∈ b → 1 ≤ y.Rate ∧ y.Rate ≤ 1000) (hl : out.length ≤ 400) {r : Int} (hr : 0 ≤ r ∧ r ≤ 1000)
  (hg : ∀ s, s ∈ out → Goes a b s ∧ FlowIn r s) (hlen : ∀ y, y ∈ a ++ b → y.Hops.length ≤ 1000) {u : Path} {w : Int} (hw : w = rt b u - rt a u) {e i : Int} {c : Nat} (hc : c ≤ 400) {iu : Nat} :
  Ok (loopN (L.zhuo.B12 (out, e) (iu, u) w) lots ((c : Int), 0, 0)) fun o => o = .inr (((c + out.countP (isF u) : Nat) : Int), sv u out) := by
 refine .loop (S := Int × Int × Int) (fun st => ∃ k : Nat, st.2.2 = (k : Int) ∧ k ≤ out.length ∧ st.1 = ((c + (out.take k).countP (isF u) : Nat) : Int) ∧ st.2.1 = sv u (out.take k)) (fun st => out.length - st.2.2.toNat) ⟨0, rfl, by omega, by simp, by simp [sv]⟩ (by dsimp only; omega) ?_
 rintro ⟨_, _, _⟩ ⟨k, rfl, hk, rfl, rfl⟩
 dsimp only at hk ⊢
 unfold L.zhuo.B12
 refine Ok.iteD (fun hlt => ?_) fun hge => .pure ?_
 ·dsimp only at hlt
  have hx : out[k]? = some (out[k]'(by omega)) := gq _
  generalize out[k]'(by omega) = s at hx
  have hs := mg hx
  have hcp := countP_take (isF u) hx
  have hsv := sv_take u hx
  have hr1 := sv_rng u hr (l := out.take k) fun x hx => (hg x (List.mem_of_mem_take hx)).2
  have hr2 := sv_rng u hr (l := out.take (k + 1)) fun x hx => (hg x (List.mem_of_mem_take hx)).2
  have ht1 : (out.take k).length ≤ k := by rw [List.length_take]; omega
  have ht2 : (out.take (k + 1)).length ≤ k + 1 := by rw [List.length_take]; omega
  have hcl := List.countP_le_length (p := isF u) (l := out.take k)
  have hcl2 := List.countP_le_length (p := isF u) (l := out.take (k + 1))
  obtain ⟨hgo, hin⟩ := hg s hs
  refine .bind' (.eq (ix_nat hx) ?_)
  have j14 : ∀ j : Bool, j = isF u s → Ok (L.zhuo.J14 (out, e) w (((c + (out.take k).countP (isF u) : Nat) : Int), sv u (out.take k), (k : Int)) j) (Sum.elim (fun st => (∃ k' : Nat, st.2.2 = (k' : Int) ∧ k' ≤ out.length ∧ st.1 = ((c + (out.take k').countP (isF u) : Nat) : Int) ∧ st.2.1 = sv u (out.take k')) ∧ out.length - st.2.2.toNat < out.length - (k : Int).toNat) fun o => o = .inr (((c + out.countP (isF u) : Nat) : Int), sv u out)) := by
   rintro j rfl
   unfold L.zhuo.J14 L.zhuo.J13
   refine Ok.iteB (fun hf => ?_) fun hf => .pure ⟨⟨k + 1, by dsimp only; rw [wr_id (by omega)]; omega, by omega, ?_, ?_⟩, by dsimp only; rw [wr_id (by omega)]; omega⟩
   ·refine .bind' (.eq (ix_nat hx) ?_)
    dsimp only
    rw [if_pos hf] at hcp hsv
    have hf' := hf
    unfold isF at hf'
    simp only [Bool.and_eq_true, beq_iff_eq, decide_eq_true_eq] at hf'
    obtain ⟨hk5, hal⟩ := hf'
    obtain ⟨y, hy, hp, hd⟩ := hgo hk5
    have hyu : Alike y u := by
     have : Alike y s.Path := by rw [hp]; exact ⟨rfl, rfl, rfl⟩
     exact this.trans hal
    rw [rt_alike (l := a) hyu, rt_alike (l := b) hyu] at hd
    have w1 := rt_rng (u := u) ha; have w2 := rt_rng (u := u) hb
    have v := hin hk5
    have hpos : 0 < s.Value * w := signs (by omega)
    have hbig : s.Value * w ≤ 1000000 := by
     rcases hd with ⟨d1, d2⟩ | ⟨d1, d2⟩
     ·have := Int.mul_le_mul (a := -s.Value) (b := -w) (c := 1000) (d := 1000) (by omega) (by omega) (by omega) (by omega)
      rw [Int.neg_mul_neg] at this; omega
     ·have := Int.mul_le_mul (a := s.Value) (b := w) (c := 1000) (d := 1000) (by omega) (by omega) (by omega) (by omega)
      omega
    rw [wr_id (x := s.Value * w) (by omega)]
    refine Ok.iteD (fun h => by omega) fun _ => .pure ⟨⟨k + 1, by dsimp only; rw [wr_id (by omega)]; omega, by omega, ?_, ?_⟩, by dsimp only; rw [wr_id (by omega)]; omega⟩
    ·dsimp only; rw [wr_id (by omega), hcp]; omega
    ·dsimp only; rw [hsv, wr_id (by omega)]
   ·rw [if_neg (by simp [hf])] at hcp; rw [hcp]; rfl
   ·rw [if_neg (by simp [hf])] at hsv; rw [hsv]; dsimp only; omega
  refine Ok.iteE (fun hk5 => ?_) fun hk5 => j14 _ (by unfold isF; simp [hk5])
  obtain ⟨y, hy, hp, hd⟩ := hgo hk5
  rw [alike25 (by dsimp only at hp ⊢; rw [hp]; exact hlen y (List.mem_append.2 hy))]
  exact .bind' (.pure (j14 _ (by unfold isF; dsimp only at hk5; simp [hk5])))
 ·dsimp only at hge
  have : k = out.length := by omega
  subst this
  rw [List.take_length]; rfl
theorem first_at {all : List Path} {k : Nat} {u : Path} (hu : all[k]? = some u) (hlen : ∀ y, y ∈ all → y.Hops.length ≤ 1000) (hl : all.length ≤ 1000) :
  Ok (L.zden all u) fun r => (r = (k : Int) ∧ ∀ z, z ∈ all.take k → ¬ Alike z u) ∨ (r ≠ (k : Int) ∧ ∃ z, z ∈ all.take k ∧ Alike z u) := by
 refine (first25 hlen hl).mono ?_
 rintro r (⟨_, h⟩ | ⟨i, y, rfl, h1, h2, h3⟩)
 ·exact absurd ⟨rfl, rfl, rfl⟩ (h u (mg hu))
 ·by_cases hik : i = k
  ·subst hik
   refine .inl ⟨rfl, fun z hz => ?_⟩
   obtain ⟨j, hj⟩ := List.getElem?_of_mem hz
   rw [List.getElem?_take] at hj
   split at hj
   ·exact h3 j z (by assumption) hj
   ·cases hj
  ·refine .inr ⟨by omega, y, ?_, h2⟩
   have : i < k := by
    refine Nat.lt_of_le_of_ne (Nat.le_of_not_lt fun h => h3 k u h hu ⟨rfl, rfl, rfl⟩) hik
   exact mg (i := i) (by rw [List.getElem?_take, if_pos this, h1])
theorem rt_ok {l : List Path} (hlen : ∀ y, y ∈ l → y.Hops.length ≤ 1000) (hl : l.length ≤ 1000) (u : Path) : Ok (L.zden l u) fun r => (r = -1 ∧ rt l u = 0) ∨ ∃ (k : Nat) (y : Path), r = (k : Int) ∧ l[k]? = some y ∧ y.Rate = rt l u := by
 refine (first25 hlen hl).mono ?_
 rintro r (⟨rfl, h⟩ | ⟨i, y, rfl, h⟩)
 ·exact .inl ⟨rfl, rt_none h⟩
 ·exact .inr ⟨i, y, rfl, h.1, (rt_first h).symm⟩
theorem compileSums (l : List Int) (ramp : Int) (hra : 0 ≤ ramp ∧ ramp ≤ 255) : L.zhuo l ramp = some true := by
 have : Ok (L.zhuo l ramp) fun r => r = true := by
  unfold L.zhuo
  refine Ok.iteN (fun _ => wake27) fun _ => .bind (new_ok l) fun s hs => .bind (net_ok hs) ?_
  rintro ⟨n, s1⟩ ⟨hn, hs⟩
  dsimp only at hn hs
  have h1 := hn.segs1; have h2 := hn.ports1; have h3 := hn.sts1
  refine .bind (plan27 hn hs) ?_
  rintro ⟨p, s2⟩ ⟨hp, _, hs⟩
  refine .bind (desk27 hn hs hp) ?_
  rintro ⟨d0, s3⟩ ⟨hd0, hs⟩
  refine .bind (free27 hn hd0) fun d hd => ?_
  unfold L.zhuo.J1
  refine .bind (plan27 hn hs) ?_
  rintro ⟨to, s4⟩ ⟨ht, hf, _⟩
  dsimp only at ht hf ⊢
  rw [wr_id (x := ramp) (by omega), wr_id (x := 5 + ramp) (by omega)]
  refine .bind (compile_ok hn hd ht hf (by omega) (by omega)) ?_
  rintro _ ⟨a, b, sp, cs, os, most, ss, hc, rfl⟩
  refine .bind' (.eq (divide25 hn hd.plan hc.da) (.bind' (.eq (divide25 hn ht hc.db) ?_)))
  by_cases hout : (out27 (5 + ramp) 0 a b sp cs os most ss).length > 400
  ·rw [if_pos hout]
   exact Ok.iteE (fun _ => wake27) fun h => absurd rfl h
  rw [if_neg hout]
  obtain ⟨upa, da⟩ := hc.pa
  obtain ⟨upb, db⟩ := hc.pb
  have ha : ∀ y, y ∈ a → 1 ≤ y.Rate ∧ y.Rate ≤ 1000 := fun y hy => by have := (da.paths y hy).small; exact ⟨this.2.1, this.2.2⟩
  have hb : ∀ y, y ∈ b → 1 ≤ y.Rate ∧ y.Rate ≤ 1000 := fun y hy => by have := (db.paths y hy).small; exact ⟨this.2.1, this.2.2⟩
  have hla : ∀ y, y ∈ a → y.Hops.length ≤ 1000 := fun y hy => by have := (da.paths y hy).small; omega
  have hlb : ∀ y, y ∈ b → y.Hops.length ≤ 1000 := fun y hy => by have := (db.paths y hy).small; omega
  have hlen : ∀ y, y ∈ a ++ b → y.Hops.length ≤ 1000 := fun y hy => (List.mem_append.1 hy).elim (hla y) (hlb y)
  have hac := da.count; have hbc := db.count
  have hgo : ∀ s, s ∈ out27 (5 + ramp) 0 a b sp cs os most ss → Goes a b s ∧ FlowIn (5 + ramp) s := fun s hs => ⟨out_goes (by omega) da.apt db.apt ha hb hs, out_in (by omega) hs⟩
  have hsum := fun u => out_sum (ramp := 5 + ramp) (rest := 0) (by omega) da.apt db.apt ha hb (sp := sp) (cs := cs) (os := os) (most := most) (ss := ss) u
  generalize out27 (5 + ramp) 0 a b sp cs os most ss = out at hout hgo hsum
  refine Ok.iteE (fun h => by cases h) fun _ => Ok.iteB (fun h => by simp at h) fun _ => ?_
  refine .bind' (.app (by simp; omega) (.bind' (.app (by simp; omega) ?_)))
  simp only [List.nil_append]
  have hal : (a ++ b).length ≤ 1000 := by rw [List.length_append]; omega
  have hcl := fun (p : Step → Bool) => List.countP_le_length (p := p) (l := out)
  refine .bind (Q := fun o : Bool ⊕ Int => o = .inr ((out.countP (isIn (a ++ b)) : Nat) : Int)) ?_ ?_
  ·refine .loop (S := Int × Int) (fun st => ∃ k : Nat, st.2 = (k : Int) ∧ k ≤ (a ++ b).length ∧ st.1 = ((out.countP (isIn ((a ++ b).take k)) : Nat) : Int)) (fun st => (a ++ b).length - st.2.toNat) ⟨0, rfl, by omega, ?_⟩ (by dsimp only; omega) ?_
   ·have : isIn (List.take 0 (a ++ b)) = fun _ => false := by funext s; simp [isIn]
    rw [this]; simp
   rintro ⟨_, _⟩ ⟨k, rfl, hk, rfl⟩
   dsimp only at hk ⊢
   unfold L.zhuo.B7
   refine Ok.iteD (fun hlt => ?_) fun hge => .pure ?_
   ·dsimp only at hlt
    have hx : (a ++ b)[k]? = some ((a ++ b)[k]'(by omega)) := gq _
    generalize (a ++ b)[k]'(by omega) = u at hx
    have hc0 := hcl (isIn ((a ++ b).take k))
    refine .bind' (.eq (ix_nat hx) (.bind (first_at hx hlen hal) ?_))
    rintro r (⟨rfl, hnew⟩ | ⟨hr, z, hz, hzu⟩)
    ·refine Ok.iteU (fun h => absurd rfl h) fun _ => .bind (rt_ok hla (by omega) u) ?_
     have w1 := rt_rng (u := u) ha; have w2 := rt_rng (u := u) hb
     have j10 : ∀ w : Int, w = rt b u - rt a u → Ok (L.zhuo.J10 (out, 0) (((out.countP (isIn ((a ++ b).take k)) : Nat) : Int), (k : Int)) (k, u) w) (Sum.elim (fun st => (∃ k' : Nat, st.2 = (k' : Int) ∧ k' ≤ (a ++ b).length ∧ st.1 = ((out.countP (isIn ((a ++ b).take k')) : Nat) : Int)) ∧ (a ++ b).length - st.2.toNat < (a ++ b).length - (k : Int).toNat) fun o => o = .inr ((out.countP (isIn (a ++ b)) : Nat) : Int)) := by
      intro w hw
      unfold L.zhuo.J10
      refine .bind (inner27 ha hb (by omega) (r := 5 + ramp) (by omega) hgo hlen hw (i := 0) (by omega)) ?_
      rintro _ rfl
      simp only [Sum.elim_inr]
      unfold L.zhuo.J11
      refine Ok.iteU (fun h => absurd (by dsimp only; rw [hsum u, hw]) h) fun _ => ?_
      unfold L.zhuo.J8
      refine .pure ⟨⟨k + 1, by dsimp only; rw [wr_id (by omega)]; omega, by omega, ?_⟩, by dsimp only; rw [wr_id (by omega)]; omega⟩
      dsimp only
      rw [take_succ hx, countP_new hnew]
     have j9 : ∀ v : Int, v = -rt a u → Ok (L.zhuo.J9 (out, 0) (b, 0) (((out.countP (isIn ((a ++ b).take k)) : Nat) : Int), (k : Int)) (k, u) v) (Sum.elim (fun st => (∃ k' : Nat, st.2 = (k' : Int) ∧ k' ≤ (a ++ b).length ∧ st.1 = ((out.countP (isIn ((a ++ b).take k')) : Nat) : Int)) ∧ (a ++ b).length - st.2.toNat < (a ++ b).length - (k : Int).toNat) fun o => o = .inr ((out.countP (isIn (a ++ b)) : Nat) : Int)) := by
      intro v hv
      unfold L.zhuo.J9
      refine .bind (rt_ok hlb (by omega) u) ?_
      rintro r (⟨rfl, h0⟩ | ⟨i, y, rfl, hy, hr⟩)
      ·exact Ok.iteD (fun h => by omega) fun _ => j10 _ (by omega)
      ·refine Ok.iteD (fun _ => .bind' (.eq (ix_nat hy) (j10 _ ?_))) fun h => absurd (by omega) h
       dsimp only; rw [wr_id (by omega)]; omega
     rintro r (⟨rfl, h0⟩ | ⟨i, y, rfl, hy, hr⟩)
     ·exact Ok.iteD (fun h => by omega) fun _ => j9 _ (by omega)
     ·refine Ok.iteD (fun _ => .bind' (.eq (ix_nat hy) (j9 _ ?_))) fun h => absurd (by omega) h
      dsimp only; rw [wr_id (by omega)]; omega
    ·refine Ok.iteU (fun _ => ?_) fun h => absurd h hr
     unfold L.zhuo.J8
     refine .pure ⟨⟨k + 1, by dsimp only; rw [wr_id (by omega)]; omega, by omega, ?_⟩, by dsimp only; rw [wr_id (by omega)]; omega⟩
     dsimp only
     rw [take_succ hx, show isIn (List.take k (a ++ b) ++ [u]) = isIn (List.take k (a ++ b)) from funext fun s => isIn_snoc_old hz hzu s]
   ·dsimp only at hge
    have : k = (a ++ b).length := by omega
    subst this
    rw [List.take_length]; rfl
  rintro _ rfl
  simp only [Sum.elim_inr]
  have hall : ∀ s, s ∈ out → isIn (a ++ b) s = (s.Kind == 5) := by
   intro s hs
   unfold isIn
   by_cases hk : s.Kind = 5
   ·obtain ⟨y, hy, hp, _⟩ := (hgo s hs).1 hk
    have : (a ++ b).any (fun y => decide (Alike s.Path y)) = true := List.any_eq_true.2 ⟨y, List.mem_append.2 hy, decide_eq_true (by rw [hp]; exact ⟨rfl, rfl, rfl⟩)⟩
    rw [this]; simp
   ·simp [hk]
  have hcnt : out.countP (isIn (a ++ b)) = out.countP fun s => s.Kind == 5 := List.countP_congr fun s hs => by rw [hall s hs]
  unfold L.zhuo.J2
  refine .bind (Q := fun o : Int => o = ((out.countP (fun s => s.Kind == 5) : Nat) : Int)) ?_ ?_
  ·refine .loop (S := Int × Int) (fun st => ∃ k : Nat, st.2 = (k : Int) ∧ k ≤ out.length ∧ st.1 = (((out.take k).countP (fun s => s.Kind == 5) : Nat) : Int)) (fun st => out.length - st.2.toNat) ⟨0, rfl, by omega, by simp⟩ (by dsimp only; omega) ?_
   rintro ⟨_, _⟩ ⟨k, rfl, hk, rfl⟩
   dsimp only at hk ⊢
   unfold L.zhuo.B5 L.zhuo.J6
   refine Ok.iteD (fun hlt => ?_) fun hge => .pure ?_
   ·dsimp only at hlt
    have hx : out[k]? = some (out[k]'(by omega)) := gq _
    generalize out[k]'(by omega) = s at hx
    have hcp := countP_take (fun s : Step => s.Kind == 5) hx
    have hcl2 := List.countP_le_length (p := fun s : Step => s.Kind == 5) (l := out.take k)
    have ht1 : (out.take k).length ≤ k := by rw [List.length_take]; omega
    refine .bind' (.eq (ix_nat hx) (Ok.iteE (fun hk5 => .pure ?_) fun hk5 => .pure ?_))
    ·refine ⟨⟨k + 1, by dsimp only; rw [wr_id (by omega)]; omega, by omega, ?_⟩, by dsimp only; rw [wr_id (by omega)]; omega⟩
     rw [if_pos (by simpa using hk5)] at hcp
     dsimp only; rw [wr_id (by omega), hcp]; omega
    ·refine ⟨⟨k + 1, by dsimp only; rw [wr_id (by omega)]; omega, by omega, ?_⟩, by dsimp only; rw [wr_id (by omega)]; omega⟩
     rw [if_neg (by simpa using hk5)] at hcp
     dsimp only; rw [hcp]; rfl
   ·dsimp only at hge
    have : k = out.length := by omega
    subst this
    rw [List.take_length]; rfl
  rintro _ rfl
  unfold L.zhuo.J3 L.zhuo.J4
  refine Ok.iteE (fun _ => ?_) fun h => absurd (by rw [hcnt]) h
  rw [awake27]
  exact .bind' (.pure (.pure rfl))
 obtain ⟨r, h, rfl⟩ := this
 exact h
end Go.Proofs.YtmaamhgjeampmaaGreat
namespace Go.Aw
set_option linter.unusedVariables false
set_option linter.unusedSimpArgs false
open Go.ChangeShapes Go.WideShapes Go.ChangeAt Go.RowKit
section
variable {H : Type} {enc : TypeId × Value → H} {P : Program}
theorem trodAll_below (hl : laidOutB P = true) {W W' : World} (hb : Below W.heap.size W W') : ∀ {ts : List TypeId} {vs : List Value} {ds : List (DataW H)} {ps : List MemPlace},
  (∀ t, t ∈ ts → P.readableRec t = true ∧ t < P.types.size) → (∀ x, x ∈ ps → x.block < W.heap.size) → DataW.TrodAll enc P W 0 (fun _ => true) true ts vs ds ps →
  DataW.TrodAll enc P W' 0 (fun b => decide (b < W.heap.size)) true ts vs ds ps
 | [], vs, ds, ps, _, _, h => by
  cases vs <;> cases ds <;> simp [DataW.TrodAll] at h ⊢
  exact h
 | t :: ts, vs, ds, ps, ht, hlt, h => by
  obtain ⟨v, vs', d, ds', p, q, rfl, rfl, rfl, h1, h2⟩ := trodAll_cons h
  have hr := ht t (by simp)
  exact ⟨p, q, Below.trod hl hr.1 hr.2 h1 hb (fun x hx => hlt x (by simp [hx])), trodAll_below hl hb (fun t ht' => ht t (by simp [ht'])) (fun x hx => hlt x (by simp [hx])) h2, rfl⟩
theorem law_post {f : Func} {s : ChangeSpec} {W W' : World} {args : Array Value} {ds : List (DataW H)} {p : List MemPlace} {t : TypeId} (hW : DataW.Whole enc P f.params.toList s.vars false W args.toList ds [] (p ++ []))
  (hA : DataW.TrodAll enc P W 0 (fun _ => true) true f.params.toList args.toList ds p)
  (hres : (s.fn H (ds ++ [])).results = [.lit (.bool true)]) (hargs : (s.fn H (ds ++ [])).args = ds) (hv : (s.fn H (ds ++ [])).vars = []) (hsv : s.vars = [])
  (hrt : f.resultTypes.toList = [t]) (hu : P.underlying t = some .bool) (hl : laidOutB P = true) (hall : ∀ t, t ∈ f.params.toList → P.readableRec t = true ∧ t < P.types.size)
  (hb : Below W.heap.size W W') : s.post enc P f false true false false W args (.bool true) W' := by
 have hlt : ∀ x, x ∈ p → x.block < W.heap.size := fun x hx => hW.lt x (by simp [hx])
 have hsz : f.resultTypes.size = 1 := by rw [← Array.length_toList, hrt]; rfl
 refine ⟨ds, [], p ++ [], [], p, [], hW, ?_, ?_, ?_, hb.frame _, fun h => by cases h⟩
 ·rw [hres, hrt, hsz]
  exact trodAll_mk1 (shut_bool hu true)
 ·rw [hargs]
  exact trodAll_below hl hb hall hlt hA
 ·rw [hv, hsv]; rfl
def encK (k : IntKind) (l : List Int) : T := .list 1 (l.map fun n => [.v (.int k n)])
theorem open_list {t e : TypeId} {k : IntKind} {W : World} {base : Nat} {r : Reach} {v : Value} {d : DataW H} {ps : List MemPlace} (ht : P.underlying t = some (.slice e)) (he : P.underlying e = some (.int k)) (hc : P.cellsOf e = 1)
  (hval : Value.okWide P W r base t v) (h : DataW.Trod enc P W 0 (fun _ => true) true t v d ps) :
  ∃ l : List Int, (l.length ≤ maxL → VR (fun b => W.heap[b]?) v (encK k l)) ∧ (∀ n, n ∈ l → (Lit.int k n).wf = true) ∧ (l = [] ∨ ∃ elems spare, d = .slice elems spare ∧ l.length = elems.length) := by
 obtain ⟨a0, len, cap, rfl⟩ := okWide_slice ht hval
 obtain ⟨fuel, hf⟩ := h
 rcases open_ints ht he hc hf with ⟨hcs, hx⟩ | ⟨a, len', cap', zs, hcs, _, hl, hm, hz, hx, hcell, hwz⟩
 ·simp [Value.cells] at hcs
  obtain ⟨rfl, rfl, rfl⟩ := hcs
  exact ⟨[], fun _ => .empty _ _ _, by simp, .inl rfl⟩
 ·simp [Value.cells] at hcs
  obtain ⟨rfl, rfl, rfl⟩ := hcs
  simp only [Prod.mk.injEq] at hx
  obtain ⟨rfl, rfl⟩ := hx
  simp only [if_true] at hz
  have hlt : (zs.take len).length = len := by simp; omega
  refine ⟨zs.take len, fun hmax => ?_, fun n hn => hwz n (List.mem_of_mem_take hn), .inr ⟨_, _, rfl, by simp [lits]⟩⟩
  by_cases hl0 : len = 0
  ·subst hl0; simp only [List.take_zero, encK, List.map_nil]; exact .empty _ _ _
  ·obtain ⟨b, off, spot⟩ := a
   have hspot : spot = none := by simpa [Addr.add] using World.cell?_spot (hcell 0 (by omega))
   subst hspot
   have hcell' : ∀ i, i < zs.length → W.cell? ⟨b, off + i, none⟩ = some (.int k (zs.getD i 0)) := fun i hi => by rw [← Addr.add_mk]; exact hcell i hi
   have hc0 := hcell' 0 (by omega)
   have hcs : ∃ cs ty fr, W.heap[b]? = some (.cells cs ty fr) := by
    unfold World.cell? at hc0
    split at hc0
    ·rename_i c ty fr hh; exact ⟨_, _, _, hh⟩
    ·cases hc0
   obtain ⟨cs, ty, fr, hh⟩ := hcs
   have hcs' : ∀ i, i < zs.length → cs[off + i]? = some (.int k (zs.getD i 0)) := fun i hi => by
    have := hcell' i hi
    simpa [World.cell?, hh] using this
   have hlen : ((zs.take len).map fun n => [T.v (.int k n)]).length = len := by rw [List.length_map, hlt]
   have hbig : off + len ≤ cs.size := by
    have := (Array.getElem?_eq_some_iff.1 (hcs' (len - 1) (by omega))).1
    omega
   have hgd : ∀ i e, ((zs.take len).map fun n => [T.v (.int k n)])[i]? = some e → ∀ (j : Nat) (x : T), e[j]? = some x → j = 0 ∧ x = .v (.int k (zs.getD i 0)) ∧ cs.getD (off + i * 1 + j) undef = .int k (zs.getD i 0) := by
    intro i e he j x hx
    simp only [List.getElem?_map, Option.map_eq_some_iff] at he
    obtain ⟨n, hn, rfl⟩ := he
    have hil := (List.getElem?_eq_some_iff.1 hn).1
    rw [hlt] at hil
    rw [List.getElem?_take_of_lt hil] at hn
    have hj : j = 0 := by have := (List.getElem?_eq_some_iff.1 hx).1; simp at this; exact this
    subst hj
    simp at hx
    have hzi : zs.getD i 0 = n := by simp [List.getD, hn]
    refine ⟨rfl, by rw [hzi]; exact hx.symm, ?_⟩
    rw [Array.getD_eq_getD_getElem?, show off + i * 1 + 0 = off + i by omega, hcs' i (by omega)]; rfl
   have := VR.list (H := fun b => W.heap[b]?) b off cap 1 ((zs.take len).map fun n => [T.v (.int k n)]) cs ty fr hh (by rw [hlen]; exact hl) (by rw [List.length_map]; exact hmax) (by rw [hlen]; omega)
    (fun i e he => by simp only [List.getElem?_map, Option.map_eq_some_iff] at he; obtain ⟨n, _, rfl⟩ := he; rfl)
    (fun i e he j x hx => by rw [(hgd i e he j x hx).2.2]; rfl) (fun i e he j x hx => by rw [(hgd i e he j x hx).2.2, (hgd i e he j x hx).2.1]; exact .v _)
   rw [hlen] at this
   exact this
end
theorem wf_u8 {n : Int} (h : (Lit.int .u8 n).wf = true) : 0 ≤ n ∧ n ≤ 255 := by
 have h1 : IntKind.u8.min = 0 := rfl
 have h2 : IntKind.u8.max = 255 := rfl
 simp only [Lit.wf, Bool.and_eq_true, decide_eq_true_eq] at h
 omega
theorem law_calls {E : Env} {f : FuncId} {xs : List T} {W : World} {args : Array Value} (hgl : Held fun b => W.heap[b]?) (hc : ACalls E f xs [] fun x _ => x = .v (.bool true)) (hsz : args.size = xs.length)
  (hv : ∀ (i : Nat) (x : T), xs[i]? = some x → VR (fun b => W.heap[b]?) (args.getD i undef) x) : Calls E.P f args W fun e W' => e = .returned (.bool true) ∧ Below W.heap.size W W' := by
 refine (hc.2 (fun b => W.heap[b]?) W args hsz hv ⟨fun _ _ h => h, hgl⟩ (by simp) (by simp)).mono ?_
 rintro e w' ⟨v, x, fp', H', rfl, rfl, hvr, _, _, _, _, hs, ⟨e1, e2, e3⟩, hfr⟩
 refine ⟨by rw [hvr.v_eq], ⟨e1, e2, e3, hs, fun k hk => (hfr k hk (by simp)).1⟩⟩
end Go.Aw
