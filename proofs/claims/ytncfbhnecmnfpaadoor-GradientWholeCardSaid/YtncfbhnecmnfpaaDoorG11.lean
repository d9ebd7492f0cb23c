/- GradientWhole answers true. No condition. -/
import Derived.Test.YtncfbhnecmnfpaaDoorG9
import Derived.Test.YtncfbhnecmnfpaaDoorDw
namespace Go.Proofs.YtncfbhnecmnfpaaDoor
set_option linter.unusedVariables false
set_option linter.unusedSimpArgs false
open Go.Aw

theorem up_uniq : ∀ {l m : List Int}, l.Pairwise (· < ·) → m.Pairwise (· < ·) → (∀ x, x ∈ l ↔ x ∈ m) → l = m
  | [], [], _, _, _ => rfl
  | [], b :: m, _, _, h => by have := (h b).2 (by simp); simp at this
  | a :: l, [], _, _, h => by have := (h a).1 (by simp); simp at this
  | a :: l, b :: m, hl, hm, h => by
    have la := (List.pairwise_cons.1 hl).1
    have mb := (List.pairwise_cons.1 hm).1
    have hab : a = b := by
      have h1 := (h a).1 (by simp)
      have h2 := (h b).2 (by simp)
      rcases List.mem_cons.1 h1 with h1 | h1
      · exact h1
      · rcases List.mem_cons.1 h2 with h2 | h2
        · exact h2.symm
        · have := mb a h1; have := la b h2; omega
    subst hab
    rw [up_uniq (List.pairwise_cons.1 hl).2 (List.pairwise_cons.1 hm).2 fun x => ?_]
    constructor
    · intro hx
      have := la x hx
      rcases List.mem_cons.1 ((h x).1 (by simp [hx])) with e | e
      · omega
      · exact e
    · intro hx
      have := mb x hx
      rcases List.mem_cons.1 ((h x).2 (by simp [hx])) with e | e
      · omega
      · exact e

theorem asc_pairwise {pts : List Point} (h : Asc pts) : (pts.map (·.At)).Pairwise (· < ·) := by
  rw [List.pairwise_iff_getElem]
  intro i j hi hj hij
  simp only [List.length_map] at hi hj
  simp only [List.getElem_map]
  exact h i j _ _ hij (List.getElem?_eq_getElem hi) (List.getElem?_eq_getElem hj)

theorem brk_one {s : Segment} (hs : SegG s) : brk s [⟨0, s.Capacity⟩] = s.Points.map (·.At) := by
  have hpl := hs.points.len
  have hg : s.Points[s.Points.length - 1]? = some (s.Points[s.Points.length - 1]'(by omega)) := List.getElem?_eq_getElem _
  have hlast := hs.points.last _ hg
  refine up_uniq (brk_up _ _) (asc_pairwise hs.points.asc) fun x => ?_
  rw [brk_mem]
  constructor
  · rintro (⟨p, hp, rfl⟩ | ⟨k, hk, rfl⟩)
    · exact List.mem_map.2 ⟨p, hp, rfl⟩
    · simp at hk
      subst hk
      exact List.mem_map.2 ⟨_, List.mem_of_getElem? hg, by rw [hlast]; simp [sumV]⟩
  · intro hx
    obtain ⟨p, hp, rfl⟩ := List.mem_map.1 hx
    exact .inl ⟨p, hp, rfl⟩

theorem tele {g : gradient_part → Int} {key : Point → Int} {W : List gradient_part} {pts : List Point} (hl : W.length + 1 = pts.length)
    (h : ∀ i x, W[i]? = some x → ∃ u v, pts[i]? = some u ∧ pts[i + 1]? = some v ∧ g x = key v - key u) {u v : Point} (hu : pts[0]? = some u) (hv : pts[pts.length - 1]? = some v) : sumBy g W = key v - key u := by
  have key : ∀ k, k ≤ W.length → ∀ w, pts[k]? = some w → sumBy g (W.take k) = key w - key u := by
    intro k
    induction k with
    | zero => intro _ w hw; rw [hu] at hw; cases hw; simp [sumBy]
    | succ k ih =>
      intro hk w hw
      have hx : W[k]? = some (W[k]'hk) := List.getElem?_eq_getElem _
      obtain ⟨a, b, h1, h2, h3⟩ := h k _ hx
      rw [hw] at h2; cases h2
      rw [sumBy_take g hx, ih (by omega) a h1, h3]; omega
  have := key W.length (Nat.le_refl _) v (by rw [show W.length = pts.length - 1 by omega]; exact hv)
  rwa [List.take_of_length_le (Nat.le_refl _)] at this

/-- The parts of a segment with one piece are its sections. -/
theorem parts_one {s : Segment} {pr : Product} {W : List gradient_part} (hs : SegG s) (hW : Parts s [⟨0, s.Capacity⟩] [pr] W) :
    ∀ i x, W[i]? = some x → ∃ u v, s.Points[i]? = some u ∧ s.Points[i + 1]? = some v ∧ u.At < v.At ∧ x = ⟨v.At - u.At, v.At - u.At, v.Height - u.Height, pr⟩ := by
  intro i x hx
  obtain ⟨a, b, p, u, v, k, y, h1, h2, h3, h4, h5, h6, h7, h8, h9, h10, rfl⟩ := hW.all i x hx
  rw [brk_one hs, List.getElem?_map] at h1 h2
  obtain ⟨u', e1, rfl⟩ := Option.map_eq_some_iff.1 h1
  obtain ⟨v', e2, rfl⟩ := Option.map_eq_some_iff.1 h2
  have hlt := hs.points.up i u' v' e1 e2
  obtain rfl := point_uniq hs.points.asc h3 h4 e1 e2 h5 h6 hlt (Int.le_refl _)
  rw [e1] at h3; cases h3
  rw [e2] at h4; cases h4
  simp at h9; subst h9
  simp at h10; subst h10
  exact ⟨_, _, e1, e2, hlt, rfl⟩

/-- The losses of the sections and the exact loss. -/
theorem whole_bd {s : Segment} {pr : Product} {W : List gradient_part} {q : Int} (hc : 1 ≤ s.Capacity)
    (h : ∀ x, x ∈ W → x.width = x.length ∧ 1 ≤ x.length ∧ x.liquid = pr) (hlen : sumBy (fun x => x.length) W = s.Capacity) :
    1000 * sumBy (lo s q) W ≤ s.Resist * pr.Friction * q * q + pr.Density * 9807 * sumBy (fun x => x.height) W ∧
    s.Resist * pr.Friction * q * q + pr.Density * 9807 * sumBy (fun x => x.height) W ≤ 1000 * sumBy (hi s q) W := by
  obtain ⟨c, hcc⟩ : ∃ c, c = s.Resist * pr.Friction * q * q := ⟨_, rfl⟩
  obtain ⟨d, hd⟩ : ∃ d, d = pr.Density * 9807 := ⟨_, rfl⟩
  have b1 : 0 < frB s := by unfold frB; omega
  have fA : ∀ x, x ∈ W → frA s q x = c * x.length := fun x hx => by unfold frA; rw [(h x hx).2.2, hcc]
  have lA : ∀ x, x ∈ W → liA x = x.length * (d * x.height) := fun x hx => by unfold liA; rw [(h x hx).2.2, hd, Int.mul_comm]
  have lB : ∀ x, x ∈ W → liB x = x.length * 1000 := fun x hx => by unfold liB; rw [(h x hx).1, Int.mul_comm]
  have lp : ∀ x, x ∈ W → 0 < liB x := fun x hx => by rw [lB x hx]; have := (h x hx).2.1; omega
  have s1 := sumBy_le (l := W) (g := fun x => frB s * dn (frA s q x) (frB s)) (h := fun x => c * x.length) fun x hx => by rw [← fA x hx]; exact dn_le b1
  have s2 := sumBy_le (l := W) (g := fun x => c * x.length) (h := fun x => frB s * up (frA s q x) (frB s)) fun x hx => by rw [← fA x hx]; exact le_up b1
  have s3 := sumBy_le (l := W) (g := fun x => 1000 * dn (liA x) (liB x)) (h := fun x => d * x.height) fun x hx => by
    have h1 := dn_le (a := liA x) (lp x hx)
    rw [lB x hx, lA x hx, Int.mul_assoc] at h1
    have h2 := Int.le_of_mul_le_mul_left h1 (by have := (h x hx).2.1; omega)
    rw [← lA x hx, ← lB x hx] at h2
    exact h2
  have s4 := sumBy_le (l := W) (g := fun x => d * x.height) (h := fun x => 1000 * up (liA x) (liB x)) fun x hx => by
    have h1 := le_up (a := liA x) (lp x hx)
    rw [lB x hx, lA x hx, Int.mul_assoc] at h1
    have h2 := Int.le_of_mul_le_mul_left h1 (by have := (h x hx).2.1; omega)
    rw [← lA x hx, ← lB x hx] at h2
    exact h2
  rw [sumBy_mul, sumBy_mul] at s1 s2 s3 s4
  rw [hlen] at s1 s2
  have s3' : 1000 * sumBy (fun x => dn (liA x) (liB x)) W ≤ d * sumBy (fun x => x.height) W := s3
  have s4' : d * sumBy (fun x => x.height) W ≤ 1000 * sumBy (fun x => up (liA x) (liB x)) W := s4
  clear s3 s4
  have e1 : sumBy (lo s q) W = sumBy (fun x => dn (frA s q x) (frB s)) W + sumBy (fun x => dn (liA x) (liB x)) W := sumBy_add _ _ W
  have e2 : sumBy (hi s q) W = sumBy (fun x => up (frA s q x) (frB s)) W + sumBy (fun x => up (liA x) (liB x)) W := sumBy_add _ _ W
  rw [e1, e2, ← hcc, ← hd]
  have t1 : 1000 * sumBy (fun x => dn (frA s q x) (frB s)) W ≤ c := by
    refine Int.le_of_mul_le_mul_left (a := s.Capacity) ?_ (by omega)
    rw [← Int.mul_assoc, Int.mul_comm s.Capacity 1000, Int.mul_comm s.Capacity c]
    exact s1
  have t2 : c ≤ 1000 * sumBy (fun x => up (frA s q x) (frB s)) W := by
    refine Int.le_of_mul_le_mul_left (a := s.Capacity) ?_ (by omega)
    rw [← Int.mul_assoc, Int.mul_comm s.Capacity 1000, Int.mul_comm s.Capacity c]
    exact s2
  omega

theorem whole_J1 {s : Segment} {d : Src} {pr : Product} {d2 : Src} {r : Int} (hs : SegG s) (hp : ProdOk 0 pr) (hr0 : r ≠ 0) (hr : -1000 ≤ r ∧ r ≤ 1000) :
    Ok (L.law19_GradientWhole.J1 (s, d) (pr, d2) r) fun x => x = true := by
  have hc := hs.cap
  have hpl := hs.points.len
  have hf : FillOk s.Capacity [(⟨0, s.Capacity⟩ : Piece)] := by
    refine ⟨⟨by simp, by simp; omega, by simp, fun i p q h1 h2 => ?_⟩, by simp [sumV]⟩
    have := (List.getElem?_eq_some_iff.1 h2).1
    simp at this
  have hps : ProdsOk [pr] := ⟨by simp, fun k p hk => by
    match k, hk with
    | 0, hk => simp at hk; subst hk; exact hp
    | k + 1, hk => simp at hk⟩
  have hliq : L.gradient_liquids [(⟨0, s.Capacity⟩ : Piece)] [(⟨(0 : Int), (⟨#[]⟩ : ByteArray), (0 : Int), (0 : Int)⟩ : Batch)] [pr] = some ([pr], 0) := rfl
  obtain ⟨W, hW, hP, hA⟩ := along_ok hs hf hps hliq rfl (by simp)
  have hone := parts_one hs hW
  have hbrk := brk_one hs
  have hbl : (brk s [(⟨0, s.Capacity⟩ : Piece)]).length = s.Points.length := by rw [hbrk]; simp
  have hWl := hW.len
  rw [hbl] at hWl
  have hu : s.Points[0]? = some (s.Points[0]'(by omega)) := List.getElem?_eq_getElem _
  have hv : s.Points[s.Points.length - 1]? = some (s.Points[s.Points.length - 1]'(by omega)) := List.getElem?_eq_getElem _
  obtain ⟨u, hue⟩ : ∃ u, u = s.Points[0]'(by omega) := ⟨_, rfl⟩
  obtain ⟨v, hve⟩ : ∃ v, v = s.Points[s.Points.length - 1]'(by omega) := ⟨_, rfl⟩
  rw [← hue] at hu; rw [← hve] at hv
  have l1 := tele (g := fun x => x.length) (key := (·.At)) hWl (fun i x hx => by obtain ⟨u, v, h1, h2, _, rfl⟩ := hone i x hx; exact ⟨u, v, h1, h2, rfl⟩) hu hv
  have l2 := tele (g := fun x => x.height) (key := (·.Height)) hWl (fun i x hx => by obtain ⟨u, v, h1, h2, _, rfl⟩ := hone i x hx; exact ⟨u, v, h1, h2, rfl⟩) hu hv
  rw [hs.points.first u hu, hs.points.last v hv, Int.sub_zero] at l1
  have hprop : ∀ x, x ∈ W → x.width = x.length ∧ 1 ≤ x.length ∧ x.liquid = pr := fun x hx => by
    obtain ⟨i, hi⟩ := List.getElem?_of_mem hx
    obtain ⟨u, v, h1, h2, h3, rfl⟩ := hone i x hi
    exact ⟨rfl, by dsimp only; omega, rfl⟩
  have hq : 1 ≤ absR r ∧ absR r ≤ 1000 := by unfold absR; split <;> omega
  have hway := wayOf_ok hP r
  have hsgn : sumBy (fun x => x.height) (wayOf W r) = if r < 0 then -(v.Height - u.Height) else v.Height - u.Height := by
    unfold wayOf
    split
    · rw [sumBy_map, sumBy_rev, ← l2]
      have := sumBy_mul (-1) (fun x : gradient_part => x.height) W
      rw [Int.neg_mul, Int.one_mul] at this
      rw [← this]
      exact sumBy_congr fun x _ => by simp [neg]
    · exact l2
  have hwl : sumBy (fun x => x.length) (wayOf W r) = s.Capacity := by
    unfold wayOf
    split
    · rw [sumBy_map, sumBy_rev]; exact l1
    · exact l1
  have hwp : ∀ x, x ∈ wayOf W r → x.width = x.length ∧ 1 ≤ x.length ∧ x.liquid = pr := by
    intro x hx
    unfold wayOf at hx
    split at hx
    · simp only [List.mem_map, List.mem_reverse] at hx
      obtain ⟨y, hy, rfl⟩ := hx
      exact hprop y hy
    · exact hprop x hx
  have wb := whole_bd (q := absR r) hc.1 hwp hwl
  have gap := lvl_gap hc hs.resist hq hway (wayOf W r).length (by rw [wayOf_len]; omega)
  rw [List.take_of_length_le (Nat.le_refl _), wayOf_len] at gap
  have hh1 := hs.points.height u (List.mem_of_getElem? hu)
  have hh2 := hs.points.height v (List.mem_of_getElem? hv)
  have hqq : absR r * absR r = r * r := by
    unfold absR
    split
    · exact Int.neg_mul_neg r r
    · rfl
  rw [Int.mul_assoc (s.Resist * pr.Friction) (absR r) (absR r), hqq, ← Int.mul_assoc, hsgn] at wb
  have m1 := mul_bd (a := s.Resist) (b := pr.Friction) (A := 1000) (B := 2000) (by have := hs.resist; omega) (by have := hp.friction; omega)
  have m2 := mul_bd (a := s.Resist * pr.Friction) (b := r) (A := 2000000) (B := 1000) (by omega) (by omega)
  have m3 := mul_bd (a := s.Resist * pr.Friction * r) (b := r) (A := 2000000000) (B := 1000) (by omega) (by omega)
  have m4 : ∀ h : Int, -5500 ≤ h ∧ h ≤ 5500 → -(12000000 * 5500) ≤ pr.Density * 9807 * h ∧ pr.Density * 9807 * h ≤ 12000000 * 5500 := fun h hh => mul_bd (a := pr.Density * 9807) (b := h) (A := 12000000) (B := 5500) (by have := hp.density; omega) hh
  have core : ∀ (b : Bounds) (h : Int), b.Low = 0 - sumBy (hi s (absR r)) (wayOf W r) → b.High = 0 - sumBy (lo s (absR r)) (wayOf W r) → h = (if r < 0 then -(v.Height - u.Height) else v.Height - u.Height) →
      Ok (L.law19_GradientWhole.J3 (s, d) (pr, d2) r (b.Low, b.High, h)) fun x => x = true := by
    intro b h e1 e2 e3
    have hh : -5500 ≤ h ∧ h ≤ 5500 := by rw [e3]; split <;> omega
    rw [← e3] at wb
    have m5 := m4 h hh
    unfold L.law19_GradientWhole.J3 L.law19_GradientWhole.J4
    refine .bind' (.ix 0 rfl (by simp) ?_)
    have hden : wr (pr.Density * 9807) = pr.Density * 9807 := wr_id (by have := hp.density; omega)
    have eX : wr (wr (wr (s.Resist * pr.Friction) * r) * r) = s.Resist * pr.Friction * r * r := by
      rw [wr_id (x := s.Resist * pr.Friction) (by omega), wr_id (x := s.Resist * pr.Friction * r) (by omega), wr_id (by omega)]
    have eY : wr (wr (pr.Density * 9807) * h) = pr.Density * 9807 * h := by rw [hden, wr_id (by omega)]
    have k1 : wr (-1000 * b.High) ≤ wr (wr (wr (wr (s.Resist * pr.Friction) * r) * r) + wr (wr (pr.Density * 9807) * h)) := by
      rw [eX, eY, e2, wr_id (x := s.Resist * pr.Friction * r * r + pr.Density * 9807 * h) (by omega), wr_id (by omega)]; omega
    have k2 : wr (wr (wr (wr (s.Resist * pr.Friction) * r) * r) + wr (wr (pr.Density * 9807) * h)) ≤ wr (-1000 * b.Low) := by
      rw [eX, eY, e1, wr_id (x := s.Resist * pr.Friction * r * r + pr.Density * 9807 * h) (by omega), wr_id (by omega)]; omega
    exact Ok.iteD (fun _ => Ok.iteD (fun _ => .bind' (.eq awake19 (.pure rfl))) fun hn => absurd k2 hn) fun hn => absurd k1 hn
  unfold L.law19_GradientWhole.J1
  refine .bind' (.mk 1 rfl (by decide) (.bind' (.eq (hA r ⟨0, 0⟩ hr0 hr.1 hr.2 (by decide) (by decide) (by decide)) ?_)))
  refine Ok.iteB (fun h => ?_) fun _ => ?_
  · simp [along_len, hbl] at h
  have hu' : ix s.Points 0 = some (0, u) := ix_nat hu
  dsimp only
  rw [hu', wr_id (x := (s.Points.length : Int) - 1) (by omega), show (s.Points.length : Int) - 1 = ((s.Points.length - 1 : Nat) : Int) by omega, ix_nat hv]
  simp only [Option.bind_some]
  unfold L.law19_GradientWhole.J2
  dsimp only
  have g1 := along_get s [(⟨0, s.Capacity⟩ : Piece)] W r ⟨0, 0⟩ (i := s.Points.length - 1) (by omega)
  have g2 := along_get s [(⟨0, s.Capacity⟩ : Piece)] W r ⟨0, 0⟩ (i := 0) (by omega)
  have g2' : ix (along s [(⟨0, s.Capacity⟩ : Piece)] W r ⟨0, 0⟩) 0 = some (0, _) := ix_nat g2
  rw [along_len, hbl, wr_id (x := (s.Points.length : Int) - 1) (by omega), show (s.Points.length : Int) - 1 = ((s.Points.length - 1 : Nat) : Int) by omega, ix_nat g1, g2']
  simp only [Option.bind_some]
  rw [wr_id (x := v.Height - u.Height) (by omega), wr_id (x := 0 - (v.Height - u.Height)) (by omega)]
  refine Ok.iteD (fun hn => ?_) fun hn => ?_
  · refine core _ _ ?_ ?_ (by rw [if_pos hn]; omega)
    · simp only [lvl, ixOf, if_pos hn, hbl]
      rw [List.take_of_length_le (by rw [wayOf_len]; omega)]
    · simp only [lvl, ixOf, if_pos hn, hbl]
      rw [List.take_of_length_le (by rw [wayOf_len]; omega)]
  · refine core _ _ ?_ ?_ (by rw [if_neg hn])
    · simp only [lvl, ixOf, if_neg hn]
      rw [List.take_of_length_le (by rw [wayOf_len]; omega)]
    · simp only [lvl, ixOf, if_neg hn]
      rw [List.take_of_length_le (by rw [wayOf_len]; omega)]

theorem gradientWhole (l : List Int) (rate : Int) (h1 : -32768 ≤ rate ∧ rate ≤ 32767) : L.law19_GradientWhole l rate = some true := by
  have : Ok (L.law19_GradientWhole l rate) fun x => x = true := by
    unfold L.law19_GradientWhole
    refine .bind (new_ok l) fun d hd => .bind (seg_ok hd (nodes := 2) (k := 0) (by decide) (by decide) (by decide) (by decide)) fun r1 hr1 => .bind (product_ok hr1.2 (k := 0) (by decide)) fun r2 hr2 => ?_
    have hs : SegG r1.1 := ⟨hr1.1.name, hr1.1.cap, hr1.1.resist, hr1.1.wave, hr1.1.points⟩
    rw [wr_id (x := rate) (by omega)]
    have hm : -1000 ≤ rate.tmod 1001 ∧ rate.tmod 1001 ≤ 1000 := by
      have a := Int.tmod_lt_of_pos rate (b := 1001) (by decide)
      have b := Int.lt_tmod_of_pos rate (b := 1001) (by decide)
      omega
    refine Ok.iteE (fun h => ?_) fun h => ?_
    · exact whole_J1 hs hr2.1 (by decide) (by decide)
    · exact whole_J1 hs hr2.1 h hm
  obtain ⟨x, h, rfl⟩ := this
  exact h

end Go.Proofs.YtncfbhnecmnfpaaDoor
