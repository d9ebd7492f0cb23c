/- Plain proofs. No condition. -/
import Derived.Test.YtehbcbedipkifaaGreatDoorZsP2
set_option maxRecDepth 100000
namespace Go.Proofs.YtehbcbedipkifaaGreatDoor
set_option linter.unusedVariables false
set_option linter.unusedSimpArgs false
open Go.Aw
theorem limit19V {s : Segment} (h1 : 1 ≤ s.Points.length ∧ s.Points.length ≤ 1000) (x : Int) : L.ref19_Limit s x = some (limV s.Points x) := by
 have : Ok (L.ref19_Limit s x) fun r => r = limV s.Points x := by
  unfold L.ref19_Limit
  refine .bind (Q := fun d : Int => d = limV s.Points x) ?_ (by rintro _ rfl; unfold L.ref19_Limit.J1; exact .pure rfl)
  refine .loop (fun st : Int × Int => ∃ k : Nat, st.2 = ((k + 1 : Nat) : Int) ∧ k + 1 ≤ s.Points.length ∧ st.1 = limKV s.Points x k) (fun st => s.Points.length - st.2.toNat) ⟨0, rfl, by omega, rfl⟩ (by dsimp only; omega) ?_
  rintro ⟨m, i⟩ ⟨k, e1, e2, e3⟩
  dsimp only at e1 e2 e3
  subst e1 e3
  unfold L.ref19_Limit.B2
  dsimp only
  refine Ok.iteD (fun hlt => ?_) fun hn => .pure ?_
  ·have ha : s.Points[k]? = some (s.Points[k]'(by omega)) := gq _
   have hb : s.Points[k + 1]? = some (s.Points[k + 1]'(by omega)) := gq _
   have e := limKV_succ (x := x) ha hb
   have no : ¬ (s.Points[k].At ≤ x ∧ x ≤ s.Points[k + 1].At) → Ok (L.ref19_Limit.J4 s (limKV s.Points x k, ((k + 1 : Nat) : Int)) false) (Sum.elim (fun st : Int × Int => (∃ k : Nat, st.2 = ((k + 1 : Nat) : Int) ∧ k + 1 ≤ s.Points.length ∧ st.1 = limKV s.Points x k) ∧ s.Points.length - st.2.toNat < s.Points.length - (((k + 1 : Nat) : Int)).toNat) fun d : Int => d = limV s.Points x) := by
    intro hh
    unfold L.ref19_Limit.J4 L.ref19_Limit.J3
    refine Ok.iteB (fun h => by cases h) fun _ => .pure ⟨⟨k + 1, ?_, by omega, ?_⟩, ?_⟩
    ·dsimp only; rw [wr_id (by omega)]; omega
    ·dsimp only; rw [e, if_neg hh]
    ·dsimp only; rw [wr_id (by omega)]; omega
   rw [wr_id (by omega), show ((k + 1 : Nat) : Int) - 1 = (k : Int) by omega, ix_nat ha, ix_nat hb]
   simp only [Option.bind_some]
   refine Ok.iteD (fun h2 => ?_) fun h2 => no (by omega)
   by_cases h3 : x ≤ s.Points[k + 1].At
   ·rw [show decide (x ≤ s.Points[k + 1].At) = true by simpa using h3]
    unfold L.ref19_Limit.J4 L.ref19_Limit.J3
    refine Ok.iteB (fun _ => ?_) fun h => by cases h
    dsimp only
    rw [wr_id (x := ((k + 1 : Nat) : Int) - 1) (by omega), show ((k + 1 : Nat) : Int) - 1 = (k : Int) by omega, ix_nat ha, ix_nat hb]
    refine .bind' (.pure (.bind' (.pure (.pure ⟨⟨k + 1, ?_, by omega, ?_⟩, ?_⟩))))
    ·dsimp only; rw [wr_id (by omega)]; omega
    ·dsimp only; rw [e, if_pos ⟨h2, h3⟩]
    ·dsimp only; rw [wr_id (by omega)]; omega
   ·rw [show decide (x ≤ s.Points[k + 1].At) = false by simpa using h3]
    exact no (by omega)
  ·unfold limV
   rw [show s.Points.length - 1 = k by omega]; rfl
 obtain ⟨r, h, rfl⟩ := this
 exact h
def At1 (n : Network) (x : Pressures) (e : List Int) (fa : Fault) : Prop :=
 ∃ (i : Nat) (lv : List Level) (s : Segment) (a : Int) (y : Level), x.Segments[i]? = some lv ∧ n.Segments[i]? = some s ∧ e[i]? = some a ∧ y ∈ lv ∧ fa.Index = (i : Int) ∧ fa.At = y.At ∧
  ((fa.Kind = 1 ∧ limV s.Points y.At < y.Bounds.High + a) ∨ (fa.Kind = 2 ∧ y.Bounds.Low - a < n.Vapour))
def At2 (n : Network) (p : Plan) (x : Pressures) (fa : Fault) : Prop :=
 ∃ (i w : Nat) (t : Station) (c : Bounds), fa = ⟨3, (i : Int), 0⟩ ∧ n.Stations[i]? = some t ∧ p.Pumps[i]? = some true ∧ t.Node = (w : Int) ∧ x.Nodes[w]? = some c ∧ c.Low < t.Suction
theorem break1_at {n : Network} {x : Pressures} {e : List Int} (hn : NetOk n) (hI : Inv n 400000000000 x.Known x.Nodes x.Segments) (he : ExOk n e) : Ok (L.steady_Break_1 x e n) fun r => r.2 = true → At1 n x e r.1 := by
 have h3 := hI.sl; have h4 := he.len
 unfold L.steady_Break_1
 refine .bind (Q := Sum.elim (fun _ : Unit => True) fun d : Fault × Bool => At1 n x e d.1)
  (.forL (fun k _ => True) (fun d => At1 n x e d.1) trivial ?_ (fun _ _ => trivial) fun _ h => h) ?_
 ·intro k lv _ hlv _
  have hk := (gs hlv).1
  have hs : n.Segments[k]? = some (n.Segments[k]'(by omega)) := gq _
  have ha : e[k]? = some (e[k]'(by omega)) := gq _
  have hg := hI.sb k lv _ hlv hs
  have hab := he.all _ (mg ha)
  have hpl := (hn.segs k _ hs).points.len
  unfold L.steady_Break_1.B2
  refine .bind (Q := Sum.elim (fun _ : Unit => True) fun d : Fault × Bool => At1 n x e d.1)
   (.forL (fun j _ => True) (fun d => At1 n x e d.1) trivial ?_ (fun _ _ => trivial) fun _ h => h) ?_
  ·intro j y _ hy _
   have hyb := hg.2 y (mg hy)
   obtain ⟨⟨y1, y2, y3⟩, y4⟩ := hyb
   unfold L.steady_Break_1.B4
   refine .bind' (.eq (ix_nat ha) (.bind' (.eq (ix_nat hs) (.bind' (.eq (limitV_ok ⟨by dsimp only; omega, by dsimp only; omega⟩ _) ?_)))))
   dsimp only
   rw [wr_id (x := y.Bounds.High + e[k]'(by omega)) (by omega), wr_id (x := y.Bounds.Low - e[k]'(by omega)) (by omega)]
   exact Ok.iteD (fun hh => .pure ⟨k, lv, _, _, y, hlv, hs, ha, mg hy, rfl, rfl, .inl ⟨rfl, hh⟩⟩) fun h1 => Ok.iteD (fun hh => .pure ⟨k, lv, _, _, y, hlv, hs, ha, mg hy, rfl, rfl, .inr ⟨rfl, hh⟩⟩) fun h2 => .pure trivial
  ·rintro (_ | d) hd
   ·unfold L.steady_Break_1.J3
    exact .pure trivial
   ·exact .pure hd
 ·rintro (_ | d) hd
  ·unfold L.steady_Break_1.J1
   exact .pure fun h => (Bool.false_ne_true h).elim
  ·exact .pure fun _ => hd
theorem break2_at {n : Network} {x : Pressures} {p : Plan} (hn : NetOk n) (hp : p.Pumps.length = n.Stations.length) (hI : Inv n 400000000000 x.Known x.Nodes x.Segments) : Ok (L.steady_Break_2 n p x) fun r => r.2 = true → At2 n p x r.1 := by
 have h1 := hI.kl; have h2 := hI.nl
 unfold L.steady_Break_2
 refine .bind (Q := Sum.elim (fun _ : Unit => True) fun d : Fault × Bool => At2 n p x d.1) (.forL (fun _ _ => True) (fun d => At2 n p x d.1) trivial ?_ (fun _ _ => trivial) fun _ h => h) ?_
 ·intro k s _ hs _
  have hk := (gs hs).1
  have hso := (hn.sts k s hs).node
  obtain ⟨w, hwn⟩ := nat_of hso.1
  have no : Ok (L.steady_Break_2.J3 k false) (Sum.elim (fun _ : Unit => True) fun d : Fault × Bool => At2 n p x d.1) := by
   unfold L.steady_Break_2.J3
   exact Ok.iteB (fun h => by cases h) fun _ => .pure trivial
  have hq : p.Pumps[k]? = some (p.Pumps[k]'(by omega)) := gq _
  have hkn : x.Known[w]? = some (x.Known[w]'(by omega)) := gq _
  have hnd : x.Nodes[w]? = some (x.Nodes[w]'(by omega)) := gq _
  unfold L.steady_Break_2.B2
  rw [hwn]
  refine .bind' (.eq (ix_nat hq) (Ok.iteB (fun hpt => .bind' (.eq (ix_nat hkn) (Ok.iteB (fun _ => .bind' (.eq (ix_nat hnd) ?_)) fun _ => no))) fun _ => no))
  dsimp only at hpt ⊢
  by_cases hlt : (x.Nodes[w]'(by omega)).Low < s.Suction
  ·unfold L.steady_Break_2.J3
   rw [if_pos (decide_eq_true hlt)]
   exact .pure ⟨k, w, s, _, rfl, hs, by rw [hq, hpt], hwn, hnd, hlt⟩
  ·rw [show decide ((x.Nodes[w]'(by omega)).Low < s.Suction) = false from decide_eq_false hlt]
   exact no
 ·rintro (_ | d) hd
  ·unfold L.steady_Break_2.J1; exact .pure fun h => (Bool.false_ne_true h).elim
  ·exact .pure fun _ => hd
theorem break_at {n : Network} {x : Pressures} {p : Plan} {e : List Int} (hn : NetOk n) (hp : p.Pumps.length = n.Stations.length) (hI : Inv n 400000000000 x.Known x.Nodes x.Segments) (he : ExOk n e) : Ok (L.steady_Break n x p e) fun r => r.2 = true → At1 n x e r.1 ∨ At2 n p x r.1 := by
 unfold L.steady_Break
 rw [proper_ok hn hp hI he]
 refine .bind' (.pure (Ok.iteN (fun h => by cases h) fun _ => .bind (break1_at hn hI he) fun r1 h1 => ?_))
 unfold L.steady_Break.K
 exact Ok.iteB (fun hb => .pure fun _ => .inl (h1 hb)) fun hb => (break2_at hn hp hI).mono fun r h hr => .inr (h hr)
theorem along_up {s : Segment} {f : List Piece} {bs : List Batch} {p : List Product} (hs : SegG s) (hf : FillOk s.Capacity f) (hp : ProdsOk p) (hb : BatsOk p.length bs) {r B : Int} {b : Bounds} (hr : r ≠ 0 ∧ -1000 ≤ r ∧ r ≤ 1000) (hB : 0 ≤ B ∧ B ≤ 1000000000000000) (hbd : Bd B b)
  {lv : List Level} (h : L.gradient_Along s f bs p r b = some (lv, 0)) {i j : Nat} {y z : Level} (hi : lv[i]? = some y) (hj : lv[j]? = some z) (he : y.At = z.At) : y = z := by
 obtain ⟨l, hl1, hl2, hl3⟩ := liq_ok hf hb
 obtain ⟨W, hW, hP, hA⟩ := along_ok hs hf hp hl1 hl2 hl3
 obtain ⟨b1, b2, b3⟩ := hbd
 have e := hA r b hr.1 hr.2.1 hr.2.2 b1 (by omega) (by omega)
 rw [h] at e
 have e2 : lv = along s f W r b := (Prod.mk.inj (Option.some.inj e)).1
 subst e2
 have il := (gs hi).1
 have jl := (gs hj).1
 rw [along_len] at il jl
 have at_ : ∀ (i : Nat) (y : Level), i < (brk s f).length → (along s f W r b)[i]? = some y → (brk s f)[i]? = some y.At := by
  intro i y hil hi
  rw [along_get _ _ _ _ _ hil] at hi
  have hy := Option.some.inj hi
  subst hy
  simp only [lvl, placesOf, ixOf]
  by_cases hr0 : r < 0
  ·rw [if_pos hr0, if_pos hr0, List.getD_eq_getElem?_getD, List.getElem?_reverse (by omega), show (brk s f).length - 1 - ((brk s f).length - 1 - i) = i by omega, gq hil]; rfl
  ·rw [if_neg hr0, if_neg hr0, List.getD_eq_getElem?_getD, gq hil]; rfl
 have a1 := at_ i y il hi
 have a2 := at_ j z jl hj
 rw [he] at a1
 have hij : i = j := by
  rcases Nat.lt_trichotomy i j with h | h | h
  ·have := up_get (brk_up s f) h a1 a2; omega
  ·exact h
  ·have := up_get (brk_up s f) h a2 a1; omega
 subst hij
 rw [hi] at hj
 exact Option.some.inj hj
theorem zerosEx {n : Network} (hn : NetOk n) : ExOk n (List.replicate n.Segments.length 0) := ⟨by simp, fun x hx => by have := List.eq_of_mem_replicate hx; omega⟩
theorem steadyBreaks (l : List Int) (more : Int) (hm : 0 ≤ more ∧ more ≤ 4294967295) : L.law21_SteadyBreaks l more = some true := by
 have : Ok (L.law21_SteadyBreaks l more) fun r => r = true := by
  unfold L.law21_SteadyBreaks
  refine .bind (new_ok l) fun s hs => .bind (world_ok hs) ?_
  rintro ⟨n, b, pr, f, p, s1⟩ ⟨hw, hp0, hs1⟩
  dsimp only at hw hp0 hs1 ⊢
  have hn := hw.net
  have hp := hp0.flow
  obtain ⟨x, hx, hS⟩ := solve_spec hw hp
  have k1 := hS.inv.kl; have k2 := hS.inv.nl; have k3 := hS.inv.sl; have hrl := hp.rl; have hml := hp.ml
  have hn1 := hn.nodes; have hsg1 := hn.segs1; have hfl := hw.fills.len; have hst1 := hn.sts1
  have hz := zerosEx hn
  obtain ⟨⟨fa, fb⟩, hbr, hb1, hb2⟩ := (break_ok hn hml hS.inv hz).and (break_at hn hml hS.inv hz)
  dsimp only at hb1 hb2
  refine .bind' (.eq hx ?_)
  have hchk : L.steady_Check n b pr f p = some (if fb = true then fa else ⟨0, 0, 0⟩, if fb = true then 15 else 0) := by
   unfold L.steady_Check
   rw [hx]
   simp only [Option.bind_some, bne_self_eq_false, Bool.false_eq_true, if_false]
   rw [show mk? (n.Segments.length : Int) (0 : Int) = some (List.replicate n.Segments.length 0) from by
    obtain ⟨r, h, rfl⟩ := (Ok.mk (z := (0 : Int)) (P := fun r => r = List.replicate n.Segments.length 0) n.Segments.length rfl (by omega) rfl)
    exact h]
   simp only [Option.bind_some]
   rw [hbr]
   unfold L.steady_Check.J1
   cases fb <;> rfl
  refine .bind' (.eq hchk (.bind' (.mk n.Segments.length rfl (by omega) (.bind' (.mk n.Segments.length rfl (by omega) ?_)))))
  unfold L.law21_SteadyBreaks.J1
  dsimp only
  refine .bind (Q := fun st : List Int × Int × List Int × List Int => (st.2.2.1.length = n.Segments.length ∧ st.2.2.2.length = n.Segments.length) ∧ ∀ (j : Nat) (a c : Int), st.2.2.1[j]? = some a → st.2.2.2[j]? = some c → 0 ≤ a ∧ a ≤ 100000 ∧ a ≤ c ∧ c ≤ 5000000000)
   (.forJ (fun k (st : List Int × Int × List Int × List Int) => SrcOk ⟨st.1, st.2.1⟩ ∧ (st.2.2.1.length = n.Segments.length ∧ st.2.2.2.length = n.Segments.length) ∧ ∀ (j : Nat) (a c : Int), st.2.2.1[j]? = some a → st.2.2.2[j]? = some c → 0 ≤ a ∧ a ≤ 100000 ∧ a ≤ c ∧ c ≤ 5000000000) ⟨hs1.eta, ⟨by simp, by simp⟩, fun j a c ha hc => ?_⟩ ?_ fun st h => h.2) ?_
  ·dsimp only at ha hc
   have := List.eq_of_mem_replicate (mg ha)
   have := List.eq_of_mem_replicate (mg hc)
   omega
  ·rintro k ⟨L_, At, so, wi⟩ hk ⟨i1, ⟨i2, i3⟩, i4⟩
   dsimp only at i1 i2 i3 i4
   simp only [List.length_replicate] at hk
   unfold L.law21_SteadyBreaks.B9
   refine .bind (n_ok i1 (by decide) (by decide)) fun r1 h1 => .bind (n_ok h1.1 (by decide) (by decide)) fun r2 h2 => ?_
   have m1 : 0 ≤ r1.1 * r2.1 := Int.mul_nonneg h1.2.1 h2.2.1
   have m2 : r1.1 * r2.1 ≤ 100000 := by
    have : r1.1 = 0 ∨ r1.1 = 1 := by have := h1.2; omega
    rcases this with h | h <;> rw [h] <;> have := h2.2 <;> omega
   refine .bind' (.ix k rfl (by dsimp only; omega) ?_)
   dsimp only
   rw [wr_id (x := r1.1 * r2.1) (by omega)]
   have hsk : (so.set k (r1.1 * r2.1))[k]? = some (r1.1 * r2.1) := List.getElem?_set_self (by omega)
   refine .bind' (.eq (ix_nat hsk) (.bind' (.ix k rfl (by omega) ?_)))
   dsimp only
   rw [wr_id (x := more) (by omega), wr_id (by omega)]
   refine .pure ⟨h2.1.eta, ⟨by simp [i2], by simp [i3]⟩, fun j a c ha hc => ?_⟩
   dsimp only at ha hc
   by_cases e : k = j
   ·subst e
    rw [List.getElem?_set_self (by omega)] at ha hc
    cases ha; cases hc
    omega
   ·rw [List.getElem?_set_ne e] at ha hc
    exact i4 j a c ha hc
  ·rintro ⟨L_, At, so, wi⟩ ⟨⟨i2, i3⟩, i4⟩
   dsimp only at i2 i3 i4 ⊢
   have hso : ExOk n so := ⟨i2, fun a ha => by
    obtain ⟨j, hj⟩ := List.getElem?_of_mem ha
    have hjl := (gs hj).1
    have := i4 j a _ hj (gq (by omega)); omega⟩
   have hwi : ExOk n wi := ⟨i3, fun a ha => by
    obtain ⟨j, hj⟩ := List.getElem?_of_mem ha
    have hjl := (gs hj).1
    have := i4 j _ a (gq (by omega)) hj; omega⟩
   unfold L.law21_SteadyBreaks.J2
   refine .bind' (.mk n.Segments.length rfl (by omega) (.bind' (.eq hbr ?_)))
   dsimp only
   unfold L.law21_SteadyBreaks.J3
   refine .bind (break_ok hn hml hS.inv hso) ?_
   rintro ⟨f1, b1⟩ hb3
   dsimp only at hb3 ⊢
   refine .bind (break_ok hn hml hS.inv hwi) ?_
   rintro ⟨f2, b2⟩ hb4
   dsimp only at hb4 ⊢
   have q1 : fb = true → b1 = true := fun h => hb3.2 ((hb1.1 h).mono (by simp [i2]) fun i a a' ha ha' => by
    have hil := (gs ha').1
    have := List.eq_of_mem_replicate (mg ha)
    have := i4 i a' _ ha' (gq (by omega)); omega)
   have q2 : b1 = true → b2 = true := fun h => hb4.2 ((hb3.1 h).mono (by omega) fun i a a' ha ha' => (i4 i a a' ha ha').2.2.1)
   rw [if_neg (by
    cases hfb : fb with
    | false =>
     cases hb1' : b1 with
     | false => simp
     | true => simp [q2 hb1']
    | true => simp [q1 hfb, q2 (q1 hfb)])]
   rw [awake21]
   cases hfb : fb with
   | false =>
    refine Ok.iteN (fun _ => ?_) fun h => by cases h
    simp only [Bool.false_eq_true, if_false]
    unfold L.law21_SteadyBreaks.J4
    exact .pure rfl
   | true =>
    refine Ok.iteN (fun h => by cases h) fun _ => ?_
    simp only [if_true]
    rcases hb2 hfb with ⟨i, lv, sg, a, y, g1, g2, g3, g4, g5, g6, g7⟩ | ⟨i, w, t, c, rfl, g1, g2, g3, g4, g5⟩
    ·have hil := (gs g2).1
     have ha0 := List.eq_of_mem_replicate (mg g3)
     subst ha0
     rw [if_neg (by rcases g7 with ⟨h, _⟩ | ⟨h, _⟩ <;> simp [h]), if_neg (by rw [g5]; simp; omega), g5, ix_nat (l := x.Segments) g1]
     refine .bind' (.pure ?_)
     dsimp only
     refine .bind' (.forL (fun j _ => ∀ (m : Nat) (z : Level), m < j → lv[m]? = some z → z.At ≠ fa.At) (fun d => d = true) (fun m z h => absurd h (Nat.not_lt_zero _)) ?_ ?_ fun d h => by rw [h]; exact .pure rfl)
     ·intro j z _ hz hJ
      unfold L.law21_SteadyBreaks.B7
      refine Ok.iteE (fun hat => ?_) fun hat => .pure fun m z' hm' hz' => ?_
      ·dsimp only at hat
       have hr : p.Rates[i]? = some (p.Rates[i]'(by omega)) := gq _
       have hrg := hp.rng i _ sg hr g2
       have hne : p.Rates[i]'(by omega) ≠ 0 := fun h => by
        have := hS.segs0 i lv (by rw [hr, h]) g1
        rw [this] at g4; cases g4
       obtain ⟨lv', l1, l2, v, bd, c, fi, m1, m2, m3, m4, m5, m6⟩ := hS.segs i sg _ ⟨g2, hr, hne⟩
       rw [g1] at l1
       have l1' := Option.some.inj l1
       subst l1'
       obtain ⟨jy, hjy⟩ := List.getElem?_of_mem g4
       have hcb := hS.inv.ent (b := b) hn hp (by omega) m3 m4
       have hzy : z = y := along_up ((hn.segs i sg g2).g (by omega)) (hw.fills.all i fi sg m5 g2) hw.prods hw.bats ⟨hne, hrg.1, hrg.2.1⟩ (by omega) hcb m6 hz hjy (by rw [hat, g6])
       subst hzy
       have hyb := (hS.inv.sb i lv sg g1 g2).2 z g4
       have hpl := (hn.segs i sg g2).points.len
       dsimp only
       unfold L.law21_SteadyBreaks.J8
       rcases g7 with ⟨hk, hk'⟩ | ⟨hk, hk'⟩
       ·rw [if_pos (by simp [hk]), g5, ix_nat g2]
        simp only [Option.bind_some]
        rw [limit19V ⟨by omega, by omega⟩]
        simp only [Option.bind_some]
        rw [if_pos (by simp; omega), awake21]
        exact .pure rfl
       ·rw [if_neg (by simp [hk]), if_pos (by simp [hk]), if_pos (by simp; omega), awake21]
        exact .pure rfl
      ·dsimp only at hat
       by_cases hmj : m = j
       ·subst hmj; rw [hz] at hz'; cases hz'; exact hat
       ·exact hJ m z' (by omega) hz'
     ·intro _ hJ
      obtain ⟨jy, hjy⟩ := List.getElem?_of_mem g4
      exact absurd g6.symm (hJ jy y (gs hjy).1 hjy)
    ·have hil := (gs g1).1
     dsimp only
     rw [if_pos (by simp), if_pos (by simp), if_pos (by simp; omega), ix_nat g2]
     simp only [Option.bind_some, if_true]
     rw [ix_nat g1]
     simp only [Option.bind_some]
     rw [g3, ix_nat g4]
     simp only [Option.bind_some]
     rw [if_pos (decide_eq_true g5)]
     unfold L.law21_SteadyBreaks.J5
     exact .pure rfl
 obtain ⟨r, h, rfl⟩ := this
 exact h
end Go.Proofs.YtehbcbedipkifaaGreatDoor
