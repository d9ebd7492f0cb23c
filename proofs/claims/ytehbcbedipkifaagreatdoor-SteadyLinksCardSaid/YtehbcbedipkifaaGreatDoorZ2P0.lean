/- Plain proofs. No condition. -/
import Derived.Test.YtehbcbedipkifaaGreatDoorZvP1
set_option maxRecDepth 100000
namespace Go.Proofs.YtehbcbedipkifaaGreatDoor
set_option linter.unusedVariables false
set_option linter.unusedSimpArgs false
open Go.Aw
theorem Inv.ent {n : Network} {b : List Batch} {p : Plan} {K : List Bool} {N : List Bounds} {S : List (List Level)} {B : Int} (hn : NetOk n) (hp : FlowOk n p) (h : Inv n B K N S) (hB : 0 ≤ B ∧ B ≤ 1000000000000000) {v : Nat} {bd c : Bounds} (hg : N[v]? = some bd) (he : Ent n p (v : Int) bd c) : Bd (B + 2000000) c := by
 have h1 := hn.sts1; have h3 := hn.nodes
 have hbd := h.nb _ (mg hg)
 rcases he with ⟨j, t, ht, htn, _, rfl⟩ | ⟨_, rfl⟩
 ·have hj := (gs ht).1
  obtain ⟨_, o1, o2⟩ := leaves_eq (b := b) (pr := []) (f := []) (K := K) (N := N) (S := S) hn hp (v : Int)
  exact (raise_eq (hn.sts j t ht) (by omega) (by omega) hB hbd ⟨o1, o2⟩).2
 ·exact hbd.mono (by omega)
def lvStart (r : Int) (lv : List Level) : Bounds := if 0 < r then ((lv[0]?).map (·.Bounds)).getD ⟨0, 0⟩ else ((lv[lv.length - 1]?).map (·.Bounds)).getD ⟨0, 0⟩
theorem along_start {s : Segment} {f : List Piece} {bs : List Batch} {p : List Product} (hs : SegG s) (hf : FillOk s.Capacity f) (hp : ProdsOk p) (hb : BatsOk p.length bs) {r B : Int} {b : Bounds} (hr : r ≠ 0 ∧ -1000 ≤ r ∧ r ≤ 1000) (hB : 0 ≤ B ∧ B ≤ 1000000000000000) (hbd : Bd B b)
  {lv : List Level} (h : L.zax s f bs p r b = some (lv, 0)) : lvStart r lv = b := by
 obtain ⟨l, hl1, hl2, hl3⟩ := liq_ok hf hb
 obtain ⟨W, hW, hP, hA⟩ := along_ok hs hf hp hl1 hl2 hl3
 have hb2 := brk_two hs.points hs.cap.1 hf
 obtain ⟨b1, b2, b3⟩ := hbd
 have e := hA r b hr.1 hr.2.1 hr.2.2 b1 (by omega) (by omega)
 rw [h] at e
 have e2 : lv = along s f W r b := (Prod.mk.inj (Option.some.inj e)).1
 subst e2
 unfold lvStart
 rw [along_len]
 by_cases hp0 : 0 < r
 ·rw [if_pos hp0, along_get _ _ _ _ _ (by omega)]
  simp only [Option.map_some, Option.getD_some, lvl, ixOf, if_neg (show ¬ r < 0 by omega), List.take_zero, sumBy]
  simp
 ·rw [if_neg hp0, along_get _ _ _ _ _ (by omega)]
  simp only [Option.map_some, Option.getD_some, lvl, ixOf, if_pos (show r < 0 by omega), Nat.sub_self, List.take_zero, sumBy]
  simp
theorem outflow21 {n : Network} {p : Plan} (hn : NetOk n) (hp : FlowOk n p) (v : Int) : L.zcn n p v = some (outf n p v) ∧ 0 ≤ outf n p v ∧ outf n p v ≤ 32000 := by
 have h1 := hn.segs1; have h2 := hp.rl
 refine ⟨?_, (leaves_eq (b := []) (pr := []) (f := []) (K := []) (N := []) (S := []) hn hp v).2⟩
 have : Ok (L.zcn n p v) fun r => r = outf n p v := by
  unfold L.zcn
  refine .bind (.forS (fun k (st : Int) => (0 ≤ st ∧ st ≤ 1000 * k) ∧ st + outW v (n.Segments.drop k) (p.Rates.drop k) = outf n p v) ⟨⟨by omega, by omega⟩, by simp [outf]⟩ ?_ fun st h => h) ?_
  ·rintro k s st hs ⟨⟨i1, i2⟩, i3⟩
   have hk := (gs hs).1
   have hr : p.Rates[k]? = some (p.Rates[k]'(by omega)) := gq _
   have hg := hp.rng k _ s hr hs
   rw [drop_cons hs, drop_cons hr] at i3
   simp only [outW] at i3
   unfold L.zcn.B2 L.zcn.J3
   refine .bind' (.eq (ix_nat hr) (Ok.iteE (fun h0 => .pure ⟨⟨i1, by omega⟩, ?_⟩) fun h0 => ?_))
   ·dsimp only at h0
    rw [h0] at i3
    simp at i3; omega
   ·dsimp only
    rw [ends16, absq _ ⟨hg.1, hg.2.1⟩]
    refine Ok.iteE (fun he => .pure ?_) fun he => .pure ⟨⟨i1, by omega⟩, ?_⟩
    ·rw [if_pos he] at i3
     rw [wr_id (by omega)]
     omega
    ·rw [if_neg he] at i3
     omega
  ·rintro st ⟨⟨i1, i2⟩, i3⟩
   unfold L.zcn.J1
   have hd : outW v (n.Segments.drop n.Segments.length) (p.Rates.drop n.Segments.length) = 0 := by simp [outW]
   rw [hd] at i3
   exact .pure (by rw [← i3]; simp)
 obtain ⟨r, h, rfl⟩ := this
 exact h
def Fg (N : List Bounds) (C : Nat → Bounds → Prop) (low high : List Bool) : Prop :=
 low.length = N.length ∧ high.length = N.length ∧ ∀ (w : Nat) (c d : Bounds), N[w]? = some c → C w d → (c.Low = d.Low → low[w]? = some true) ∧ (c.High = d.High → high[w]? = some true)
theorem flag_step {N : List Bounds} {C C' : Nat → Bounds → Prop} {low high : List Bool} {w : Nat} {lo hi : Bool} {c d : Bounds} (h : Fg N C low high) (hl : low[w]? = some lo) (hh : high[w]? = some hi) (hc : N[w]? = some c)
  (hC : ∀ w' d', C' w' d' → C w' d' ∨ (w' = w ∧ d' = d)) : Fg N C' (low.set w (lo || c.Low == d.Low)) (high.set w (hi || c.High == d.High)) := by
 obtain ⟨h1, h2, h3⟩ := h
 refine ⟨by simp [h1], by simp [h2], fun w' c' d' hc' hd' => ?_⟩
 have hw' := (gs hc').1
 rw [set_get (gq (by omega : w' < low.length)), set_get (gq (by omega : w' < high.length))]
 by_cases e : w = w'
 ·subst e
  rw [if_pos rfl, if_pos rfl]
  rw [hc] at hc'; cases hc'
  rcases hC w d' hd' with hd | ⟨_, rfl⟩
  ·have := h3 w c d' hc hd
   constructor
   ·intro he; have := this.1 he; rw [hl] at this; cases this; rfl
   ·intro he; have := this.2 he; rw [hh] at this; cases this; rfl
  ·constructor
   ·intro he; simp [he]
   ·intro he; simp [he]
 ·rw [if_neg e, if_neg e]
  rcases hC w' d' hd' with hd | ⟨h, _⟩
  ·have := h3 w' c' d' hc' hd
   rw [gq (by omega : w' < low.length), gq (by omega : w' < high.length)] at this
   exact this
  ·exact absurd h.symm e
theorem boost20 {k nodes : Nat} {s : Station} (hs : StOk nodes k s) (hk : k < 26) (hn : nodes ≤ 24) {rate : Int} (hr : 0 ≤ rate ∧ rate ≤ 32000) : L.zfo s rate = some (boost s rate, 0) := by
 have h1 := hs.node; have h2 := hs.head; have h3 := hs.fall; have h4 := hs.suction
 have m1 : 0 ≤ s.Fall * rate := Int.mul_nonneg h3.1 hr.1
 have m2 := mul_bd (a := s.Fall) (b := rate) (A := 100000) (B := 32000) (by omega) (by omega)
 have m3 : 0 ≤ s.Fall * rate * rate := Int.mul_nonneg m1 hr.1
 have m4 := mul_bd (a := s.Fall * rate) (b := rate) (A := 3200000000) (B := 32000) (by omega) (by omega)
 have dd := dn_small (a := s.Fall * rate * rate) (b := 1000) (by decide)
 have d0 := dn_nonneg (a := s.Fall * rate * rate) (b := 1000) (by decide) m3
 have hv : L.zdc s = some true := by
  unfold L.zdc L.zdc.J1
  rw [hs.name, nameOk03S hk]
  simp only [Option.bind_some, if_true]
  rw [if_pos (by simp; omega), if_pos (by simp; omega), if_pos (by simp; omega), if_pos (by simp; omega), if_pos (by simp; omega), if_pos (by simp; omega), if_pos (by simp; omega)]
  simp; omega
 have ht : (s.Fall * rate * rate).tdiv 1000 = dn (s.Fall * rate * rate) 1000 := by
  unfold dn
  exact Int.tdiv_eq_ediv_of_nonneg m3
 unfold L.zfo
 rw [hv]
 simp only [Option.bind_some, Bool.not_true, Bool.false_eq_true, if_false]
 rw [if_neg (by simp; omega), wr_id (x := s.Fall * rate) (by omega), wr_id (x := s.Fall * rate * rate) (by omega), ht, wr_id (x := dn _ _) (by omega), wr_id (by omega)]
 rfl
theorem st_unique {n : Network} (hn : NetOk n) {i j : Nat} {t u : Station} (h1 : n.Stations[i]? = some t) (h2 : n.Stations[j]? = some u) (he : t.Node = u.Node) : i = j := by
 rcases Nat.lt_trichotomy i j with h | h | h
 ·have := hn.stsUp i j t u h h1 h2; omega
 ·exact h
 ·have := hn.stsUp j i u t h h2 h1; omega
theorem ent_unique {n : Network} {p : Plan} (hn : NetOk n) {v : Int} {b c d : Bounds} (h1 : Ent n p v b c) (h2 : Ent n p v b d) : c = d := by
 rcases h1 with ⟨j, t, a1, a2, a3, rfl⟩ | ⟨a1, rfl⟩ <;> rcases h2 with ⟨i, u, c1, c2, c3, rfl⟩ | ⟨c1, rfl⟩
 ·have := st_unique hn a1 c1 (by rw [a2, c2])
  subst this
  rw [a1] at c1; cases c1; rfl
 ·exact absurd a3 (c1 j t a1 a2)
 ·exact absurd c3 (a1 i u c1 c2)
 ·rfl
section
variable {n : Network} {b : List Batch} {pr : List Product} {f : List (List Piece)} {p : Plan} {s1 : Src} {x : Pressures} {e : Int}
theorem links18 {q : Port} {low high : List Bool} {w : Nat} {lo hi : Bool} {c : Bounds} (hw : q.Node = (w : Int)) (hl : low[w]? = some lo) (hh : high[w]? = some hi) (hc : x.Nodes[w]? = some c) :
  L.zab.J18 (x, e) q (low, high) false = some (.inl (low.set w (lo || c.Low == q.Pressure), high.set w (hi || c.High == q.Pressure))) := by
 unfold L.zab.J18 L.zab.J17
 simp only [hw, ix_nat hl, ix_nat hh, ix_nat hc, Option.bind_some, Bool.false_eq_true, if_false]
 cases lo <;> cases hi <;> simp
theorem links12 {s : Segment} {r : Int} {k : Nat} {low high : List Bool} {w : Nat} {lo hi : Bool} {c : Bounds} {g : Int × Int × Int × Int} (hw : (L.zag s r).2 = (w : Int)) (hl : low[w]? = some lo) (hh : high[w]? = some hi) (hc : x.Nodes[w]? = some c) :
  L.zab.J12 (x, e) s (low, high) (k, r) g false = some (.inl (low.set w (lo || c.Low == g.2.2.1), high.set w (hi || c.High == g.2.2.2))) := by
 unfold L.zab.J12 L.zab.J8
 simp only [ends16, hw, ix_nat hl, ix_nat hh, ix_nat hc, Option.bind_some, Bool.false_eq_true, if_false]
 cases lo <;> cases hi <;> simp
theorem links13 (hw : W21 n b pr f) (hp : FlowOk n p) {B : Int} {v : Nat} {bd c : Bounds} {s : Segment} {r : Int} {k : Nat} (hB : 0 ≤ B ∧ B ≤ 1000000000000000) (hbd : Bd B bd) (hv : (L.zag s r).1 = (v : Int)) (he : Ent n p (v : Int) bd c) :
  forS (L.zab.B13 (n, b, pr, f, p, s1) s (k, r)) 0 n.Stations (bd.Low, bd.High) = some (c.Low, c.High) := by
 have hn := hw.net
 have h1 := hn.sts1; have h2 := hp.ml; have h3 := hn.nodes
 have : Ok (forS (L.zab.B13 (n, b, pr, f, p, s1) s (k, r)) 0 n.Stations (bd.Low, bd.High)) fun st => Ent n p (v : Int) bd ⟨st.1, st.2⟩ := by
  refine .forS (fun i (st : Int × Int) => (∃ (j : Nat) (t : Station), j < i ∧ n.Stations[j]? = some t ∧ t.Node = (v : Int) ∧ p.Pumps[j]? = some true ∧ st = (bd.Low + boost t (outf n p v), bd.High + boost t (outf n p v))) ∨
    ((∀ (j : Nat) (t : Station), j < i → n.Stations[j]? = some t → t.Node = (v : Int) → p.Pumps[j]? ≠ some true) ∧ st = (bd.Low, bd.High))) (.inr ⟨fun j t hj => absurd hj (Nat.not_lt_zero _), rfl⟩) ?_ ?_
  ·rintro i t st ht hI
   have hi := (gs ht).1
   have hq : p.Pumps[i]? = some (p.Pumps[i]'(by omega)) := gq _
   have no : (t.Node = (v : Int) → p.Pumps[i]'(by omega) = false) → Ok (L.zab.J15 (n, b, pr, f, p, s1) s (k, r) t st false) fun st => (∃ (j : Nat) (t : Station), j < i + 1 ∧ n.Stations[j]? = some t ∧ t.Node = (v : Int) ∧ p.Pumps[j]? = some true ∧ st = (bd.Low + boost t (outf n p v), bd.High + boost t (outf n p v))) ∨
     ((∀ (j : Nat) (t : Station), j < i + 1 → n.Stations[j]? = some t → t.Node = (v : Int) → p.Pumps[j]? ≠ some true) ∧ st = (bd.Low, bd.High)) := by
    intro hno
    unfold L.zab.J15 L.zab.J14
    refine Ok.iteB (fun h => by cases h) fun _ => .pure ?_
    rcases hI with ⟨j, u, hj, hu⟩ | ⟨hI, hst⟩
    ·exact .inl ⟨j, u, by omega, hu⟩
    ·refine .inr ⟨fun j u hj hu hun => ?_, hst⟩
     by_cases hji : j = i
     ·subst hji
      rw [ht] at hu; cases hu
      rw [hq, hno hun]; simp
     ·exact hI j u (by omega) hu hun
   unfold L.zab.B13
   rw [ends16, hv]
   refine Ok.iteE (fun hnode => .bind' (.eq (ix_nat hq) ?_)) fun hnode => no fun h => absurd h hnode
   dsimp only
   cases hpk : p.Pumps[i]'(by omega) with
   | false => exact no fun _ => hpk
   | true =>
    rcases hI with ⟨j, u, hj, hu1, hu2, _⟩ | ⟨hI, rfl⟩
    ·have := st_unique hn hu1 ht (by rw [hu2, hnode]); omega
    ·obtain ⟨e0, e1, e2⟩ := outflow21 hn hp (v : Int)
     have er := raise_eq (hn.sts i t ht) (by omega) (by omega) hB hbd ⟨e1, e2⟩
     obtain ⟨_, r1, r2, r3⟩ := er
     dsimp only at r1 r2 r3
     unfold L.zab.J15
     refine Ok.iteB (fun _ => ?_) fun h => by cases h
     rw [ends16, hv, e0]
     simp only [Option.bind_some]
     rw [boost20 (hn.sts i t ht) (by omega) (by omega) ⟨e1, e2⟩]
     simp only [Option.bind_some]
     have b1 := hbd.1; have b2 := hbd.2.1; have b3 := hbd.2.2
     rw [wr_id (x := bd.Low + _) (by omega), wr_id (x := bd.High + _) (by omega)]
     unfold L.zab.J14
     exact .pure (.inl ⟨i, t, by omega, ht, hnode, by rw [hq, hpk], rfl⟩)
  ·rintro st (⟨j, t, _, h⟩ | ⟨hI, rfl⟩)
   ·exact .inl ⟨j, t, h.1, h.2.1, h.2.2.1, by rw [h.2.2.2]⟩
   ·exact .inr ⟨fun j t ht => hI j t (gs ht).1 ht, rfl⟩
 obtain ⟨st, h, h'⟩ := this
 have := ent_unique hn he h'
 rw [h, this]
end
theorem steadyLinks (l : List Int) : L.zab l = some true := by
 have : Ok (L.zab l) fun r => r = true := by
  unfold L.zab
  refine .bind (new_ok l) fun s hs => .bind (world_ok hs) ?_
  rintro ⟨n, b, pr, f, p, s1⟩ ⟨hw, hp0, hs1⟩
  dsimp only at hw hp0 hs1 ⊢
  have hn := hw.net
  have hp := hp0.flow
  obtain ⟨x, hx, hS⟩ := solve_spec hw hp
  have k1 := hS.inv.kl; have k2 := hS.inv.nl; have k3 := hS.inv.sl; have hrl := hp.rl; have hpl := hp.pl
  have hn1 := hn.nodes; have hsg1 := hn.segs1; have hfl := hw.fills.len
  refine .bind' (.eq hx ?_)
  rw [if_neg (by simp [k2, k3])]
  refine .bind' (.mk n.Nodes.length rfl (by omega) (.bind' (.mk n.Nodes.length rfl (by omega) ?_)))
  unfold L.zab.J1
  refine .bind' (.forL (fun k (st : List Bool × List Bool) => Fg x.Nodes (fun w d => Come n p x.Segments (fun i => i < k) (fun _ => False) (w : Int) d) st.1 st.2) (fun _ => False) ⟨by simp [k2], by simp [k2], fun w c d _ hd => ?_⟩ ?_ ?_ fun _ h => h.elim)
  ·rcases hd with ⟨i, _, _, h, _⟩ | ⟨_, _, _, _, h, _⟩
   ·exact absurd h (Nat.not_lt_zero _)
   ·exact h.elim
  ·rintro k q ⟨low, high⟩ hq hF
   dsimp only at hF hq
   have hk := (gs hq).1
   have hxk : p.Ports[k]? = some (p.Ports[k]'(by omega)) := gq _
   have hpo := (hn.ports k q hq).node
   obtain ⟨w, hwn⟩ := nat_of hpo.1
   obtain ⟨kk, c, g1, g2, g3⟩ := hS.nodes w (by omega)
   have hstep : ∀ w' d', Come n p x.Segments (fun i => i < k + 1) (fun _ => False) (w' : Int) d' → Come n p x.Segments (fun i => i < k) (fun _ => False) (w' : Int) d' ∨ (0 < p.Ports[k]'(by omega) ∧ q.Node = w' ∧ d' = ⟨q.Pressure, q.Pressure⟩) := by
    rintro w' d' (⟨i, q', x', h1, h2, h3, h4⟩ | ⟨_, _, _, _, h, _⟩)
    ·by_cases hik : i = k
     ·subst hik
      rw [hq] at h2; cases h2
      rw [hxk] at h3; cases h3
      exact .inr h4
     ·exact .inl (.inl ⟨i, q', x', by omega, h2, h3, h4⟩)
    ·exact h.elim
   unfold L.zab.B16
   refine .bind' (.eq (ix_nat (l := p.Ports) hxk) (Ok.iteD (fun hpos => ?_) fun hneg => ?_))
   ·dsimp only at hpos
    have hle := g3.le (g3.kn.2 ⟨_, .inl ⟨k, q, _, trivial, hq, hxk, by omega, hwn, rfl⟩⟩) _ (.inl ⟨k, q, _, trivial, hq, hxk, by omega, hwn, rfl⟩)
    dsimp only at hle
    rw [hwn, ix_nat (l := (x, (0 : Int)).1.Nodes) g2]
    refine .bind' (.pure ?_)
    dsimp only
    rw [if_neg (by simp; omega), show decide (c.Low > q.Pressure) = false from decide_eq_false (by omega)]
    have hlow : low[w]? = some (low[w]'(by have := hF.1; omega)) := gq _
    have hhigh : high[w]? = some (high[w]'(by have := hF.2.1; omega)) := gq _
    rw [links18 hwn hlow hhigh g2]
    refine .pure (flag_step (d := ⟨q.Pressure, q.Pressure⟩) hF hlow hhigh g2 fun w' d' hd => ?_)
    rcases hstep w' d' hd with h | ⟨_, h1, h2⟩
    ·exact .inl h
    ·exact .inr ⟨by omega, h2⟩
   ·dsimp only at hneg
    unfold L.zab.J17
    refine .pure ⟨hF.1, hF.2.1, fun w' c' d' hc' hd => ?_⟩
    rcases hstep w' d' hd with h | ⟨h, _⟩
    ·exact hF.2.2 w' c' d' hc' h
    ·omega
  ·rintro ⟨low, high⟩ hF
   simp only [Sum.elim_inl]
   dsimp only at hF
   unfold L.zab.J2
   refine .bind' (.forL (fun k (st : List Bool × List Bool) => Fg x.Nodes (fun w d => Come n p x.Segments (fun _ => True) (fun i => i < k) (w : Int) d) st.1 st.2) (fun _ => False) ⟨hF.1, hF.2.1, fun w c d hc hd => hF.2.2 w c d hc ?_⟩ ?_ ?_ fun _ h => h.elim)
   ·rcases hd with ⟨i, q, x', _, h⟩ | ⟨_, _, _, _, h, _⟩
    ·exact .inl ⟨i, q, x', (gs h.1).1, h⟩
    ·exact absurd h (Nat.not_lt_zero _)
   ·rintro k s ⟨low, high⟩ hs hF
    dsimp only at hF hs
    have hk := (gs hs).1
    have hr : p.Rates[k]? = some (p.Rates[k]'(by omega)) := gq _
    have hrg := hp.rng k _ s hr hs
    have hg : x.Segments[k]? = some (x.Segments[k]'(by omega)) := gq _
    have hse := hn.segs k s hs
    have hstep : ∀ w' d', Come n p x.Segments (fun _ => True) (fun i => i < k + 1) (w' : Int) d' → Come n p x.Segments (fun _ => True) (fun i => i < k) (w' : Int) d' ∨ (p.Rates[k]'(by omega) ≠ 0 ∧ (L.zag s (p.Rates[k]'(by omega))).2 = w' ∧ d' = lvEnd (p.Rates[k]'(by omega)) (x.Segments[k]'(by omega))) := by
     rintro w' d' (h | ⟨i, s', r', lv', h1, h2, h3, h4, h5⟩)
     ·exact .inl (.inl h)
     ·by_cases hik : i = k
      ·subst hik
       have e1 := h2.seg; have e2 := h2.rate
       rw [hs] at e1; cases e1
       rw [hr] at e2; cases e2
       rw [hg] at h4; cases h4
       exact .inr ⟨h2.ne, h3, h5⟩
      ·exact .inl (.inr ⟨i, s', r', lv', by omega, h2, h3, h4, h5⟩)
    unfold L.zab.B7
    refine .bind' (.eq (ix_nat (l := (x, (0 : Int)).1.Segments) hg) (.bind' (.eq (ix_nat (l := p.Rates) hr) (Ok.iteE (fun h0 => ?_) fun h0 => ?_))))
    ·dsimp only at h0
     unfold L.zab.J8
     refine .pure ⟨hF.1, hF.2.1, fun w' c' d' hc' hd => ?_⟩
     rcases hstep w' d' hd with h | ⟨h, _⟩
     ·exact hF.2.2 w' c' d' hc' h
     ·exact absurd h0 h
    ·dsimp only at h0 ⊢
     obtain ⟨lv, l1, l2, v, bd, c, fi, m1, m2, m3, m4, m5, m6⟩ := hS.segs k s _ ⟨hs, hr, h0⟩
     rw [hg] at l1
     have l1' := Option.some.inj l1
     rw [l1'] at hstep ⊢
     have hend := (ends_node hn (⟨hs, hr, h0⟩ : Fl n p k s _))
     obtain ⟨a, t, ha, ht, hal, htl, hat⟩ := hend
     obtain ⟨kt, ct, t1, t2, t3⟩ := hS.nodes t htl
     have hcb := hS.inv.ent (b := b) hn hp (by omega) m3 m4
     have hst := along_start (hse.g (by omega)) (hw.fills.all k fi s m5 hs) hw.prods hw.bats ⟨h0, hrg.1, hrg.2.1⟩ (by omega) hcb m6
     have i0 : lv[0]? = some (lv[0]'(by omega)) := gq _
     have il : lv[lv.length - 1]? = some (lv[lv.length - 1]'(by omega)) := gq _
     rw [if_neg (by simp; omega)]
     refine .bind' (.eq (show ix lv 0 = some (0, lv[0]'(by omega)) from ix_nat i0) ?_)
     rw [wr_id (by have := (hS.inv.sb k lv s (by rw [hg, l1']) hs).1; omega), show (lv.length : Int) - 1 = ((lv.length - 1 : Nat) : Int) by omega]
     refine .bind' (.eq (ix_nat il) ?_)
     dsimp only
     have key : ∀ g : Int × Int × Int × Int, g = (c.Low, c.High, (lvEnd (p.Rates[k]'(by omega)) lv).Low, (lvEnd (p.Rates[k]'(by omega)) lv).High) →
       Ok (L.zab.J10 (n, b, pr, f, p, s1) (x, 0) s (low, high) (k, p.Rates[k]'(by omega)) g) (Sum.elim (fun st : List Bool × List Bool => Fg x.Nodes (fun w d => Come n p x.Segments (fun _ => True) (fun i => i < k + 1) (w : Int) d) st.1 st.2) fun _ : Bool => False) := by
      rintro _ rfl
      unfold L.zab.J10
      rw [ends16, m1, ix_nat (l := (x, (0 : Int)).1.Nodes) m3]
      refine .bind' (.pure ?_)
      dsimp only
      rw [links13 hw hp (by omega) (hS.inv.nb _ (mg m3)) m1 m4]
      simp only [Option.bind_some]
      unfold L.zab.J11
      dsimp only
      rw [if_neg (by simp), ends16, ht, ix_nat (l := (x, (0 : Int)).1.Nodes) t2]
      simp only [Option.bind_some]
      have hsrc : Come n p x.Segments (fun _ => True) (fun _ => True) (t : Int) (lvEnd (p.Rates[k]'(by omega)) lv) := .inr ⟨k, s, _, lv, trivial, ⟨hs, hr, h0⟩, ht, by rw [hg, l1'], rfl⟩
      have hle := t3.le (t3.kn.2 ⟨_, hsrc⟩) _ hsrc
      rw [if_neg (by simp; omega), show decide (ct.High > (lvEnd (p.Rates[k]'(by omega)) lv).High) = false from decide_eq_false (by omega)]
      have hlow : low[t]? = some (low[t]'(by have := hF.1; omega)) := gq _
      have hhigh : high[t]? = some (high[t]'(by have := hF.2.1; omega)) := gq _
      rw [links12 ht hlow hhigh t2]
      refine .pure (flag_step hF hlow hhigh t2 fun w' d' hd => ?_)
      rcases hstep w' d' hd with h | ⟨_, h1, h2⟩
      ·exact .inl h
      ·exact .inr ⟨by omega, h2⟩
     unfold L.zab.J9
     refine Ok.iteD (fun hneg => key _ ?_) fun hpos => key _ ?_
     ·dsimp only at hneg ⊢
      rw [← hst]
      unfold lvStart lvEnd
      rw [if_neg (by omega), if_neg (by omega), i0, il]; rfl
     ·dsimp only at hpos ⊢
      rw [← hst]
      unfold lvStart lvEnd
      rw [if_pos (by omega), if_pos (by omega), i0, il]; rfl
   ·rintro ⟨low, high⟩ hF
    simp only [Sum.elim_inl]
    dsimp only at hF
    unfold L.zab.J3
    refine .bind' (.forL (fun _ _ => True) (fun _ => False) trivial ?_ ?_ fun _ h => h.elim)
    ·intro v _ _ hv _
     have hvl := (gs hv).1
     obtain ⟨k, c, g1, g2, g3⟩ := hS.nodes v hvl
     unfold L.zab.B5
     refine .bind' (.eq (ix_nat (l := (x, (0 : Int)).1.Known) g1) (Ok.iteB (fun hk => ?_) fun _ => ?_))
     ·dsimp only at hk
      subst hk
      have toC : ∀ d, Come n p x.Segments (fun _ => True) (fun _ => True) (v : Int) d → Come n p x.Segments (fun _ => True) (fun i => i < n.Segments.length) (v : Int) d := by
       rintro d (h | ⟨i, s', r', lv', _, h2, h3⟩)
       ·exact .inl h
       ·exact .inr ⟨i, s', r', lv', (gs h2.seg).1, h2, h3⟩
      obtain ⟨d1, e1, e2⟩ := g3.lo rfl
      obtain ⟨d2, e3, e4⟩ := g3.hi rfl
      have f1 := (hF.2.2 v c d1 g2 (toC d1 e1)).1 e2
      have f2 := (hF.2.2 v c d2 g2 (toC d2 e3)).2 e4
      refine .bind' (.eq (ix_nat f1) (Ok.iteN (fun h => by cases h) fun _ => .bind' (.eq (ix_nat f2) ?_)))
      unfold L.zab.J6
      exact Ok.iteB (fun h => by cases h) fun _ => .pure trivial
     ·unfold L.zab.J6
      exact Ok.iteB (fun h => by cases h) fun _ => .pure trivial
    ·intro _ _
     simp only [Sum.elim_inl]
     unfold L.zab.J4
     rw [awake21]
     exact .pure rfl
 obtain ⟨r, h, rfl⟩ := this
 exact h
end Go.Proofs.YtehbcbedipkifaaGreatDoor
