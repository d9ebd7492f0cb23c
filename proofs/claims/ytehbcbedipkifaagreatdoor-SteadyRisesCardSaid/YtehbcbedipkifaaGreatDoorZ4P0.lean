/- Plain proofs. No condition. -/
import Derived.Test.YtehbcbedipkifaaGreatDoorZsP2
set_option maxRecDepth 100000
namespace Go.Proofs.YtehbcbedipkifaaGreatDoor
set_option linter.unusedVariables false
set_option linter.unusedSimpArgs false
open Go.Aw
theorem st_unique {n : Network} (hn : NetOk n) {i j : Nat} {t u : Station} (h1 : n.Stations[i]? = some t) (h2 : n.Stations[j]? = some u) (he : t.Node = u.Node) : i = j := by
 rcases Nat.lt_trichotomy i j with h | h | h
 ·have := hn.stsUp i j t u h h1 h2; omega
 ·exact h
 ·have := hn.stsUp j i u t h h2 h1; omega
section
variable {n : Network} {b : List Batch} {pr : List Product} {f : List (List Piece)} {p : Plan} {s1 : Src} {x : Pressures} {e : Int}
end
def BLe (b c : Bounds) : Prop := b.Low ≤ c.Low ∧ b.High ≤ c.High
def LLe (l m : List Level) : Prop := l.length = m.length ∧ ∀ (j : Nat) (y z : Level), l[j]? = some y → m[j]? = some z → BLe y.Bounds z.Bounds
theorem along_mono {s : Segment} {f : List Piece} {bs : List Batch} {p : List Product} (hs : SegG s) (hf : FillOk s.Capacity f) (hp : ProdsOk p) (hb : BatsOk p.length bs) {r B : Int} {b c : Bounds} (hr : r ≠ 0 ∧ -1000 ≤ r ∧ r ≤ 1000) (hB : 0 ≤ B ∧ B ≤ 1000000000000000) (hbd : Bd B b) (hcd : Bd B c) (hle : BLe b c)
  {l m : List Level} (h : L.gradient_Along s f bs p r b = some (l, 0)) (h' : L.gradient_Along s f bs p r c = some (m, 0)) : LLe l m := by
 obtain ⟨q, hl1, hl2, hl3⟩ := liq_ok hf hb
 obtain ⟨W, hW, hP, hA⟩ := along_ok hs hf hp hl1 hl2 hl3
 obtain ⟨b1, b2, b3⟩ := hbd
 obtain ⟨c1, c2, c3⟩ := hcd
 obtain ⟨e1, e2⟩ := hle
 have e := hA r b hr.1 hr.2.1 hr.2.2 b1 (by omega) (by omega)
 have e' := hA r c hr.1 hr.2.1 hr.2.2 c1 (by omega) (by omega)
 rw [h] at e
 rw [h'] at e'
 have g := (Prod.mk.inj (Option.some.inj e)).1
 have g' := (Prod.mk.inj (Option.some.inj e')).1
 subst g g'
 refine ⟨by rw [along_len, along_len], fun j y z hy hz => ?_⟩
 have hj := (gs hy).1
 rw [along_len] at hj
 rw [along_get _ _ _ _ _ hj] at hy hz
 have gy := Option.some.inj hy
 have gz := Option.some.inj hz
 subst gy gz
 simp only [lvl, BLe]
 exact ⟨by omega, by omega⟩
structure More (n n' : Network) (p p' : Plan) : Prop where
 nodes : n'.Nodes = n.Nodes
 segs : n'.Segments = n.Segments
 sts : n'.Stations = n.Stations
 rates : p'.Rates = p.Rates
 prts : p'.Ports = p.Ports
 pl : n'.Ports.length = n.Ports.length
 ports : ∀ (i : Nat) (q q' : Port), n.Ports[i]? = some q → n'.Ports[i]? = some q' → q'.Node = q.Node ∧ q.Pressure ≤ q'.Pressure
 pumps : ∀ j : Nat, p.Pumps[j]? = some true → p'.Pumps[j]? = some true
section
variable {n n' : Network} {b : List Batch} {pr : List Product} {f : List (List Piece)} {p p' : Plan} {x x' : Pressures}
theorem More.fl (h : More n n' p p') {i : Nat} {s : Segment} {r : Int} : Fl n' p' i s r ↔ Fl n p i s r := by
 constructor
 ·rintro ⟨h1, h2, h3⟩; rw [h.segs] at h1; rw [h.rates] at h2; exact ⟨h1, h2, h3⟩
 ·rintro ⟨h1, h2, h3⟩; exact ⟨by rw [h.segs]; exact h1, by rw [h.rates]; exact h2, h3⟩
theorem boost_nonneg (t : Station) (o : Int) : 0 ≤ boost t o := by unfold boost; omega
theorem More.ent (hn : NetOk n) (h : More n n' p p') {v : Int} {c c' d d' : Bounds} (hc : BLe c c') (h1 : Ent n p v c d) (h2 : Ent n' p' v c' d') : BLe d d' := by
 have ho : outf n' p' v = outf n p v := by unfold outf; rw [h.segs, h.rates]
 unfold Ent at h2
 rw [ho, h.sts] at h2
 obtain ⟨e1, e2⟩ := hc
 rcases h1 with ⟨j, t, a1, a2, a3, rfl⟩ | ⟨a1, rfl⟩ <;> rcases h2 with ⟨i, u, c1, c2, c3, rfl⟩ | ⟨c1, rfl⟩
 ·have := st_unique hn a1 c1 (by rw [a2, c2])
  subst this
  rw [a1] at c1; cases c1
  exact ⟨by dsimp only; omega, by dsimp only; omega⟩
 ·exact absurd (h.pumps j a3) (c1 j t a1 a2)
 ·have := boost_nonneg u (outf n p v)
  exact ⟨by dsimp only; omega, by dsimp only; omega⟩
 ·exact ⟨e1, e2⟩
theorem rises (hw : W21 n b pr f) (hw' : W21 n' b pr f) (hp : FlowOk n p) (hp' : FlowOk n' p') (hm : More n n' p p') (hS : Sol n b pr f p x) (hS' : Sol n' b pr f p' x') :
  (∀ (v : Nat) (c c' : Bounds), x.Nodes[v]? = some c → x'.Nodes[v]? = some c' → BLe c c') ∧ ∀ (i : Nat) (l l' : List Level), x.Segments[i]? = some l → x'.Segments[i]? = some l' → LLe l l' := by
 have hn := hw.net
 have hfl := hw.fills.len; have hrl := hp.rl
 obtain ⟨ord, _, hT, hfull⟩ := order_topo hn hp
 have main : ∀ (k v : Nat), ord[k]? = some (v : Int) → (∀ c c' : Bounds, x.Nodes[v]? = some c → x'.Nodes[v]? = some c' → BLe c c') ∧ ∀ (i : Nat) (s : Segment) (r : Int) (l l' : List Level), Fl n p i s r → (L.flow_Ends s r).1 = (v : Int) → x.Segments[i]? = some l → x'.Segments[i]? = some l' → LLe l l' := by
  intro k
  induction k using Nat.strongRecOn with
  | ind k ih =>
   intro v hv
   have hvr := hT.rng _ (mg hv)
   obtain ⟨kb, c, g1, g2, g3⟩ := hS.nodes v (by omega)
   obtain ⟨kb', c', g1', g2', g3'⟩ := hS'.nodes v (by rw [hm.nodes]; omega)
   have lower : ∀ d', Come n' p' x'.Segments (fun _ => True) (fun _ => True) (v : Int) d' → ∃ d, Come n p x.Segments (fun _ => True) (fun _ => True) (v : Int) d ∧ BLe d d' := by
    rintro d' (⟨i, q', a, _, h1, h2, h3, h4, rfl⟩ | ⟨i, s, r, lv', _, h1, h2, h3, rfl⟩)
    ·have hil := (gs h1).1
     have hpl := hm.pl
     have hq : n.Ports[i]? = some (n.Ports[i]'(by omega)) := gq _
     obtain ⟨e1, e2⟩ := hm.ports i _ _ hq h1
     rw [hm.prts] at h2
     exact ⟨_, .inl ⟨i, _, a, trivial, hq, h2, h3, by omega, rfl⟩, e2, e2⟩
    ·have hf := hm.fl.1 h1
     obtain ⟨lv, l1, l2, _⟩ := hS.segs i s r hf
     have hfr := hT.topo k _ hv i s r hf h2
     obtain ⟨j, hj⟩ := List.getElem?_of_mem hfr
     rw [List.getElem?_take] at hj
     split at hj
     ·rename_i hjk
      obtain ⟨a, t, ha, ht, hal, htl, hat⟩ := ends_node hn hf
      rw [ha] at hj
      obtain ⟨_, hi⟩ := ih j hjk a hj
      obtain ⟨q1, q2⟩ := hi i s r lv lv' hf ha l1 h3
      refine ⟨_, .inr ⟨i, s, r, lv, trivial, hf, h2, l1, rfl⟩, ?_⟩
      unfold lvEnd
      split
      ·have e1 : lv[lv.length - 1]? = some (lv[lv.length - 1]'(by omega)) := gq _
       have e2 : lv'[lv.length - 1]? = some (lv'[lv.length - 1]'(by omega)) := gq _
       rw [← q1, e1, e2]
       exact q2 _ _ _ e1 e2
      ·have e1 : lv[0]? = some (lv[0]'(by omega)) := gq _
       have e2 : lv'[0]? = some (lv'[0]'(by omega)) := gq _
       rw [e1, e2]
       exact q2 _ _ _ e1 e2
     ·cases hj
   have upper : ∀ d, Come n p x.Segments (fun _ => True) (fun _ => True) (v : Int) d → kb' = true := by
    rintro d (⟨i, q, a, _, h1, h2, h3, h4, rfl⟩ | ⟨i, s, r, lv, _, h1, h2, h3, rfl⟩)
    ·have hil := (gs h1).1
     have hpl := hm.pl
     have hq : n'.Ports[i]? = some (n'.Ports[i]'(by omega)) := gq _
     obtain ⟨e1, e2⟩ := hm.ports i _ _ h1 hq
     exact g3'.kn.2 ⟨_, .inl ⟨i, _, a, trivial, hq, by rw [hm.prts]; exact h2, h3, by omega, rfl⟩⟩
    ·obtain ⟨lv', l1, _⟩ := hS'.segs i s r (hm.fl.2 h1)
     exact g3'.kn.2 ⟨_, .inr ⟨i, s, r, lv', trivial, hm.fl.2 h1, h2, l1, rfl⟩⟩
   have hcc : BLe c c' := by
    cases hkb' : kb' with
    | true =>
     rw [hkb'] at g3'
     obtain ⟨d1, a1, a2⟩ := g3'.lo rfl
     obtain ⟨d2, a3, a4⟩ := g3'.hi rfl
     obtain ⟨u1, m1, m2⟩ := lower d1 a1
     obtain ⟨u2, m3, m4⟩ := lower d2 a3
     have t1 := g3.le (g3.kn.2 ⟨_, m1⟩) _ m1
     have t2 := g3.le (g3.kn.2 ⟨_, m3⟩) _ m3
     unfold BLe at m2 m4 ⊢
     omega
    | false =>
     have hkb : kb = false := by
      cases hk : kb with
      | false => rfl
      | true =>
       obtain ⟨d, hd⟩ := g3.kn.1 hk
       rw [upper d hd] at hkb'; cases hkb'
     rw [g3.no hkb, g3'.no hkb']
     exact ⟨Int.le_refl _, Int.le_refl _⟩
   refine ⟨fun d d' hd hd' => by rw [g2] at hd; rw [g2'] at hd'; cases hd; cases hd'; exact hcc, fun i s r l l' hf ho hl hl' => ?_⟩
   obtain ⟨lv, l1, _, w, bd, e, fi, m1, m2, m3, m4, m5, m6⟩ := hS.segs i s r hf
   obtain ⟨lv', l1', _, w', bd', e', fi', m1', m2', m3', m4', m5', m6'⟩ := hS'.segs i s r (hm.fl.2 hf)
   rw [hl] at l1; cases l1
   rw [hl'] at l1'; cases l1'
   have hwv : w = v := by omega
   have hwv' : w' = v := by omega
   subst hwv hwv'
   rw [g2] at m3; cases m3
   rw [g2'] at m3'; cases m3'
   rw [m5] at m5'; cases m5'
   have hil := (gs hf.seg).1
   have hsg := hn.segs1
   have hrg := hp.rng i r s hf.rate hf.seg
   exact along_mono ((hn.segs i s hf.seg).g (by omega)) (hw.fills.all i fi s m5 hf.seg) hw.prods hw.bats ⟨hf.ne, hrg.1, hrg.2.1⟩ (by omega)
    (hS.inv.ent (b := b) hn hp (by omega) g2 m4) (hS'.inv.ent (b := b) hw'.net hp' (by omega) g2' m4') (hm.ent hn hcc m4 m4') m6 m6'
 constructor
 ·intro v c c' hc hc'
  have hvl := (gs hc).1
  rw [hS.inv.nl] at hvl
  obtain ⟨k, hk⟩ := List.getElem?_of_mem (hfull v hvl)
  exact (main k v hk).1 c c' hc hc'
 ·intro i l l' hl hl'
  have hil := (gs hl).1
  rw [hS.inv.sl] at hil
  have hs : n.Segments[i]? = some n.Segments[i] := gq _
  have hr : p.Rates[i]? = some (p.Rates[i]'(by omega)) := gq _
  by_cases h0 : p.Rates[i]'(by omega) = 0
  ·have e1 := hS.segs0 i l (by rw [hr, h0]) hl
   have e2 := hS'.segs0 i l' (by rw [hm.rates, hr, h0]) hl'
   subst e1 e2
   exact ⟨rfl, fun j y z h => by simp at h⟩
  ·have hf : Fl n p i n.Segments[i] (p.Rates[i]'(by omega)) := ⟨hs, hr, h0⟩
   obtain ⟨a, t, ha, ht, hal, htl, hat⟩ := ends_node hn hf
   obtain ⟨k, hk⟩ := List.getElem?_of_mem (hfull a hal)
   exact (main k a hk).2 i _ _ l l' hf ha hl hl'
theorem higher_ok (h1 : x.Nodes.length = x'.Nodes.length) (h2 : x.Segments.length = x'.Segments.length)
  (h : (∀ (v : Nat) (c c' : Bounds), x.Nodes[v]? = some c → x'.Nodes[v]? = some c' → BLe c c') ∧ ∀ (i : Nat) (l l' : List Level), x.Segments[i]? = some l → x'.Segments[i]? = some l' → LLe l l') : L.law21_higher x x' = some true := by
 have : Ok (L.law21_higher x x') fun r => r = true := by
  unfold L.law21_higher
  rw [if_neg (by simp [h1, h2])]
  refine .bind' (.forL (fun _ _ => True) (fun _ => False) trivial ?_ ?_ fun _ h => h.elim)
  ·intro v c _ hc _
   have hvl := (gs hc).1
   have hg : x'.Nodes[v]? = some (x'.Nodes[v]'(by omega)) := gq _
   obtain ⟨e1, e2⟩ := h.1 v _ _ hc hg
   unfold L.law21_higher.B7
   refine .bind' (.eq (ix_nat hg) ?_)
   dsimp only
   rw [if_neg (by simp; omega), show decide ((x'.Nodes[v]'(by omega)).High < c.High) = false from decide_eq_false (by omega)]
   unfold L.law21_higher.J8
   exact Ok.iteB (fun h => by cases h) fun _ => .pure trivial
  ·intro _ _
   simp only [Sum.elim_inl]
   unfold L.law21_higher.J1
   refine .bind' (.forL (fun _ _ => True) (fun _ => False) trivial ?_ (fun _ _ => .pure rfl) fun _ h => h.elim)
   intro i l _ hl _
   have hil := (gs hl).1
   have hg : x'.Segments[i]? = some (x'.Segments[i]'(by omega)) := gq _
   obtain ⟨e1, e2⟩ := h.2 i _ _ hl hg
   unfold L.law21_higher.B3
   refine .bind' (.eq (ix_nat hg) ?_)
   dsimp only
   rw [if_neg (by simp [e1])]
   refine .bind' (.forL (fun _ _ => True) (fun _ => False) trivial ?_ (fun _ _ => .pure trivial) fun _ h => h.elim)
   intro j y _ hy _
   have hjl := (gs hy).1
   have hgj : (x'.Segments[i]'(by omega))[j]? = some ((x'.Segments[i]'(by omega))[j]'(by omega)) := gq _
   obtain ⟨a1, a2⟩ := e2 j _ _ hy hgj
   unfold L.law21_higher.B5
   refine .bind' (.eq (ix_nat hgj) ?_)
   dsimp only
   rw [if_neg (by simp; omega), show decide (((x'.Segments[i]'(by omega))[j]'(by omega)).Bounds.High < y.Bounds.High) = false from decide_eq_false (by omega)]
   unfold L.law21_higher.J6
   exact Ok.iteB (fun h => by cases h) fun _ => .pure trivial
 obtain ⟨r, h, rfl⟩ := this
 exact h
end
theorem wp_same {n n' : Network} (hl : n'.Ports.length = n.Ports.length) (h : ∀ (i : Nat) (q q' : Port), n.Ports[i]? = some q → n'.Ports[i]? = some q' → q'.Node = q.Node) (v : Int) : wp n' v = wp n v := by
 unfold wp
 refine List.ext_getElem? fun i => ?_
 rw [List.getElem?_map, List.getElem?_map]
 by_cases hi : i < n.Ports.length
 ·have e1 : n.Ports[i]? = some n.Ports[i] := gq _
  have e2 : n'.Ports[i]? = some (n'.Ports[i]'(by omega)) := gq _
  rw [e1, e2]
  simp only [Option.map_some, h i _ _ e1 e2]
 ·rw [List.getElem?_eq_none (by omega), List.getElem?_eq_none (by omega)]
theorem steadyRises (l : List Int) (which more : Int) (h1 : 0 ≤ which ∧ which ≤ 255) (h2 : 0 ≤ more ∧ more ≤ 4294967295) : L.law21_SteadyRises l which more = some true := by
 have : Ok (L.law21_SteadyRises l which more) fun r => r = true := by
  unfold L.law21_SteadyRises
  refine .bind (new_ok l) fun s hs => .bind (world_ok hs) ?_
  rintro ⟨n, b, pr, f, p, s1⟩ ⟨hw, hp0, hs1⟩
  dsimp only at hw hp0 hs1 ⊢
  have hn := hw.net
  have hp := hp0.flow
  have hpn := hn.ports1; have hst := hn.sts1; have hml := hp.ml
  obtain ⟨x, hx, hS⟩ := solve_spec hw hp
  refine .bind' (.eq hx (.bind' (.app (by simp; omega) ?_)))
  rw [List.nil_append]
  have fin : ∀ P : List Bool, P.length = p.Pumps.length → (∀ j : Nat, p.Pumps[j]? = some true → P[j]? = some true) → Ok (L.law21_SteadyRises.J2 which more (n, b, pr, f, p, s1) (x, 0) P) fun r => r = true := by
   intro P hPl hPt
   have hp2 : FlowOk n ⟨p.Rates, p.Ports, P⟩ := ⟨hp.rl, hp.pl, by dsimp only; omega, hp.rng, hp.prt, hp.bal, hp.acyc⟩
   have hm2 : More n n p ⟨p.Rates, p.Ports, P⟩ := ⟨rfl, rfl, rfl, rfl, rfl, rfl, fun i q q' e1 e2 => by rw [e1] at e2; cases e2; exact ⟨rfl, Int.le_refl _⟩, hPt⟩
   obtain ⟨y, hy, hY⟩ := solve_spec hw hp2
   unfold L.law21_SteadyRises.J2
   refine .bind' (.eq hy (.bind' (.app (by simp; omega) ?_)))
   rw [List.nil_append]
   dsimp only
   refine .bind' (.rem (by omega) ?_)
   rw [wr_id (x := which) (by omega)]
   have t1 := Int.tmod_nonneg (n.Ports.length : Int) h1.1
   have t2 := Int.tmod_lt_of_pos which (b := (n.Ports.length : Int)) (by omega)
   refine .bind' (.ix' t1 (by omega) fun k q hk hq => ?_)
   dsimp only
   have hqo := hn.ports k q hq
   have hqp := hqo.pressure
   rw [wr_id (x := more) (by omega), wr_id (by omega)]
   obtain ⟨q', hq'⟩ : ∃ q' : Port, q' = ⟨q.Name, q.Node, min 100000000 (q.Pressure + more)⟩ := ⟨_, rfl⟩
   obtain ⟨n', hn'⟩ : ∃ n' : Network, n' = ⟨n.Nodes, n.Segments, n.Ports.set k q', n.Stations, n.Vapour, n.Settle⟩ := ⟨_, rfl⟩
   rw [← hq', ← hn']
   have pget : ∀ (i : Nat) (a c : Port), n.Ports[i]? = some a → n'.Ports[i]? = some c → c.Name = a.Name ∧ c.Node = a.Node ∧ a.Pressure ≤ c.Pressure ∧ 0 ≤ c.Pressure ∧ c.Pressure ≤ 100000000 := by
    intro i a c ha hc
    rw [hn'] at hc
    dsimp only at hc
    rw [set_get ha] at hc
    have hap := (hn.ports i a ha).pressure
    split at hc
    ·rename_i hki
     subst hki
     rw [hq] at ha; cases ha; cases hc
     rw [hq']
     exact ⟨rfl, rfl, by dsimp only; omega, by dsimp only; omega, by dsimp only; omega⟩
    ·cases hc
     exact ⟨rfl, rfl, Int.le_refl _, by omega, by omega⟩
   have pl' : n'.Ports.length = n.Ports.length := by rw [hn']; simp
   have back : ∀ (i : Nat) (c : Port), n'.Ports[i]? = some c → ∃ a, n.Ports[i]? = some a := fun i c hc => by
    have := (gs hc).1
    exact ⟨_, gq (by omega)⟩
   have hN : NetOk n' := by
    refine ⟨by rw [hn']; exact hn.nodes, by rw [hn']; exact hn.names, by rw [hn']; exact hn.segs1, by rw [hn']; exact hn.segs, by rw [pl']; exact hn.ports1, fun i c hc => ?_, fun i j c d hij hc hd => ?_, by rw [hn']; exact hn.sts1, by rw [hn']; exact hn.sts, by rw [hn']; exact hn.stsUp, by rw [hn']; exact hn.vapour, by rw [hn']; exact hn.settle⟩
    ·obtain ⟨a, ha⟩ := back i c hc
     obtain ⟨e1, e2, e3, e4, e5⟩ := pget i a c ha hc
     have ho := hn.ports i a ha
     exact ⟨by rw [e1]; exact ho.name, by rw [e2, hn']; exact ho.node, e4, e5⟩
    ·obtain ⟨a, ha⟩ := back i c hc
     obtain ⟨a', ha'⟩ := back j d hd
     have := hn.portsUp i j a a' hij ha ha'
     have := (pget i a c ha hc).2.1
     have := (pget j a' d ha' hd).2.1
     omega
   have hw' : W21 n' b pr f := ⟨hN, hw.prods, hw.bats, by rw [hn']; exact ⟨hw.fills.len, hw.fills.all⟩⟩
   have hp3 : FlowOk n' p := by
    refine ⟨by rw [hn']; exact hp.rl, by rw [pl']; exact hp.pl, by rw [hn']; exact hp.ml, by rw [hn']; exact hp.rng, hp.prt, fun v hv => ?_, ?_⟩
    ·have e1 : wt n' (v : Int) = wt n (v : Int) := by rw [hn']; rfl
     rw [e1, wp_same pl' (fun i a c ha hc => (pget i a c ha hc).2.1)]
     exact hp.bal v hv
    ·have := hp.acyc
     unfold Acyc Blocked at this ⊢
     rw [hn']; exact this
   have hm3 : More n n' p p := ⟨by rw [hn'], by rw [hn'], by rw [hn'], rfl, rfl, pl', fun i a c ha hc => ⟨(pget i a c ha hc).2.1, (pget i a c ha hc).2.2.1⟩, fun j h => h⟩
   obtain ⟨z, hz, hZ⟩ := solve_spec hw' hp3
   have a1 := hS.inv.nl; have a2 := hS.inv.sl
   have b1 := hY.inv.nl; have b2 := hY.inv.sl
   have c1 := hZ.inv.nl; have c2 := hZ.inv.sl
   have d1 : n'.Nodes.length = n.Nodes.length := by rw [hn']
   have d2 : n'.Segments.length = n.Segments.length := by rw [hn']
   refine .bind' (.eq hz ?_)
   dsimp only
   simp only [beq_self_eq_true, if_true]
   rw [higher_ok (by omega) (by omega) (rises hw hw hp hp2 hm2 hS hY)]
   simp only [Option.bind_some, if_true]
   rw [higher_ok (by omega) (by omega) (rises hw hw' hp hp3 hm3 hS hZ)]
   simp only [Option.bind_some, if_true]
   rw [awake21]
   unfold L.law21_SteadyRises.J3
   exact .pure rfl
  unfold L.law21_SteadyRises.J1
  refine Ok.iteD (fun hpos => ?_) fun _ => fin _ rfl fun _ h => h
  refine .bind' (.rem (by omega) ?_)
  rw [wr_id (x := which) (by omega)]
  have t1 := Int.tmod_nonneg (p.Pumps.length : Int) h1.1
  have t2 := Int.tmod_lt_of_pos which (b := (p.Pumps.length : Int)) (by omega)
  refine .bind' (.ix' t1 (by omega) fun k q hk hq => ?_)
  dsimp only
  refine fin _ (by simp) fun j hj => ?_
  rw [set_get hj]
  split <;> rfl
 obtain ⟨r, h, rfl⟩ := this
 exact h
end Go.Proofs.YtehbcbedipkifaaGreatDoor
