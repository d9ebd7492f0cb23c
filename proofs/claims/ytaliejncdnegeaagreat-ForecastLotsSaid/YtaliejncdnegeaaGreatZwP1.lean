/- Plain proofs. No condition. -/
import Derived.Test.YtaliejncdnegeaaGreatZwP0
import Derived.Test.YtaliejncdnegeaaGreatZwD
set_option maxRecDepth 100000
namespace Go.Proofs.YtaliejncdnegeaaGreat
set_option linter.unusedVariables false
set_option linter.unusedSimpArgs false
open Go.Aw
theorem merge_gen {f : List Piece} (h1 : f.length ≤ 400) (h2 : ∀ p, p ∈ f → 0 ≤ p.Batch ∧ p.Batch < 1000 ∧ 0 ≤ p.Volume ∧ p.Volume ≤ 1000000) (h3 : vol f ≤ 1000000000) : L.zmbh f = some (rle (lit f)) := by
 have : Ok (L.zytx f (fun x => some (L.zjyd x))) fun r => r = false := by
  unfold L.zytx L.zkmq
  refine .bind (Q := fun r => r = -1) (.bind' (.forL (fun _ _ => True) (fun _ => False) trivial ?_ (fun _ _ => .pure rfl) (fun _ h => h.elim))) (by rintro _ rfl; exact .pure (by simp))
  intro k x _ hx _
  have := h2 x (mg hx)
  unfold L.zkmq.B2
  rw [Option.bind_some]
  have e : L.zjyd x = false := by unfold L.zjyd L.zojo; simp; omega
  rw [e]
  exact .pure trivial
 obtain ⟨r, h4, rfl⟩ := this
 unfold L.zmbh
 rw [if_neg (by simp; omega), h4, Option.bind_some]
 unfold L.zmbh.J1
 rw [if_neg (by simp), merged_rle (fun p hp => (h2 p hp).2.2.1) (by omega), Option.bind_some]
structure Share (k : Nat) (X : List Int) (s : List Piece) : Prop where
 len : s.length = k
 bat : ∀ p, p ∈ s → 0 ≤ p.Batch ∧ p.Batch < 1000 ∧ 0 ≤ p.Volume ∧ p.Volume ≤ 1000000
 lit : lit s = X
structure Dealt (R : List Int) (k : Nat) (X : List Int) (c : List Nat) (st : List (List Piece) × Int × Arr Int 64 × Arr Int 64) : Prop where
 len : c.length = X.length
 mem : ∀ x, x ∈ c → x < R.length
 le : ∀ (i : Nat) (x : Int), R[i]? = some x → (c.count i : Int) ≤ x
 n : st.2.1 = (R.length : Int)
 tb : Tb R st.2.2.1 (fun i => (c.count i : Int)) st.2.2.2
 sl : st.1.length = R.length
 sh : ∀ (i : Nat) (s : List Piece), st.1[i]? = some s → Share k (sel i c X) s
theorem litre_ok {R : List Int} {c : List Nat} {rt ct : Arr Int 64} (hl : R.length ≤ 64) (hr : ∀ (k : Nat) (x : Int), R[k]? = some x → 1 ≤ x ∧ x ≤ 1000) (hm : ∀ x, x ∈ c → x < R.length) (hle : ∀ (i : Nat) (x : Int), R[i]? = some x → (c.count i : Int) ≤ x)
  (hs : (c.length : Int) < R.sum) (tb : Tb R rt (fun i => (c.count i : Int)) ct) (k : Nat) :
  Ok (L.zmxf.B9 k ((R.length : Int), rt, ct)) fun r => r.1 = (R.length : Int) ∧ r.2.1 = rt ∧ ∃ b, b < R.length ∧ (∀ (i : Nat) (x : Int), R[i]? = some x → ((c ++ [b]).count i : Int) ≤ x) ∧ Tb R rt (fun i => ((c ++ [b]).count i : Int)) r.2.2 := by
 have hc : ∀ i, i < R.length → 0 ≤ (c.count i : Int) ∧ (c.count i : Int) ≤ 1000 := fun i hi => by
  have h1 := hle i _ (gq hi)
  have h2 := hr i _ (gq hi)
  omega
 have hex : ∃ (i : Nat) (x : Int), R[i]? = some x ∧ (c.count i : Int) < x := by
  refine Classical.byContradiction fun hn => ?_
  have h1 : sumN R.length (fun i => R.getD i 0) ≤ sumN R.length fun i => (c.count i : Int) := sumN_le fun i hi => by
   have hg : R[i]? = some R[i] := gq hi
   rw [List.getD_eq_getElem?_getD, hg]
   exact Int.not_lt.1 fun h => hn ⟨i, _, hg, h⟩
  rw [← sumN_list, count_sum R.length c hm] at h1
  omega
 unfold L.zmxf.B9
 refine .bind (next_ok tb hl hr hc hex) ?_
 rintro ⟨_, _⟩ ⟨rfl, b, x, rfl, hb, hlt⟩
 have hbl := (gs hb).1
 have hx := hr b x hb
 refine .bind' (.eq (ix_nat (tb.cnt b (by omega))) (.pure ⟨rfl, rfl, b, hbl, fun i y hi => ?_, tb.rate, fun i hi => ?_⟩))
 ·rw [List.count_append, List.count_singleton]
  have := hle i y hi
  by_cases e : b = i
  ·subst e
   have : x = y := by rw [hb] at hi; exact Option.some.inj hi
   simp; omega
  ·simp [e]; omega
 ·dsimp only [Arr.set]
  rw [get_set, List.count_append, List.count_singleton]
  have := ct.h
  by_cases e : b = i
  ·subst e
   rw [if_pos ⟨rfl, by omega⟩, wr_id (by omega)]
   simp
  ·rw [if_neg (fun h => e h.1), tb.cnt i hi]
   simp [e]
theorem piece_dealt {l : List Piece} {R : List Int} (hv : Vd l) (hl : R.length ≤ 64) (hr : ∀ (k : Nat) (x : Int), R[k]? = some x → 1 ≤ x ∧ x ≤ 1000) (hs : R.sum = vol l) {k : Nat} (hk : k < l.length) {st : List (List Piece) × Int × Arr Int 64 × Arr Int 64} {c : List Nat}
  (h : Dealt R k (lit (l.take k)) c st) : Ok (L.zmxf.B5 l k st) fun r => ∃ c', Dealt R (k + 1) (lit (l.take (k + 1))) c' r := by
 obtain ⟨S, n, rt, ct⟩ := st
 obtain ⟨h1, h2, h3, h4, h5, h6, h7⟩ := h
 dsimp only at h4 h5 h6 h7
 subst h4
 have hp : l[k]? = some l[k] := gq hk
 generalize l[k] = p at hp
 have hpv := hv.piece (mg hp)
 have hlk : lit (l.take (k + 1)) = lit (l.take k) ++ List.replicate p.Volume.toNat p.Batch := by
  rw [List.take_add_one, hp]; simp [lit_app, lit_one]
 have htot : ((lit (l.take k)).length : Int) + p.Volume ≤ vol l := by
  have e1 := lit_len (f := l.take k) fun q hq => hv.nn q (List.mem_of_mem_take hq)
  have e2 := vol_take_succ hp
  have e3 := vol_pos (f := l.drop (k + 1)) fun q hq => hv.nn q (List.mem_of_mem_drop hq)
  have e4 : vol l = vol (l.take (k + 1)) + vol (l.drop (k + 1)) := by rw [← vol_app, List.take_append_drop]
  omega
 unfold L.zmxf.B5
 refine .bind' (.eq (ix_nat hp) (.bind' (.chk (by dsimp only; omega) ?_)))
 dsimp only
 refine .bind (Q := fun r : Int × Arr Int 64 × Arr Int 64 => r.1 = (R.length : Int) ∧ r.2.1 = rt ∧ ∃ d : List Nat, d.length = p.Volume.toNat ∧ (∀ x, x ∈ d → x < R.length) ∧ (∀ (i : Nat) (x : Int), R[i]? = some x → ((c ++ d).count i : Int) ≤ x) ∧ Tb R rt (fun i => ((c ++ d).count i : Int)) r.2.2)
  (.forJ (fun j r => r.1 = (R.length : Int) ∧ r.2.1 = rt ∧ ∃ d : List Nat, d.length = j ∧ (∀ x, x ∈ d → x < R.length) ∧ (∀ (i : Nat) (x : Int), R[i]? = some x → ((c ++ d).count i : Int) ≤ x) ∧ Tb R rt (fun i => ((c ++ d).count i : Int)) r.2.2)
   ⟨rfl, rfl, [], rfl, by simp, by simpa using h3, by simpa using h5⟩ ?_ fun _ h => h) ?_
 ·rintro j ⟨_, _, ct'⟩ hj ⟨rfl, rfl, d, d1, d2, d3, d4⟩
  dsimp only at d4
  have hcd : ∀ x, x ∈ c ++ d → x < R.length := fun x hx => (List.mem_append.1 hx).elim (h2 x) (d2 x)
  refine (litre_ok hl hr hcd d3 (by rw [List.length_append]; omega) d4 j).mono ?_
  rintro ⟨_, _, ct2⟩ ⟨rfl, rfl, b, b1, b2, b3⟩
  rw [List.append_assoc] at b2 b3
  refine ⟨rfl, rfl, d ++ [b], by simp [d1], fun x hx => ?_, b2, b3⟩
  rcases List.mem_append.1 hx with hx | hx
  ·exact d2 x hx
  ·simp at hx; omega
 rintro ⟨_, _, ct'⟩ ⟨rfl, rfl, d, d1, d2, d3, d4⟩
 dsimp only at d4
 unfold L.zmxf.J7
 dsimp only
 have hcnt : ∀ i, i < R.length → (d.count i : Int) ≤ 1000 := fun i hi => by
  have e1 := d3 i _ (gq hi)
  have e2 := hr i _ (gq hi)
  rw [List.count_append] at e1; omega
 refine .bind (Q := fun r : List (List Piece) => r.length = R.length ∧ ∀ (i : Nat) (s : List Piece), r[i]? = some s → Share (k + 1) (sel i (c ++ d) (lit (l.take (k + 1)))) s)
  (.forJ (fun j r => r.length = R.length ∧ ∀ (i : Nat) (s : List Piece), r[i]? = some s → if i < j then Share (k + 1) (sel i (c ++ d) (lit (l.take (k + 1)))) s else Share k (sel i c (lit (l.take k))) s)
   ⟨h6, fun i s hs => by rw [if_neg (by omega)]; exact h7 i s hs⟩ ?_ ?_) ?_
 ·rintro j r hj ⟨r1, r2⟩
  have hs : r[j]? = some r[j] := gq (by omega)
  generalize r[j] = s at hs
  have hsh := r2 j s hs
  rw [if_neg (by omega)] at hsh
  unfold L.zmxf.B8
  refine .bind' (.eq (ix_nat hs) (.bind' (.eq (ix_nat (d4.cnt j (by omega))) (.bind' (.eq (ix_nat (h5.cnt j (by omega))) (.bind' (.app (by have := hsh.len; have := hv.len; simp; omega) (.pure ?_))))))))
  dsimp only
  have hcj := hcnt j (by omega)
  have e : wr (((c ++ d).count j : Int) - (c.count j : Int)) = (d.count j : Int) := by
   rw [List.count_append, wr_id (by omega)]; omega
  rw [e]
  refine ⟨by simp [r1], fun i s' hs' => ?_⟩
  rw [get_set] at hs'
  by_cases hij : j = i
  ·subst hij
   rw [if_pos ⟨rfl, by omega⟩] at hs'
   cases hs'
   rw [if_pos (by omega)]
   refine ⟨by simp [hsh.len], fun q hq => ?_, ?_⟩
   ·rcases List.mem_append.1 hq with hq | hq
    ·exact hsh.bat q hq
    ·simp at hq; subst hq; dsimp only; omega
   ·rw [lit_app, lit_one, hsh.lit, hlk, sel_app j c d _ _ h1]
    congr 1
    rw [← d1, sel_rep]
    dsimp only
    rw [show ((d.count j : Int).toNat) = d.count j by omega]
  ·rw [if_neg (fun h => hij h.1)] at hs'
   have := r2 i s' hs'
   by_cases hlt : i < j
   ·rw [if_pos hlt] at this; rw [if_pos (by omega)]; exact this
   ·rw [if_neg hlt] at this; rw [if_neg (by omega)]; exact this
 ·rintro r ⟨r1, r2⟩
  refine ⟨r1, fun i s hs => ?_⟩
  have := r2 i s hs
  have hil := (gs hs).1
  rw [if_pos (by omega)] at this; exact this
 ·rintro r ⟨r1, r2⟩
  unfold L.zmxf.J6
  refine .pure ⟨c ++ d, ⟨?_, fun x hx => (List.mem_append.1 hx).elim (h2 x) (d2 x), d3, rfl, d4, r1, r2⟩⟩
  rw [hlk]; simp [h1, d1]
theorem deal_ok {l : List Piece} {R : List Int} (hv : Vd l) (hne : l ≠ []) (hl : R.length ≤ 64) (hr : ∀ (k : Nat) (x : Int), R[k]? = some x → 1 ≤ x ∧ x ≤ 1000) (hs : R.sum = vol l) :
  Ok (L.zmxf l R) fun r => r.2 = 0 ∧ ∃ c : List Nat, c.length = (lit l).length ∧ (∀ x, x ∈ c → x < R.length) ∧ (∀ (i : Nat) (x : Int), R[i]? = some x → (c.count i : Int) = x) ∧
   r.1.length = R.length ∧ ∀ i, i < R.length → r.1[i]? = some (rle (sel i c (lit l))) ∧ (rle (sel i c (lit l))).length ≤ l.length := by
 have hv1 : 1 ≤ vol l := by
  have := len_vol hv.can.pos
  have : l.length ≠ 0 := fun h => hne (List.length_eq_zero_iff.1 h)
  omega
 have hlen := hv.len; have hvol := hv.vol
 unfold L.zmxf
 refine .bind' (.eq (merge_ok hv) ?_)
 rw [if_neg (by
  have : l.length ≠ 0 := fun h => hne (List.length_eq_zero_iff.1 h)
  have e : ((l.length : Int) == 0) = false := by simp; omega
  rw [e]; simp; omega)]
 refine .bind (Q := fun r => r = vol l) (.forJ (fun k st => st = vol (l.take k)) rfl ?_ fun st h => by rw [h, List.take_length]) ?_
 ·rintro k _ hk rfl
  have hp : l[k]? = some l[k] := gq hk
  unfold L.zmxf.B10
  refine .bind' (.eq (ix_nat hp) (.pure ?_))
  have e2 := vol_take_succ hp
  have e3 := vol_pos (f := l.drop (k + 1)) fun q hq => hv.nn q (List.mem_of_mem_drop hq)
  have e4 : vol l = vol (l.take (k + 1)) + vol (l.drop (k + 1)) := by rw [← vol_app, List.take_append_drop]
  have e5 := vol_pos (f := l.take (k + 1)) fun q hq => hv.nn q (List.mem_of_mem_take hq)
  rw [e2] at e4 e5 ⊢
  dsimp only
  exact wr_id (by omega)
 rintro _ rfl
 unfold L.zmxf.J1
 refine .bind' (.eq (dcheck_ok hl hr hs hv1) ?_)
 rw [if_neg (by simp)]
 refine .bind' (.mk R.length rfl (by omega) ?_)
 have hst : ∃ a : Arr Int 64, cpyA (Arr.rep 64 (0 : Int)) R = some a ∧ ∀ (i : Nat) (x : Int), R[i]? = some x → a.l[i]? = some x := by
  refine ⟨⟨R ++ (Arr.rep 64 (0 : Int)).l.drop R.length, by simp [Arr.rep]; omega⟩, dif_pos hl, fun i x hx => ?_⟩
  have := (gs hx).1
  dsimp only
  rw [List.getElem?_append_left (by omega), hx]
 obtain ⟨a, ha, ha'⟩ := hst
 unfold L.zwhx
 refine .bind' (.bind' (.eq ha (.pure ?_)))
 dsimp only
 refine .bind (Q := fun st => ∃ c, Dealt R l.length (lit l) c st) (.forJ (fun k st => ∃ c, Dealt R k (lit (l.take k)) c st) ⟨[], ?_⟩ ?_ fun st h => by rw [List.take_length] at h; exact h) ?_
 ·refine ⟨rfl, by simp, fun i x hx => by have := hr i x hx; simp; omega, rfl, ⟨ha', fun i hi => ?_⟩, by simp, fun i s hs => ?_⟩
  ·dsimp only [Arr.rep]; rw [List.getElem?_replicate, if_pos hi]; simp
  ·dsimp only at hs
   rw [List.getElem?_replicate] at hs
   split at hs
   ·cases hs; exact ⟨rfl, by simp, by simp [lit_nil, sel]⟩
   ·cases hs
 ·rintro k st hk ⟨c, hc⟩
  exact piece_dealt hv hl hr hs hk hc
 ·rintro st ⟨c, h1, h2, h3, h4, h5, h6, h7⟩
  have hcnt : ∀ (i : Nat) (x : Int), R[i]? = some x → (c.count i : Int) = x := by
   have e1 := count_sum R.length c h2
   have e2 := sumN_list R
   have e3 := lit_len hv.nn
   have := sumN_eq (n := R.length) (f := fun i => (c.count i : Int)) (g := fun i => R.getD i 0) (fun i hi => by
    have hg : R[i]? = some R[i] := gq hi
    rw [List.getD_eq_getElem?_getD, hg]; exact h3 i _ hg) (by omega)
   intro i x hx
   have e4 := this i (gs hx).1
   rw [List.getD_eq_getElem?_getD, hx] at e4
   exact e4
  unfold L.zmxf.J2
  refine .bind (Q := fun r : List (List Piece) => r.length = R.length ∧ ∀ i, i < R.length → r[i]? = some (rle (sel i c (lit l))) ∧ (rle (sel i c (lit l))).length ≤ l.length) (.forJ (fun j r => r.length = R.length ∧ ∀ (i : Nat) (s : List Piece), r[i]? = some s → if i < j then s = rle (sel i c (lit l)) ∧ s.length ≤ l.length else Share l.length (sel i c (lit l)) s) ⟨h6, fun i s hs => by rw [if_neg (by omega)]; exact h7 i s hs⟩ ?_ ?_) ?_
  ·rintro j r hj ⟨r1, r2⟩
   have hsj : r[j]? = some r[j] := gq (by omega)
   generalize r[j] = s at hsj
   have hsh := r2 j s hsj
   rw [if_neg (by omega)] at hsh
   have hx : R[j]? = some R[j] := gq (by omega)
   have e1 := hcnt j _ hx
   have e2 := hr j _ hx
   have e3 := lit_len fun p hp => (hsh.bat p hp).2.2.1
   rw [hsh.lit, sel_len j c _ h1] at e3
   unfold L.zmxf.B4
   refine .bind' (.eq (ix_nat hsj) (.bind' (.eq (merge_gen (f := s) (by have := hsh.len; omega) hsh.bat (by omega)) (.pure ?_))))
   dsimp only
   rw [hsh.lit]
   refine ⟨by simp [r1], fun i s' hs' => ?_⟩
   rw [get_set] at hs'
   by_cases hij : j = i
   ·subst hij
    rw [if_pos ⟨rfl, by omega⟩] at hs'
    cases hs'
    rw [if_pos (by omega)]
    refine ⟨rfl, ?_⟩
    have := rle_lit_len fun p hp => (hsh.bat p hp).2.2.1
    rw [hsh.lit] at this
    have := hsh.len
    omega
   ·rw [if_neg (fun h => hij h.1)] at hs'
    have := r2 i s' hs'
    by_cases hlt : i < j
    ·rw [if_pos hlt] at this; rw [if_pos (by omega)]; exact this
    ·rw [if_neg hlt] at this; rw [if_neg (by omega)]; exact this
  ·rintro r ⟨r1, r2⟩
   refine ⟨r1, fun i hi => ?_⟩
   have hg : r[i]? = some r[i] := gq (by omega)
   have := r2 i _ hg
   rw [if_pos (by omega)] at this
   rw [← this.1]
   exact ⟨hg, this.2⟩
  ·rintro r ⟨r1, r2⟩
   exact .pure ⟨rfl, c, h1, h2, hcnt, r1, r2⟩
structure Flw (n : Network) (p : Plan) (i : Nat) (s : Segment) (r : Int) : Prop where
 seg : n.Segments[i]? = some s
 rate : p.Rates[i]? = some r
 ne : r ≠ 0
structure Topo (n : Network) (p : Plan) (l : List Int) : Prop where
 rng : ∀ v, v ∈ l → 0 ≤ v ∧ v < (n.Nodes.length : Int)
 nodup : l.Nodup
 topo : ∀ (k : Nat) (v : Int), l[k]? = some v → ∀ i s r, Flw n p i s r → (L.ztzg s r).2 = v → (L.ztzg s r).1 ∈ l.take k
theorem order_topoG {n : Network} (hn : NetG n) {p : Plan} (h : FlowOk n p) : Ok (L.zsgw n p) fun r => Topo n p r ∧ ∀ v : Nat, v < n.Nodes.length → (v : Int) ∈ r := by
 have h1 := hn.nodes; have h2 := hn.segs1; have h4 := h.rl
 let I : List Int × List Bool × Int → Prop := fun st => st.2.1.length = n.Nodes.length ∧ (Topo n p st.1 ∧ ∀ v : Nat, st.2.1[v]? = some true ↔ (v : Int) ∈ st.1) ∧ 0 ≤ st.2.2 ∧ st.2.2 ≤ (n.Nodes.length : Int) ∧ ∀ j : Nat, (j : Int) < st.2.2 → st.2.1[j]? = some false → Blocked n p st.2.1 j
 let R : List Int → Prop := fun r => Topo n p r ∧ ∀ v : Nat, v < n.Nodes.length → (v : Int) ∈ r
 let μ : List Int × List Bool × Int → Nat := fun st => (n.Nodes.length - cnt st.2.1) * 10 + (n.Nodes.length - st.2.2.toNat)
 unfold L.zsgw
 refine .bind' (.mk n.Nodes.length rfl (by omega) ?_)
 refine .bind (Q := R) ?_ fun r hr => .pure hr
 refine .loop I μ ⟨by simp, ⟨⟨by simp, by simp, by simp⟩, fun v => ?_⟩, by simp, by simp, fun j hj => by dsimp only at hj; omega⟩ (by simp only [μ]; rw [cnt_rep]; omega) ?_
 ·simp [List.getElem?_replicate]
 rintro ⟨out, there, k⟩ ⟨i1, ⟨i2, i2'⟩, i3, i4, i5⟩
 dsimp only at i1 i2 i2' i3 i4 i5
 have hc := cnt_le there
 unfold L.zsgw.B2
 refine Ok.iteD (fun h0 => ?_) fun h0 => ?_
 ·dsimp only at h0
  obtain ⟨kk, rfl⟩ := nat_of i3
  have hkl : kk < there.length := by omega
  have hx : there[kk]? = some there[kk] := gq hkl
  have next : Blocked n p there kk ∨ there[kk] = true → Ok (L.zsgw.J3 (out, there, (kk : Int))) (Sum.elim (fun st => I st ∧ μ st < μ (out, there, (kk : Int))) R) := by
   intro hb
   unfold L.zsgw.J3
   dsimp only
   rw [wr_id (by omega)]
   refine .pure ⟨⟨i1, ⟨i2, i2'⟩, by dsimp only; omega, by dsimp only; omega, fun j hj hf => ?_⟩, by simp only [μ]; omega⟩
   dsimp only at hj hf
   by_cases hjk : j = kk
   ·subst hjk
    rcases hb with hb | hb
    ·exact hb
    ·rw [hx, hb] at hf; cases hf
   ·exact i5 j (by omega) hf
  refine .bind' (.eq (ix_nat hx) (Ok.iteB (fun ht => next (.inr ht)) fun ht => ?_))
  dsimp only at ht
  refine .bind' (.forL (fun i _ => ∀ (j : Nat) (s : Segment) (r : Int), j < i → Flw n p j s r → (L.ztzg s r).2 = (kk : Int) → (L.ztzg s r).1 ∈ out) (fun d => d = (out, there, (kk : Int)) ∧ Blocked n p there kk) (fun j s r hj => absurd hj (Nat.not_lt_zero _)) ?_ ?_ ?_)
  ·intro i s _ hs hJ
   have hil := (gs hs).1
   have hr : p.Rates[i]? = some p.Rates[i] := gq (by omega)
   have he := (hn.segs i s hs).ends
   have no : (p.Rates[i] ≠ 0 → (L.ztzg s p.Rates[i]).2 = (kk : Int) → (L.ztzg s p.Rates[i]).1 ∈ out) → Ok (L.zsgw.J6 (out, there, (kk : Int)) false) (Sum.elim (fun _ : Unit => ∀ (j : Nat) (s : Segment) (r : Int), j < i + 1 → Flw n p j s r → (L.ztzg s r).2 = (kk : Int) → (L.ztzg s r).1 ∈ out) fun d => d = (out, there, (kk : Int)) ∧ Blocked n p there kk) := by
    intro hq
    unfold L.zsgw.J6
    refine .pure fun j s' r' hj hf ht => ?_
    by_cases hji : j = i
    ·subst hji
     have e1 := hf.seg; have e2 := hf.rate
     rw [hs] at e1; cases e1
     rw [hr] at e2; cases e2
     exact hq hf.ne ht
    ·exact hJ j s' r' (by omega) hf ht
   unfold L.zsgw.B5
   refine .bind' (.eq (ix_nat hr) (Ok.iteU (fun hr0 => Ok.iteE (fun hto => ?_) fun hto => no fun _ h => absurd h hto) fun hr0 => no fun h => absurd hr0 h))
   dsimp only at hr0 hto ⊢
   have hfr : 0 ≤ (L.ztzg s p.Rates[i]).1 ∧ (L.ztzg s p.Rates[i]).1 < (n.Nodes.length : Int) := by
    unfold L.ztzg
    split <;> dsimp only <;> omega
   refine .bind' (.ix' hfr.1 (by omega) fun f x hf hfx => ?_)
   dsimp only
   cases x with
   | false =>
    unfold L.zsgw.J6
    exact .pure ⟨rfl, i, s, p.Rates[i], f, hs, hr, hr0, hto, hf, hfx⟩
   | true => exact no fun _ _ => by rw [hf]; exact (i2' f).1 hfx
  ·intro _ hJ
   simp only [Sum.elim_inl]
   unfold L.zsgw.J4
   refine .bind' (.app (by
    have : out.length ≤ 6 := by
     have := i2.nodup.length_le_of_subset (l₂ := (List.range n.Nodes.length).map fun v : Nat => (v : Int)) fun v hv => by
      have := i2.rng v hv
      exact List.mem_map.2 ⟨v.toNat, List.mem_range.2 (by omega), by omega⟩
     simp at this; omega
    simp; omega) ?_)
   unfold L.zsgw.J3
   dsimp only
   rw [wr_id (by omega)]
   have hx' : there[kk]? = some false := by rw [hx, ht]
   have hnot : (kk : Int) ∉ out := fun hm => by have := (i2' kk).2 hm; rw [hx'] at this; cases this
   have hcs := cnt_set hx'
   have hcl := cnt_le (there.set kk true)
   simp at hcl
   refine .pure ⟨⟨by simp [i1], ⟨⟨fun v hv => ?_, ?_, fun k v hk i s r hf hto => ?_⟩, fun v => ?_⟩, by simp, by dsimp only; omega, fun j hj => by dsimp only at hj; omega⟩, ?_⟩
   ·dsimp only at hv
    rcases List.mem_append.1 hv with hv | hv
    ·exact i2.rng v hv
    ·simp at hv; omega
   ·dsimp only
    exact List.nodup_append.2 ⟨i2.nodup, by simp, fun a ha b hb he => by simp at hb; subst hb; subst he; exact hnot ha⟩
   ·dsimp only at hk ⊢
    rw [List.getElem?_append] at hk
    split at hk
    ·rename_i hkl
     rw [List.take_append_of_le_length (by omega)]
     exact i2.topo k v hk i s r hf hto
    ·rename_i hkl
     have hl := (gs hk).1
     simp at hl
     have : k = out.length := by omega
     subst this
     simp at hk
     subst hk
     rw [List.take_left]
     exact hJ i s r (gs hf.seg).1 hf hto
   ·dsimp only
    by_cases hv : v = kk
    ·subst hv
     rw [List.getElem?_set_self (by omega)]; simp
    ·rw [List.getElem?_set_ne (by omega), i2' v]
     simp; omega
   ·simp only [μ]
    rw [hcs]; omega
  ·rintro _ ⟨rfl, hb⟩
   exact next (.inl hb)
 ·dsimp only at h0
  have hk : k = (n.Nodes.length : Int) := by omega
  subst hk
  have all := h.acyc there i1 fun j hj => i5 j (by have := (gs hj).1; omega) hj
  refine .pure (by
   simp only [Sum.elim_inr]
   refine ⟨i2, fun v hv => (i2' v).1 ?_⟩
   have hg : there[v]? = some there[v] := gq (by omega)
   cases hb : there[v] with
   | true => rw [hg, hb]
   | false => exact absurd (by rw [hg, hb]) (all v))
theorem get_of {α : Type} {l : List α} {k : Nat} (h : k < l.length) : ∃ x, l[k]? = some x := ⟨_, gq h⟩
def sl (c : Nat → Option Int) : Nat → List (Nat × Int)
 | 0 => []
 | n + 1 => sl c n ++ ((c n).map fun r => (n, r)).toList
theorem sl_none {c : Nat → Option Int} {n : Nat} (h : c n = none) : sl c (n + 1) = sl c n := by simp [sl, h]
theorem sl_some {c : Nat → Option Int} {n : Nat} {r : Int} (h : c n = some r) : sl c (n + 1) = sl c n ++ [(n, r)] := by simp [sl, h]
theorem sl_mem {c : Nat → Option Int} : ∀ {n : Nat} {x : Nat × Int}, x ∈ sl c n ↔ x.1 < n ∧ c x.1 = some x.2
 | 0, x => by simp [sl]
 | n + 1, x => by
  cases h : c n with
  | none =>
   rw [sl_none h, sl_mem]
   constructor
   ·rintro ⟨h1, h2⟩; exact ⟨by omega, h2⟩
   ·rintro ⟨h1, h2⟩
    by_cases e : x.1 = n
    ·rw [e, h] at h2; cases h2
    ·exact ⟨by omega, h2⟩
  | some r =>
   rw [sl_some h, List.mem_append, sl_mem, List.mem_singleton]
   constructor
   ·rintro (⟨h1, h2⟩ | rfl)
    ·exact ⟨by omega, h2⟩
    ·exact ⟨by omega, h⟩
   ·rintro ⟨h1, h2⟩
    by_cases e : x.1 = n
    ·rw [e, h] at h2
     exact .inr (by obtain ⟨a, b⟩ := x; cases h2; cases e; rfl)
    ·exact .inl ⟨by omega, h2⟩
theorem sl_lt {c : Nat → Option Int} {n : Nat} {i : Nat} {x : Nat × Int} (h : (sl c n)[i]? = some x) : x.1 < n ∧ c x.1 = some x.2 := sl_mem.1 (mg h)
theorem sl_inj {c : Nat → Option Int} : ∀ {n : Nat} {i j : Nat} {x y : Nat × Int}, (sl c n)[i]? = some x → (sl c n)[j]? = some y → x.1 = y.1 → i = j
 | 0, i, j, x, y, hi, _, _ => by simp [sl] at hi
 | n + 1, i, j, x, y, hi, hj, e => by
  cases h : c n with
  | none => rw [sl_none h] at hi hj; exact sl_inj hi hj e
  | some r =>
   rw [sl_some h, List.getElem?_append] at hi hj
   split at hi <;> split at hj
   ·exact sl_inj hi hj e
   ·have h1 := (sl_lt hi).1
    have h2 := mg hj
    simp at h2; subst h2; dsimp only at e; omega
   ·have h1 := (sl_lt hj).1
    have h2 := mg hi
    simp at h2; subst h2; dsimp only at e; omega
   ·have h1 := (gs hi).1
    have h2 := (gs hj).1
    simp at h1 h2; omega
theorem sl_sum {c : Nat → Option Int} (f : Nat → Int → Int) : ∀ n, ((sl c n).map fun x => f x.1 x.2).sum = sumN n fun k => match c k with | some r => f k r | none => 0
 | 0 => rfl
 | n + 1 => by
  simp only [sumN]
  rw [← sl_sum f n]
  cases h : c n with
  | none => rw [sl_none h]; simp
  | some r => rw [sl_some h]; simp
theorem sl_flen {β : Type} {c : Nat → Option Int} (f : Nat → Int → List β) : ∀ n, (((sl c n).flatMap fun x => f x.1 x.2).length : Int) = sumN n fun k => match c k with | some r => ((f k r).length : Int) | none => 0
 | 0 => rfl
 | n + 1 => by
  simp only [sumN]
  rw [← sl_flen f n]
  cases h : c n with
  | none => rw [sl_none h]; simp
  | some r => rw [sl_some h, List.flatMap_append, List.length_append]; simp
theorem sl_nil {c : Nat → Option Int} {n : Nat} (h : ∀ k, k < n → c k = none) : sl c n = [] := by
 induction n with
 | zero => rfl
 | succ n ih => rw [sl_none (h n (by omega))]; exact ih fun k hk => h k (by omega)
theorem sl_len (c : Nat → Option Int) : ∀ n, (sl c n).length ≤ n
 | 0 => Nat.le_refl _
 | n + 1 => by have := sl_len c n; cases h : c n with | none => rw [sl_none h]; omega | some r => rw [sl_some h, List.length_append, List.length_singleton]; omega
def cP (n : Network) (p : Plan) (v : Int) (b : Bool) (k : Nat) : Option Int :=
 match n.Ports[k]?, p.Ports[k]? with
 | some x, some r => if x.Node = v ∧ r ≠ 0 ∧ decide (r > 0) = b then some (max r (-r)) else none
 | _, _ => none
def cS (n : Network) (p : Plan) (v : Int) (b : Bool) (k : Nat) : Option Int :=
 match n.Segments[k]?, p.Rates[k]? with
 | some s, some r => if r ≠ 0 ∧ (if b = true then (L.ztzg s r).2 else (L.ztzg s r).1) = v then some (max r (-r)) else none
 | _, _ => none
def ci (l : List (Nat × Int)) : List (Int × Int) := l.map fun x => ((x.1 : Int), x.2)
section
variable {n : Network} {p : Plan} {v : Int} {b : Bool}
theorem cP_of {k : Nat} {x : Port} {r : Int} (hx : n.Ports[k]? = some x) (hr : p.Ports[k]? = some r) : cP n p v b k = if x.Node = v ∧ r ≠ 0 ∧ decide (r > 0) = b then some (max r (-r)) else none := by simp only [cP, hx, hr]
theorem cS_of {k : Nat} {s : Segment} {r : Int} (hx : n.Segments[k]? = some s) (hr : p.Rates[k]? = some r) : cS n p v b k = if r ≠ 0 ∧ (if b = true then (L.ztzg s r).2 else (L.ztzg s r).1) = v then some (max r (-r)) else none := by simp only [cS, hx, hr]
theorem cP_some {k : Nat} {a : Int} (h : cP n p v b k = some a) : ∃ x r, n.Ports[k]? = some x ∧ p.Ports[k]? = some r ∧ x.Node = v ∧ r ≠ 0 ∧ decide (r > 0) = b ∧ a = max r (-r) := by
 simp only [cP] at h
 split at h
 ·rename_i x r hx hr
  by_cases hc : x.Node = v ∧ r ≠ 0 ∧ decide (r > 0) = b
  ·rw [if_pos hc] at h; cases h; exact ⟨x, r, hx, hr, hc.1, hc.2.1, hc.2.2, rfl⟩
  ·rw [if_neg hc] at h; cases h
 ·cases h
theorem cS_some {k : Nat} {a : Int} (h : cS n p v b k = some a) : ∃ s r, Flw n p k s r ∧ (if b = true then (L.ztzg s r).2 else (L.ztzg s r).1) = v ∧ a = max r (-r) := by
 simp only [cS] at h
 split at h
 ·rename_i s r hx hr
  by_cases hc : r ≠ 0 ∧ (if b = true then (L.ztzg s r).2 else (L.ztzg s r).1) = v
  ·rw [if_pos hc] at h; cases h; exact ⟨s, r, ⟨hx, hr, hc.1⟩, hc.2, rfl⟩
  ·rw [if_neg hc] at h; cases h
 ·cases h
theorem ports_eq (hp : FlowOk n p) : L.zvgo n.Ports p.Ports v b = some (ci (sl (cP n p v b) n.Ports.length)) := by
 have : Ok (L.zvgo n.Ports p.Ports v b) fun r => r = ci (sl (cP n p v b) n.Ports.length) := by
  unfold L.zvgo
  refine .forS (fun k acc => acc = ci (sl (cP n p v b) k)) rfl ?_ fun _ h => h
  rintro k x _ hx rfl
  have hl := (gs hx).1
  obtain ⟨r, hr⟩ := get_of (l := p.Ports) (k := k) (by have := hp.pl; omega)
  have hr1 := hp.prt k r hr
  refine .bind' (.eq (ix_nat hr) ?_)
  have hc := cP_of (v := v) (b := b) hx hr
  dsimp only
  by_cases h : x.Node = v ∧ r ≠ 0 ∧ decide (r > 0) = b
  ·rw [if_pos h] at hc
   rw [if_neg (by simp [h.1, h.2.1, h.2.2]), sl_some hc, wr_id (by omega), show (0 : Int) - r = -r by omega]
   exact .pure (by simp [ci])
  ·rw [if_neg h] at hc
   rw [if_pos, sl_none hc]
   ·exact .pure rfl
   ·by_cases h1 : x.Node = v
    ·by_cases h2 : r = 0
     ·simp [h2]
     ·have h3 : ¬ decide (r > 0) = b := fun h3 => h ⟨h1, h2, h3⟩
      simp only [bne_iff_ne, Bool.or_eq_true, ne_eq, beq_iff_eq]
      exact .inr (.inr h3)
    ·simp [h1]
 obtain ⟨r, h1, rfl⟩ := this
 exact h1
theorem segs_eq (hn : NetG n) (hp : FlowOk n p) : L.zxub n.Segments p.Rates v b = some (ci (sl (cS n p v b) n.Segments.length)) := by
 have : Ok (L.zxub n.Segments p.Rates v b) fun r => r = ci (sl (cS n p v b) n.Segments.length) := by
  unfold L.zxub
  refine .forS (fun k acc => acc = ci (sl (cS n p v b) k)) rfl ?_ fun _ h => h
  rintro k x _ hx rfl
  have hl := (gs hx).1
  obtain ⟨r, hr⟩ := get_of (l := p.Rates) (k := k) (by have := hp.rl; omega)
  have hr1 := hp.rng k r x hr hx
  refine .bind' (.eq (ix_nat hr) ?_)
  have hc := cS_of (v := v) (b := b) hx hr
  dsimp only
  by_cases h : r ≠ 0 ∧ (if b = true then (L.ztzg x r).2 else (L.ztzg x r).1) = v
  ·rw [if_pos h] at hc
   obtain ⟨h1, h2⟩ := h
   rw [if_neg (by cases b <;> simp_all), sl_some hc, wr_id (by omega), show (0 : Int) - r = -r by omega]
   exact .pure (by simp [ci])
  ·rw [if_neg h] at hc
   rw [if_pos (by by_cases h1 : r = 0 <;> cases b <;> simp_all), sl_none hc]
   exact .pure rfl
 obtain ⟨r, h1, rfl⟩ := this
 exact h1
theorem dot_sumN : ∀ (w x : List Int), w.length = x.length → dot w x = sumN x.length fun k => w.getD k 0 * x.getD k 0
 | [], [], _ => rfl
 | [], _ :: _, h => by simp at h
 | _ :: _, [], h => by simp at h
 | a :: w, y :: x, h => by
  have ih := dot_sumN w x (by simpa using h)
  rw [List.length_cons, sumN_shift]
  simp only [dot, List.getD_cons_zero, List.getD_cons_succ]
  rw [ih]
theorem node_bal (hp : FlowOk n p) {v : Nat} (hv : v < 24) :
  sumN n.Ports.length (fun k => (cP n p v true k).getD 0) + sumN n.Segments.length (fun k => (cS n p v true k).getD 0) = sumN n.Ports.length (fun k => (cP n p v false k).getD 0) + sumN n.Segments.length (fun k => (cS n p v false k).getD 0) := by
 have h := hp.bal v hv
 rw [dot_sumN _ _ (by simp [wt, hp.rl]), dot_sumN _ _ (by simp [wp, hp.pl]), hp.rl, hp.pl] at h
 have e1 : sumN n.Ports.length (fun k => (cP n p v true k).getD 0) = sumN n.Ports.length (fun k => (wp n v).getD k 0 * p.Ports.getD k 0) + sumN n.Ports.length (fun k => (cP n p v false k).getD 0) := by
  rw [← sumN_add]
  refine sumN_congr fun k hk => ?_
  have hx : n.Ports[k]? = some n.Ports[k] := gq hk
  obtain ⟨r, hr⟩ := get_of (l := p.Ports) (k := k) (by have := hp.pl; omega)
  generalize n.Ports[k] = x at hx
  have hw : (wp n v).getD k 0 = ind x.Node v := by
   rw [List.getD_eq_getElem?_getD, wp, List.getElem?_map, hx]; rfl
  rw [hw, List.getD_eq_getElem?_getD, hr, cP_of hx hr, cP_of hx hr]
  dsimp only [Option.getD]
  by_cases h1 : x.Node = (v : Int)
  ·rw [h1, ind_self]
   rcases Int.lt_trichotomy r 0 with h2 | h2 | h2
   ·rw [if_neg (by simp; omega), if_pos (by simp; omega)]; simp; omega
   ·rw [if_neg (by simp [h2]), if_neg (by simp [h2])]; simp [h2]
   ·rw [if_pos (by simp; omega), if_neg (by simp; omega)]; simp; omega
  ·rw [ind_ne h1, if_neg (fun h => h1 h.1), if_neg (fun h => h1 h.1)]; simp
 have e2 : sumN n.Segments.length (fun k => (cS n p v true k).getD 0) = sumN n.Segments.length (fun k => (wt n v).getD k 0 * p.Rates.getD k 0) + sumN n.Segments.length (fun k => (cS n p v false k).getD 0) := by
  rw [← sumN_add]
  refine sumN_congr fun k hk => ?_
  have hx : n.Segments[k]? = some n.Segments[k] := gq hk
  obtain ⟨r, hr⟩ := get_of (l := p.Rates) (k := k) (by have := hp.rl; omega)
  generalize n.Segments[k] = s at hx
  have hw : (wt n v).getD k 0 = ind s.To v - ind s.From v := by
   rw [List.getD_eq_getElem?_getD, wt, List.getElem?_map, hx]; rfl
  rw [hw, List.getD_eq_getElem?_getD, hr, cS_of hx hr, cS_of hx hr]
  dsimp only [Option.getD]
  by_cases h0 : r = 0
  ·rw [if_neg (fun h => h.1 h0), if_neg (fun h => h.1 h0)]; simp [h0]
  ·rw [if_pos rfl, if_neg (by simp : ¬ (false = true))]
   rcases endsOf (s := s) h0 with ⟨he, h2⟩ | ⟨he, h2⟩ <;> rw [he] <;> dsimp only <;> by_cases ha : s.To = (v : Int) <;> by_cases hb : s.From = (v : Int) <;> simp [ind, ha, hb, h0] <;> omega
 omega
end
structure Rp (m : Nat) (l : List (List Piece)) (F : Nat → List Int) : Prop where
 len : l.length = m
 get : ∀ i, i < m → l[i]? = some (rle (F i))
def upd (F : Nat → List Int) (i : Nat) (X : List Int) : Nat → List Int := fun j => if j = i then X else F j
theorem Rp.set {m i : Nat} {l : List (List Piece)} {F : Nat → List Int} (h : Rp m l F) (X : List Int) : Rp m (l.set i (rle X)) (upd F i X) := by
 refine ⟨by simp [h.len], fun j hj => ?_⟩
 have := h.len
 rw [get_set]
 unfold upd
 by_cases e : i = j
 ·subst e; rw [if_pos ⟨rfl, by omega⟩, if_pos rfl]
 ·rw [if_neg (fun h => e h.1), if_neg (Ne.symm e)]; exact h.get j hj
theorem Rp.congr {m : Nat} {l : List (List Piece)} {F G : Nat → List Int} (h : Rp m l F) (e : ∀ i, i < m → G i = F i) : Rp m l G := ⟨h.len, fun i hi => by rw [e i hi]; exact h.get i hi⟩
theorem Rp.det {m : Nat} {l k : List (List Piece)} {F : Nat → List Int} (h : Rp m l F) (h' : Rp m k F) : l = k := by
 refine List.ext_getElem? fun i => ?_
 by_cases hi : i < m
 ·rw [h.get i hi, h'.get i hi]
 ·rw [List.getElem?_eq_none (by have := h.len; omega), List.getElem?_eq_none (by have := h'.len; omega)]
def qu (r : Int) (F : List Int) : List Int := if r < 0 then F else F.reverse
theorem qu_qu (r : Int) (F : List Int) : qu r (qu r F) = F := by unfold qu; split <;> simp
theorem qu_len (r : Int) (F : List Int) : (qu r F).length = F.length := by unfold qu; split <;> simp
theorem qu_mem {r : Int} {F : List Int} {b : Int} : b ∈ qu r F ↔ b ∈ F := by unfold qu; split <;> simp
def gv (r : Int) (F I : List Int) : List Int := (qu r F ++ I).take I.length
def fl (r : Int) (F I : List Int) : List Int := qu r ((qu r F ++ I).drop I.length)
theorem gv_len (r : Int) (F I : List Int) : (gv r F I).length = I.length := by unfold gv; rw [List.length_take, List.length_append]; omega
theorem fl_len (r : Int) (F I : List Int) : (fl r F I).length = F.length := by unfold fl; rw [qu_len, List.length_drop, List.length_append, qu_len]; omega
theorem gv_mem {r : Int} {F I : List Int} {b : Int} (h : b ∈ gv r F I) : b ∈ F ∨ b ∈ I := by
 have := List.mem_of_mem_take h
 exact (List.mem_append.1 this).imp qu_mem.1 id
theorem fl_mem {r : Int} {F I : List Int} {b : Int} (h : b ∈ fl r F I) : b ∈ F ∨ b ∈ I := by
 have := List.mem_of_mem_drop (qu_mem.1 h)
 exact (List.mem_append.1 this).imp qu_mem.1 id
theorem push_ok {x : advance_line} {i : Nat} {r : Int} {m : Nat} {F G : Nat → List Int} {I : List Int} (hr : x.p.Rates[i]? = some r) (hi : i < m) (hF : Rp m x.fills F) (hG : Rp m x.given G) (vF : Vd (rle (F i))) (vI : Vd (rle I)) :
  Ok (L.znry x (i : Int) (rle I)) fun q => q.1 = 4 ∧ (200 < (rle (fl r (F i) I)).length ∨ 200 < (rle (gv r (F i) I)).length) ∨ q.1 = 0 ∧ q.2.2.2 = x.out_ ∧ Rp m q.2.1 (upd F i (fl r (F i) I)) ∧ Rp m q.2.2.1 (upd G i (gv r (F i) I)) ∧ (rle (fl r (F i) I)).length ≤ 200 ∧ (rle (gv r (F i) I)).length ≤ 200 := by
 have hgl : (i : Nat) < x.given.length := by have := hG.len; omega
 obtain ⟨g, hg⟩ := get_of hgl
 unfold L.znry
 refine .bind' (.eq (ix_nat hr) ?_)
 dsimp only
 by_cases h0 : r < 0
 ·rw [if_neg (by simp [h0])]
  unfold L.znry.J1
  refine .bind' (.eq (ix_nat (hF.get i hi)) ?_)
  rw [show decide (r < 0) = true by simp [h0]]
  refine .bind (push_back vF vI) fun q hq => ?_
  rcases hq with ⟨hq, hov⟩ | ⟨rfl, h1, h2⟩
  ·rw [if_pos (by simp [hq])]; exact .pure (.inl ⟨rfl, by simpa [fl, gv, qu, h0] using hov⟩)
  ·rw [if_neg (by simp), if_neg (by simp)]
   unfold L.znry.J2
   refine .bind' (.eq (ix_nat hg) (.pure (.inr ⟨rfl, rfl, ?_, ?_, ?_, ?_⟩)))
   ·have := hF.set (i := i) (fl r (F i) I)
    simpa [fl, qu, h0] using this
   ·have := hG.set (i := i) (gv r (F i) I)
    simpa [gv, qu, h0] using this
   ·simpa [fl, qu, h0] using h1
   ·simpa [gv, qu, h0] using h2
 ·rw [if_pos (by simp [h0])]
  refine .bind' (.eq (turned_ok (by have := vI.len; omega)) ?_)
  rw [rle_rev]
  unfold L.znry.J1
  refine .bind' (.eq (ix_nat (hF.get i hi)) ?_)
  rw [show decide (r < 0) = false by simp [h0]]
  refine .bind (push_fore vF (by rw [← rle_rev]; exact vI.rev)) fun q hq => ?_
  have e1 : (I.reverse ++ F i).take (F i).length = fl r (F i) I := by
   unfold fl qu
   rw [if_neg h0, if_neg h0, List.reverse_drop, List.reverse_append, List.reverse_reverse, List.length_append, List.length_reverse]
   congr 1; omega
  have e2 : ((I.reverse ++ F i).drop (F i).length).reverse = gv r (F i) I := by
   unfold gv qu
   rw [if_neg h0, List.reverse_drop, List.reverse_append, List.reverse_reverse, List.length_append, List.length_reverse]
   congr 1; omega
  rcases hq with ⟨hq, hov⟩ | ⟨rfl, h1, h2⟩
  ·rw [if_pos (by simp [hq])]
   refine .pure (.inl ⟨rfl, ?_⟩)
   rw [← e1, ← e2, ← rle_rev, List.length_reverse]; exact hov
  ·rw [if_neg (by simp), if_pos (by simp)]
   refine .bind' (.eq (turned_ok (by dsimp only; omega)) ?_)
   unfold L.znry.J2
   refine .bind' (.eq (ix_nat hg) (.pure (.inr ⟨rfl, rfl, ?_, ?_, ?_, ?_⟩)))
   ·dsimp only; rw [e1]; exact hF.set _
   ·dsimp only; rw [rle_rev, e2]; exact hG.set _
   ·rw [← e1]; exact h1
   ·rw [← e2, ← rle_rev, List.length_reverse]; exact h2
theorem sl_at {c : Nat → Option Int} : ∀ {n k : Nat} {a : Int}, k < n → c k = some a → (sl c n)[(sl c k).length]? = some (k, a)
 | 0, k, a, h, _ => absurd h (by omega)
 | n + 1, k, a, h, hc => by
  by_cases e : k = n
  ·subst e; rw [sl_some hc]; simp
  ·have ih := sl_at (n := n) (by omega : k < n) hc
   have hl := (gs ih).1
   cases h' : c n with
   | none => rw [sl_none h']; exact ih
   | some r => rw [sl_some h', List.getElem?_append_left hl]; exact ih
theorem sl_pos {c : Nat → Option Int} {n j : Nat} {x : Nat × Int} (h : (sl c n)[j]? = some x) : (sl c x.1).length = j := by
 have h1 := sl_lt h
 exact sl_inj (sl_at h1.1 h1.2) h rfl
theorem sumN_app (f : Nat → Int) (a : Nat) : ∀ b, sumN (a + b) f = sumN a f + sumN b fun i => f (a + i)
 | 0 => by simp [sumN]
 | b + 1 => by rw [← Nat.add_assoc]; simp only [sumN]; rw [sumN_app f a b]; omega
theorem sl_sumN {c : Nat → Option Int} (f : Nat → Int) : ∀ n, sumN (sl c n).length f = sumN n fun k => match c k with | some _ => f (sl c k).length | none => 0
 | 0 => rfl
 | n + 1 => by
  cases h : c n with
  | none => rw [sl_none h]; simp only [sumN, h]; rw [sl_sumN f n]; omega
  | some r => rw [sl_some h, List.length_append, List.length_singleton]; simp only [sumN, h]; rw [sl_sumN f n]
theorem rle_flat {α : Type} {f : Nat → α → List Piece → Option (List Piece)} {l : List α} {h : α → List Int} {M0 : List Int} (hf : ∀ k x M, l[k]? = some x → M.length ≤ 1000000 → f k x (rle M) = some (rle (M ++ h x))) (hb : ∀ x, x ∈ l → (h x).length ≤ 1000) (hl : l.length ≤ 100) (h0 : M0.length ≤ 100000) :
  forS f 0 l (rle M0) = some (rle (M0 ++ l.flatMap h)) := by
 have : Ok (forS f 0 l (rle M0)) fun r => r = rle (M0 ++ l.flatMap h) := by
  refine .forS (fun k st => st = rle (M0 ++ (l.take k).flatMap h) ∧ ((l.take k).flatMap h).length ≤ 1000 * k) (by simp) ?_ fun st h => by rw [h.1, List.take_length]
  rintro k x _ hx ⟨rfl, hk⟩
  have hkl := (gs hx).1
  have h1 := hb x (mg hx)
  refine ⟨_, hf k x _ hx (by rw [List.length_append]; omega), ?_⟩
  rw [List.take_add_one, hx]
  refine ⟨by simp [List.append_assoc], ?_⟩
  show ((l.take k ++ [x]).flatMap h).length ≤ _
  rw [List.flatMap_append, List.length_append, List.flatMap_singleton]
  omega
 obtain ⟨r, h1, h2⟩ := this
 rw [h1, h2]
structure Ln (n : Network) (p : Plan) (g : List Int) : Prop where
 net : NetG n
 flow : FlowOk n p
 gl : g.length = n.Ports.length
 gb : ∀ b, b ∈ g → 0 ≤ b ∧ b < 1000
def strm (n : Network) (p : Plan) (g : List Int) (G : Nat → List Int) (v : Int) : List Int :=
 (sl (cP n p v true) n.Ports.length).flatMap (fun x => List.replicate x.2.toNat (g.getD x.1 0)) ++ (sl (cS n p v true) n.Segments.length).flatMap fun x => G x.1
section
variable {n : Network} {p : Plan} {g od : List Int} {fs gws os : List (List Piece)} {F G O : Nat → List Int}
theorem cP_val (h : FlowOk n p) {v : Int} {b : Bool} {k : Nat} {a : Int} (hc : cP n p v b k = some a) : 1 ≤ a ∧ a ≤ 1000 := by
 obtain ⟨x, r, _, hr, _, h0, _, rfl⟩ := cP_some hc
 have := h.prt k r hr
 omega
theorem cS_val (h : FlowOk n p) {v : Int} {b : Bool} {k : Nat} {a : Int} (hc : cS n p v b k = some a) : 1 ≤ a ∧ a ≤ 1000 := by
 obtain ⟨x, r, ⟨hx, hr, h0⟩, _, rfl⟩ := cS_some hc
 have := h.rng k r x hr hx
 omega
theorem stream_ok (hL : Ln n p g) (hG : Rp n.Segments.length gws G) (hGl : ∀ i, i < n.Segments.length → (G i).length ≤ 1000) (v : Int) :
  L.zyjw ⟨n, p, g, od, fs, gws, os⟩ v = some (rle (strm n p g G v), (fs, gws, os)) := by
 have s1 := hL.net.segs1; have s2 := hL.net.ports1
 unfold L.zyjw
 dsimp only
 rw [ports_eq hL.flow, Option.bind_some, segs_eq hL.net hL.flow]
 have h1 := rle_flat (f := L.zyjw.B1 ⟨n, p, g, od, fs, gws, os⟩) (l := ci (sl (cP n p v true) n.Ports.length)) (h := fun x => List.replicate x.2.toNat (g.getD x.1.toNat 0)) (M0 := []) (fun k x M hx hM => ?_) (fun x hx => ?_) (by
   have := sl_len (cP n p v true) n.Ports.length
   simp [ci]; omega) (by simp)
 ·rw [rle_nil] at h1
  rw [h1, Option.bind_some, Option.bind_some]
  have h2 := rle_flat (f := L.zyjw.B2 ⟨n, p, g, od, fs, gws, os⟩) (l := ci (sl (cS n p v true) n.Segments.length)) (h := fun x => G x.1.toNat) (M0 := [] ++ (ci (sl (cP n p v true) n.Ports.length)).flatMap fun x => List.replicate x.2.toNat (g.getD x.1.toNat 0)) (fun k x M hx hM => ?_) (fun x hx => ?_) (by
   have := sl_len (cS n p v true) n.Segments.length
   simp [ci]; omega) ?_
  ·rw [h2, Option.bind_some]
   simp [strm, ci, List.flatMap_map]
  ·obtain ⟨y, hy, rfl⟩ := List.mem_map.1 (mg hx)
   obtain ⟨y1, y2⟩ := sl_mem.1 hy
   unfold L.zyjw.B2
   dsimp only
   have e := hGl y.1 y1
   rw [ix_nat (hG.get y.1 y1), Option.bind_some, join_rle (rle_can _).pos (by rw [vol_rle]; omega), Option.bind_some, lit_rle]
   simp
  ·obtain ⟨y, hy, rfl⟩ := List.mem_map.1 hx
   exact hGl y.1 (sl_mem.1 hy).1
  ·have e := sl_flen (c := cP n p v true) (fun k r => List.replicate r.toNat (g.getD k 0)) n.Ports.length
   have e3 : ∀ m : Nat, sumN m (fun _ => 1000) = 1000 * (m : Int) := fun m => by
    induction m with
    | zero => rfl
    | succ m ih => simp only [sumN]; rw [ih]; omega
   have e2 : (((sl (cP n p v true) n.Ports.length).flatMap fun x => List.replicate x.2.toNat (g.getD x.1 0)).length : Int) ≤ 1000 * (n.Ports.length : Int) := by
    rw [e, ← e3]
    refine sumN_le fun k hk => ?_
    cases h : cP n p v true k with
    | none => simp
    | some r => have := cP_val hL.flow h; simp; omega
   have e4 : ((ci (sl (cP n p v true) n.Ports.length)).flatMap fun x => List.replicate x.2.toNat (g.getD x.1.toNat 0)) = (sl (cP n p v true) n.Ports.length).flatMap fun x => List.replicate x.2.toNat (g.getD x.1 0) := by
    simp [ci, List.flatMap_map]
   rw [List.nil_append, e4]
   omega
 ·obtain ⟨y, hy, rfl⟩ := List.mem_map.1 (mg hx)
  obtain ⟨y1, y2⟩ := sl_mem.1 hy
  have hv := cP_val hL.flow y2
  obtain ⟨b, hb⟩ := get_of (l := g) (k := y.1) (by rw [hL.gl]; exact y1)
  unfold L.zyjw.B1
  dsimp only
  rw [ix_nat hb, Option.bind_some, join_rle (by simp; omega) (by simp [vol]; omega), Option.bind_some, lit_one]
  simp [List.getD_eq_getElem?_getD, hb]
 ·obtain ⟨y, hy, rfl⟩ := List.mem_map.1 hx
  have := cP_val hL.flow (sl_mem.1 hy).2
  simp; omega
structure Shared (n : Network) (p : Plan) (v : Int) (S : List Int) (ZP ZS : Nat → List Int) : Prop where
 lenP : ∀ k a, k < n.Ports.length → cP n p v false k = some a → ((ZP k).length : Int) = a
 lenS : ∀ i a, i < n.Segments.length → cS n p v false i = some a → ((ZS i).length : Int) = a
 sum : ∀ b, (sumN n.Ports.length fun k => match cP n p v false k with | some _ => ((ZP k).count b : Int) | none => 0) + (sumN n.Segments.length fun i => match cS n p v false i with | some _ => ((ZS i).count b : Int) | none => 0) = (S.count b : Int)
 memP : ∀ k b, b ∈ ZP k → b ∈ S
 memS : ∀ i b, b ∈ ZS i → b ∈ S
 one : (sl (cP n p v false) n.Ports.length).length + (sl (cS n p v false) n.Segments.length).length = 1 → (∀ k a, k < n.Ports.length → cP n p v false k = some a → ZP k = S) ∧ ∀ i a, i < n.Segments.length → cS n p v false i = some a → ZS i = S
def outR (n : Network) (p : Plan) (v : Int) : List Int := (sl (cP n p v false) n.Ports.length).map (·.2) ++ (sl (cS n p v false) n.Segments.length).map (·.2)
theorem outR_P {v : Int} {k : Nat} {a : Int} (hk : k < n.Ports.length) (h : cP n p v false k = some a) : (outR n p v)[(sl (cP n p v false) k).length]? = some a := by
 have := sl_at hk h
 have hl := (gs this).1
 rw [outR, List.getElem?_append_left (by simpa using hl), List.getElem?_map, this]; rfl
theorem outR_S {v : Int} {i : Nat} {a : Int} (hi : i < n.Segments.length) (h : cS n p v false i = some a) : (outR n p v)[(sl (cP n p v false) n.Ports.length).length + (sl (cS n p v false) i).length]? = some a := by
 have := sl_at hi h
 rw [outR, List.getElem?_append_right (by simp), List.length_map, Nat.add_sub_cancel_left, List.getElem?_map, this]; rfl
theorem outR_len (v : Int) : (outR n p v).length = (sl (cP n p v false) n.Ports.length).length + (sl (cS n p v false) n.Segments.length).length := by simp [outR]
theorem outR_val (h : FlowOk n p) (v : Int) : ∀ (k : Nat) (x : Int), (outR n p v)[k]? = some x → 1 ≤ x ∧ x ≤ 1000 := by
 intro k x hx
 rcases List.mem_append.1 (mg hx) with hm | hm <;> obtain ⟨y, hy, rfl⟩ := List.mem_map.1 hm
 ·exact cP_val h (sl_mem.1 hy).2
 ·exact cS_val h (sl_mem.1 hy).2
theorem outR_sum (v : Int) : (outR n p v).sum = sumN n.Ports.length (fun k => (cP n p v false k).getD 0) + sumN n.Segments.length (fun k => (cS n p v false k).getD 0) := by
 rw [outR, List.sum_append, sl_sum (c := cP n p v false) (fun _ r => r), sl_sum (c := cS n p v false) (fun _ r => r)]
 congr 1 <;> exact sumN_congr fun k _ => by split <;> rename_i h <;> rw [h] <;> rfl
theorem strm_len (hL : Ln n p g) {v : Int} (hG : ∀ i a, i < n.Segments.length → cS n p v true i = some a → ((G i).length : Int) = a) :
  ((strm n p g G v).length : Int) = sumN n.Ports.length (fun k => (cP n p v true k).getD 0) + sumN n.Segments.length (fun k => (cS n p v true k).getD 0) := by
 rw [strm, List.length_append, Int.natCast_add, sl_flen (c := cP n p v true) (fun k r => List.replicate r.toNat (g.getD k 0)), sl_flen (c := cS n p v true) (fun k _ => G k)]
 congr 1 <;> refine sumN_congr fun k hk => ?_
 ·cases h : cP n p v true k with
  | none => rfl
  | some r => have := cP_val hL.flow h; simp; omega
 ·cases h : cS n p v true k with
  | none => rfl
  | some r => simp [hG k r hk h]
theorem strm_bat (hL : Ln n p g) {v : Int} (hG : ∀ i, i < n.Segments.length → Bat (G i)) : Bat (strm n p g G v) := by
 intro b hb
 rcases List.mem_append.1 hb with hb | hb <;> obtain ⟨y, hy, hb⟩ := List.mem_flatMap.1 hb
 ·obtain ⟨_, rfl⟩ := List.mem_replicate.1 hb
  obtain ⟨x, hx⟩ := get_of (l := g) (k := y.1) (by rw [hL.gl]; exact (sl_mem.1 hy).1)
  rw [List.getD_eq_getElem?_getD, hx]
  exact hL.gb _ (mg hx)
 ·exact hG y.1 (sl_mem.1 hy).1 b hb
theorem shared_of (hL : Ln n p g) {v : Int} {S : List Int} {c : List Nat} (h1 : c.length = S.length) (h2 : ∀ x, x ∈ c → x < (outR n p v).length) (h3 : ∀ (i : Nat) (x : Int), (outR n p v)[i]? = some x → (c.count i : Int) = x) :
  Shared n p v S (fun k => sel (sl (cP n p v false) k).length c S) (fun i => sel ((sl (cP n p v false) n.Ports.length).length + (sl (cS n p v false) i).length) c S) := by
 refine ⟨fun k a hk h => ?_, fun i a hi h => ?_, fun b => ?_, fun k b hb => sel_mem hb, fun i b hb => sel_mem hb, fun he => ?_⟩
 ·rw [sel_len _ _ _ h1]; exact h3 _ _ (outR_P hk h)
 ·rw [sel_len _ _ _ h1]; exact h3 _ _ (outR_S hi h)
 ·have := sel_sum b (outR n p v).length c S h1 h2
  rw [outR_len, sumN_app, sl_sumN (c := cP n p v false) (fun i => ((sel i c S).count b : Int)), sl_sumN (c := cS n p v false) (fun i => ((sel ((sl (cP n p v false) n.Ports.length).length + i) c S).count b : Int))] at this
  exact this
 ·rw [← outR_len] at he
  have h0 : ∀ x, x ∈ c → x = 0 := fun x hx => by have := h2 x hx; omega
  have hz : ∀ (j : Nat) (a : Int), (outR n p v)[j]? = some a → sel j c S = S := fun j a hj => by
   have := (gs hj).1
   obtain rfl : j = 0 := by omega
   exact sel_all 0 c S h1 h0
  exact ⟨fun k a hk h => hz _ a (outR_P hk h), fun i a hi h => hz _ a (outR_S hi h)⟩
structure Left (n : Network) (p : Plan) (v : Int) (F G O ZP ZS : Nat → List Int) (q : List (List Piece) × List (List Piece) × List (List Piece)) : Prop where
 fills : Rp n.Segments.length q.1 fun i => if (cS n p v false i).isSome = true then fl (p.Rates.getD i 0) (F i) (ZS i) else F i
 given : Rp n.Segments.length q.2.1 fun i => if (cS n p v false i).isSome = true then gv (p.Rates.getD i 0) (F i) (ZS i) else G i
 out : Rp n.Ports.length q.2.2 fun k => if (cP n p v false k).isSome = true then ZP k else O k
 vd : ∀ i, i < n.Segments.length → Vd (rle (if (cS n p v false i).isSome = true then fl (p.Rates.getD i 0) (F i) (ZS i) else F i))
theorem vals_ok {B : Nat → Int × Int → List Int → Option (List Int)} (hB : ∀ k x st, B k x st = Option.bind (app? st [x.2]) fun l => some l) {l : List (Nat × Int)} {a : List Int} (hl : l.length ≤ 100) (ha : a.length ≤ 1000) : forS B 0 (ci l) a = some (a ++ l.map (·.2)) := by
 have : Ok (forS B 0 (ci l) a) fun r => r = a ++ l.map (·.2) := by
  refine .forS (fun k st => st = a ++ (l.take k).map (·.2)) (by simp) ?_ fun st h => by
   rw [h]; simp [ci]
  rintro k x _ hx rfl
  have hk := (gs hx).1
  rw [hB]
  refine .bind' (.app (by simp [ci] at hk ⊢; omega) (.pure ?_))
  simp only [ci, List.getElem?_map] at hx
  cases h : l[k]? with
  | none => rw [h] at hx; cases hx
  | some y =>
   rw [h] at hx; cases hx
   rw [List.take_add_one, h]; simp
 obtain ⟨r, h1, h2⟩ := this
 rw [h1, h2]
theorem ci_get {l : List (Nat × Int)} {k : Nat} {x : Int × Int} (h : (ci l)[k]? = some x) : ∃ y, l[k]? = some y ∧ x = ((y.1 : Int), y.2) := by
 simp only [ci, List.getElem?_map] at h
 cases h' : l[k]? with
 | none => rw [h'] at h; cases h
 | some y => rw [h'] at h; cases h; exact ⟨y, rfl, rfl⟩
def Over (n : Network) (p : Plan) (g : List Int) (v : Int) (F G : Nat → List Int) : Prop :=
 200 < (rle (strm n p g G v)).length ∨ ∃ ZP ZS, Shared n p v (strm n p g G v) ZP ZS ∧ ∃ i a, i < n.Segments.length ∧ cS n p v false i = some a ∧ (200 < (rle (fl (p.Rates.getD i 0) (F i) (ZS i))).length ∨ 200 < (rle (gv (p.Rates.getD i 0) (F i) (ZS i))).length)
theorem node_ok (hL : Ln n p g) {v : Nat} (hv : v < n.Nodes.length) (hF : Rp n.Segments.length fs F) (hG : Rp n.Segments.length gws G) (hO : Rp n.Ports.length os O) (vF : ∀ i, i < n.Segments.length → Vd (rle (F i)))
  (bG : ∀ i, i < n.Segments.length → Bat (G i) ∧ (G i).length ≤ 1000) (lG : ∀ i a, i < n.Segments.length → cS n p (v : Int) true i = some a → ((G i).length : Int) = a) :
  Ok (L.zikm ⟨n, p, g, od, fs, gws, os⟩ (v : Int)) fun q => q.1 = 4 ∧ Over n p g (v : Int) F G ∨ q.1 = 0 ∧ ∃ ZP ZS, Shared n p (v : Int) (strm n p g G (v : Int)) ZP ZS ∧ Left n p (v : Int) F G O ZP ZS q.2 := by
 have s0 := hL.net.nodes; have s1 := hL.net.segs1; have s2 := hL.net.ports1
 have hp := hL.flow
 have hsum : (outR n p v).sum = ((strm n p g G v).length : Int) := by rw [outR_sum, strm_len hL lG, node_bal hp (by omega)]
 have hbat := strm_bat (v := (v : Int)) hL fun i hi => (bG i hi).1
 have lP := sl_len (cP n p v false) n.Ports.length
 have lS := sl_len (cS n p v false) n.Segments.length
 have hRl : (outR n p v).length ≤ 14 := by rw [outR_len]; omega
 have hsl : ((strm n p g G v).length : Int) ≤ 14000 := by
  rw [← hsum, sumN_list]
  have e1 : sumN (outR n p v).length (fun i => (outR n p v).getD i 0) ≤ sumN (outR n p v).length fun _ => 1000 := sumN_le fun i hi => by
   obtain ⟨x, hx⟩ := get_of hi
   rw [List.getD_eq_getElem?_getD, hx]
   exact (outR_val hp v i x hx).2
  have e3 : ∀ m : Nat, sumN m (fun _ => 1000) = 1000 * (m : Int) := fun m => by
   induction m with
   | zero => rfl
   | succ m ih => simp only [sumN]; rw [ih]; omega
  rw [e3] at e1; omega
 unfold L.zikm
 rw [stream_ok hL hG (fun i hi => (bG i hi).2) v, Option.bind_some]
 refine Ok.iteE (fun he => .pure (.inr ⟨rfl, fun _ => [], fun _ => [], ?_⟩)) fun hne => Ok.iteD (fun h => .pure (.inl ⟨rfl, .inl (by dsimp only at h; omega)⟩)) fun hlen => ?_
 ·-- nothing comes
  have hS : strm n p g G v = [] := rle_eq_nil.1 (List.length_eq_zero_iff.1 (by dsimp only at he; omega))
  have hR : outR n p v = [] := by
   rw [hS] at hsum
   cases h : outR n p v with
   | nil => rfl
   | cons x l =>
    have hx := outR_val hp v 0 x (by rw [h]; rfl)
    have hpos : ∀ l : List Int, (∀ y, y ∈ l → 0 ≤ y) → 0 ≤ l.sum := fun l => by
     induction l with
     | nil => intro _; simp
     | cons y l ih => intro h; have := ih (fun z hz => h z (by simp [hz])); have := h y (by simp); simp; omega
    have hl := hpos l fun y hy => by
     obtain ⟨i, hi⟩ := List.getElem?_of_mem hy
     have := outR_val hp v (i + 1) y (by rw [h]; simpa using hi)
     omega
    rw [h] at hsum; simp at hsum; omega
  have hP : ∀ k, k < n.Ports.length → cP n p v false k = none := fun k hk => by
   cases h : cP n p v false k with
   | none => rfl
   | some a => have := outR_P hk h; rw [hR] at this; simp at this
  have hSg : ∀ i, i < n.Segments.length → cS n p v false i = none := fun i hi => by
   cases h : cS n p v false i with
   | none => rfl
   | some a => have := outR_S hi h; rw [hR] at this; simp at this
  refine ⟨⟨fun k a hk h => ?_, fun i a hi h => ?_, fun b => ?_, by simp, by simp, fun h => ?_⟩, ?_, ?_, ?_, fun i hi => ?_⟩
  ·rw [hP k hk] at h; cases h
  ·rw [hSg i hi] at h; cases h
  ·rw [hS, sumN_zero fun k hk => by rw [hP k hk], sumN_zero fun i hi => by rw [hSg i hi]]; simp
  ·rw [← outR_len, hR] at h; simp at h
  ·exact hF.congr fun i hi => by rw [hSg i hi]; rfl
  ·exact hG.congr fun i hi => by rw [hSg i hi]; rfl
  ·exact hO.congr fun k hk => by rw [hP k hk]; rfl
  ·rw [hSg i hi]; exact vF i hi
 ·dsimp only at hne hlen ⊢
  rw [ports_eq hp, Option.bind_some, segs_eq hL.net hp]
  rw [vals_ok (B := L.zikm.B1) (fun _ _ _ => rfl) (by omega) (by simp), Option.bind_some, Option.bind_some, vals_ok (B := L.zikm.B2) (fun _ _ _ => rfl) (by omega) (by simp; omega), Option.bind_some]
  rw [show ([] ++ (sl (cP n p v false) n.Ports.length).map (·.2) ++ (sl (cS n p v false) n.Segments.length).map (·.2)) = outR n p v by simp [outR]]
  have hVd : Vd (rle (strm n p g G v)) := Vd.of (by omega) hbat (by omega)
  refine .bind (deal_ok hVd (fun h => hne (by rw [h]; rfl)) (by omega) (outR_val hp v) (by rw [vol_rle]; exact hsum)) ?_
  rintro ⟨sh, e⟩ ⟨he, c, c1, c2, c3, c4, c5⟩
  dsimp only at he c4 c5
  subst he
  rw [lit_rle] at c1 c5
  have hsh := shared_of hL c1 c2 c3
  rw [if_neg (by simp), Option.bind_some]
  generalize hZP : (fun k => sel (sl (cP n p v false) k).length c (strm n p g G v)) = ZP at hsh
  generalize hZS : (fun i => sel ((sl (cP n p v false) n.Ports.length).length + (sl (cS n p v false) i).length) c (strm n p g G v)) = ZS at hsh
  rw [outR_len] at c4 c5
  refine .bind (Q := fun st : List (List Piece) × Int => st.2 = ((sl (cP n p v false) n.Ports.length).length : Int) ∧ Rp n.Ports.length st.1 fun k => if (cP n p v false k).isSome = true then ZP k else O k)
   (.forS (fun j st => st.2 = (j : Int) ∧ Rp n.Ports.length st.1 fun k => if (cP n p v false k).isSome = true ∧ (sl (cP n p v false) k).length < j then ZP k else O k) ⟨rfl, hO.congr fun k hk => by rw [if_neg (by omega)]⟩ ?_ ?_) ?_
  ·rintro j x ⟨ol, _⟩ hx ⟨rfl, hol⟩
   obtain ⟨⟨k, a⟩, hy, rfl⟩ := ci_get hx
   have hjl := (gs hy).1
   obtain ⟨hk, hca⟩ := sl_lt hy
   have hpos := sl_pos hy
   dsimp only at hk hca hpos hol
   obtain ⟨o, ho⟩ := get_of (l := ol) (k := k) (by rw [hol.len]; exact hk)
   unfold L.zikm.B3
   refine .bind' (.eq (ix_nat (c5 j (by omega)).1) (.bind' (.eq (ix_nat ho) (.pure ⟨?_, ?_⟩))))
   ·dsimp only; rw [wr_id (by omega)]; omega
   ·refine (hol.set (i := k) _).congr fun i hi => ?_
    unfold upd
    by_cases e : i = k
    ·subst e
     rw [if_pos rfl, if_pos ⟨by rw [hca]; rfl, by omega⟩, ← hZP]; dsimp only; rw [hpos]
    ·rw [if_neg e]
     dsimp only
     by_cases h1 : (cP n p v false i).isSome = true ∧ (sl (cP n p v false) i).length < j
     ·rw [if_pos h1, if_pos ⟨h1.1, by omega⟩]
     ·rw [if_neg h1, if_neg]
      rintro ⟨h2, h3⟩
      refine h1 ⟨h2, ?_⟩
      obtain ⟨z, hz⟩ := Option.isSome_iff_exists.1 h2
      have := sl_at hi hz
      have : (sl (cP n p v false) i).length ≠ j := fun he => by
       rw [he, hy] at this; cases this; exact e rfl
      omega
  ·rintro ⟨ol, _⟩ ⟨rfl, hol⟩
   refine ⟨by simp [ci], hol.congr fun k hk => ?_⟩
   cases h : cP n p v false k with
   | none => rfl
   | some a =>
    have := (gs (sl_at hk h)).1
    have e : (sl (cP n p (v : Int) false) k).length < (ci (sl (cP n p (v : Int) false) n.Ports.length)).length := by simpa [ci] using this
    simp [e]
  rintro ⟨ol, _⟩ ⟨rfl, hol⟩
  dsimp only at hol ⊢
  rw [Option.bind_some]
  refine .bind' (.forL (fun j st => st.2.2.2 = (((sl (cP n p v false) n.Ports.length).length + j : Nat) : Int) ∧ st.2.2.1 = ol ∧
    (Rp n.Segments.length st.1 fun i => if (cS n p v false i).isSome = true ∧ (sl (cS n p v false) i).length < j then fl (p.Rates.getD i 0) (F i) (ZS i) else F i) ∧
    (Rp n.Segments.length st.2.1 fun i => if (cS n p v false i).isSome = true ∧ (sl (cS n p v false) i).length < j then gv (p.Rates.getD i 0) (F i) (ZS i) else G i) ∧
    ∀ i, i < n.Segments.length → Vd (rle (if (cS n p v false i).isSome = true ∧ (sl (cS n p v false) i).length < j then fl (p.Rates.getD i 0) (F i) (ZS i) else F i))) (fun q => q.1 = 4 ∧ Over n p g (v : Int) F G)
   ⟨by simp, rfl, hF.congr fun k hk => by rw [if_neg (by omega)], hG.congr fun k hk => by rw [if_neg (by omega)], fun i hi => by rw [if_neg (by omega)]; exact vF i hi⟩ ?_ ?_ fun q hq => .pure (.inl hq))
  ·rintro j x ⟨fl', gl', ol2, _⟩ hx ⟨rfl, rfl, hfl, hgl, hvd⟩
   obtain ⟨⟨i, a⟩, hy, rfl⟩ := ci_get hx
   have hjl := (gs hy).1
   obtain ⟨hi, hca⟩ := sl_lt hy
   have hpos := sl_pos hy
   dsimp only at hi hca hpos hfl hgl hvd
   obtain ⟨sg, r, hflw, _, ha⟩ := cS_some hca
   have hr := hflw.rate
   have hgd : p.Rates.getD i 0 = r := by rw [List.getD_eq_getElem?_getD, hr]; rfl
   have hi0 : ¬ ((cS n p v false i).isSome = true ∧ (sl (cS n p v false) i).length < j) := by omega
   obtain ⟨hc5, hc6⟩ := c5 ((sl (cP n p v false) n.Ports.length).length + j) (by omega)
   rw [show sel ((sl (cP n p v false) n.Ports.length).length + j) c (strm n p g G v) = ZS i by rw [← hZS]; dsimp only; rw [hpos]] at hc5 hc6
   have hlen1 := hsh.lenS i a hi hca
   have ha1 := cS_val hp hca
   have hbZ : Bat (ZS i) := fun b hb => hbat b (hsh.memS i b hb)
   have vF' : Vd (rle (F i)) := vF i hi
   have vI : Ok (L.znry ⟨n, p, g, od, fl', gl', ol2⟩ (i : Int) (rle (ZS i))) _ := push_ok (x := ⟨n, p, g, od, fl', gl', ol2⟩) (r := r) (I := ZS i) hr hi hfl hgl (by rw [if_neg hi0]; exact vF') (Vd.of (by omega) hbZ (by omega))
   rw [if_neg hi0] at vI
   have step : ∀ (A B : Nat → List Int), ∀ i', i' < n.Segments.length → (if (cS n p v false i').isSome = true ∧ (sl (cS n p v false) i').length < j + 1 then A i' else B i') = upd (fun i => if (cS n p v false i).isSome = true ∧ (sl (cS n p v false) i).length < j then A i else B i) i (A i) i' := fun A B i' hi' => by
    unfold upd
    by_cases e : i' = i
    ·subst e; rw [if_pos rfl, if_pos ⟨by rw [hca]; rfl, by omega⟩]
    ·rw [if_neg e]
     dsimp only
     by_cases h1 : (cS n p v false i').isSome = true ∧ (sl (cS n p v false) i').length < j
     ·rw [if_pos h1, if_pos ⟨h1.1, by omega⟩]
     ·rw [if_neg h1, if_neg]
      rintro ⟨h2, h3⟩
      refine h1 ⟨h2, ?_⟩
      obtain ⟨z, hz⟩ := Option.isSome_iff_exists.1 h2
      have := sl_at hi' hz
      have : (sl (cS n p v false) i').length ≠ j := fun he => by
       rw [he, hy] at this; cases this; exact e rfl
      omega
   unfold L.zikm.B4
   refine .bind' (.eq (ix_nat hc5) (.bind vI ?_))
   rintro ⟨qc, qf, qg, qo⟩ hq
   dsimp only at hq
   rcases hq with ⟨hq, hov⟩ | ⟨rfl, rfl, q1, q2, q3, q4⟩
   ·rw [if_pos (by simp [hq])]
    exact .pure ⟨hq, .inr ⟨ZP, ZS, hsh, i, a, hi, hca, by rw [hgd]; exact hov⟩⟩
   ·rw [if_neg (by simp)]
    refine .pure ⟨?_, rfl, ?_, ?_, fun i' hi' => ?_⟩
    ·dsimp only; rw [wr_id (by omega)]; omega
    ·refine q1.congr fun i' hi' => ?_
     rw [← hgd]
     exact step (fun i => fl (p.Rates.getD i 0) (F i) (ZS i)) F i' hi'
    ·refine q2.congr fun i' hi' => ?_
     rw [← hgd]
     exact step (fun i => gv (p.Rates.getD i 0) (F i) (ZS i)) G i' hi'
    ·have := step (fun i => fl (p.Rates.getD i 0) (F i) (ZS i)) F i' hi'
     rw [this]
     unfold upd
     by_cases e : i' = i
     ·subst e
      rw [if_pos rfl, hgd]
      refine Vd.of q3 (fun b hb => ?_) ?_
      ·rcases fl_mem hb with hb | hb
       ·have := vF'.bat; rw [lit_rle] at this; exact this b hb
       ·exact hbZ b hb
      ·rw [fl_len]; have := vF'.vol; rw [vol_rle] at this; omega
     ·rw [if_neg e]; exact hvd i' hi'
  ·rintro ⟨fl', gl', _, _⟩ ⟨rfl, rfl, hfl, hgl, hvd⟩
   dsimp only at hfl hgl hvd
   have all : ∀ (A B : Nat → List Int) i, i < n.Segments.length → (if (cS n p v false i).isSome = true then A i else B i) = if (cS n p v false i).isSome = true ∧ (sl (cS n p v false) i).length < (ci (sl (cS n p v false) n.Segments.length)).length then A i else B i := fun A B i hi => by
    cases h : cS n p v false i with
    | none => rfl
    | some a =>
     have := (gs (sl_at hi h)).1
     have e : (sl (cS n p (v : Int) false) i).length < (ci (sl (cS n p (v : Int) false) n.Segments.length)).length := by simpa [ci] using this
     simp [e]
   refine .pure (.inr ⟨rfl, ZP, ZS, hsh, hfl.congr fun i hi => all (fun i => fl (p.Rates.getD i 0) (F i) (ZS i)) F i hi, hgl.congr fun i hi => all (fun i => gv (p.Rates.getD i 0) (F i) (ZS i)) G i hi, hol, fun i hi => ?_⟩)
   have := all (fun i => fl (p.Rates.getD i 0) (F i) (ZS i)) F i hi
   rw [this]
   exact hvd i hi
end
inductive Stp (n : Network) (p : Plan) (g : List Int) (F0 : Nat → List Int) : List Int → (Nat → List Int) → (Nat → List Int) → (Nat → List Int) → Prop
 | nil : Stp n p g F0 [] F0 (fun _ => []) (fun _ => [])
 | snoc {l : List Int} {F G O ZP ZS : Nat → List Int} {v : Int} : Stp n p g F0 l F G O → Shared n p v (strm n p g G v) ZP ZS →
   Stp n p g F0 (l ++ [v]) (fun i => if (cS n p v false i).isSome = true then fl (p.Rates.getD i 0) (F i) (ZS i) else F i)
    (fun i => if (cS n p v false i).isSome = true then gv (p.Rates.getD i 0) (F i) (ZS i) else G i) (fun k => if (cP n p v false k).isSome = true then ZP k else O k)
structure Inv (n : Network) (p : Plan) (l : List Int) (F G O : Nat → List Int) : Prop where
 vF : ∀ i, i < n.Segments.length → Vd (rle (F i))
 bG : ∀ i, i < n.Segments.length → Bat (G i)
 gl : ∀ i s r, Flw n p i s r → (L.ztzg s r).1 ∈ l → ((G i).length : Int) = max r (-r)
 g0 : ∀ i, i < n.Segments.length → (∀ s r, Flw n p i s r → (L.ztzg s r).1 ∉ l) → G i = []
section
variable {n : Network} {p : Plan} {g od : List Int} {fs gws os : List (List Piece)} {F0 F G O : Nat → List Int} {l : List Int}
theorem cS_flw {v : Int} {b : Bool} {i : Nat} {s : Segment} {r : Int} (h : Flw n p i s r) : cS n p v b i = if (if b = true then (L.ztzg s r).2 else (L.ztzg s r).1) = v then some (max r (-r)) else none := by
 rw [cS_of h.seg h.rate]
 by_cases e : (if b = true then (L.ztzg s r).2 else (L.ztzg s r).1) = v
 ·rw [if_pos ⟨h.ne, e⟩, if_pos e]
 ·rw [if_neg (fun h => e h.2), if_neg e]
theorem Flw.getD {i : Nat} {s : Segment} {r : Int} (h : Flw n p i s r) : p.Rates.getD i 0 = r := by rw [List.getD_eq_getElem?_getD, h.rate]; rfl
theorem Flw.lt {i : Nat} {s : Segment} {r : Int} (h : Flw n p i s r) : i < n.Segments.length := (gs h.seg).1
theorem Inv.len1000 (hL : Ln n p g) (h : Inv n p l F G O) {i : Nat} (hi : i < n.Segments.length) : (G i).length ≤ 1000 := by
 by_cases hf : ∃ s r, Flw n p i s r ∧ (L.ztzg s r).1 ∈ l
 ·obtain ⟨s, r, hf, hm⟩ := hf
  have h1 := h.gl i s r hf hm
  have h2 := hL.flow.rng i r s hf.rate hf.seg
  omega
 ·rw [h.g0 i hi fun s r hf' hm => hf ⟨s, r, hf', hm⟩]; simp
theorem Inv.first (vF : ∀ i, i < n.Segments.length → Vd (rle (F0 i))) : Inv n p [] F0 (fun _ => []) (fun _ => []) :=
 ⟨vF, fun i _ b hb => absurd hb (by simp), fun i s r _ h => absurd h (by simp), fun _ _ _ => rfl⟩
theorem Inv.next (hL : Ln n p g) (h : Inv n p l F G O) {v : Int} {ZP ZS : Nat → List Int} (hs : Shared n p v (strm n p g G v) ZP ZS)
  (vd : ∀ i, i < n.Segments.length → Vd (rle (if (cS n p v false i).isSome = true then fl (p.Rates.getD i 0) (F i) (ZS i) else F i))) :
  Inv n p (l ++ [v]) (fun i => if (cS n p v false i).isSome = true then fl (p.Rates.getD i 0) (F i) (ZS i) else F i)
    (fun i => if (cS n p v false i).isSome = true then gv (p.Rates.getD i 0) (F i) (ZS i) else G i) (fun k => if (cP n p v false k).isSome = true then ZP k else O k) := by
 have hb := strm_bat (v := v) hL h.bG
 refine ⟨vd, fun i hi => ?_, fun i s r hf hm => ?_, fun i hi hno => ?_⟩
 ·split
  ·intro b hb'
   rcases gv_mem hb' with hb' | hb'
   ·have := (h.vF i hi).bat; rw [lit_rle] at this; exact this b hb'
   ·exact hb b (hs.memS i b hb')
  ·exact h.bG i hi
 ·have hc := cS_flw (v := v) (b := false) hf
  rw [if_neg (by simp : ¬ (false = true))] at hc
  by_cases e : (L.ztzg s r).1 = v
  ·rw [if_pos e] at hc
   rw [if_pos (by rw [hc]; rfl), gv_len]
   exact hs.lenS i _ hf.lt hc
  ·rw [if_neg e] at hc
   rw [if_neg (by rw [hc]; simp)]
   refine h.gl i s r hf ?_
   rcases List.mem_append.1 hm with hm | hm
   ·exact hm
   ·simp at hm; exact absurd hm e
 ·have hc : cS n p v false i = none := by
   cases hc : cS n p v false i with
   | none => rfl
   | some a =>
    obtain ⟨s, r, hf, he, _⟩ := cS_some hc
    rw [if_neg (by simp : ¬ (false = true))] at he
    exact absurd (by rw [he]; simp) (hno s r hf)
  rw [if_neg (by rw [hc]; simp)]
  exact h.g0 i hi fun s r hf hm => hno s r hf (by simp [hm])
def OverT (n : Network) (p : Plan) (g : List Int) (F0 : Nat → List Int) (od : List Int) : Prop := ∃ l v F G O, (∃ l', od = l ++ v :: l') ∧ Stp n p g F0 l F G O ∧ Over n p g v F G
theorem tick_ok (hL : Ln n p g) (ht : Topo n p od) (hF : Rp n.Segments.length fs F0) (vF : ∀ i, i < n.Segments.length → Vd (rle (F0 i))) :
  Ok (L.zlri ⟨n, p, g, od, fs, gws, os⟩) fun q => q.1 = 4 ∧ OverT n p g F0 od ∨ q.1 = 0 ∧ ∃ F G O, Stp n p g F0 od F G O ∧ Inv n p od F G O ∧ Rp n.Segments.length q.2.1 F ∧ Rp n.Segments.length q.2.2.1 G ∧ Rp n.Ports.length q.2.2.2 O := by
 have s1 := hL.net.segs1; have s2 := hL.net.ports1
 have rep : ∀ m : Nat, Rp m (List.replicate m []) fun _ => [] := fun m => ⟨by simp, fun i hi => by rw [List.getElem?_replicate, if_pos hi]; rfl⟩
 unfold L.zlri
 refine .bind' (.mk n.Segments.length rfl (by omega) (.bind' (.mk n.Ports.length rfl (by omega) ?_)))
 unfold L.zlri.J1
 refine .bind' (.forL (fun k st => ∃ F G O, Stp n p g F0 (od.take k) F G O ∧ Inv n p (od.take k) F G O ∧ Rp n.Segments.length st.1 F ∧ Rp n.Segments.length st.2.1 G ∧ Rp n.Ports.length st.2.2 O) (fun q => q.1 = 4 ∧ OverT n p g F0 od)
  ⟨F0, _, _, .nil, .first vF, hF, rep _, rep _⟩ ?_ ?_ fun q hq => .pure (.inl hq))
 ·rintro k v ⟨f1, g1, o1⟩ hv ⟨F, G, O, h1, h2, h3, h4, h5⟩
  dsimp only at h3 h4 h5
  obtain ⟨v0, v1⟩ := ht.rng v (mg hv)
  obtain ⟨w, rfl⟩ := nat_of v0
  unfold L.zlri.B3
  refine .bind (node_ok (od := od) hL (by omega) h3 h4 h5 h2.vF (fun i hi => ⟨h2.bG i hi, h2.len1000 hL hi⟩) fun i a hi hc => ?_) ?_
  ·obtain ⟨s, r, hf, he, rfl⟩ := cS_some hc
   rw [if_pos rfl] at he
   exact h2.gl i s r hf (ht.topo k _ hv i s r hf he)
  ·rintro ⟨qc, qf, qg, qo⟩ hq
   rcases hq with ⟨hq, hov⟩ | ⟨hq, ZP, ZS, q1, q2⟩
   ·dsimp only at hq
    rw [if_pos (by simp [hq])]
    have hkl := (gs hv).1
    refine .pure ⟨hq, od.take k, (w : Int), F, G, O, ⟨od.drop (k + 1), ?_⟩, h1, hov⟩
    rw [← (gs hv).2, ← List.drop_eq_getElem_cons hkl, List.take_append_drop]
   ·dsimp only at hq
    rw [if_neg (by simp [hq])]
    rw [List.take_add_one, hv]
    exact .pure ⟨_, _, _, h1.snoc q1, h2.next hL q1 q2.vd, q2.fills, q2.given, q2.out⟩
 ·rintro ⟨f1, g1, o1⟩ ⟨F, G, O, h1, h2, h3, h4, h5⟩
  rw [List.take_length] at h1 h2
  exact .pure (.inr ⟨rfl, F, G, O, h1, h2, h3, h4, h5⟩)
structure Fil (n : Network) (fs : List (List Piece)) (F : Nat → List Int) : Prop where
 rp : Rp n.Segments.length fs F
 vd : ∀ i, i < n.Segments.length → Vd (rle (F i))
 cap : ∀ (i : Nat) (s : Segment), n.Segments[i]? = some s → ((F i).length : Int) = s.Capacity
theorem check_ok (hn : NetG n) (h : Fil n fs F0) : L.zspo n fs = some 0 := by
 have hl := h.rp.len
 have : Ok (L.zspo n fs) fun r => r = 0 := by
  unfold L.zspo
  refine .bind' (.eq (hn.check) ?_)
  rw [if_neg (by simp), if_neg (by simp; omega)]
  have hc : Ok (L.zbxi fs (fun x => L.zfxs x)) fun r => r = false := by
   unfold L.zbxi L.zvuy
   refine .bind (Q := fun r => r = -1) (.bind' (.forL (fun _ _ => True) (fun _ => False) trivial ?_ (fun _ _ => .pure rfl) (fun _ h => h.elim))) (by rintro _ rfl; exact .pure (by simp))
   intro k x _ hx _
   have hk := (gs hx).1
   have hv := h.vd k (by omega)
   rw [h.rp.get k (by omega)] at hx
   cases hx
   unfold L.zvuy.B2 L.zfxs
   dsimp only
   rw [valid_ok hv]
   exact .pure trivial
  refine .bind hc ?_
  rintro _ rfl
  unfold L.zspo.J1
  rw [if_neg (by simp)]
  refine .bind' (.forL (fun _ _ => True) (fun _ => False) trivial ?_ (fun _ _ => .pure rfl) (fun _ h => h.elim))
  intro k x _ hx _
  have hk := (gs hx).1
  have hv := h.vd k (by omega)
  obtain ⟨s, hs⟩ := get_of (l := n.Segments) (k := k) (by omega)
  have hcap := h.cap k s hs
  rw [h.rp.get k (by omega)] at hx
  cases hx
  unfold L.zspo.B3
  rw [volume_ok hv, Option.bind_some, ix_nat hs, Option.bind_some, vol_rle]
  dsimp only
  rw [if_neg (by simp [hcap])]
  exact .pure trivial
 obtain ⟨r, h1, rfl⟩ := this
 exact h1
theorem start_ok (hL : Ln n p g) (h : Fil n fs F0) : Ok (L.zvbn n fs p g) fun q => q.2 = 0 ∧ ∃ od, L.zsgw n p = some od ∧ Topo n p od ∧ (∀ v : Nat, v < n.Nodes.length → (v : Int) ∈ od) ∧ q.1 = some ⟨n, p, g, od, fs, [], []⟩ := by
 have s1 := hL.net.segs1
 have hl := h.rp.len
 obtain ⟨od, o1, o2, o3⟩ := order_topoG hL.net hL.flow
 unfold L.zvbn
 refine .bind' (.eq (check_ok hL.net h) ?_)
 rw [if_neg (by simp)]
 unfold L.zyyp
 refine .bind' (.bind' (.eq (flowCheckG hL.net hL.flow) ?_))
 rw [if_neg (by simp)]
 refine .bind' (.eq o1 (.pure ?_))
 rw [if_neg (by simp), if_neg (by simp [hL.gl])]
 refine .bind' (.eq (containsFunc_int_int (P := L.zhye) (fun k x hx => rfl)) ?_)
 rw [any_false fun k x hx => by
  have := hL.gb x (mg hx)
  unfold L.zhye; simp; omega]
 unfold L.zvbn.J1
 rw [if_neg (by simp)]
 refine .bind (Q := fun r => r = fs) (.forS (fun k st => st = fs.take k) rfl ?_ fun st h => by rw [h, List.take_length]) ?_
 ·rintro k x _ hx rfl
  have hk := (gs hx).1
  have hv := (h.vd k (by omega)).len
  have hx' := hx
  rw [h.rp.get k (by omega)] at hx'
  cases hx'
  unfold L.zvbn.B3
  refine .bind' (.eq (clone_ok (by omega)) (.bind' (.app (by simp; omega) (.pure ?_))))
  rw [List.take_add_one, hx]; rfl
 ·rintro _ rfl
  exact .pure ⟨rfl, od, o1, o2, o3, rfl⟩
def TickR (n : Network) (p : Plan) (g : List Int) (F0 F O : Nat → List Int) : Prop := ∃ od G, L.zsgw n p = some od ∧ Topo n p od ∧ (∀ v : Nat, v < n.Nodes.length → (v : Int) ∈ od) ∧ Stp n p g F0 od F G O ∧ Inv n p od F G O
theorem Stp.len (h : Stp n p g F0 l F G O) (i : Nat) : (F i).length = (F0 i).length := by
 induction h with
 | nil => rfl
 | snoc h _ ih =>
  dsimp only
  split
  ·rw [fl_len, ih]
  ·exact ih
theorem Tick_ok (hL : Ln n p g) (h : Fil n fs F0) : Ok (L.zcgl n fs p g) fun q => q = ([], [], 4) ∧ (∃ od, Topo n p od ∧ OverT n p g F0 od) ∨ q.2.2 = 0 ∧ ∃ F O, TickR n p g F0 F O ∧ Fil n q.1 F ∧ Rp n.Ports.length q.2.1 O := by
 unfold L.zcgl
 refine .bind (start_ok hL h) ?_
 rintro ⟨_, _⟩ ⟨rfl, od, o1, o2, o3, rfl⟩
 show Ok (Option.bind (L.zlri ⟨n, p, g, od, fs, [], []⟩) _) _
 refine .bind (tick_ok hL o2 h.rp h.vd) ?_
 rintro ⟨qc, qf, qg, qo⟩ hq
 rcases hq with ⟨hq, hov⟩ | ⟨hq, F, G, O, q1, q2, q3, q4, q5⟩
 ·dsimp only at hq; subst hq; rw [if_pos (by simp)]; exact .pure (.inl ⟨rfl, od, o2, hov⟩)
 ·dsimp only at hq; subst hq; rw [if_neg (by simp)]
  refine .pure (.inr ⟨rfl, F, O, ⟨od, G, o1, o2, o3, q1, q2⟩, ⟨q3, q2.vF, fun i s hs => ?_⟩, q5⟩)
  rw [q1.len i]; exact h.cap i s hs
end
def Bt (m : Int) (X : List Int) : Prop := ∀ b, b ∈ X → 0 ≤ b ∧ b < m
theorem fill_ok {s : Src} (hs : SrcOk s) {v m : Int} (hv : 1 ≤ v ∧ v ≤ 1000) (hm : 1 ≤ m ∧ m ≤ 1000) : Ok (L.zdti s v m) fun r => SrcOk r.2 ∧ ∃ X, r.1 = rle X ∧ (X.length : Int) = v ∧ Bt m X ∧ (rle X).length ≤ 12 := by
 let I : List Int × Int × Int × List Piece → Prop := fun st => SrcOk ⟨st.1, st.2.1⟩ ∧ ∃ X, st.2.2.2 = rle X ∧ (X.length : Int) + st.2.2.1 = v ∧ 0 ≤ st.2.2.1 ∧ Bt m X ∧ (rle X).length ≤ 12 ∧ ((rle X).length = 12 → st.2.2.1 = 0)
 let R : List Int × Int × List Piece → Prop := fun r => SrcOk ⟨r.1, r.2.1⟩ ∧ ∃ X, r.2.2 = rle X ∧ (X.length : Int) = v ∧ Bt m X ∧ (rle X).length ≤ 12
 let μ : List Int × Int × Int × List Piece → Nat := fun st => st.2.2.1.toNat
 unfold L.zdti
 refine .bind (Q := R) (.loop I μ ⟨hs, [], rfl, by simp, by dsimp only; omega, by simp [Bt], by simp [rle_nil], by simp [rle_nil]⟩ (by dsimp only [μ]; omega) ?_) fun r hr => .pure hr
 rintro ⟨l, a, rem, ps⟩ ⟨h1, X, rfl, h3, h4, h5, h6, h7⟩
 dsimp only at h1 h3 h4 h7
 unfold L.zdti.B2
 dsimp only
 refine Ok.iteB (fun hc => ?_) fun hc => ?_
 ·simp at hc
  refine .bind (n_ok h1 hm.1 (by omega)) fun r230 hr => ?_
  have hq : 0 ≤ (rem * 2).tdiv 3 ∧ (rem * 2).tdiv 3 ≤ rem := by
   rw [Int.tdiv_eq_ediv_of_nonneg (by omega)]; omega
  rw [wr_id (by omega : _ ≤ rem * 2 ∧ _), wr_id (by omega)]
  refine .bind (range_ok hr.1 (by omega) (by omega) (by omega)) fun r232 hr2 => ?_
  have take : ∀ (k : Int) (Y : List Int), 1 ≤ k → k ≤ rem → (Y.length : Int) = X.length + k → Bt m Y → (rle Y).length ≤ (rle X).length + 1 → ((rle X).length = 11 → k = rem) → I (r232.2.L_, r232.2.At, wr (rem - k), rle Y) ∧ μ (r232.2.L_, r232.2.At, wr (rem - k), rle Y) < μ (l, a, rem, rle X) := by
   intro k Y k1 k2 y1 y2 y3 y4
   rw [wr_id (by omega)]
   exact ⟨⟨hr2.1, Y, rfl, by dsimp only; omega, by dsimp only; omega, y2, by omega, fun h => by have := y4 (by omega); dsimp only; omega⟩, by dsimp only [μ]; omega⟩
  have rep : ∀ (b k : Int), 0 ≤ b ∧ b < m → 1 ≤ k → Bt m (X ++ List.replicate k.toNat b) := fun b k hb hk c hcm => by
   rcases List.mem_append.1 hcm with h | h
   ·exact h5 c h
   ·obtain ⟨_, rfl⟩ := List.mem_replicate.1 h; exact hb
  have plen : ∀ (b k : Int), 1 ≤ k → (rle (X ++ List.replicate k.toNat b)).length ≤ (rle X).length + 1 := fun b k hk => by
   have := psh_len (rle X) ⟨b, k⟩
   rw [rle_psh (by exact hk)] at this; exact this
  have main : ∀ j236, 1 ≤ j236 → ((rle X).length = 11 → j236 = rem) → Ok (L.zdti.J3 m (l, a, rem, rle X) r230 r232 j236) (Sum.elim (fun s => I s ∧ μ s < μ (l, a, rem, rle X)) R) := by
   intro j hj1 hj2
   have app : ∀ b, 0 ≤ b ∧ b < m → psh (rle X) ⟨b, min j rem⟩ = rle X ++ [⟨b, min j rem⟩] → Ok (L.zdti.J4 (l, a, rem, rle X) r232 j b) (Sum.elim (fun s => I s ∧ μ s < μ (l, a, rem, rle X)) R) := by
    intro b hb he
    unfold L.zdti.J4
    refine .bind' (.app (by simp; omega) (.pure ?_))
    dsimp only
    rw [← he, rle_psh (by dsimp only; omega)]
    exact take (min j rem) (X ++ List.replicate (min j rem).toNat b) (by omega) (by omega) (by rw [List.length_append, List.length_replicate]; omega) (rep b (min j rem) hb (by omega)) (plen b (min j rem) (by omega)) (fun h => by have := hj2 h; omega)
   unfold L.zdti.J3
   dsimp only
   rcases snoc_cases (rle X) with he | ⟨c, q, he⟩
   ·refine Ok.iteD (fun h => by rw [he] at h; simp at h) fun _ => ?_
    unfold L.zdti.J5
    rw [if_neg (by simp)]
    exact app _ hr.2 (by rw [he]; rfl)
   ·have hl : (rle X).length = c.length + 1 := by rw [he]; simp
    have hg : (rle X)[c.length]? = some q := by rw [he]; simp
    have hw : wr (((rle X).length : Int) - 1) = (c.length : Int) := by rw [hl, wr_id (by omega)]; omega
    have hq1 := (rle_can X).pos q (mg hg)
    have hq2 := vol_mem (fun p hp => by have := (rle_can X).pos p hp; omega) (mg hg)
    rw [vol_rle] at hq2
    refine Ok.iteD (fun _ => ?_) fun h => by rw [hl] at h; omega
    rw [hw]
    refine .bind' (.eq (ix_nat hg) ?_)
    unfold L.zdti.J5
    dsimp only
    refine Ok.iteE (fun hb => ?_) fun hb => app _ hr.2 (by rw [he, psh_snoc, if_neg (by exact hb)])
    rw [hw, wr_id (by omega)]
    have ht : 0 ≤ (r230.1 + 1).tmod m ∧ (r230.1 + 1).tmod m < m := by
     rw [Int.tmod_eq_emod_of_nonneg (by omega)]
     exact ⟨Int.emod_nonneg _ (by omega), Int.emod_lt_of_pos _ (by omega)⟩
    refine .bind' (.rem (by omega) (.bind' (.eq (ix_nat hg) ?_)))
    dsimp only
    refine Ok.iteE (fun hb2 => ?_) fun hb2 => app _ ht (by rw [he, psh_snoc, if_neg (by exact hb2)])
    have e : (rle X).set c.length (⟨q.Batch, wr (q.Volume + min j rem)⟩ : Piece) = psh (rle X) ⟨q.Batch, min j rem⟩ := by
     rw [wr_id (by omega), he, psh_snoc, if_pos rfl]; simp
    rw [e, rle_psh (by dsimp only; omega)]
    have hqb := h5 _ (rle_batch (mg hg))
    exact .pure (take (min j rem) (X ++ List.replicate (min j rem).toNat q.Batch) (by omega) (by omega) (by rw [List.length_append, List.length_replicate]; omega) (rep q.Batch (min j rem) hqb (by omega)) (plen q.Batch (min j rem) (by omega)) (fun h => by have := hj2 h; omega))
  exact Ok.iteE (fun h => main _ (by omega) fun _ => rfl) fun h => main _ (by omega) fun h' => by omega
 ·refine .pure ⟨h1, X, rfl, ?_, h5, h6⟩
  by_cases h0 : rem = 0
  ·subst h0; omega
  ·have : ¬ (rle X).length = 12 := fun h => h0 (h7 h)
   simp at hc
   have := hc (by omega)
   omega
section
variable {n : Network} {p : Plan} {g g' od : List Int} {fs gws os : List (List Piece)} {F0 F G O : Nat → List Int} {l : List Int}
end
theorem PlanOk.still {n : Network} {M : List Bool} (hm : M.length = n.Stations.length) (hc : ∀ (k : Nat) (s : Segment), n.Segments[k]? = some s → 0 ≤ s.Capacity) : PlanOk n ⟨List.replicate n.Segments.length 0, List.replicate n.Ports.length 0, M⟩ := by
 have z : ∀ (m k : Nat) (x : Int), (List.replicate m (0 : Int))[k]? = some x → x = 0 := fun m k x h => by
  rw [List.getElem?_replicate] at h; split at h
  ·cases h; rfl
  ·cases h
 refine ⟨by simp, by simp, hm, fun k r s hr hs => ?_, fun k x hx => ?_, fun v => ?_, .inl fun k r s hr hs => ?_⟩
 ·have := z _ k r hr; have := hc k s hs; omega
 ·have := z _ k x hx; omega
 ·rw [dot_zero, dot_zero]; rfl
 ·have := z _ k r hr; omega
section
variable {n : Network} {p : Plan} {g od : List Int} {fs gws os : List (List Piece)} {F0 F G O : Nat → List Int} {l : List Int}
theorem Stp.outLen (h : Stp n p g F0 l F G O) {k : Nat} {x : Port} {r : Int} (hx : n.Ports[k]? = some x) (hr : p.Ports[k]? = some r) : ((O k).length : Int) = if x.Node ∈ l then max 0 (-r) else 0 := by
 have hk := (gs hx).1
 induction h with
 | nil => simp
 | @snoc l F G O ZP ZS v h hs ih =>
  dsimp only
  have hc := cP_of (v := v) (b := false) hx hr
  by_cases hv : x.Node = v
  ·subst hv
   have hR : (if x.Node ∈ l ++ [x.Node] then max 0 (-r) else 0) = max 0 (-r) := if_pos (by simp)
   rw [hR]
   rcases Int.lt_trichotomy r 0 with h2 | h2 | h2
   ·rw [if_pos ⟨rfl, by omega, by simp; omega⟩] at hc
    rw [if_pos (by rw [hc]; rfl), hs.lenP k _ hk hc]; omega
   ·rw [if_neg (fun h => h.2.1 h2)] at hc
    rw [if_neg (by rw [hc]; simp), ih]; split <;> omega
   ·rw [if_neg (fun h => by have := h.2.2; simp at this; omega)] at hc
    rw [if_neg (by rw [hc]; simp), ih]; split <;> omega
  ·rw [if_neg (fun h => hv h.1)] at hc
   rw [if_neg (by rw [hc]; simp), ih]
   have : (x.Node ∈ l ++ [v]) = (x.Node ∈ l) := by simp [hv]
   simp only [this]
theorem TickR.outLen (hL : Ln n p g) (h : TickR n p g F0 F O) {k : Nat} {x : Port} {r : Int} (hx : n.Ports[k]? = some x) (hr : p.Ports[k]? = some r) : ((O k).length : Int) = max 0 (-r) := by
 obtain ⟨od, G, _, _, h1, h2, _⟩ := h
 have hn := hL.net.ports k x hx
 rw [h2.outLen hx hr, if_pos]
 obtain ⟨v, hv⟩ := nat_of hn.1
 rw [hv] at hn ⊢
 exact h1 v (by omega)
theorem TickR.out1000 (hL : Ln n p g) (h : TickR n p g F0 F O) {k : Nat} (hk : k < n.Ports.length) : (O k).length ≤ 1000 := by
 obtain ⟨x, hx⟩ := get_of hk
 obtain ⟨r, hr⟩ := get_of (l := p.Ports) (k := k) (by have := hL.flow.pl; omega)
 have := h.outLen hL hx hr
 have := hL.flow.prt k r hr
 omega
inductive Tks (n : Network) (p : Plan) (g : List Int) (fs0 : List (List Piece)) (F0 : Nat → List Int) : Nat → List (List Piece) → (Nat → List Int) → (Nat → List Int) → Prop
 | zero : Tks n p g fs0 F0 0 fs0 F0 (fun _ => [])
 | succ {k : Nat} {fs fs' os : List (List Piece)} {F F' A O : Nat → List Int} : Tks n p g fs0 F0 k fs F A → L.zcgl n fs p g = some (fs', os, 0) → TickR n p g F F' O → Fil n fs' F' → Rp n.Ports.length os O →
   Tks n p g fs0 F0 (k + 1) fs' F' (fun j => A j ++ O j)
theorem Tks.len (hL : Ln n p g) {fs0 : List (List Piece)} {k : Nat} {A : Nat → List Int} (h : Tks n p g fs0 F0 k fs F A) {j : Nat} (hj : j < n.Ports.length) : (A j).length ≤ 1000 * k := by
 induction h with
 | zero => simp
 | succ _ _ h _ _ ih => have := h.out1000 hL hj; rw [List.length_append]; omega
theorem Rp.inj {m : Nat} {l : List (List Piece)} {F G : Nat → List Int} (h : Rp m l F) (h' : Rp m l G) {i : Nat} (hi : i < m) : F i = G i := by
 have := h.get i hi
 rw [h'.get i hi] at this
 exact (rle_inj (Option.some.inj this)).symm
theorem Tks.det {fs0 : List (List Piece)} {k : Nat} {A : Nat → List Int} (h : Tks n p g fs0 F0 k fs F A) : ∀ {fs1 : List (List Piece)} {F1 A1 : Nat → List Int}, Tks n p g fs0 F0 k fs1 F1 A1 → fs = fs1 ∧ ∀ j, j < n.Ports.length → A j = A1 j := by
 induction h with
 | zero => intro _ _ _ h1; cases h1; exact ⟨rfl, fun _ _ => rfl⟩
 | succ h t1 _ _ r1 ih =>
  intro _ _ _ h1
  cases h1 with
  | succ h2 t2 _ _ r2 =>
   obtain ⟨rfl, ha⟩ := ih h2
   rw [t1] at t2
   cases t2
   exact ⟨rfl, fun j hj => by dsimp only; rw [ha j hj, r1.inj r2 hj]⟩
end
theorem u8_mod {w : Int} (hw : 0 ≤ w ∧ w ≤ 255) {m : Int} (hm : 1 ≤ m ∧ m ≤ 1000) : ∃ t : Nat, (wr w).tmod m = (t : Int) ∧ (t : Int) < m := by
 rw [wr_id (by omega), Int.tmod_eq_emod_of_nonneg hw.1]
 have h1 := Int.emod_nonneg w (by omega : m ≠ 0)
 have h2 := Int.emod_lt_of_pos w (by omega : 0 < m)
 exact ⟨(w % m).toNat, by omega, by omega⟩
section
variable {n : Network} {p : Plan} {g od : List Int} {fs gws os : List (List Piece)} {F0 F G O : Nat → List Int} {l : List Int}
theorem Stp.g0 (h : Stp n p g F0 l F G O) {i : Nat} {s : Segment} {r : Int} (hf : Flw n p i s r) (hn : (L.ztzg s r).1 ∉ l) : G i = [] := by
 induction h with
 | nil => rfl
 | @snoc l F G O ZP ZS v h hs ih =>
  dsimp only
  have cf := cS_flw (v := v) (b := false) hf
  rw [if_neg (by simp : ¬ (false = true)), if_neg (fun e => hn (by simp [e]))] at cf
  rw [if_neg (by rw [cf]; simp)]
  exact ih fun h => hn (by simp [h])
end
def inb (n : Network) (p : Plan) (g : List Int) (b : Int) : Int := sumN n.Ports.length fun k => if g.getD k 0 = b then max 0 (p.Ports.getD k 0) else 0
section
variable {n : Network} {p : Plan} {g od : List Int} {fs gws os : List (List Piece)} {F0 F G O : Nat → List Int} {l : List Int}
theorem Tks.outLen (hL : Ln n p g) {fs0 : List (List Piece)} {k : Nat} {A : Nat → List Int} (h : Tks n p g fs0 F0 k fs F A) {j : Nat} {x : Port} {r : Int} (hx : n.Ports[j]? = some x) (hr : p.Ports[j]? = some r) : ((A j).length : Int) = k * max 0 (-r) := by
 induction h with
 | zero => simp
 | @succ k fs fs' os F F' A O _ _ t _ _ ih =>
  have h1 := t.outLen hL hx hr
  have e2 : ((k + 1 : Nat) : Int) * max 0 (-r) = (k : Int) * max 0 (-r) + max 0 (-r) := by
   rw [Int.natCast_add, Int.add_mul]; simp
  rw [List.length_append]; omega
end
theorem sl_single {c : Nat → Option Int} {k : Nat} {a : Int} (hc : c k = some a) (hn : ∀ i, i ≠ k → c i = none) : ∀ {n : Nat}, k < n → sl c n = [(k, a)]
 | 0, h => absurd h (by omega)
 | n + 1, h => by
  by_cases e : n = k
  ·subst e; rw [sl_some hc, sl_nil fun i hi => hn i (by omega)]; rfl
  ·rw [sl_none (hn n e)]; exact sl_single hc hn (by omega)
structure Way (n : Network) (p : Plan) (m : Nat) (vs : Nat → Int) (sg : Nat → Nat) (r : Int) (ip op : Nat) : Prop where
 r1 : 1 ≤ r
 ipl : ip < n.Ports.length
 opl : op < n.Ports.length
 sgl : ∀ j, j < m → sg j < n.Segments.length
 pin : ∀ j k, j ≤ m → cP n p (vs j) true k = if j = 0 ∧ k = ip then some r else none
 pout : ∀ j k, j ≤ m → cP n p (vs j) false k = if j = m ∧ k = op then some r else none
 sin : ∀ j i, j ≤ m → cS n p (vs j) true i = if 0 < j ∧ i = sg (j - 1) then some r else none
 sout : ∀ j i, j ≤ m → cS n p (vs j) false i = if j < m ∧ i = sg j then some r else none
 vinj : ∀ i j, i ≤ m → j ≤ m → vs i = vs j → i = j
 sinj : ∀ i j, i < m → j < m → sg i = sg j → i = j
 all : ∀ v, 0 ≤ v → v < (n.Nodes.length : Int) → ∃ j, j ≤ m ∧ v = vs j
 flw : ∀ j, j < m → ∃ s a, Flw n p (sg j) s a ∧ (L.ztzg s a).1 = vs j ∧ (L.ztzg s a).2 = vs (j + 1)
def inc (r : Int) (b : Int) (Q : Nat → List Int) : Nat → List Int
 | 0 => List.replicate r.toNat b
 | j + 1 => (Q j ++ inc r b Q j).take r.toNat
def lft (r : Int) (b : Int) (Q : Nat → List Int) (j : Nat) : List Int := (Q j ++ inc r b Q j).drop r.toNat
def cat (Q : Nat → List Int) : Nat → List Int
 | 0 => []
 | j + 1 => Q j ++ cat Q j
theorem cat_congr {Q Q' : Nat → List Int} : ∀ {m : Nat}, (∀ j, j < m → Q j = Q' j) → cat Q m = cat Q' m
 | 0, _ => rfl
 | m + 1, h => by simp only [cat]; rw [h m (by omega), cat_congr fun j hj => h j (by omega)]
theorem inc_len (r b : Int) (Q : Nat → List Int) : ∀ j, (inc r b Q j).length = r.toNat
 | 0 => by simp [inc]
 | j + 1 => by simp only [inc]; rw [List.length_take, List.length_append, inc_len r b Q j]; omega
theorem way_cat (r b : Int) (Q : Nat → List Int) : ∀ m, inc r b Q m ++ cat (lft r b Q) m = cat Q m ++ List.replicate r.toNat b
 | 0 => by simp [inc, cat]
 | m + 1 => by
  simp only [inc, cat, lft]
  rw [← List.append_assoc, List.take_append_drop, List.append_assoc]
  have := way_cat r b Q m
  rw [this, ← List.append_assoc]
section
variable {n : Network} {p : Plan} {g od : List Int} {fs : List (List Piece)} {F0 F G O : Nat → List Int} {l : List Int} {m : Nat} {vs : Nat → Int} {sg : Nat → Nat} {r : Int} {ip op : Nat}
def que (p : Plan) (sg : Nat → Nat) (F : Nat → List Int) (j : Nat) : List Int := qu (p.Rates.getD (sg j) 0) (F (sg j))
structure WInv (n : Network) (p : Plan) (g : List Int) (m : Nat) (vs : Nat → Int) (sg : Nat → Nat) (r : Int) (ip op : Nat) (F0 : Nat → List Int) (l : List Int) (F G O : Nat → List Int) : Prop where
 seen : ∀ j, j < m → vs j ∈ l → G (sg j) = inc r (g.getD ip 0) (que p sg F0) (j + 1) ∧ que p sg F j = lft r (g.getD ip 0) (que p sg F0) j
 not : ∀ j, j < m → vs j ∉ l → F (sg j) = F0 (sg j)
 out : vs m ∈ l → O op = inc r (g.getD ip 0) (que p sg F0) m
theorem way_strm (hw : Way n p m vs sg r ip op) (hi : WInv n p g m vs sg r ip op F0 l F G O) {j : Nat} (hj : j ≤ m) (hp : 0 < j → vs (j - 1) ∈ l) : strm n p g G (vs j) = inc r (g.getD ip 0) (que p sg F0) j := by
 unfold strm
 by_cases h0 : j = 0
 ·subst h0
  rw [sl_single (k := ip) (a := r) (by rw [hw.pin 0 ip hj, if_pos ⟨rfl, rfl⟩]) (fun i hi => by rw [hw.pin 0 i hj, if_neg (fun h => hi h.2)]) hw.ipl, sl_nil fun i _ => by rw [hw.sin 0 i hj, if_neg (by simp)]]
  simp [inc]
 ·obtain ⟨k, rfl⟩ : ∃ k, j = k + 1 := ⟨j - 1, by omega⟩
  rw [sl_nil fun i _ => by rw [hw.pin _ i hj, if_neg (by simp)], sl_single (k := sg k) (a := r) (by rw [hw.sin _ _ hj, if_pos ⟨by omega, rfl⟩]) (fun i hi => by rw [hw.sin _ i hj, if_neg (fun h => hi h.2)]) (hw.sgl k (by omega))]
  have := (hi.seen k (by omega) (by have := hp (by omega); simpa using this)).1
  simp [this]
theorem way_one (hw : Way n p m vs sg r ip op) (hi : WInv n p g m vs sg r ip op F0 l F G O) {j : Nat} (hj : j ≤ m) (hp : 0 < j → vs (j - 1) ∈ l) {ZP ZS : Nat → List Int} (hs : Shared n p (vs j) (strm n p g G (vs j)) ZP ZS) :
  (∀ i, i = sg j → j < m → ZS i = inc r (g.getD ip 0) (que p sg F0) j) ∧ (∀ k, k = op → j = m → ZP k = inc r (g.getD ip 0) (que p sg F0) j) := by
 have hst := way_strm hw hi hj hp
 have h1 := hs.one (by
  by_cases e : j = m
  ·subst e
   rw [sl_single (k := op) (a := r) (by rw [hw.pout _ op hj, if_pos ⟨rfl, rfl⟩]) (fun i hi => by rw [hw.pout _ i hj, if_neg (fun h => hi h.2)]) hw.opl, sl_nil fun i _ => by rw [hw.sout _ i hj, if_neg (by omega)]]; rfl
  ·rw [sl_nil fun i _ => by rw [hw.pout _ i hj, if_neg (fun h => e h.1)], sl_single (k := sg j) (a := r) (by rw [hw.sout _ _ hj, if_pos ⟨by omega, rfl⟩]) (fun i hi => by rw [hw.sout _ i hj, if_neg (fun h => hi h.2)]) (hw.sgl j (by omega))]; rfl)
 rw [hst] at h1
 refine ⟨fun i hi hjm => ?_, fun k hk hjm => ?_⟩
 ·subst hi; exact h1.2 _ r (hw.sgl j hjm) (by rw [hw.sout _ _ hj, if_pos ⟨hjm, rfl⟩])
 ·subst hk; exact h1.1 _ r hw.opl (by rw [hw.pout _ _ hj, if_pos ⟨hjm, rfl⟩])
theorem way_step (hw : Way n p m vs sg r ip op) (hi : WInv n p g m vs sg r ip op F0 l F G O) {j : Nat} (hj : j ≤ m) (hv : vs j ∉ l) (hp : 0 < j → vs (j - 1) ∈ l) {ZP ZS : Nat → List Int} (hs : Shared n p (vs j) (strm n p g G (vs j)) ZP ZS) :
  WInv n p g m vs sg r ip op F0 (l ++ [vs j]) (fun i => if (cS n p (vs j) false i).isSome = true then fl (p.Rates.getD i 0) (F i) (ZS i) else F i)
    (fun i => if (cS n p (vs j) false i).isSome = true then gv (p.Rates.getD i 0) (F i) (ZS i) else G i) (fun k => if (cP n p (vs j) false k).isSome = true then ZP k else O k) := by
 have hst := way_strm hw hi hj hp
 have one := way_one hw hi hj hp hs
 refine ⟨fun i him hm => ?_, fun i him hm => ?_, fun hm => ?_⟩
 ·by_cases e : i = j
  ·subst e
   have hc : cS n p (vs i) false (sg i) = some r := by rw [hw.sout _ _ hj, if_pos ⟨him, rfl⟩]
   have hF := hi.not i him hv
   refine ⟨?_, ?_⟩
   ·rw [hc, if_pos (by rfl), one.1 _ rfl him]
    unfold gv
    rw [inc_len, hF]; rfl
   ·have e2 : que p sg (fun y => if (cS n p (vs i) false y).isSome = true then fl (p.Rates.getD y 0) (F y) (ZS y) else F y) i = qu (p.Rates.getD (sg i) 0) (fl (p.Rates.getD (sg i) 0) (F (sg i)) (ZS (sg i))) := by
     show qu _ (if (cS n p (vs i) false (sg i)).isSome = true then _ else _) = _
     rw [hc]; rfl
    rw [e2, one.1 _ rfl him]
    unfold fl
    rw [qu_qu, inc_len, hF]; rfl
  ·have hc : cS n p (vs j) false (sg i) = none := by rw [hw.sout _ _ hj, if_neg (fun h => e (hw.sinj i j him h.1 h.2))]
   have hm' : vs i ∈ l := by
    rcases List.mem_append.1 hm with h | h
    ·exact h
    ·exact absurd (hw.vinj i j (by omega) hj (by simpa using h)) e
   have := hi.seen i him hm'
   refine ⟨by rw [hc]; exact this.1, ?_⟩
   have e2 : que p sg (fun y => if (cS n p (vs j) false y).isSome = true then fl (p.Rates.getD y 0) (F y) (ZS y) else F y) i = que p sg F i := by
    show qu _ (if (cS n p (vs j) false (sg i)).isSome = true then _ else _) = _
    rw [hc]; rfl
   rw [e2]; exact this.2
 ·have e : i ≠ j := fun e => hm (by simp [e])
  have hc : cS n p (vs j) false (sg i) = none := by rw [hw.sout _ _ hj, if_neg (fun h => e (hw.sinj i j him h.1 h.2))]
  rw [hc, if_neg (by simp)]
  exact hi.not i him fun h => hm (by simp [h])
 ·by_cases e : j = m
  ·subst e
   have hc : cP n p (vs j) false op = some r := by rw [hw.pout _ _ hj, if_pos ⟨rfl, rfl⟩]
   rw [hc, if_pos (by rfl)]
   exact one.2 _ rfl rfl
  ·have hc : cP n p (vs j) false op = none := by rw [hw.pout _ _ hj, if_neg (fun h => e h.1)]
   rw [hc, if_neg (by simp)]
   refine hi.out ?_
   rcases List.mem_append.1 hm with h | h
   ·exact h
   ·exact absurd (hw.vinj m j (by omega) hj (by simpa using h)).symm e
theorem way_stp (hw : Way n p m vs sg r ip op) (h : Stp n p g F0 l F G O) (ht : Topo n p l) : WInv n p g m vs sg r ip op F0 l F G O := by
 induction h with
 | nil => exact ⟨fun _ _ h => absurd h (by simp), fun _ _ _ => rfl, fun h => absurd h (by simp)⟩
 | @snoc l F G O ZP ZS v h hs ih =>
  have ht' : Topo n p l := ⟨fun w hw => ht.rng w (by simp [hw]), (List.nodup_append.1 ht.nodup).1, fun k w hw i s r hf he => by
   have hk := (gs hw).1
   have := ht.topo k w (by rw [List.getElem?_append_left hk]; exact hw) i s r hf he
   rwa [List.take_append_of_le_length (by omega)] at this⟩
  have hv : v ∉ l := fun h => (List.nodup_append.1 ht.nodup).2.2 v h v (by simp) rfl
  obtain ⟨v0, v1⟩ := ht.rng v (by simp)
  obtain ⟨j, hj, rfl⟩ := hw.all v v0 v1
  refine way_step hw (ih ht') hj hv (fun h0 => ?_) hs
  obtain ⟨k, rfl⟩ : ∃ k, j = k + 1 := ⟨j - 1, by omega⟩
  obtain ⟨s, a, hf, e1, e2⟩ := hw.flw k (by omega)
  have := ht.topo l.length (vs (k + 1)) (by simp) _ s a hf e2
  rw [e1, List.take_left] at this
  simpa using this
theorem way_tick (hL : Ln n p g) (hw : Way n p m vs sg r ip op) (h : TickR n p g F0 F O) : O op ++ cat (que p sg F) m = cat (que p sg F0) m ++ List.replicate r.toNat (g.getD ip 0) ∧ (O op).length = r.toNat := by
 obtain ⟨od, G, _, h1, h2, h3, _⟩ := h
 have hi := way_stp hw h3 h1
 have hm : ∀ j, j ≤ m → vs j ∈ od := fun j hj => by
  have : 0 ≤ vs j ∧ vs j < (n.Nodes.length : Int) := by
   by_cases e : j < m
   ·obtain ⟨s, a, hf, e1, _⟩ := hw.flw j e
    rw [← e1]
    have hn := (hL.net.segs _ s hf.seg).ends
    rcases endsOf (s := s) hf.ne with ⟨h, _⟩ | ⟨h, _⟩ <;> rw [h] <;> dsimp only <;> omega
   ·have e : j = m := by omega
    subst e
    have := hw.pout j op hj
    rw [if_pos ⟨rfl, rfl⟩] at this
    obtain ⟨x, _, hx, _, hn, _⟩ := cP_some this
    have := hL.net.ports op x hx
    omega
  obtain ⟨v, hv⟩ := nat_of this.1
  rw [hv] at this ⊢
  exact h2 v (by omega)
 rw [hi.out (hm m (by omega)), inc_len]
 refine ⟨?_, rfl⟩
 rw [cat_congr fun j hj => (hi.seen j hj (hm j (by omega))).2]
 exact way_cat r _ _ m
end
structure Chain (n : Network) (m : Nat) : Prop where
 net : NetG n
 m1 : 1 ≤ m ∧ m ≤ 5
 nn : n.Nodes.length = m + 1
 ns : n.Segments.length = m
 np : n.Ports.length = 2
 p0 : ∃ x, n.Ports[0]? = some x ∧ x.Node = 0
 p1 : ∃ x, n.Ports[1]? = some x ∧ x.Node = (m : Int)
 st : n.Stations = []
 ends : ∀ (i : Nat) (s : Segment), n.Segments[i]? = some s → s.From = (i : Int) ∧ s.To = (i : Int) + 1 ∨ s.From = (i : Int) + 1 ∧ s.To = (i : Int)
structure Wpl (n : Network) (a : Int) (p : Plan) : Prop where
 rl : p.Rates.length = n.Segments.length
 rate : ∀ (i : Nat) (s : Segment) (x : Int), n.Segments[i]? = some s → p.Rates[i]? = some x → x = if s.From < s.To then a else -a
 ports : p.Ports = [a, -a]
 pumps : p.Pumps = []
section
variable {n : Network} {p : Plan} {m : Nat} {a : Int}
theorem Wpl.planOk (hc : Chain n m) (hp : Wpl n a p) (ha : -1000 ≤ a ∧ a ≤ 1000) (hcap : ∀ (i : Nat) (s : Segment), n.Segments[i]? = some s → -s.Capacity ≤ a ∧ a ≤ s.Capacity) : PlanOk n p := by
 have hns := hc.ns
 obtain ⟨x0, hx0, hn0⟩ := hc.p0
 obtain ⟨x1, hx1, hn1⟩ := hc.p1
 have hports : n.Ports = [x0, x1] := by
  have := hc.np
  match h : n.Ports with
  | [y0, y1] => rw [h] at hx0 hx1; simp at hx0 hx1; rw [hx0, hx1]
  | [] => rw [h] at this; simp at this
  | [_] => rw [h] at this; simp at this
  | _ :: _ :: _ :: _ => rw [h] at this; simp at this
 refine ⟨hp.rl, by rw [hp.ports, hc.np]; rfl, by rw [hp.pumps, hc.st]; rfl, fun k r s hr hs => ?_, fun k x hx => ?_, fun v => ?_, ?_⟩
 ·have h1 := hp.rate k s r hs hr
  have h2 := hcap k s hs
  split at h1 <;> omega
 ·rw [hp.ports] at hx
  rcases k with _ | _ | k
  ·simp at hx; omega
  ·simp at hx; omega
  ·simp at hx
 ·have tele : ∀ k, k ≤ m → (sumN k fun i => (wt n v).getD i 0 * p.Rates.getD i 0) = a * (ind (k : Int) v - ind 0 v) := by
   intro k
   induction k with
   | zero => intro _; simp [sumN]
   | succ k ih =>
    intro hk
    obtain ⟨s, hs⟩ := get_of (l := n.Segments) (k := k) (by omega)
    obtain ⟨x, hx⟩ := get_of (l := p.Rates) (k := k) (by have := hp.rl; omega)
    have h1 := hp.rate k s x hs hx
    have hw : (wt n v).getD k 0 = ind s.To v - ind s.From v := by
     rw [List.getD_eq_getElem?_getD, wt, List.getElem?_map, hs]; rfl
    have hx' : p.Rates.getD k 0 = x := by rw [List.getD_eq_getElem?_getD, hx]; rfl
    simp only [sumN]
    rw [ih (by omega), hw, hx']
    have e : ((k + 1 : Nat) : Int) = (k : Int) + 1 := by omega
    rw [e]
    rcases hc.ends k s hs with ⟨e1, e2⟩ | ⟨e1, e2⟩
    ·rw [if_pos (by omega)] at h1
     rw [e1, e2, h1, Int.mul_comm _ a, ← Int.mul_add]; congr 1; omega
    ·rw [if_neg (by omega)] at h1
     rw [e1, e2, h1, Int.mul_neg, Int.mul_comm _ a, ← Int.mul_neg, ← Int.mul_add]; congr 1; omega
  rw [dot_sumN _ _ (by simp [wt, hp.rl]), hp.rl, hns, tele m (Nat.le_refl _), hp.ports]
  have : wp n v = [ind 0 v, ind (m : Int) v] := by simp [wp, hports, hn0, hn1]
  rw [this]
  simp only [dot]
  rw [Int.mul_sub, Int.mul_neg, Int.mul_comm (ind 0 v), Int.mul_comm (ind (m : Int) v)]; omega
 ·rcases Int.lt_trichotomy a 0 with h | h | h
  ·refine .inr fun k r s hr hs => ?_
   have h1 := hp.rate k s r hs hr
   have := hc.ends k s hs
   split at h1 <;> omega
  ·refine .inl fun k r s hr hs => ?_
   have h1 := hp.rate k s r hs hr
   split at h1 <;> omega
  ·refine .inl fun k r s hr hs => ?_
   have h1 := hp.rate k s r hs hr
   have := hc.ends k s hs
   split at h1 <;> omega
theorem Wpl.ends (hc : Chain n m) (hp : Wpl n a p) {i : Nat} {s : Segment} {x : Int} (hs : n.Segments[i]? = some s) (hx : p.Rates[i]? = some x) (h0 : a ≠ 0) :
  x ≠ 0 ∧ max x (-x) = max a (-a) ∧ L.ztzg s x = if 0 < a then ((i : Int), (i : Int) + 1) else ((i : Int) + 1, (i : Int)) := by
 have h1 := hp.rate i s x hs hx
 have h2 := hc.ends i s hs
 have hx0 : x ≠ 0 := by split at h1 <;> omega
 refine ⟨hx0, by split at h1 <;> omega, ?_⟩
 rcases endsOf (s := s) hx0 with ⟨he, h3⟩ | ⟨he, h3⟩ <;> rw [he] <;> rcases h2 with ⟨e1, e2⟩ | ⟨e1, e2⟩ <;> rw [e1, e2]
 ·rw [if_pos (by omega)] at h1; rw [if_neg (by omega)]
 ·rw [if_neg (by omega)] at h1; rw [if_pos (by omega)]
 ·rw [if_pos (by omega)] at h1; rw [if_pos (by omega)]
 ·rw [if_neg (by omega)] at h1; rw [if_neg (by omega)]
theorem Wpl.cS (hc : Chain n m) (hp : Wpl n a p) (h0 : a ≠ 0) (v : Int) (b : Bool) (i : Nat) :
  Go.Proofs.YtaliejncdnegeaaGreat.cS n p v b i = if i < m ∧ v = (if (0 < a) = (b = true) then (i : Int) + 1 else (i : Int)) then some (max a (-a)) else none := by
 by_cases hi : i < m
 ·obtain ⟨s, hs⟩ := get_of (l := n.Segments) (k := i) (by have := hc.ns; omega)
  obtain ⟨x, hx⟩ := get_of (l := p.Rates) (k := i) (by have := hp.rl; have := hc.ns; omega)
  obtain ⟨e1, e2, e3⟩ := hp.ends hc hs hx h0
  rw [cS_of hs hx, e2, e3]
  by_cases ha : 0 < a <;> cases b <;> simp [ha, e1, hi] <;> congr 1 <;> exact propext ⟨Eq.symm, Eq.symm⟩
 ·rw [if_neg (fun h => hi h.1)]
  cases h : Go.Proofs.YtaliejncdnegeaaGreat.cS n p v b i with
  | none => rfl
  | some y => obtain ⟨s, r, hf, _⟩ := cS_some h; exact absurd hf.lt (by rw [hc.ns]; exact hi)
theorem Wpl.cP (hc : Chain n m) (hp : Wpl n a p) (h0 : a ≠ 0) (v : Int) (b : Bool) (k : Nat) :
  Go.Proofs.YtaliejncdnegeaaGreat.cP n p v b k = if (k = 0 ∧ v = 0 ∧ decide (0 < a) = b) ∨ (k = 1 ∧ v = (m : Int) ∧ decide (a < 0) = b) then some (max a (-a)) else none := by
 obtain ⟨x0, hx0, hn0⟩ := hc.p0
 obtain ⟨x1, hx1, hn1⟩ := hc.p1
 rcases k with _ | _ | k
 ·rw [cP_of hx0 (r := a) (by rw [hp.ports]; rfl), hn0]
  have : (0 = v ∧ a ≠ 0 ∧ decide (a > 0) = b) ↔ ((0 : Nat) = 0 ∧ v = 0 ∧ decide (0 < a) = b) ∨ ((0 : Nat) = 1 ∧ v = (m : Int) ∧ decide (a < 0) = b) :=
   ⟨fun h => .inl ⟨rfl, h.1.symm, h.2.2⟩, fun h => by rcases h with h | h; exact ⟨h.2.1.symm, h0, h.2.2⟩; exact absurd h.1 (by omega)⟩
  simp only [this]
 ·rw [cP_of hx1 (r := -a) (by rw [hp.ports]; rfl), hn1, Int.neg_neg, show max (-a) a = max a (-a) by omega]
  have hd : decide (-a > 0) = decide (a < 0) := by simp
  have : ((m : Int) = v ∧ -a ≠ 0 ∧ decide (-a > 0) = b) ↔ (0 + 1 = 0 ∧ v = 0 ∧ decide (0 < a) = b) ∨ (0 + 1 = 1 ∧ v = (m : Int) ∧ decide (a < 0) = b) :=
   ⟨fun h => .inr ⟨rfl, h.1.symm, by rw [← hd]; exact h.2.2⟩, fun h => by rcases h with h | h; exact absurd h.1 (by omega); exact ⟨h.2.1.symm, by omega, by rw [hd]; exact h.2.2⟩⟩
  simp only [this]
 ·rw [if_neg (by omega)]
  cases h : Go.Proofs.YtaliejncdnegeaaGreat.cP n p v b (k + 1 + 1) with
  | none => rfl
  | some y =>
   obtain ⟨x, r, hx, _⟩ := cP_some h
   have := (gs hx).1
   have := hc.np
   omega
theorem Wpl.way (hc : Chain n m) (hp : Wpl n a p) (h1 : 1 ≤ a) : Way n p m (fun j => (j : Int)) (fun j => j) a 0 1 := by
 have h0 : a ≠ 0 := by omega
 have hm : max a (-a) = a := by omega
 have hns := hc.ns
 have ha : 0 < a := by omega
 refine ⟨h1, by rw [hc.np]; omega, by rw [hc.np]; omega, fun j hj => by omega, fun j k hj => ?_, fun j k hj => ?_, fun j i hj => ?_, fun j i hj => ?_, fun i j _ _ h => by omega, fun i j _ _ h => h, fun v v0 v1 => ?_, fun j hj => ?_⟩
 ·rw [hp.cP hc h0, hm]
  have : ((k = 0 ∧ (j : Int) = 0 ∧ decide (0 < a) = true) ∨ (k = 1 ∧ (j : Int) = (m : Int) ∧ decide (a < 0) = true)) ↔ (j = 0 ∧ k = 0) := by
   simp only [decide_eq_true_eq]; omega
  exact ite_congr (propext this) (fun _ => rfl) (fun _ => rfl)
 ·rw [hp.cP hc h0, hm]
  have : ((k = 0 ∧ (j : Int) = 0 ∧ decide (0 < a) = false) ∨ (k = 1 ∧ (j : Int) = (m : Int) ∧ decide (a < 0) = false)) ↔ (j = m ∧ k = 1) := by
   simp only [decide_eq_false_iff_not]; omega
  exact ite_congr (propext this) (fun _ => rfl) (fun _ => rfl)
 ·rw [hp.cS hc h0, hm]
  have : (i < m ∧ (j : Int) = (if (0 < a) = (true = true) then (i : Int) + 1 else (i : Int))) ↔ (0 < j ∧ i = j - 1) := by
   rw [if_pos (by simp [ha])]; omega
  exact ite_congr (propext this) (fun _ => rfl) (fun _ => rfl)
 ·rw [hp.cS hc h0, hm]
  have : (i < m ∧ (j : Int) = (if (0 < a) = (false = true) then (i : Int) + 1 else (i : Int))) ↔ (j < m ∧ i = j) := by
   rw [if_neg (by simp [ha])]; omega
  exact ite_congr (propext this) (fun _ => rfl) (fun _ => rfl)
 ·rw [hc.nn] at v1
  exact ⟨v.toNat, by omega, by omega⟩
 ·obtain ⟨s, hs⟩ := get_of (l := n.Segments) (k := j) (by omega)
  obtain ⟨x, hx⟩ := get_of (l := p.Rates) (k := j) (by have := hp.rl; omega)
  obtain ⟨e1, _, e3⟩ := hp.ends hc hs hx h0
  rw [if_pos ha] at e3
  exact ⟨s, x, ⟨hs, hx, e1⟩, by rw [e3], by rw [e3]; simp⟩
theorem Wpl.back (hc : Chain n m) (hp : Wpl n (-a) p) (h1 : 1 ≤ a) : Way n p m (fun j => (m : Int) - j) (fun j => m - 1 - j) a 1 0 := by
 have h0 : -a ≠ 0 := by omega
 have hm : max (-a) (- -a) = a := by omega
 have hns := hc.ns
 have ha : ¬ 0 < -a := by omega
 refine ⟨h1, by rw [hc.np]; omega, by rw [hc.np]; omega, fun j hj => by omega, fun j k hj => ?_, fun j k hj => ?_, fun j i hj => ?_, fun j i hj => ?_, fun i j hi hj h => by omega, fun i j hi hj h => by omega, fun v v0 v1 => ?_, fun j hj => ?_⟩
 ·rw [hp.cP hc h0, hm]
  have : ((k = 0 ∧ (m : Int) - j = 0 ∧ decide (0 < -a) = true) ∨ (k = 1 ∧ (m : Int) - j = (m : Int) ∧ decide (-a < 0) = true)) ↔ (j = 0 ∧ k = 1) := by
   simp only [decide_eq_true_eq]; omega
  exact ite_congr (propext this) (fun _ => rfl) (fun _ => rfl)
 ·rw [hp.cP hc h0, hm]
  have : ((k = 0 ∧ (m : Int) - j = 0 ∧ decide (0 < -a) = false) ∨ (k = 1 ∧ (m : Int) - j = (m : Int) ∧ decide (-a < 0) = false)) ↔ (j = m ∧ k = 0) := by
   simp only [decide_eq_false_iff_not]; omega
  exact ite_congr (propext this) (fun _ => rfl) (fun _ => rfl)
 ·rw [hp.cS hc h0, hm]
  have : (i < m ∧ (m : Int) - j = (if (0 < -a) = (true = true) then (i : Int) + 1 else (i : Int))) ↔ (0 < j ∧ i = m - 1 - (j - 1)) := by
   rw [if_neg (by simp; omega)]; omega
  exact ite_congr (propext this) (fun _ => rfl) (fun _ => rfl)
 ·rw [hp.cS hc h0, hm]
  have : (i < m ∧ (m : Int) - j = (if (0 < -a) = (false = true) then (i : Int) + 1 else (i : Int))) ↔ (j < m ∧ i = m - 1 - j) := by
   rw [if_pos (by simp; omega)]; omega
  exact ite_congr (propext this) (fun _ => rfl) (fun _ => rfl)
 ·rw [hc.nn] at v1
  exact ⟨m - v.toNat, by omega, by omega⟩
 ·obtain ⟨s, hs⟩ := get_of (l := n.Segments) (k := m - 1 - j) (by omega)
  obtain ⟨x, hx⟩ := get_of (l := p.Rates) (k := m - 1 - j) (by have := hp.rl; omega)
  obtain ⟨e1, _, e3⟩ := hp.ends hc hs hx h0
  rw [if_neg ha] at e3
  exact ⟨s, x, ⟨hs, hx, e1⟩, by rw [e3]; dsimp only; omega, by rw [e3]; dsimp only; omega⟩
end
theorem turned14 {f : List Piece} (hl : f.length ≤ 100000) : L.zyjz f = some f.reverse := by
 have : Ok (L.zyjz f) fun r => r = f.reverse := by
  unfold L.zyjz
  rw [wr_id (by omega)]
  refine .bind (Q := fun r => r = f.reverse) (.loop (fun st => ∃ k : Nat, k ≤ f.length ∧ st.2 = (k : Int) - 1 ∧ st.1 = (f.drop k).reverse) (fun st => (st.2 + 1).toNat) ⟨f.length, by omega, rfl, by simp⟩ (by dsimp only; omega) ?_) (by rintro _ rfl; exact .pure rfl)
  rintro ⟨o, i⟩ ⟨k, hk, h1, h2⟩
  dsimp only at h1 h2
  subst h1; subst h2
  unfold L.zyjz.B2
  refine Ok.iteD (fun h => ?_) fun h => .pure ?_
  ·dsimp only at h ⊢
   obtain ⟨j, rfl⟩ : ∃ j, k = j + 1 := ⟨k - 1, by omega⟩
   obtain ⟨x, hx⟩ := get_of (l := f) (k := j) (by omega)
   rw [show ((j + 1 : Nat) : Int) - 1 = (j : Int) by omega]
   refine .bind' (.eq (ix_nat hx) (.bind' (.app (by simp; omega) (.pure ⟨⟨j, by omega, ?_, ?_⟩, ?_⟩))))
   ·dsimp only; rw [wr_id (by omega)]
   ·dsimp only
    have hj := (gs hx).1
    have e : f.drop j = x :: f.drop (j + 1) := by
     rw [List.drop_eq_getElem_cons hj]; congr 1
     exact (gs hx).2
    rw [e]; simp
   ·dsimp only; rw [wr_id (by omega)]; omega
  ·dsimp only at h ⊢
   obtain rfl : k = 0 := by omega
   simp
 obtain ⟨r, h1, rfl⟩ := this
 exact h1
theorem split14 {f : List Piece} (hf : ∀ p, p ∈ f → 0 ≤ p.Volume) (hl : vol f ≤ 100000000) (hlen : f.length ≤ 100000) {m : Nat} (hm : m ≤ 100000000) : L.zewb f (m : Int) = some (rle ((lit f).take m), rle ((lit f).drop m)) := by
 have : Ok (L.zewb f (m : Int)) fun r => r = (rle ((lit f).take m), rle ((lit f).drop m)) := by
  unfold L.zewb
  refine .bind (Q := fun st : Int × List Piece × List Piece => (lit st.2.1 = (lit f).take m ∧ (∀ p, p ∈ st.2.1 → 0 ≤ p.Volume)) ∧ (lit st.2.2 = (lit f).drop m ∧ ∀ p, p ∈ st.2.2 → 0 ≤ p.Volume))
   (.forS (fun k st => st.1 = ((m - (lit (f.take k)).length : Nat) : Int) ∧ st.2.1.length = k ∧ st.2.2.length = k ∧ (lit st.2.1 = (lit (f.take k)).take m ∧ (∀ p, p ∈ st.2.1 → 0 ≤ p.Volume)) ∧ (lit st.2.2 = (lit (f.take k)).drop m ∧ ∀ p, p ∈ st.2.2 → 0 ≤ p.Volume))
    ⟨by simp [lit_nil], rfl, rfl, by simp [lit_nil], by simp [lit_nil]⟩ ?_ ?_) ?_
  ·rintro k x ⟨rem, a, b⟩ hx ⟨h0, ha, hb, ⟨h1, h1'⟩, h2, h2'⟩
   dsimp only at h0 ha hb h1 h1' h2 h2'
   subst h0
   have hx0 := hf x (mg hx)
   have hxv := vol_mem hf (mg hx)
   have hkl := (gs hx).1
   have hlk : lit (f.take (k + 1)) = lit (f.take k) ++ List.replicate x.Volume.toNat x.Batch := by
    rw [List.take_add_one, hx]; simp [lit_app, lit_one]
   unfold L.zewb.B2
   dsimp only
   refine .bind' (.app (by simp; omega) (.bind' (.app (by simp; omega) ?_)))
   unfold L.zewb.J3
   rw [wr_id (by omega), wr_id (by omega)]
   refine .pure ⟨?_, by simp [ha], by simp [hb], ⟨?_, ?_⟩, ?_, ?_⟩
   ·dsimp only; rw [hlk, List.length_append, List.length_replicate]; omega
   ·dsimp only; rw [lit_app, lit_one, h1, hlk, List.take_append]
    congr 1
    rw [List.take_replicate]; dsimp only; congr 1; omega
   ·intro p hp
    rcases List.mem_append.1 hp with hp | hp
    ·exact h1' p hp
    ·simp at hp; subst hp; dsimp only; omega
   ·dsimp only; rw [lit_app, lit_one, h2, hlk, List.drop_append]
    congr 1
    rw [List.drop_replicate]; dsimp only; congr 1; omega
   ·intro p hp
    rcases List.mem_append.1 hp with hp | hp
    ·exact h2' p hp
    ·simp at hp; subst hp; dsimp only; omega
  ·rintro ⟨_, a, b⟩ ⟨_, _, _, ⟨h1, h1'⟩, h2, h2'⟩
   rw [List.take_length] at h1 h2
   exact ⟨⟨h1, h1'⟩, h2, h2'⟩
  ·rintro ⟨_, a, b⟩ ⟨⟨h1, h1'⟩, h2, h2'⟩
   dsimp only at h1 h1' h2 h2'
   have hl' := lit_len hf
   have va := lit_len h1'
   have vb := lit_len h2'
   rw [h1, List.length_take] at va
   rw [h2, List.length_drop] at vb
   unfold L.zewb.J1
   dsimp only
   refine .bind' (.eq (joined_rle h1' (by omega)) (.bind' (.eq (joined_rle h2' (by omega)) (.pure ?_))))
   rw [h1, h2]
 obtain ⟨r, h1, rfl⟩ := this
 exact h1
theorem psh_ge (l : List Piece) (x : Piece) : l.length ≤ (psh l x).length := by
 rcases snoc_cases l with rfl | ⟨a, q, rfl⟩
 ·simp
 ·rw [psh_snoc]; split <;> simp
theorem rle_pre (X Y : List Int) : (rle X).length ≤ (rle (X ++ Y)).length := by
 induction Y using snoc_ind with
 | h0 => simp
 | h1 a x ih => rw [← List.append_assoc, rle_snoc]; have := psh_ge (rle (X ++ a)) ⟨x, 1⟩; omega
theorem rle_revl (X : List Int) : (rle X.reverse).length = (rle X).length := by rw [← rle_rev, List.length_reverse]
theorem rle_suf (X Y : List Int) : (rle Y).length ≤ (rle (X ++ Y)).length := by
 rw [← rle_revl Y, ← rle_revl (X ++ Y), List.reverse_append]; exact rle_pre _ _
theorem rle_add (X Y : List Int) : (rle (X ++ Y)).length ≤ (rle X).length + (rle Y).length := by
 have := rle_lit_len (f := rle X ++ rle Y) fun p hp => by
  rcases List.mem_append.1 hp with hp | hp
  ·have := (rle_can X).pos p hp; omega
  ·have := (rle_can Y).pos p hp; omega
 rw [lit_app, lit_rle, lit_rle, List.length_append] at this; exact this
theorem rle_replicate (v : Nat) (b : Int) : (rle (List.replicate v b)).length ≤ 1 := by
 cases v with
 | zero => simp [rle_nil]
 | succ v =>
  have := rle_rep [] b (v + 1) (by omega)
  rw [List.nil_append, rle_nil, psh_nil] at this
  rw [this]; simp
theorem cat_suf {Q : Nat → List Int} : ∀ {m j : Nat}, j ≤ m → ∃ Y, cat Q m = Y ++ cat Q j
 | 0, j, h => by
  obtain rfl : j = 0 := by omega
  exact ⟨[], rfl⟩
 | m + 1, j, h => by
  by_cases e : j = m + 1
  ·subst e; exact ⟨[], rfl⟩
  ·obtain ⟨Y, hY⟩ := cat_suf (Q := Q) (by omega : j ≤ m)
   exact ⟨Q m ++ Y, by simp only [cat]; rw [hY, List.append_assoc]⟩
theorem rle_qu (r : Int) (F : List Int) : (rle (qu r F)).length = (rle F).length := by
 unfold qu; split
 ·rfl
 ·exact rle_revl F
section
variable {n : Network} {p : Plan} {g od : List Int} {F0 : Nat → List Int} {m : Nat} {vs : Nat → Int} {sg : Nat → Nat} {r : Int} {ip op : Nat}
theorem way_over (hw : Way n p m vs sg r ip op) (ht : Topo n p od) (h : OverT n p g F0 od) : 200 < (rle (cat (que p sg F0) m ++ List.replicate r.toNat (g.getD ip 0))).length := by
 obtain ⟨l, v, F, G, O, ⟨l', rfl⟩, hs, ho⟩ := h
 have htl : Topo n p l := ⟨fun w hw => ht.rng w (by simp [hw]), (List.nodup_append.1 ht.nodup).1, fun k w hw i s r hf he => by
  have hk := (gs hw).1
  have := ht.topo k w (by rw [List.getElem?_append_left hk]; exact hw) i s r hf he
  rwa [List.take_append_of_le_length (by omega)] at this⟩
 have hv : v ∉ l := fun h => (List.nodup_append.1 ht.nodup).2.2 v h v (by simp) rfl
 obtain ⟨v0, v1⟩ := ht.rng v (by simp)
 obtain ⟨j, hj, rfl⟩ := hw.all v v0 v1
 have hi := way_stp hw hs htl
 have hp : 0 < j → vs (j - 1) ∈ l := fun h0 => by
  obtain ⟨k, rfl⟩ : ∃ k, j = k + 1 := ⟨j - 1, by omega⟩
  obtain ⟨s, a, hf, e1, e2⟩ := hw.flw k (by omega)
  have := ht.topo l.length (vs (k + 1)) (by simp) _ s a hf e2
  rw [e1, List.take_left] at this
  simpa using this
 have big : ∀ k, k ≤ m → ∀ X Y Z : List Int, X ++ Y ++ Z = cat (que p sg F0) k ++ List.replicate r.toNat (g.getD ip 0) → (rle Y).length ≤ (rle (cat (que p sg F0) m ++ List.replicate r.toNat (g.getD ip 0))).length := by
  intro k hk X Y Z he
  obtain ⟨W, hW⟩ := cat_suf (Q := que p sg F0) hk
  rw [hW, List.append_assoc, ← he]
  have h1 := rle_suf X Y
  have h2 := rle_pre (X ++ Y) Z
  have h3 := rle_suf W (X ++ Y ++ Z)
  omega
 have inb : ∀ k, k ≤ m → (rle (inc r (g.getD ip 0) (que p sg F0) k)).length ≤ (rle (cat (que p sg F0) m ++ List.replicate r.toNat (g.getD ip 0))).length := fun k hk =>
  big k hk [] _ (cat (lft r (g.getD ip 0) (que p sg F0)) k) (by rw [List.nil_append]; exact way_cat r _ _ k)
 rcases ho with ho | ⟨ZP, ZS, hsh, i, a, hil, hc, ho⟩
 ·rw [way_strm hw hi hj hp] at ho
  have := inb j hj
  omega
 ·have hc' := hc
  rw [hw.sout j i hj] at hc'
  have hji : j < m ∧ i = sg j := by
   by_cases e : j < m ∧ i = sg j
   ·exact e
   ·rw [if_neg e] at hc'; cases hc'
  obtain ⟨hjm, rfl⟩ := hji
  have hZ := (way_one hw hi hj hp hsh).1 _ rfl hjm
  have hF := hi.not j hjm hv
  have e0 : qu (p.Rates.getD (sg j) 0) (F0 (sg j)) = que p sg F0 j := rfl
  rw [hZ, hF] at ho
  unfold fl gv at ho
  rw [inc_len, e0] at ho
  rcases ho with ho | ho
  ·rw [rle_qu] at ho
   have := big (j + 1) (by omega) (inc r (g.getD ip 0) (que p sg F0) (j + 1)) (lft r (g.getD ip 0) (que p sg F0) j) (cat (lft r (g.getD ip 0) (que p sg F0)) j) (by
    rw [List.append_assoc]; exact way_cat r _ _ (j + 1))
   unfold lft at this
   omega
  ·have := inb (j + 1) (by omega)
   simp only [inc] at this
   omega
theorem way_go (hL : Ln n p g) (hw : Way n p m vs sg r ip op) {fs : List (List Piece)} (hf : Fil n fs F0) (hb : (rle (cat (que p sg F0) m ++ List.replicate r.toNat (g.getD ip 0))).length ≤ 200) :
  Ok (L.zcgl n fs p g) fun q => q.2.2 = 0 ∧ ∃ F O, Fil n q.1 F ∧ Rp n.Ports.length q.2.1 O ∧ (O op ++ cat (que p sg F) m = cat (que p sg F0) m ++ List.replicate r.toNat (g.getD ip 0) ∧ (O op).length = r.toNat) := by
 refine (Tick_ok hL hf).mono fun q hq => ?_
 rcases hq with ⟨_, od, ht, ho⟩ | ⟨hq, F, O, h1, h2, h3⟩
 ·have := way_over hw ht ho; omega
 ·exact ⟨hq, F, O, h2, h3, way_tick hL hw h1⟩
end
def up (R : Nat → List Int) (c : Nat) : Nat → List Int
 | 0 => []
 | m + 1 => R c ++ up R (c + 1) m
end Go.Proofs.YtaliejncdnegeaaGreat
