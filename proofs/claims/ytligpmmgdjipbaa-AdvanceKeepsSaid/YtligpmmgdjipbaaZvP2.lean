/- Plain proofs. No condition. -/
import Derived.Test.YtligpmmgdjipbaaZvP1
import Derived.Test.YtligpmmgdjipbaaZvP0
import Derived.Test.YtligpmmgdjipbaaZvB1
import Derived.ProofKit
import Derived.SizedLaws
import Derived.Carry
set_option maxRecDepth 100000
namespace Go.Proofs.Ytligpmmgdjipbaa
set_option linter.unusedVariables false
set_option linter.unusedSimpArgs false
open Go.Aw
theorem awake18 : L.zdqe = some true := by kernel_rfl
def Bt (m : Int) (X : List Int) : Prop := ∀ b, b ∈ X → 0 ≤ b ∧ b < m
theorem fill_ok {s : Src} (hs : SrcOk s) {v m : Int} (hv : 1 ≤ v ∧ v ≤ 1000) (hm : 1 ≤ m ∧ m ≤ 1000) : Ok (L.zdti s v m) fun r => SrcOk r.2 ∧ ∃ X, r.1 = rle X ∧ (X.length : Int) = v ∧ Bt m X ∧ (rle X).length ≤ 12 := by
 let I : List Int × Int × Int × List Piece → Prop := fun st => SrcOk ⟨st.1, st.2.1⟩ ∧ ∃ X, st.2.2.2 = rle X ∧ (X.length : Int) + st.2.2.1 = v ∧ 0 ≤ st.2.2.1 ∧ Bt m X ∧ (rle X).length ≤ 12 ∧ ((rle X).length = 12 → st.2.2.1 = 0)
 let R : List Int × Int × List Piece → Prop := fun r => SrcOk ⟨r.1, r.2.1⟩ ∧ ∃ X, r.2.2 = rle X ∧ (X.length : Int) = v ∧ Bt m X ∧ (rle X).length ≤ 12
 let μ : List Int × Int × Int × List Piece → Nat := fun st => st.2.2.1.toNat
 unfold L.zdti
 refine .bind (Q := R) (.loop I μ ⟨hs, [], rfl, by simp, by dsimp only; omega, by simp [Bt], by simp [rle_nil], by simp [rle_nil]⟩ (by dsimp only [μ]; omega) ?_) fun r hr => .pure hr
 rintro ⟨l, a, rem, ps⟩ ⟨h1, X, rfl, h3, h4, h5, h6, h7⟩
 dsimp only at h1 h3 h4 h7
 unfold L.zdti.B2
 dsimp only
 refine Ok.iteB (fun hc => ?_) fun hc => ?_
 ·simp at hc
  refine .bind (n_ok h1 hm.1 (by omega)) fun r230 hr => ?_
  have hq : 0 ≤ (rem * 2).tdiv 3 ∧ (rem * 2).tdiv 3 ≤ rem := by
   rw [Int.tdiv_eq_ediv_of_nonneg (by omega)]; omega
  rw [wr_id (by omega : _ ≤ rem * 2 ∧ _), wr_id (by omega)]
  refine .bind (range_ok hr.1 (by omega) (by omega) (by omega)) fun r232 hr2 => ?_
  have take : ∀ (k : Int) (Y : List Int), 1 ≤ k → k ≤ rem → (Y.length : Int) = X.length + k → Bt m Y → (rle Y).length ≤ (rle X).length + 1 → ((rle X).length = 11 → k = rem) → I (r232.2.L_, r232.2.At, wr (rem - k), rle Y) ∧ μ (r232.2.L_, r232.2.At, wr (rem - k), rle Y) < μ (l, a, rem, rle X) := by
   intro k Y k1 k2 y1 y2 y3 y4
   rw [wr_id (by omega)]
   exact ⟨⟨hr2.1, Y, rfl, by dsimp only; omega, by dsimp only; omega, y2, by omega, fun h => by have := y4 (by omega); dsimp only; omega⟩, by dsimp only [μ]; omega⟩
  have rep : ∀ (b k : Int), 0 ≤ b ∧ b < m → 1 ≤ k → Bt m (X ++ List.replicate k.toNat b) := fun b k hb hk c hcm => by
   rcases List.mem_append.1 hcm with h | h
   ·exact h5 c h
   ·obtain ⟨_, rfl⟩ := List.mem_replicate.1 h; exact hb
  have plen : ∀ (b k : Int), 1 ≤ k → (rle (X ++ List.replicate k.toNat b)).length ≤ (rle X).length + 1 := fun b k hk => by
   have := psh_len (rle X) ⟨b, k⟩
   rw [rle_psh (by exact hk)] at this; exact this
  have main : ∀ j236, 1 ≤ j236 → ((rle X).length = 11 → j236 = rem) → Ok (L.zdti.J3 m (l, a, rem, rle X) r230 r232 j236) (Sum.elim (fun s => I s ∧ μ s < μ (l, a, rem, rle X)) R) := by
   intro j hj1 hj2
   have app : ∀ b, 0 ≤ b ∧ b < m → psh (rle X) ⟨b, min j rem⟩ = rle X ++ [⟨b, min j rem⟩] → Ok (L.zdti.J4 (l, a, rem, rle X) r232 j b) (Sum.elim (fun s => I s ∧ μ s < μ (l, a, rem, rle X)) R) := by
    intro b hb he
    unfold L.zdti.J4
    refine .bind' (.app (by simp; omega) (.pure ?_))
    dsimp only
    rw [← he, rle_psh (by dsimp only; omega)]
    exact take (min j rem) (X ++ List.replicate (min j rem).toNat b) (by omega) (by omega) (by rw [List.length_append, List.length_replicate]; omega) (rep b (min j rem) hb (by omega)) (plen b (min j rem) (by omega)) (fun h => by have := hj2 h; omega)
   unfold L.zdti.J3
   dsimp only
   rcases snoc_cases (rle X) with he | ⟨c, q, he⟩
   ·refine Ok.iteD (fun h => by rw [he] at h; simp at h) fun _ => ?_
    unfold L.zdti.J5
    rw [if_neg (by simp)]
    exact app _ hr.2 (by rw [he]; rfl)
   ·have hl : (rle X).length = c.length + 1 := by rw [he]; simp
    have hg : (rle X)[c.length]? = some q := by rw [he]; simp
    have hw : wr (((rle X).length : Int) - 1) = (c.length : Int) := by rw [hl, wr_id (by omega)]; omega
    have hq1 := (rle_can X).pos q (mg hg)
    have hq2 := vol_mem (fun p hp => by have := (rle_can X).pos p hp; omega) (mg hg)
    rw [vol_rle] at hq2
    refine Ok.iteD (fun _ => ?_) fun h => by rw [hl] at h; omega
    rw [hw]
    refine .bind' (.eq (ix_nat hg) ?_)
    unfold L.zdti.J5
    dsimp only
    refine Ok.iteE (fun hb => ?_) fun hb => app _ hr.2 (by rw [he, psh_snoc, if_neg (by exact hb)])
    rw [hw, wr_id (by omega)]
    have ht : 0 ≤ (r230.1 + 1).tmod m ∧ (r230.1 + 1).tmod m < m := by
     rw [Int.tmod_eq_emod_of_nonneg (by omega)]
     exact ⟨Int.emod_nonneg _ (by omega), Int.emod_lt_of_pos _ (by omega)⟩
    refine .bind' (.rem (by omega) (.bind' (.eq (ix_nat hg) ?_)))
    dsimp only
    refine Ok.iteE (fun hb2 => ?_) fun hb2 => app _ ht (by rw [he, psh_snoc, if_neg (by exact hb2)])
    have e : (rle X).set c.length (⟨q.Batch, wr (q.Volume + min j rem)⟩ : Piece) = psh (rle X) ⟨q.Batch, min j rem⟩ := by
     rw [wr_id (by omega), he, psh_snoc, if_pos rfl]; simp
    rw [e, rle_psh (by dsimp only; omega)]
    have hqb := h5 _ (rle_batch (mg hg))
    exact .pure (take (min j rem) (X ++ List.replicate (min j rem).toNat q.Batch) (by omega) (by omega) (by rw [List.length_append, List.length_replicate]; omega) (rep q.Batch (min j rem) hqb (by omega)) (plen q.Batch (min j rem) (by omega)) (fun h => by have := hj2 h; omega))
  exact Ok.iteE (fun h => main _ (by omega) fun _ => rfl) fun h => main _ (by omega) fun h' => by omega
 ·refine .pure ⟨h1, X, rfl, ?_, h5, h6⟩
  by_cases h0 : rem = 0
  ·subst h0; omega
  ·have : ¬ (rle X).length = 12 := fun h => h0 (h7 h)
   simp at hc
   have := hc (by omega)
   omega
theorem fills_ok {n : Network} (hn : NetOk n) {s : Src} (hs : SrcOk s) {m : Int} (hm : 1 ≤ m ∧ m ≤ 1000) : Ok (L.zbhc s n m) fun r => SrcOk r.2 ∧ ∃ F, Fil n r.1 F ∧ ∀ i, i < n.Segments.length → Bt m (F i) := by
 have s1 := hn.segs1
 unfold L.zbhc
 refine .bind (Q := fun st : List Int × Int × List (List Piece) => SrcOk ⟨st.1, st.2.1⟩ ∧ st.2.2.length = n.Segments.length ∧ ∀ (i : Nat) (s : Segment) (f : List Piece), n.Segments[i]? = some s → st.2.2[i]? = some f → ∃ X, f = rle X ∧ (X.length : Int) = s.Capacity ∧ Bt m X ∧ (rle X).length ≤ 12)
  (.forS (fun k st => SrcOk ⟨st.1, st.2.1⟩ ∧ st.2.2.length = k ∧ ∀ (i : Nat) (s : Segment) (f : List Piece), n.Segments[i]? = some s → st.2.2[i]? = some f → ∃ X, f = rle X ∧ (X.length : Int) = s.Capacity ∧ Bt m X ∧ (rle X).length ≤ 12) ⟨hs, rfl, by simp⟩ ?_ fun _ h => h) ?_
 ·rintro k x ⟨l, a, fs⟩ hx ⟨h1, h2, h3⟩
  dsimp only at h1 h2 h3
  have hk := (gs hx).1
  have hc := (hn.segs k x hx).cap
  unfold L.zbhc.B2
  refine .bind (fill_ok h1 hc hm) ?_
  rintro ⟨f, d⟩ ⟨g1, X, rfl, g2, g3, g4⟩
  refine .bind' (.app (by dsimp only; rw [h2]; simp; omega) (.pure ⟨g1, by simp [h2], fun i s f hi hf => ?_⟩))
  dsimp only at hf
  rw [List.getElem?_append] at hf
  split at hf
  ·exact h3 i s f hi hf
  ·have hl := (gs hf).1
   simp at hl
   obtain rfl : i = k := by omega
   simp [h2] at hf
   rw [hx] at hi; cases hi
   exact ⟨X, hf.symm, g2, g3, g4⟩
 ·rintro ⟨l, a, fs⟩ ⟨h1, h2, h3⟩
  dsimp only at h1 h2 h3
  have key : ∀ i, i < n.Segments.length → ∃ s, n.Segments[i]? = some s ∧ fs[i]? = some (rle (lit (fs.getD i []))) ∧ ((lit (fs.getD i [])).length : Int) = s.Capacity ∧ Bt m (lit (fs.getD i [])) ∧ (rle (lit (fs.getD i []))).length ≤ 12 := fun i hi => by
   obtain ⟨s, hs⟩ := get_of hi
   obtain ⟨f, hf⟩ := get_of (l := fs) (k := i) (by omega)
   obtain ⟨X, rfl, x1, x2, x3⟩ := h3 i s f hs hf
   rw [List.getD_eq_getElem?_getD, hf]
   dsimp only [Option.getD]
   rw [lit_rle]
   exact ⟨s, hs, rfl, x1, x2, x3⟩
  refine .pure ⟨h1, fun i => lit (fs.getD i []), ⟨⟨h2, fun i hi => ?_⟩, fun i hi => ?_, fun i s hs => ?_⟩, fun i hi => ?_⟩
  ·obtain ⟨s, a1, a2, _⟩ := key i hi; exact a2
  ·obtain ⟨s, a1, a2, a3, a4, a5⟩ := key i hi
   have hc := (hn.segs i s a1).cap
   exact Vd.of (by omega) (fun b hb => by have := a4 b hb; omega) (by omega)
  ·obtain ⟨s', a1, a2, a3, _⟩ := key i (gs hs).1
   rw [hs] at a1; cases a1; exact a3
  ·obtain ⟨s, a1, a2, a3, a4, _⟩ := key i hi; exact a4
theorem feeds_ok {n : Network} (hn : NetOk n) {s : Src} (hs : SrcOk s) {m : Int} (hm : 1 ≤ m ∧ m ≤ 1000) : Ok (L.zork s n m) fun r => SrcOk r.2 ∧ r.1.length = n.Ports.length ∧ Bt m r.1 := by
 have s1 := hn.ports1
 unfold L.zork
 refine .bind (Q := fun r : List Int × Int × List Int => SrcOk ⟨r.1, r.2.1⟩ ∧ r.2.2.length = n.Ports.length ∧ Bt m r.2.2)
  (.loop (fun st => SrcOk ⟨st.1, st.2.1⟩ ∧ (st.2.2.1.length : Int) = st.2.2.2 ∧ st.2.2.2 ≤ n.Ports.length ∧ Bt m st.2.2.1) (fun st => n.Ports.length - st.2.2.1.length) ⟨hs, rfl, by simp, by simp [Bt]⟩ (by dsimp only; omega) ?_) fun r hr => .pure hr
 rintro ⟨l, a, g, i⟩ ⟨h1, h2, h3, h4⟩
 dsimp only at h1 h2 h3 h4
 subst h2
 unfold L.zork.B2
 refine Ok.iteD (fun h => ?_) fun h => .pure ⟨h1, by dsimp only at h ⊢; omega, h4⟩
 dsimp only at h ⊢
 refine .bind (n_ok h1 hm.1 (by omega)) fun r hr => .bind' (.app (by simp; omega) (.pure ⟨⟨hr.1, ?_, ?_, ?_⟩, ?_⟩))
 ·dsimp only; rw [wr_id (by omega)]; simp
 ·dsimp only; rw [wr_id (by omega)]; omega
 ·intro b hb
  rcases List.mem_append.1 hb with hb | hb
  ·exact h4 b hb
  ·simp at hb; subst hb; exact hr.2
 ·simp; omega
theorem same14_refl (a : List Piece) : L.zjsx a a = some true := by
 have : Ok (L.zjsx a a) fun r => r = true := by
  unfold L.zjsx
  rw [if_neg (by simp)]
  refine .bind' (.forL (fun _ _ => True) (fun _ => False) trivial ?_ (fun _ _ => .pure rfl) (fun _ h => h.elim))
  intro k x _ hx _
  unfold L.zjsx.B2
  rw [ix_nat hx, Option.bind_some, if_neg (by simp)]
  exact .pure trivial
 obtain ⟨r, h1, rfl⟩ := this
 exact h1
theorem same17_refl (a : List (List Piece)) : L.zkma a a = some true := by
 have : Ok (L.zkma a a) fun r => r = true := by
  unfold L.zkma
  rw [if_neg (by simp)]
  refine .bind' (.forL (fun _ _ => True) (fun _ => False) trivial ?_ (fun _ _ => .pure rfl) (fun _ h => h.elim))
  intro k x _ hx _
  unfold L.zkma.B2
  rw [ix_nat hx, Option.bind_some, same14_refl, Option.bind_some, if_neg (by simp)]
  exact .pure trivial
 obtain ⟨r, h1, rfl⟩ := this
 exact h1
theorem forS_congr {α S : Type} {f f' : Nat → α → S → Option S} : ∀ (l : List α) (k : Nat) (st : S), (∀ k x st, x ∈ l → f k x st = f' k x st) → forS f k l st = forS f' k l st
 | [], _, _, _ => rfl
 | x :: l, k, st, h => by
  simp only [forS]
  rw [h k x st (by simp)]
  cases f' k x st with
  | none => rfl
  | some s => exact forS_congr l (k + 1) s fun k y st hy => h k y st (by simp [hy])
section
variable {n : Network} {p : Plan} {g g' od : List Int} {fs gws os : List (List Piece)} {F0 F G O : Nat → List Int} {l : List Int}
theorem Tick_eq (hL : Ln n p g) (h : Fil n fs F0) (ho : L.zsgw n p = some od) : L.zcgl n fs p g = Option.bind (L.zlri ⟨n, p, g, od, fs, [], []⟩) fun r => if (r.1 != 0) = true then some ([], [], r.1) else some (r.2.1, r.2.2.2, 0) := by
 obtain ⟨⟨s1, s2⟩, h1, rfl, od', h2, _, _, rfl⟩ := start_ok hL h
 rw [ho] at h2; cases h2
 unfold L.zcgl
 rw [h1]; rfl
theorem tick_pumps (R P : List Int) (M M' : List Bool) : L.zlri ⟨n, ⟨R, P, M⟩, g, od, fs, gws, os⟩ = L.zlri ⟨n, ⟨R, P, M'⟩, g, od, fs, gws, os⟩ := rfl
theorem order_pumps (R P : List Int) (M M' : List Bool) : L.zsgw n ⟨R, P, M⟩ = L.zsgw n ⟨R, P, M'⟩ := rfl
theorem Tick_pumps {R P : List Int} {M M' : List Bool} (h1 : Ln n ⟨R, P, M⟩ g) (h2 : Ln n ⟨R, P, M'⟩ g) (h : Fil n fs F0) : L.zcgl n fs ⟨R, P, M'⟩ g = L.zcgl n fs ⟨R, P, M⟩ g := by
 obtain ⟨od, ho, _⟩ := order_topo h1.net h1.flow
 rw [Tick_eq h1 h ho, Tick_eq h2 h (by rw [← order_pumps R P M M']; exact ho), tick_pumps R P M M']
theorem tick_feeds (hp : FlowOk n p) (hg : ∀ (k : Nat) (x : Int), p.Ports[k]? = some x → 0 < x → ix g (k : Int) = ix g' (k : Int)) :
  L.zlri ⟨n, p, g, od, fs, gws, os⟩ = L.zlri ⟨n, p, g', od, fs, gws, os⟩ := by
 have hs : ∀ fs gws os v, L.zyjw ⟨n, p, g, od, fs, gws, os⟩ v = L.zyjw ⟨n, p, g', od, fs, gws, os⟩ v := by
  intro fs gws os v
  unfold L.zyjw
  dsimp only
  rw [ports_eq hp, Option.bind_some, Option.bind_some]
  rw [forS_congr (f := L.zyjw.B1 ⟨n, p, g, od, fs, gws, os⟩) (f' := L.zyjw.B1 ⟨n, p, g', od, fs, gws, os⟩) _ 0 _ fun k x st hx => ?_]
  ·rfl
  ·obtain ⟨y, hy, rfl⟩ := List.mem_map.1 hx
   obtain ⟨q, r, _, hr, _, _, hb, _⟩ := cP_some (sl_mem.1 hy).2
   unfold L.zyjw.B1
   dsimp only
   rw [hg y.1 r hr (by simpa using hb)]
 have hn : ∀ fs gws os v, L.zikm ⟨n, p, g, od, fs, gws, os⟩ v = L.zikm ⟨n, p, g', od, fs, gws, os⟩ v := by
  intro fs gws os v
  unfold L.zikm
  rw [hs]; rfl
 have hb : ∀ a b, L.zlri.B3 ⟨n, p, g, od, a, b, os⟩ = L.zlri.B3 ⟨n, p, g', od, a, b, os⟩ := by
  intro a b
  funext k v st
  unfold L.zlri.B3
  dsimp only
  rw [hn]
 unfold L.zlri L.zlri.J1
 dsimp only
 rw [hb]
theorem Tick_feeds (h1 : Ln n p g) (h2 : Ln n p g') (h : Fil n fs F0) (hg : ∀ (k : Nat) (x : Int), p.Ports[k]? = some x → 0 < x → ix g (k : Int) = ix g' (k : Int)) : L.zcgl n fs p g' = L.zcgl n fs p g := by
 obtain ⟨od, ho, _⟩ := order_topo h1.net h1.flow
 rw [Tick_eq h1 h ho, Tick_eq h2 h ho, tick_feeds h1.flow hg]
theorem Tick_still (hL : Ln n p g) (h : Fil n fs F0) (h1 : ∀ (k : Nat) (x : Int), p.Rates[k]? = some x → x = 0) (h2 : ∀ (k : Nat) (x : Int), p.Ports[k]? = some x → x = 0) :
  L.zcgl n fs p g = some (fs, List.replicate n.Ports.length [], 0) := by
 have s1 := hL.net.segs1; have s2 := hL.net.ports1
 obtain ⟨od, ho, _⟩ := order_topo hL.net hL.flow
 rw [Tick_eq hL h ho]
 have cp : ∀ v b k, cP n p v b k = none := fun v b k => by
  cases hc : cP n p v b k with
  | none => rfl
  | some a => obtain ⟨q, r, _, hr, _, h0, _⟩ := cP_some hc; exact absurd (h2 k r hr) h0
 have cs : ∀ v b k, cS n p v b k = none := fun v b k => by
  cases hc : cS n p v b k with
  | none => rfl
  | some a => obtain ⟨q, r, hf, _⟩ := cS_some hc; exact absurd (h1 k r hf.rate) hf.ne
 have hn : ∀ v, L.zikm ⟨n, p, g, od, fs, List.replicate n.Segments.length [], List.replicate n.Ports.length []⟩ v = some (0, (fs, List.replicate n.Segments.length [], List.replicate n.Ports.length [])) := by
  intro v
  unfold L.zikm
  rw [stream_ok (G := fun _ => []) hL ⟨by simp, fun i hi => by rw [List.getElem?_replicate, if_pos hi]; rfl⟩ (by simp) v, Option.bind_some]
  have : strm n p g (fun _ => []) v = [] := by
   unfold strm
   rw [sl_nil fun k _ => cp v true k, sl_nil fun k _ => cs v true k]; rfl
  rw [this]; rfl
 have : Ok (L.zlri ⟨n, p, g, od, fs, [], []⟩) fun r => r = (0, (fs, List.replicate n.Segments.length [], List.replicate n.Ports.length [])) := by
  unfold L.zlri
  refine .bind' (.mk n.Segments.length rfl (by omega) (.bind' (.mk n.Ports.length rfl (by omega) ?_)))
  unfold L.zlri.J1
  refine .bind' (.forL (fun k st => st = (fs, List.replicate n.Segments.length [], List.replicate n.Ports.length [])) (fun _ => False) rfl ?_ ?_ fun _ h => h.elim)
  ·rintro k v _ hv rfl
   unfold L.zlri.B3
   dsimp only
   rw [hn v, Option.bind_some, if_neg (by simp)]
   exact .pure rfl
  ·rintro _ rfl; exact .pure rfl
 obtain ⟨r, h3, rfl⟩ := this
 rw [h3]; rfl
end
theorem PlanOk.still {n : Network} {M : List Bool} (hm : M.length = n.Stations.length) (hc : ∀ (k : Nat) (s : Segment), n.Segments[k]? = some s → 0 ≤ s.Capacity) : PlanOk n ⟨List.replicate n.Segments.length 0, List.replicate n.Ports.length 0, M⟩ := by
 have z : ∀ (m k : Nat) (x : Int), (List.replicate m (0 : Int))[k]? = some x → x = 0 := fun m k x h => by
  rw [List.getElem?_replicate] at h; split at h
  ·cases h; rfl
  ·cases h
 refine ⟨by simp, by simp, hm, fun k r s hr hs => ?_, fun k x hx => ?_, fun v => ?_, .inl fun k r s hr hs => ?_⟩
 ·have := z _ k r hr; have := hc k s hs; omega
 ·have := z _ k x hx; omega
 ·rw [dot_zero, dot_zero]; rfl
 ·have := z _ k r hr; omega
theorem advanceRests (l : List Int) (w : Int) (hw : 0 ≤ w ∧ w ≤ 255) : L.zjuy l w = some true := by
 have : Ok (L.zjuy l w) fun r => r = true := by
  unfold L.zjuy
  refine .bind (new_ok l) fun d0 hd0 => .bind (net_ok hd0) ?_
  rintro ⟨n, d1⟩ ⟨hn, hd1⟩
  dsimp only at hn hd1 ⊢
  refine .bind (fills_ok hn hd1 (m := 4) (by omega)) ?_
  rintro ⟨fs, d2⟩ ⟨hd2, F, hf, _⟩
  refine .bind (plan_ok hn hd2) ?_
  rintro ⟨⟨R, P, M⟩, d3⟩ ⟨hp, hd3⟩
  refine .bind (feeds_ok hn hd3 (m := 5) (by omega)) ?_
  rintro ⟨g, d4⟩ ⟨hd4, hg1, hg2⟩
  dsimp only at hf hp hg1 hg2 ⊢
  have s1 := hn.segs1; have s2 := hn.ports1; have s3 := hn.sts1
  have hL : Ln n ⟨R, P, M⟩ g := ⟨hn, hp.flow, hg1, fun b hb => by have := hg2 b hb; omega⟩
  unfold L.zjuy.J1
  refine .bind (Q := fun d : List Bool => d.length = n.Stations.length) (.loop (fun st => (st.1.length : Int) = st.2 ∧ st.2 ≤ n.Stations.length) (fun st => n.Stations.length - st.1.length) ⟨rfl, by simp⟩ (by dsimp only; omega) ?_) ?_
  ·rintro ⟨d, i⟩ ⟨i1, i2⟩
   dsimp only at i1 i2
   subst i1
   unfold L.zjuy.B8
   refine Ok.iteD (fun h => ?_) fun h => .pure (show d.length = n.Stations.length by dsimp only at h; omega)
   dsimp only at h ⊢
   obtain ⟨x, hx⟩ := get_of (l := M) (k := d.length) (by have := hp.ml; dsimp only at this; omega)
   refine .bind' (.eq (ix_nat hx) (.bind' (.app (by simp; omega) (.pure ⟨⟨?_, ?_⟩, ?_⟩))))
   ·dsimp only; rw [wr_id (by omega)]; simp
   ·dsimp only; rw [wr_id (by omega)]; omega
   ·simp; omega
  intro M' hM'
  unfold L.zjuy.J2
  refine .bind' (.mk n.Segments.length rfl (by omega) (.bind' (.mk n.Ports.length rfl (by omega) ?_)))
  unfold L.zjuy.J3
  dsimp only
  have hL' : Ln n ⟨R, P, M'⟩ g := ⟨hn, PlanOk.flow ⟨hp.rl, hp.pl, hM', hp.rng, hp.prt, hp.bal, hp.dir⟩, hg1, hL.gb⟩
  have hL0 : Ln n ⟨List.replicate n.Segments.length 0, List.replicate n.Ports.length 0, M⟩ g := ⟨hn, PlanOk.flow (.still hp.ml fun k s hs => by have := (hn.segs k s hs).cap; omega), hg1, hL.gb⟩
  obtain ⟨t, ht, _⟩ := Tick_ok hL hf
  have z : ∀ (m k : Nat) (x : Int), (List.replicate m (0 : Int))[k]? = some x → x = 0 := fun m k x h => by
   rw [List.getElem?_replicate] at h; split at h
   ·cases h; rfl
   ·cases h
  refine .bind' (.eq ht (.bind' (.eq (by rw [Tick_pumps hL hL' hf]; exact ht) (.bind' (.eq (Tick_still hL0 hf (fun k x h => z _ k x h) (fun k x h => z _ k x h)) (.bind' (.app (by simp; omega) ?_)))))))
  rw [List.nil_append, wr_id (by omega)]
  have hk : 0 ≤ w.tmod (g.length : Int) ∧ w.tmod (g.length : Int) < g.length := by
   rw [Int.tmod_eq_emod_of_nonneg hw.1]
   exact ⟨Int.emod_nonneg _ (by omega), Int.emod_lt_of_pos _ (by omega)⟩
  refine .bind' (.rem (by omega) ?_)
  obtain ⟨k, hk'⟩ := nat_of hk.1
  rw [hk'] at hk ⊢
  obtain ⟨x, hx⟩ := get_of (l := P) (k := k) (by have := hp.pl; dsimp only at this; omega)
  refine .bind' (.eq (ix_nat hx) ?_)
  dsimp only
  have last : ∀ g', L.zcgl n fs ⟨R, P, M⟩ g' = some t → Ok (L.zjuy.J4 (n, d1) (fs, R, P, M, g) t t (fs, List.replicate n.Ports.length [], 0) g') fun r => r = true := by
   intro g' hg'
   unfold L.zjuy.J4
   refine .bind' (.eq hg' (.bind' (.forI (fun _ _ => True) (fun _ => False) trivial ?_ ?_ fun _ h => h.elim)))
   ·intro k _ hk _
    dsimp only at hk
    rw [List.length_replicate] at hk
    unfold L.zjuy.B7
    refine .bind' (.eq (ix_nat (x := []) ?_) ?_)
    ·dsimp only; rw [List.getElem?_replicate, if_pos hk]
    ·exact .pure trivial
   ·intro _ _
    show Ok (L.zjuy.J5 (fs, R, P, M, g) t t (fs, List.replicate n.Ports.length [], 0) t ()) _
    unfold L.zjuy.J5
    rw [if_pos (by simp), same17_refl, Option.bind_some, if_pos rfl, same17_refl, Option.bind_some, if_pos rfl, if_pos (by simp), same17_refl, Option.bind_some, if_pos rfl, if_pos (by simp), Option.bind_some, if_pos rfl, Option.bind_some, if_pos rfl, awake18]
    exact .pure rfl
  refine Ok.iteD (fun hx0 => ?_) fun _ => last g ht
  obtain ⟨y, hy⟩ := get_of (l := g) (k := k) (by omega)
  refine .bind' (.eq (ix_nat hy) ?_)
  dsimp only
  refine last _ ?_
  rw [Tick_feeds hL ⟨hn, hL.flow, by simp [hg1], fun b hb => ?_⟩ hf fun j z hz hz0 => ?_]
  ·exact ht
  ·rcases List.mem_or_eq_of_mem_set hb with hb | rfl
   ·exact hL.gb b hb
   ·omega
  ·have hjk : j ≠ k := fun e => by
    subst e
    dsimp only at hz hx0
    rw [hx] at hz; cases hz; omega
   have e : (g.set k 9)[j]? = g[j]? := by rw [List.getElem?_set_ne (Ne.symm hjk)]
   obtain ⟨q, hq⟩ := get_of (l := g) (k := j) (by have := (gs hz).1; have := hp.pl; dsimp only at *; omega)
   rw [ix_nat hq, ix_nat (by rw [e]; exact hq)]
 obtain ⟨r, h1, rfl⟩ := this
 exact h1
end Go.Proofs.Ytligpmmgdjipbaa
namespace Go.Aw
set_option linter.unusedVariables false
set_option linter.unusedSimpArgs false
open Go.ChangeShapes Go.WideShapes Go.ChangeAt Go.RowKit
section
variable {H : Type} {enc : TypeId × Value → H} {P : Program}
theorem trodAll_below (hl : laidOutB P = true) {W W' : World} (hb : Below W.heap.size W W') : ∀ {ts : List TypeId} {vs : List Value} {ds : List (DataW H)} {ps : List MemPlace},
  (∀ t, t ∈ ts → P.readableRec t = true ∧ t < P.types.size) → (∀ x, x ∈ ps → x.block < W.heap.size) → DataW.TrodAll enc P W 0 (fun _ => true) true ts vs ds ps →
  DataW.TrodAll enc P W' 0 (fun b => decide (b < W.heap.size)) true ts vs ds ps
 | [], vs, ds, ps, _, _, h => by
  cases vs <;> cases ds <;> simp [DataW.TrodAll] at h ⊢
  exact h
 | t :: ts, vs, ds, ps, ht, hlt, h => by
  obtain ⟨v, vs', d, ds', p, q, rfl, rfl, rfl, h1, h2⟩ := trodAll_cons h
  have hr := ht t (by simp)
  exact ⟨p, q, Below.trod hl hr.1 hr.2 h1 hb (fun x hx => hlt x (by simp [hx])), trodAll_below hl hb (fun t ht' => ht t (by simp [ht'])) (fun x hx => hlt x (by simp [hx])) h2, rfl⟩
theorem law_post {f : Func} {s : ChangeSpec} {W W' : World} {args : Array Value} {ds : List (DataW H)} {p : List MemPlace} {t : TypeId} (hW : DataW.Whole enc P f.params.toList s.vars false W args.toList ds [] (p ++ []))
  (hA : DataW.TrodAll enc P W 0 (fun _ => true) true f.params.toList args.toList ds p)
  (hres : (s.fn H (ds ++ [])).results = [.lit (.bool true)]) (hargs : (s.fn H (ds ++ [])).args = ds) (hv : (s.fn H (ds ++ [])).vars = []) (hsv : s.vars = [])
  (hrt : f.resultTypes.toList = [t]) (hu : P.underlying t = some .bool) (hl : laidOutB P = true) (hall : ∀ t, t ∈ f.params.toList → P.readableRec t = true ∧ t < P.types.size)
  (hb : Below W.heap.size W W') : s.post enc P f false true false false W args (.bool true) W' := by
 have hlt : ∀ x, x ∈ p → x.block < W.heap.size := fun x hx => hW.lt x (by simp [hx])
 have hsz : f.resultTypes.size = 1 := by rw [← Array.length_toList, hrt]; rfl
 refine ⟨ds, [], p ++ [], [], p, [], hW, ?_, ?_, ?_, hb.frame _, fun h => by cases h⟩
 ·rw [hres, hrt, hsz]
  exact trodAll_mk1 (shut_bool hu true)
 ·rw [hargs]
  exact trodAll_below hl hb hall hlt hA
 ·rw [hv, hsv]; rfl
def encK (k : IntKind) (l : List Int) : T := .list 1 (l.map fun n => [.v (.int k n)])
theorem open_list {t e : TypeId} {k : IntKind} {W : World} {base : Nat} {r : Reach} {v : Value} {d : DataW H} {ps : List MemPlace} (ht : P.underlying t = some (.slice e)) (he : P.underlying e = some (.int k)) (hc : P.cellsOf e = 1)
  (hval : Value.okWide P W r base t v) (h : DataW.Trod enc P W 0 (fun _ => true) true t v d ps) :
  ∃ l : List Int, (l.length ≤ maxL → VR (fun b => W.heap[b]?) v (encK k l)) ∧ (∀ n, n ∈ l → (Lit.int k n).wf = true) ∧ (l = [] ∨ ∃ elems spare, d = .slice elems spare ∧ l.length = elems.length) := by
 obtain ⟨a0, len, cap, rfl⟩ := okWide_slice ht hval
 obtain ⟨fuel, hf⟩ := h
 rcases open_ints ht he hc hf with ⟨hcs, hx⟩ | ⟨a, len', cap', zs, hcs, _, hl, hm, hz, hx, hcell, hwz⟩
 ·simp [Value.cells] at hcs
  obtain ⟨rfl, rfl, rfl⟩ := hcs
  exact ⟨[], fun _ => .empty _ _ _, by simp, .inl rfl⟩
 ·simp [Value.cells] at hcs
  obtain ⟨rfl, rfl, rfl⟩ := hcs
  simp only [Prod.mk.injEq] at hx
  obtain ⟨rfl, rfl⟩ := hx
  simp only [if_true] at hz
  have hlt : (zs.take len).length = len := by simp; omega
  refine ⟨zs.take len, fun hmax => ?_, fun n hn => hwz n (List.mem_of_mem_take hn), .inr ⟨_, _, rfl, by simp [lits]⟩⟩
  by_cases hl0 : len = 0
  ·subst hl0; simp only [List.take_zero, encK, List.map_nil]; exact .empty _ _ _
  ·obtain ⟨b, off, spot⟩ := a
   have hspot : spot = none := by simpa [Addr.add] using World.cell?_spot (hcell 0 (by omega))
   subst hspot
   have hcell' : ∀ i, i < zs.length → W.cell? ⟨b, off + i, none⟩ = some (.int k (zs.getD i 0)) := fun i hi => by rw [← Addr.add_mk]; exact hcell i hi
   have hc0 := hcell' 0 (by omega)
   have hcs : ∃ cs ty fr, W.heap[b]? = some (.cells cs ty fr) := by
    unfold World.cell? at hc0
    split at hc0
    ·rename_i c ty fr hh; exact ⟨_, _, _, hh⟩
    ·cases hc0
   obtain ⟨cs, ty, fr, hh⟩ := hcs
   have hcs' : ∀ i, i < zs.length → cs[off + i]? = some (.int k (zs.getD i 0)) := fun i hi => by
    have := hcell' i hi
    simpa [World.cell?, hh] using this
   have hlen : ((zs.take len).map fun n => [T.v (.int k n)]).length = len := by rw [List.length_map, hlt]
   have hbig : off + len ≤ cs.size := by
    have := (Array.getElem?_eq_some_iff.1 (hcs' (len - 1) (by omega))).1
    omega
   have hgd : ∀ i e, ((zs.take len).map fun n => [T.v (.int k n)])[i]? = some e → ∀ (j : Nat) (x : T), e[j]? = some x → j = 0 ∧ x = .v (.int k (zs.getD i 0)) ∧ cs.getD (off + i * 1 + j) undef = .int k (zs.getD i 0) := by
    intro i e he j x hx
    simp only [List.getElem?_map, Option.map_eq_some_iff] at he
    obtain ⟨n, hn, rfl⟩ := he
    have hil := (List.getElem?_eq_some_iff.1 hn).1
    rw [hlt] at hil
    rw [List.getElem?_take_of_lt hil] at hn
    have hj : j = 0 := by have := (List.getElem?_eq_some_iff.1 hx).1; simp at this; exact this
    subst hj
    simp at hx
    have hzi : zs.getD i 0 = n := by simp [List.getD, hn]
    refine ⟨rfl, by rw [hzi]; exact hx.symm, ?_⟩
    rw [Array.getD_eq_getD_getElem?, show off + i * 1 + 0 = off + i by omega, hcs' i (by omega)]; rfl
   have := VR.list (H := fun b => W.heap[b]?) b off cap 1 ((zs.take len).map fun n => [T.v (.int k n)]) cs ty fr hh (by rw [hlen]; exact hl) (by rw [List.length_map]; exact hmax) (by rw [hlen]; omega)
    (fun i e he => by simp only [List.getElem?_map, Option.map_eq_some_iff] at he; obtain ⟨n, _, rfl⟩ := he; rfl)
    (fun i e he j x hx => by rw [(hgd i e he j x hx).2.2]; rfl) (fun i e he j x hx => by rw [(hgd i e he j x hx).2.2, (hgd i e he j x hx).2.1]; exact .v _)
   rw [hlen] at this
   exact this
end
theorem wf_u8 {n : Int} (h : (Lit.int .u8 n).wf = true) : 0 ≤ n ∧ n ≤ 255 := by
 have h1 : IntKind.u8.min = 0 := rfl
 have h2 : IntKind.u8.max = 255 := rfl
 simp only [Lit.wf, Bool.and_eq_true, decide_eq_true_eq] at h
 omega
theorem law_calls {E : Env} {f : FuncId} {xs : List T} {W : World} {args : Array Value} (hgl : Held fun b => W.heap[b]?) (hc : ACalls E f xs [] fun x _ => x = .v (.bool true)) (hsz : args.size = xs.length)
  (hv : ∀ (i : Nat) (x : T), xs[i]? = some x → VR (fun b => W.heap[b]?) (args.getD i undef) x) : Calls E.P f args W fun e W' => e = .returned (.bool true) ∧ Below W.heap.size W W' := by
 refine (hc.2 (fun b => W.heap[b]?) W args hsz hv ⟨fun _ _ h => h, hgl⟩ (by simp) (by simp)).mono ?_
 rintro e w' ⟨v, x, fp', H', rfl, rfl, hvr, _, _, _, _, hs, ⟨e1, e2, e3⟩, hfr⟩
 refine ⟨by rw [hvr.v_eq], ⟨e1, e2, e3, hs, fun k hk => (hfr k hk (by simp)).1⟩⟩
end Go.Aw
