/- Plain proofs. No condition. -/
import Derived.Test.YtaoclefkknloiaaGreatZwP2
import Derived.Test.YtaoclefkknloiaaGreatZwP0
import Derived.Test.YtaoclefkknloiaaGreatZwD
import Derived.Test.YtaoclefkknloiaaGreatZwP1
import Derived.KernelRfl
import Derived.Test.YtaoclefkknloiaaGreatZwB1
import Derived.ProofKit
import Derived.SizedLaws
import Derived.Carry
import Derived.Test.YtaoclefkknloiaaGreatZwB2
set_option maxRecDepth 100000
namespace Go.Proofs.YtaoclefkknloiaaGreat
set_option linter.unusedVariables false
set_option linter.unusedSimpArgs false
open Go.Aw
def Mc (m : Int) (X : Li) : Prop := ∀ b, b ∈ X → 0 ≤ b ∧ b < m
theorem aE {s : Yb} (hs : SrcOk s) {v m : Int} (hv : 0 ≤ v ∧ v ≤ 1000) (hm : 1 ≤ m ∧ m ≤ 1000) : Ok (Nt s v m) fun r => SrcOk r.2 ∧ ∃ X, r.1 = Ci X ∧ (X.length : Int) = v ∧ Mc m X ∧ (Ci X).length ≤ 12 := by
 let I : Li × Int × Int × List Piece → Prop := fun st => SrcOk ⟨st.1, st.2.1⟩ ∧ ∃ X, st.2.2.2 = Ci X ∧ (X.length : Int) + st.2.2.1 = v ∧ 0 ≤ st.2.2.1 ∧ Mc m X ∧ (Ci X).length ≤ 12 ∧ ((Ci X).length = 12 → st.2.2.1 = 0)
 let R : Li × Int × List Piece → Prop := fun r => SrcOk ⟨r.1, r.2.1⟩ ∧ ∃ X, r.2.2 = Ci X ∧ (X.length : Int) = v ∧ Mc m X ∧ (Ci X).length ≤ 12
 let μ : Li × Int × Int × List Piece → Nat := fun st => st.2.2.1.toNat
 unfold Nt
 refine .bind (Q := R) (.loop I μ ⟨hs, [], rfl, by simp, by dsimp only; omega, by simp [Mc], by simp [Ir], by simp [Ir]⟩ (by dsimp only [μ]; omega) ?_) fun r hr => .pure hr
 rintro ⟨l, a, rem, ps⟩ ⟨h1, X, rfl, h3, h4, h5, h6, h7⟩
 dsimp only at h1 h3 h4 h7
 unfold Nt.B2
 dsimp only
 refine Cw (fun hc => ?_) fun hc => ?_
 ·simp at hc
  refine .bind (Gj h1 hm.1 (by omega)) fun Z hr => ?_
  have hq : 0 ≤ (rem * 2).tdiv 3 ∧ (rem * 2).tdiv 3 ≤ rem := by
   rw [Int.tdiv_eq_ediv_of_nonneg (by omega)]; omega
  rw [Bp (by omega : _ ≤ rem * 2 ∧ _), Bp (by omega)]
  refine .bind (Gd hr.1 (by omega) (by omega) (by omega)) fun G hr2 => ?_
  have take : ∀ (k : Int) (Y : Li), 1 ≤ k → k ≤ rem → (Y.length : Int) = X.length + k → Mc m Y → (Ci Y).length ≤ (Ci X).length + 1 → ((Ci X).length = 11 → k = rem) → I (G.2.L_, G.2.At, wr (rem - k), Ci Y) ∧ μ (G.2.L_, G.2.At, wr (rem - k), Ci Y) < μ (l, a, rem, Ci X) := by
   intro k Y k1 k2 y1 y2 y3 y4
   rw [Bp (by omega)]
   exact ⟨⟨hr2.1, Y, rfl, by dsimp only; omega, by dsimp only; omega, y2, by omega, fun h => by have := y4 (by omega); dsimp only; omega⟩, by dsimp only [μ]; omega⟩
  have rep : ∀ (b k : Int), 0 ≤ b ∧ b < m → 1 ≤ k → Mc m (X ++ List.replicate k.toNat b) := fun b k hb hk c hcm => by
   rcases List.mem_append.1 hcm with h | h
   ·exact h5 c h
   ·obtain ⟨_, rfl⟩ := List.mem_replicate.1 h; exact hb
  have plen : ∀ (b k : Int), 1 ≤ k → (Ci (X ++ List.replicate k.toNat b)).length ≤ (Ci X).length + 1 := fun b k hk => by
   have := Z3 (Ci X) ⟨b, k⟩
   rw [Iq (by exact hk)] at this; exact this
  have main : ∀ M, 1 ≤ M → ((Ci X).length = 11 → M = rem) → Ok (Nt.J3 m (l, a, rem, Ci X) Z G M) (Sum.elim (fun s => I s ∧ μ s < μ (l, a, rem, Ci X)) R) := by
   intro j hj1 hj2
   have app : ∀ b, 0 ≤ b ∧ b < m → Uw (Ci X) ⟨b, min j rem⟩ = Ci X ++ [⟨b, min j rem⟩] → Ok (Nt.J4 (l, a, rem, Ci X) G j b) (Sum.elim (fun s => I s ∧ μ s < μ (l, a, rem, Ci X)) R) := by
    intro b hb he
    unfold Nt.J4
    refine .bind' (.app (by simp; omega) (.pure ?_))
    dsimp only
    rw [← he, Iq (by dsimp only; omega)]
    exact take (min j rem) (X ++ List.replicate (min j rem).toNat b) (by omega) (by omega) (by rw [List.length_append, List.length_replicate]; omega) (rep b (min j rem) hb (by omega)) (plen b (min j rem) (by omega)) (fun h => by have := hj2 h; omega)
   unfold Nt.J3
   dsimp only
   rcases Em (Ci X) with he | ⟨c, q, he⟩
   ·refine Bf (fun h => by rw [he] at h; simp at h) fun _ => ?_
    unfold Nt.J5
    rw [if_neg (by simp)]
    exact app _ hr.2 (by rw [he]; rfl)
   ·have hl : (Ci X).length = c.length + 1 := by rw [he]; simp
    have hg : (Ci X)[c.length]? = some q := by rw [he]; simp
    have hw : wr (((Ci X).length : Int) - 1) = (c.length : Int) := by rw [hl, Bp (by omega)]; omega
    have hq1 := (D9 X).pos q (mg hg)
    have hq2 := Im (fun p hp => by have := (D9 X).pos p hp; omega) (mg hg)
    rw [Cs] at hq2
    refine Bf (fun _ => ?_) fun h => by rw [hl] at h; omega
    rw [hw]
    refine .bind' (.eq (Bd hg) ?_)
    unfold Nt.J5
    dsimp only
    refine Dk (fun hb => ?_) fun hb => app _ hr.2 (by rw [he, Eo, if_neg (by exact hb)])
    rw [hw, Bp (by omega)]
    have ht : 0 ≤ (Z.1 + 1).tmod m ∧ (Z.1 + 1).tmod m < m := by
     rw [Int.tmod_eq_emod_of_nonneg (by omega)]
     exact ⟨Int.emod_nonneg _ (by omega), Int.emod_lt_of_pos _ (by omega)⟩
    refine .bind' (.rem (by omega) (.bind' (.eq (Bd hg) ?_)))
    dsimp only
    refine Dk (fun hb2 => ?_) fun hb2 => app _ ht (by rw [he, Eo, if_neg (by exact hb2)])
    have e : (Ci X).set c.length (⟨q.Batch, wr (q.Volume + min j rem)⟩ : Piece) = Uw (Ci X) ⟨q.Batch, min j rem⟩ := by
     rw [Bp (by omega), he, Eo, if_pos rfl]; simp
    rw [e, Iq (by dsimp only; omega)]
    have hqb := h5 _ (Ti (mg hg))
    exact .pure (take (min j rem) (X ++ List.replicate (min j rem).toNat q.Batch) (by omega) (by omega) (by rw [List.length_append, List.length_replicate]; omega) (rep q.Batch (min j rem) hqb (by omega)) (plen q.Batch (min j rem) (by omega)) (fun h => by have := hj2 h; omega))
  exact Dk (fun h => main _ (by omega) fun _ => rfl) fun h => main _ (by omega) fun h' => by omega
 ·refine .pure ⟨h1, X, rfl, ?_, h5, h6⟩
  by_cases h0 : rem = 0
  ·subst h0; omega
  ·have : ¬ (Ci X).length = 12 := fun h => h0 (h7 h)
   simp at hc
   have := hc (by omega)
   omega
theorem iF {n : Nw} (hn : NetG n) {s : Yb} (hs : SrcOk s) {m : Int} (hm : 1 ≤ m ∧ m ≤ 1000) : Ok (Rd s n m) fun r => SrcOk r.2 ∧ ∃ F, Fil n r.1 F ∧ ∀ i, i < n.Segments.length → Mc m (F i) ∧ (Ci (F i)).length ≤ 12 := by
 have s1 := hn.segs1
 unfold Rd
 refine .bind (Q := fun Z : Li × Int × List (List Piece) => SrcOk ⟨Z.1, Z.2.1⟩ ∧ Z.2.2.length = n.Segments.length ∧ ∀ (i : Nat) (s : Sg) (f : List Piece), n.Segments[i]? = some s → Z.2.2[i]? = some f → ∃ X, f = Ci X ∧ (X.length : Int) = s.Capacity ∧ Mc m X ∧ (Ci X).length ≤ 12)
  (.forS (fun k Z => SrcOk ⟨Z.1, Z.2.1⟩ ∧ Z.2.2.length = k ∧ ∀ (i : Nat) (s : Sg) (f : List Piece), n.Segments[i]? = some s → Z.2.2[i]? = some f → ∃ X, f = Ci X ∧ (X.length : Int) = s.Capacity ∧ Mc m X ∧ (Ci X).length ≤ 12) ⟨hs, rfl, by simp⟩ ?_ fun _ h => h) ?_
 ·rintro k x ⟨l, a, fs⟩ hx ⟨h1, h2, h3⟩
  dsimp only at h1 h2 h3
  have hk := (gs hx).1
  have hc := (hn.segs k x hx).cap
  unfold Rd.B2
  refine .bind (aE h1 (by omega) hm) ?_
  rintro ⟨f, d⟩ ⟨g1, X, rfl, g2, g3, g4⟩
  refine .bind' (.app (by dsimp only; rw [h2]; simp; omega) (.pure ⟨g1, by simp [h2], fun i s f G M => ?_⟩))
  dsimp only at M
  rw [List.getElem?_append] at M
  split at M
  ·exact h3 i s f G M
  ·have hl := (gs M).1
   simp at hl
   obtain rfl : i = k := by omega
   simp [h2] at M
   rw [hx] at G; cases G
   exact ⟨X, M.symm, g2, g3, g4⟩
 ·rintro ⟨l, a, fs⟩ ⟨h1, h2, h3⟩
  dsimp only at h1 h2 h3
  have Y : ∀ i, i < n.Segments.length → ∃ s, n.Segments[i]? = some s ∧ fs[i]? = some (Ci (lit (fs.getD i []))) ∧ ((lit (fs.getD i [])).length : Int) = s.Capacity ∧ Mc m (lit (fs.getD i [])) ∧ (Ci (lit (fs.getD i []))).length ≤ 12 := fun i G => by
   obtain ⟨s, hs⟩ := D1 G
   obtain ⟨f, M⟩ := D1 (l := fs) (k := i) (by omega)
   obtain ⟨X, rfl, x1, x2, x3⟩ := h3 i s f hs M
   rw [List.getD_eq_getElem?_getD, M]
   dsimp only [Option.getD]
   rw [C9]
   exact ⟨s, hs, rfl, x1, x2, x3⟩
  refine .pure ⟨h1, fun i => lit (fs.getD i []), ⟨⟨h2, fun i G => ?_⟩, fun i G => ?_, fun i s hs => ?_⟩, fun i G => ?_⟩
  ·obtain ⟨s, a1, a2, _⟩ := Y i G; exact a2
  ·obtain ⟨s, a1, a2, a3, a4, a5⟩ := Y i G
   have hc := (hn.segs i s a1).cap
   exact Wq (by omega) (fun b hb => by have := a4 b hb; omega) (by omega)
  ·obtain ⟨s', a1, a2, a3, _⟩ := Y i (gs hs).1
   rw [hs] at a1; cases a1; exact a3
  ·obtain ⟨s, a1, a2, a3, a4, a5⟩ := Y i G; exact ⟨a4, a5⟩
theorem iG {n : Nw} (hn : NetG n) {s : Yb} (hs : SrcOk s) {m : Int} (hm : 1 ≤ m ∧ m ≤ 1000) : Ok (Ql s n m) fun r => SrcOk r.2 ∧ r.1.length = n.Ports.length ∧ Mc m r.1 := by
 have s1 := hn.ports1
 unfold Ql
 refine .bind (Q := fun r : Li × Int × Li => SrcOk ⟨r.1, r.2.1⟩ ∧ r.2.2.length = n.Ports.length ∧ Mc m r.2.2)
  (.loop (fun G => SrcOk ⟨G.1, G.2.1⟩ ∧ (G.2.2.1.length : Int) = G.2.2.2 ∧ G.2.2.2 ≤ n.Ports.length ∧ Mc m G.2.2.1) (fun G => n.Ports.length - G.2.2.1.length) ⟨hs, rfl, by simp, by simp [Mc]⟩ (by dsimp only; omega) ?_) fun r Y => .pure Y
 rintro ⟨l, a, g, i⟩ ⟨Z, h2, h3, h4⟩
 dsimp only at Z h2 h3 h4
 subst h2
 unfold Ql.B2
 refine Bf (fun h => ?_) fun h => .pure ⟨Z, by dsimp only at h ⊢; omega, h4⟩
 dsimp only at h ⊢
 refine .bind (Gj Z hm.1 (by omega)) fun r Y => .bind' (.app (by simp; omega) (.pure ⟨⟨Y.1, ?_, ?_, ?_⟩, ?_⟩))
 ·dsimp only; rw [Bp (by omega)]; simp
 ·dsimp only; rw [Bp (by omega)]; omega
 ·intro b M
  rcases List.mem_append.1 M with M | M
  ·exact h4 b M
  ·simp at M; subst M; exact Y.2
 ·simp; omega
theorem lR {s : Yb} (hs : SrcOk s) {p : Plan} (h1 : p.Rates.length ≤ 1000) (h2 : p.Ports.length ≤ 1000) (h3 : p.Pumps.length ≤ 1000) : Ok (Qs s p) fun r => SrcOk r.2 := by
 unfold Qs
 refine .bind' (.app (by simp; omega) (.bind' (.app (by simp; omega) (.bind' (.app (by simp; omega) ?_)))))
 simp only [List.nil_append]
 unfold Qs.J1 Qs.J2
 dsimp only
 refine .bind (Gj hs (by decide) (by decide)) fun c M => Cw (fun _ => ?_) fun _ => Cw (fun _ => ?_) fun _ => Cw (fun _ => ?_) fun _ => ?_
 ·exact .bind' (.app (by simp; omega) (.pure M.1))
 ·rw [Bp (by omega)]
  refine .bind (Gj M.1 (by omega) (by omega)) fun a G => ?_
  obtain ⟨j, hj⟩ := Gl G.2.1
  exact .bind' (.sub 0 j rfl hj (Nat.zero_le _) (by omega) (.pure G.1))
 ·exact Bf (fun hl => .bind (Gj M.1 (by omega) (by omega)) fun a G => .bind' (.ix' (by omega) (by omega) fun i x Z hx => .bind (Es G.1 (by simp) (by simp)) fun b Y => .pure Y.1)) fun _ => .pure M.1
 ·exact Bf (fun hl => .bind (Gj M.1 (by omega) (by omega)) fun a G => .bind' (.ix' (by omega) (by omega) fun i x Z hx => .bind (Es G.1 (by simp) (by simp)) fun b Y => .pure Y.1)) fun _ => .pure M.1
theorem Xy (a : List Piece) : Qt a a = some true := by
 have : Ok (Qt a a) fun r => r = true := by
  unfold Qt
  rw [if_neg (by simp)]
  refine .bind' (.forL (fun _ _ => True) (fun _ => False) trivial ?_ (fun _ _ => .pure rfl) (fun _ h => h.elim))
  intro k x _ M _
  unfold Qt.B2
  rw [Bd M, Option.bind_some, if_neg (by simp)]
  exact .pure trivial
 obtain ⟨r, G, rfl⟩ := this
 exact G
theorem He (a : List (List Piece)) : Hp a a = some true := by
 have : Ok (Hp a a) fun r => r = true := by
  unfold Hp
  rw [if_neg (by simp)]
  refine .bind' (.forL (fun _ _ => True) (fun _ => False) trivial ?_ (fun _ _ => .pure rfl) (fun _ h => h.elim))
  intro k x _ M _
  unfold Hp.B2
  rw [Bd M, Option.bind_some, Xy, Option.bind_some, if_neg (by simp)]
  exact .pure trivial
 obtain ⟨r, G, rfl⟩ := this
 exact G
theorem aI : Lv = some true := by kernel_rfl
theorem Ss (raw : Nw) (G : List (List Piece)) (q : Plan) (other : Li) (Y : Int) (l : Li) : Vt raw G q other Y l = some true := by
 refine kO ?_
 have aa : ∀ {β : Type} (f : Bool → β), (Option.bind Lv fun r => some (f r)) = some (f true) := fun f => by rw [aI]; rfl
 unfold Vt
 refine Cw (fun _ => .eq (aa fun r => r) rfl) fun _ => .bind' (.forL (fun _ _ => True) (fun b => b = true) trivial ?_ ?_ fun b hb => .pure hb)
 ·intro k x _ hx _
  unfold Vt.B15
  exact Bf (fun _ => by rw [aI]; exact .pure rfl) fun _ => .pure trivial
 intro _ _
 simp only [Sum.elim_inl]
 unfold Vt.J1
 refine .bind (oG l) fun d0 hd0 => .bind (oH hd0) ?_
 rintro ⟨n, d1⟩ ⟨Z, hd1⟩
 dsimp only at Z hd1 ⊢
 refine .bind (iF Z.g hd1 (m := 4) (by omega)) ?_
 rintro ⟨fs, d2⟩ ⟨hd2, F0, hf, _⟩
 refine .bind (lN Z hd2) ?_
 rintro ⟨⟨R, P, M⟩, d3⟩ ⟨hp, hd3⟩
 refine .bind (iG Z.g hd3 (m := 5) (by omega)) ?_
 rintro ⟨g, d4⟩ ⟨hd4, hg1, hg2⟩
 dsimp only at hf hp hg1 ⊢
 have s0 := Z.nodes; have s1 := Z.segs1; have s2 := Z.ports1; have s3 := Z.sts1
 have hl := hf.rp.len
 have hR := hp.rl; have hP := hp.pl; have hM := hp.ml
 dsimp only at hR hP hM
 unfold Vt.J2
 dsimp only
 refine .bind' (.app (by simp; omega) ?_)
 rw [List.nil_append]
 refine .bind (Gj hd4 (by omega) (by omega)) fun r1 hr1 => .bind (Gj hr1.1 (by decide) (by decide)) fun r2 hr2 => .bind (aE hr2.1 (v := r2.1) (m := 3) (by omega) (by omega)) fun r3 hr3 => ?_
 refine .bind' (.ix' hr1.2.1 hr1.2.2 fun i1 x1 _ _ => .bind' (.app (by simp; omega) ?_))
 rw [List.nil_append]
 refine .bind (Gj hr3.1 (by omega) (by omega)) fun r4 hr4 => .bind (Es hr4.1 (by simp) (by simp)) fun r5 hr5 => .bind' (.ix' hr4.2.1 hr4.2.2 fun i2 x2 _ _ => ?_)
 refine .bind' (.forI (fun _ st => SrcOk ⟨st.1, st.2.1⟩ ∧ st.2.2 = fs) (fun _ => False) ⟨hr5.1, rfl⟩ ?_ (fun _ _ => ?_) fun _ h => h.elim)
 case refine_2 =>
  simp only [Sum.elim_inl]
  unfold Vt.J3
  exact .eq (aa fun r => r) rfl
 rintro k ⟨L0, A0, fs'⟩ hk ⟨h1, h0⟩
 dsimp only at h1 h0
 have h0 := h0.symm
 subst h0
 unfold Vt.B4
 dsimp only
 refine .bind' (.ix k rfl hk ?_)
 generalize [raw, n][k] = x
 rw [Bp (by omega)]
 refine .bind' (.sub 0 (fs.length - 1) rfl (by omega) (Nat.zero_le _) (by omega) ?_)
 refine .bind' (.forI (fun _ st => SrcOk ⟨st.1, st.2⟩) (fun _ => False) h1 ?_ (fun st h => ?_) fun _ h => h.elim)
 ·rintro m ⟨L1, A1⟩ hm h2
  dsimp only at h2
  unfold Vt.B9
  refine .bind' (.ix m rfl hm ?_)
  dsimp only
  generalize ([G, fs, fs.set i1 r3.1, List.take (fs.length - 1 - 0) (List.drop 0 fs)])[m] = y
  obtain ⟨r, e1, e2, _⟩ := gD x y
  refine .bind' (.eq e1 (.bind' (.eq e2 ?_)))
  rw [if_neg (by simp)]
  refine .bind (lR h2 (by dsimp only; omega) (by dsimp only; omega) (by dsimp only; omega)) fun r6 hr6 => ?_
  refine .bind' (.forI (fun _ _ => True) (fun _ => False) trivial ?_ (fun _ _ => .pure hr6) fun _ h => h.elim)
  intro a _ ha _
  unfold Vt.B11
  refine .bind' (.ix a rfl ha ?_)
  dsimp only
  refine .bind' (.forI (fun _ _ => True) (fun _ => False) trivial ?_ (fun _ _ => .pure trivial) fun _ h => h.elim)
  intro b _ hb _
  unfold Vt.B13
  refine .bind' (.ix b rfl hb ?_)
  dsimp only
  obtain ⟨w, f1, f2⟩ := lB x y ([q, (⟨R, P, M⟩ : Plan), r6.1][a]) ([other, g, g.set i2 r5.1][b])
  refine .bind' (.eq f1 (.bind' (.eq f2 (.bind' (.eq (He _) ?_)))))
  rw [if_neg (by simp)]
  refine .bind' (.eq (He _) ?_)
  rw [if_neg (by simp)]
  unfold Vt.J14
  rw [if_neg (by simp)]
  exact .pure trivial
 ·simp only [Sum.elim_inl]
  unfold Vt.J6
  refine .bind (Gj h (by decide) (by decide)) fun r7 hr7 => ?_
  refine .bind' (.forI (fun _ _ => True) (fun _ => False) trivial ?_ (fun _ _ => .pure ⟨hr7.1, rfl⟩) fun _ h => h.elim)
  intro a _ ha _
  unfold Vt.B7
  refine .bind' (.ix a rfl ha ?_)
  dsimp only
  obtain ⟨w, f1, f2⟩ := nX x fs ⟨R, P, M⟩ g ([Y, r7.1][a])
  refine .bind' (.eq f1 (.bind' (.eq f2 (.bind' (.eq (He _) ?_)))))
  rw [if_neg (by simp)]
  refine .bind' (.eq (He _) ?_)
  rw [if_neg (by simp)]
  unfold Vt.J8
  rw [if_neg (by simp)]
  exact .pure trivial
end Go.Proofs.YtaoclefkknloiaaGreat
namespace Go.Aw
set_option linter.unusedVariables false
set_option linter.unusedSimpArgs false
open Go.ChangeShapes Go.WideShapes Go.ChangeAt Go.RowKit
section
variable {H : Type} {enc : TypeId × Value → H} {P : Program}
theorem Ld (hl : laidOutB P = true) {W W' : World} (hb : Below W.heap.size W W') : ∀ {G : List TypeId} {vs : List Value} {ds : List (DataW H)} {ps : List MemPlace},
  (∀ t, t ∈ G → P.readableRec t = true ∧ t < P.types.size) → (∀ x, x ∈ ps → x.block < W.heap.size) → DataW.TrodAll enc P W 0 (fun _ => true) true G vs ds ps →
  DataW.TrodAll enc P W' 0 (fun b => decide (b < W.heap.size)) true G vs ds ps
 | [], vs, ds, ps, _, _, h => by
  cases vs <;> cases ds <;> simp [DataW.TrodAll] at h ⊢
  exact h
 | t :: G, vs, ds, ps, ht, hlt, h => by
  obtain ⟨v, vs', d, aa, p, q, rfl, rfl, rfl, h1, h2⟩ := trodAll_cons h
  have Z := ht t (by simp)
  exact ⟨p, q, Below.trod hl Z.1 Z.2 h1 hb (fun x Y => hlt x (by simp [Y])), Ld hl hb (fun t M => ht t (by simp [M])) (fun x Y => hlt x (by simp [Y])) h2, rfl⟩
theorem hT {f : Func} {s : ChangeSpec} {W W' : World} {args : Array Value} {ds : List (DataW H)} {p : List MemPlace} {t : TypeId} (hW : DataW.Whole enc P f.params.toList s.vars false W args.toList ds [] (p ++ []))
  (hA : DataW.TrodAll enc P W 0 (fun _ => true) true f.params.toList args.toList ds p)
  (Y : (s.fn H (ds ++ [])).results = [.lit (.bool true)]) (G : (s.fn H (ds ++ [])).args = ds) (hv : (s.fn H (ds ++ [])).vars = []) (ab : s.vars = [])
  (Z : f.resultTypes.toList = [t]) (hu : P.underlying t = some .bool) (hl : laidOutB P = true) (M : ∀ t, t ∈ f.params.toList → P.readableRec t = true ∧ t < P.types.size)
  (hb : Below W.heap.size W W') : s.post enc P f false true false false W args (.bool true) W' := by
 have aa : ∀ x, x ∈ p → x.block < W.heap.size := fun x hx => hW.lt x (by simp [hx])
 have ac : f.resultTypes.size = 1 := by rw [← Array.length_toList, Z]; rfl
 refine ⟨ds, [], p ++ [], [], p, [], hW, ?_, ?_, ?_, hb.frame _, fun h => by cases h⟩
 ·rw [Y, Z, ac]
  exact trodAll_mk1 (shut_bool hu true)
 ·rw [G]
  exact Ld hl hb M aa hA
 ·rw [hv, ab]; rfl
end
theorem nU {n : Int} (h : (Lit.int .i64 n).wf = true) : -9223372036854775808 ≤ n ∧ n ≤ 9223372036854775807 := by
 have G : IntKind.i64.min = -9223372036854775808 := rfl
 have M : IntKind.i64.max = 9223372036854775807 := rfl
 simp only [Lit.wf, Bool.and_eq_true, decide_eq_true_eq] at h
 omega
theorem bI {E : Env} {f : FuncId} {xs : List T} {W : World} {args : Array Value} (M : fF fun b => W.heap[b]?) (hc : ACalls E f xs [] fun x _ => x = .v (.bool true)) (hsz : args.size = xs.length)
  (hv : ∀ (i : Nat) (x : T), xs[i]? = some x → VR (fun b => W.heap[b]?) (args.getD i undef) x) : Calls E.P f args W fun e W' => e = .returned (.bool true) ∧ Below W.heap.size W W' := by
 refine (hc.2 (fun b => W.heap[b]?) W args hsz hv ⟨fun _ _ h => h, M⟩ (by simp) (by simp)).mono ?_
 rintro e w' ⟨v, x, fp', H', rfl, rfl, Y, _, _, _, _, hs, ⟨Z, e2, e3⟩, G⟩
 refine ⟨by rw [Y.v_eq], ⟨Z, e2, e3, hs, fun k hk => (G k hk (by simp)).1⟩⟩
def Sees (G : GH) : List Value → List T → Prop
 | [], [] => True
 | v :: vs, x :: xs => CR G v x ∧ Sees G vs xs
 | _, _ => False
theorem Sees.app {G : GH} : ∀ {a : List Value} {r : List T} {b : List Value} {s : List T}, Sees G a r → Sees G b s → Sees G (a ++ b) (r ++ s)
 | [], [], _, _, _, h => h
 | _ :: _, _ :: _, _, _, h, h' => ⟨h.1, Sees.app h.2 h'⟩
 | [], _ :: _, _, _, h, _ => h.elim
 | _ :: _, [], _, _, h, _ => h.elim
theorem Sees.len {G : GH} : ∀ {a : List Value} {r : List T}, Sees G a r → a.length = r.length
 | [], [], _ => rfl
 | _ :: _, _ :: _, h => by simp [Sees.len h.2]
 | [], _ :: _, h => h.elim
 | _ :: _, [], h => h.elim
theorem Sees.get {G : GH} : ∀ {a : List Value} {r : List T}, Sees G a r → ∀ (j : Nat) (x : T), r[j]? = some x → ∃ v, a[j]? = some v ∧ CR G v x
 | v :: _, _ :: _, h, 0, x, hx => ⟨v, rfl, by simp at hx; subst hx; exact h.1⟩
 | _ :: _, _ :: _, h, j + 1, x, hx => by simpa using Sees.get h.2 j x (by simpa using hx)
 | [], [], _, j, x, hx => by simp at hx
 | [], _ :: _, h, _, _, _ => h.elim
 | _ :: _, [], h, _, _, _ => h.elim
theorem Tj {α : Type} {P : Nat → α → Prop} : ∀ {n : Nat}, (∀ i, i < n → ∃ a, P i a) → ∃ l : List α, l.length = n ∧ ∀ (i : Nat) (a : α), l[i]? = some a → P i a
 | 0, _ => ⟨[], rfl, by simp⟩
 | n + 1, h => by
  obtain ⟨l, M, Z⟩ := Tj (n := n) fun i hi => h i (by omega)
  obtain ⟨a, Y⟩ := h n (by omega)
  refine ⟨l ++ [a], by simp [M], fun i b G => ?_⟩
  rw [List.getElem?_append] at G
  split at G
  ·exact Z i b G
  ·have := (gs G).1
   simp at this
   have e : i = n := by omega
   subst e
   simp [M] at G
   subst G; exact Y
section
variable {H : Type} {enc : TypeId × Value → H} {P : Program} {W : World} {α β : Type} {t e : TypeId} {r : α → List T} {s : β → List T}
def Opn (enc : TypeId × Value → H) (P : Program) (W : World) (t : TypeId) (r : α → List T) : Prop :=
 ∀ (G : Nat) (M : List Value) (y : DataW H × List MemPlace), DataW.trod enc P W 0 (fun _ => true) true G t M = some y → (∀ n, n ∈ y.1.weights P t → n ≤ reachBytes) → ∃ a : α, Sees (fun b => W.heap[b]?) M (r a)
theorem Opn.int {k : IntKind} (M : P.underlying t = some (.int k)) : Opn enc P W t fun n : Int => [.v (.int k n)] := fun G cs y h _ => by
 obtain ⟨n, rfl, _, _⟩ := DataW.trod_int M h
 exact ⟨n, ⟨rfl, .v _⟩, trivial⟩
theorem Opn.string (M : P.underlying t = some .string) : Opn enc P W t rS := fun G cs y h _ => by
 obtain ⟨n, rfl, _, _⟩ := DataW.trod_string M h
 exact ⟨n, ⟨rfl, .v _⟩, trivial⟩
theorem Opn.bool (M : P.underlying t = some .bool) : Opn enc P W t fun n : Bool => [.v (.bool n)] := fun G cs y h _ => by
 obtain ⟨n, rfl, _⟩ := DataW.trod_bool M h
 exact ⟨n, ⟨rfl, .v _⟩, trivial⟩
theorem Opn.map (h : Opn enc P W t r) (g : α → β) (he : ∀ a, s (g a) = r a) : Opn enc P W t s := fun G cs y Z Y => by
 obtain ⟨a, M⟩ := h G cs y Z Y
 exact ⟨g a, by rw [he]; exact M⟩
def OpnF (enc : TypeId × Value → H) (P : Program) (W : World) (N o : Nat) (fs : List Field) (r : α → List T) : Prop :=
 ∀ (G : Nat) (M : List Value) (Y : List (DataW H × List MemPlace)), M.length = N → Y.length = fs.length →
  (∀ (i : Nat) (f : Field), fs[i]? = some f → DataW.trod enc P W 0 (fun _ => true) true G f.type ((M.drop f.offset).take (P.cellsOf f.type)) = Y[i]?) →
  (∀ n, n ∈ DataW.weightsEach P (fs.map (·.type)) (Y.map (·.1)) → n ≤ reachBytes) → ∃ a : α, Sees (fun b => W.heap[b]?) (M.drop o) (r a)
theorem OpnF.nil {N : Nat} : OpnF enc P W N N [] fun _ : Unit => [] := fun G cs M h _ _ _ => ⟨(), by rw [← h, List.drop_length]; trivial⟩
theorem OpnF.cons {N o k : Nat} {f : Field} {fs : List Field} (hf : f.offset = o) (hk : P.cellsOf f.type = k) (h1 : Opn enc P W f.type r) (h2 : OpnF enc P W N (o + k) fs s) :
  OpnF enc P W N o (f :: fs) fun a : α × β => r a.1 ++ s a.2 := fun G cs Z hN hl hy Y => by
 cases Z with
 | nil => cases hl
 | cons y Z =>
  simp only [List.map_cons, DataW.weightsEach, List.mem_append] at Y
  obtain ⟨a, ha⟩ := h1 G _ y (hy 0 f rfl) fun n M => Y n (.inl M)
  obtain ⟨b, hb⟩ := h2 G cs Z hN (by simpa using hl) (fun i g hg => by have := hy (i + 1) g (by simpa using hg); simpa using this) fun n M => Y n (.inr M)
  refine ⟨(a, b), ?_⟩
  rw [hf, hk] at ha
  have := ha.app hb
  rwa [← List.drop_drop, List.take_append_drop] at this
theorem Opn.struct {fs : Array Field} {N : Nat} (M : P.underlying t = some (.struct fs)) (Y : P.cellsOf t = N) (h : OpnF enc P W N 0 fs.toList r) : Opn enc P W t r := fun G cs y hy hw => by
 obtain ⟨xs, n, _, rfl, hl, hlen, hf⟩ := DataW.trod_struct M hy
 exact h n cs xs (hl.trans Y) (by simpa using hlen) (fun i f hi => hf i f (by simpa using hi)) fun m Z => hw m (by simpa [DataW.weights, M] using Z)
theorem Sr {ds : List (DataW H)} : ∀ {d : DataW H}, d ∈ ds → ∀ n, n ∈ d.weights P e → n ∈ DataW.weightsAll P e ds := by
 induction ds with
 | nil => intro d h; simp at h
 | cons d0 ds ih =>
  intro d h n G
  simp only [DataW.weightsAll, List.mem_append]
  rcases List.mem_cons.1 h with rfl | h
  ·exact .inl G
  ·exact .inr (ih h n G)
theorem Opn.list {k : Nat} (ht : P.underlying t = some (.slice e)) (hb : 1 ≤ P.bytesOf e) (hk : P.cellsOf e = k + 1) (hr : ∀ a, (r a).length = k + 1) (h : Opn enc P W e r) :
  Opn enc P W t fun l : List α => [.list (k + 1) (l.map r)] := fun fuel cs y hy hw => by
 rcases DataW.trod_slice ht hy with ⟨rfl, _⟩ | ⟨a, len, cap, G, rest, n, _, rfl, rfl, hb0, hl, hm, hlen, hel, hsp, hns⟩
 ·exact ⟨[], ⟨rfl, .empty _ _ _⟩, trivial⟩
 have hmax : len ≤ Kw := by
  have := hw ((G.length + rest.length) * P.bytesOf e) (by simp [DataW.weights, ht])
  have h1 : (G.length + rest.length) * 1 ≤ (G.length + rest.length) * P.bytesOf e := Nat.mul_le_mul_left _ hb
  simp only [reachBytes] at this
  unfold Kw
  omega
 have each : ∀ i, i < len → ∃ x : α, ∃ cs' : List Value, Sees (fun b => W.heap[b]?) cs' (r x) ∧ W.cells? 0 (a.add (i * (k + 1))) (k + 1) = some cs' := fun i hi => by
  obtain ⟨y', hy'⟩ : ∃ y', G[i]? = some y' := ⟨_, gq (by omega)⟩
  have := hel i hi
  rw [hk, hy', Option.bind_eq_some_iff] at this
  obtain ⟨cs', hc, ht'⟩ := this
  obtain ⟨x, hx⟩ := h n cs' y' ht' fun m hm => hw m (by
   simp only [DataW.weights, ht, List.mem_cons, List.mem_append]
   exact .inr (.inl (Sr (List.mem_map.2 ⟨y', mg hy', rfl⟩) m hm)))
  exact ⟨x, cs', hx, hc⟩
 obtain ⟨l, hll, hp⟩ := Tj each
 refine ⟨l, ⟨rfl, ?_⟩, trivial⟩
 by_cases hl0 : len = 0
 ·have : l = [] := List.eq_nil_of_length_eq_zero (by omega)
  subst this; subst hl0; exact .empty _ _ _
 have M : ∀ (i : Nat) (x : α), l[i]? = some x → ∀ (j : Nat) (z : T), (r x)[j]? = some z → ∃ v, W.cell? (a.add (i * (k + 1) + j)) = some v ∧ CR (fun b => W.heap[b]?) v z := fun i x hx j z hz => by
  obtain ⟨cs', hs, hc⟩ := hp i x hx
  obtain ⟨v, hv, hr'⟩ := hs.get j z hz
  have := (World.cells?_some hc).2.2 j (by have := (gs hz).1; rw [hr] at this; omega)
  rw [hv] at this
  exact ⟨v, by rw [← this, Addr.add_add], hr'⟩
 obtain ⟨x0, hx0⟩ : ∃ x, l[len - 1]? = some x := ⟨_, gq (by omega)⟩
 obtain ⟨z0, hz0⟩ : ∃ z, (r x0)[k]? = some z := ⟨_, gq (by rw [hr]; omega)⟩
 obtain ⟨v0, Y, _⟩ := M _ x0 hx0 k z0 hz0
 obtain ⟨x1, hx1⟩ : ∃ x, l[0]? = some x := ⟨_, gq (by omega)⟩
 obtain ⟨z1, hz1⟩ : ∃ z, (r x1)[0]? = some z := ⟨_, gq (by rw [hr]; omega)⟩
 obtain ⟨v1, hv1, _⟩ := M _ x1 hx1 0 z1 hz1
 obtain ⟨b, aa, spot⟩ := a
 have hspot : spot = none := by simpa [Addr.add] using World.cell?_spot hv1
 subst hspot
 simp only [Dh] at M Y
 have hcs : ∃ cs ty fr, W.heap[b]? = some (.cells cs ty fr) := by
  unfold World.cell? at Y
  split at Y
  ·rename_i c ty fr hh; exact ⟨_, _, _, hh⟩
  ·cases Y
 obtain ⟨cs, ty, fr, hh⟩ := hcs
 have Z : ∀ (i : Nat) (e' : List T), (l.map r)[i]? = some e' → ∀ (j : Nat) (z : T), e'[j]? = some z → CR (fun b => W.heap[b]?) (cs.getD (aa + i * (k + 1) + j) undef) z := fun i e' he j z hz => by
  simp only [List.getElem?_map, Option.map_eq_some_iff] at he
  obtain ⟨x, hx, rfl⟩ := he
  obtain ⟨v, hv, hr'⟩ := M i x hx j z hz
  simp only [World.cell?, hh] at hv
  rw [Array.getD_eq_getD_getElem?, Nat.add_assoc]
  have : cs[aa + (i * (k + 1) + j)]? = some v := by simpa using hv
  rw [this]; exact hr'
 have hbig : aa + (len - 1) * (k + 1) + k < cs.size := by
  simp only [World.cell?, hh] at Y
  have : cs[aa + ((len - 1) * (k + 1) + k)]? = some v0 := by simpa using Y
  have := (Array.getElem?_eq_some_iff.1 this).1
  omega
 have hlm : (l.map r).length = len := by rw [List.length_map, hll]
 have hmul : len * (k + 1) = (len - 1) * (k + 1) + (k + 1) := by
  obtain ⟨m, rfl⟩ : ∃ m, len = m + 1 := ⟨len - 1, by omega⟩
  rw [Nat.add_sub_cancel, Nat.succ_mul]
 have := VR.list (H := fun b => W.heap[b]?) b aa cap (k + 1) (l.map r) cs ty fr hh (by rw [hlm]; exact hl) (by rw [hlm]; exact hmax) (by rw [hlm, hmul]; omega)
  (fun i e' he => by simp only [List.getElem?_map, Option.map_eq_some_iff] at he; obtain ⟨x, _, rfl⟩ := he; exact hr x)
  (fun i e' he j z hz => (Z i e' he j z hz).1) (fun i e' he j z hz => (Z i e' he j z hz).2)
 rw [hlm] at this
 exact this
theorem Opn.agg {ts : List TypeId} {ds : List (DataW H)} {j : Nat} {G : Nat} {q : Reach} {v : Value} {d : DataW H} {ps : List MemPlace} {fs : Array Field} (h : Opn enc P W t r) (hsz : (DataW.weightsEach P ts ds).all (· ≤ reachBytes) = true) (hj : ts[j]? = some t) (hd : ds[j]? = some d)
  (ht : P.underlying t = some (.struct fs)) (Y : Value.okWide P W q G t v) (hv : DataW.Trod enc P W 0 (fun _ => true) true t v d ps) : ∃ a, VR (fun b => W.heap[b]?) v (.agg (r a)) := by
 obtain ⟨cs, rfl, _⟩ := okWide_struct ht Y
 obtain ⟨M, hf⟩ := hv
 obtain ⟨a, ha⟩ := h M _ _ hf fun n hn => by simpa using List.all_eq_true.1 hsz _ (DataW.weights_mem_each hj hd n hn)
 have ha : Sees (fun b => W.heap[b]?) cs.toList (r a) := ha
 have g : ∀ (j : Nat) (x : T), (r a)[j]? = some x → CR (fun b => W.heap[b]?) (cs.getD j undef) x := fun j x Z => by
  obtain ⟨v, hv, hr⟩ := ha.get j x Z
  rw [Array.getD_eq_getD_getElem?, show cs[j]? = some v by simpa using hv]; exact hr
 exact ⟨a, .agg cs (r a) (by simpa using ha.len) (fun j x Z => (g j x Z).1) fun j x Z => (g j x Z).2⟩
theorem Opn.one {Y : List TypeId} {ds : List (DataW H)} {j : Nat} {v : Value} {d : DataW H} {ps : List MemPlace} {x : α → T} (h : Opn enc P W t fun a => [x a]) (hsz : (DataW.weightsEach P Y ds).all (· ≤ reachBytes) = true) (hj : Y[j]? = some t) (Z : ds[j]? = some d)
  (hc : v.cells = #[v]) (hv : DataW.Trod enc P W 0 (fun _ => true) true t v d ps) : ∃ a, VR (fun b => W.heap[b]?) v (x a) := by
 obtain ⟨G, hf⟩ := hv
 obtain ⟨a, M⟩ := h G _ _ hf fun n hn => by simpa using List.all_eq_true.1 hsz _ (DataW.weights_mem_each hj Z n hn)
 rw [hc] at M
 exact ⟨a, M.1.2⟩
theorem Ke {G : Nat} {q : Reach} {v : Value} (Z : P.underlying t = some (.slice e)) (M : Value.okWide P W q G t v) : v.cells = #[v] := by
 obtain ⟨a, aa, Y, rfl⟩ := okWide_slice Z M; rfl
end
end Go.Aw
