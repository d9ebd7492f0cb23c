/- Plain proofs. No condition. -/
import Derived.Test.YtligpmmgdjipbaaZvP2
set_option maxRecDepth 100000
namespace Go.Proofs.Ytligpmmgdjipbaa
set_option linter.unusedVariables false
set_option linter.unusedSimpArgs false
open Go.Aw
section
variable {n : Network} {p : Plan} {g od : List Int} {fs gws os : List (List Piece)} {F0 F G O : Nat → List Int} {l : List Int}
theorem Stp.outLen (h : Stp n p g F0 l F G O) {k : Nat} {x : Port} {r : Int} (hx : n.Ports[k]? = some x) (hr : p.Ports[k]? = some r) : ((O k).length : Int) = if x.Node ∈ l then max 0 (-r) else 0 := by
 have hk := (gs hx).1
 induction h with
 | nil => simp
 | @snoc l F G O ZP ZS v h hs ih =>
  dsimp only
  have hc := cP_of (v := v) (b := false) hx hr
  by_cases hv : x.Node = v
  ·subst hv
   have hR : (if x.Node ∈ l ++ [x.Node] then max 0 (-r) else 0) = max 0 (-r) := if_pos (by simp)
   rw [hR]
   rcases Int.lt_trichotomy r 0 with h2 | h2 | h2
   ·rw [if_pos ⟨rfl, by omega, by simp; omega⟩] at hc
    rw [if_pos (by rw [hc]; rfl), hs.lenP k _ hk hc]; omega
   ·rw [if_neg (fun h => h.2.1 h2)] at hc
    rw [if_neg (by rw [hc]; simp), ih]; split <;> omega
   ·rw [if_neg (fun h => by have := h.2.2; simp at this; omega)] at hc
    rw [if_neg (by rw [hc]; simp), ih]; split <;> omega
  ·rw [if_neg (fun h => hv h.1)] at hc
   rw [if_neg (by rw [hc]; simp), ih]
   have : (x.Node ∈ l ++ [v]) = (x.Node ∈ l) := by simp [hv]
   simp only [this]
theorem Stp.idle (h : Stp n p g F0 l F G O) {i : Nat} (hi : ∀ s r, ¬ Flw n p i s r) : F i = F0 i := by
 induction h with
 | nil => rfl
 | @snoc l F G O ZP ZS v h hs ih =>
  dsimp only
  have hc : cS n p v false i = none := by
   cases hc : cS n p v false i with
   | none => rfl
   | some a => obtain ⟨s, r, hf, _⟩ := cS_some hc; exact absurd hf (hi s r)
  rw [if_neg (by rw [hc]; simp), ih]
theorem TickR.outLen (hL : Ln n p g) (h : TickR n p g F0 F O) {k : Nat} {x : Port} {r : Int} (hx : n.Ports[k]? = some x) (hr : p.Ports[k]? = some r) : ((O k).length : Int) = max 0 (-r) := by
 obtain ⟨od, G, _, _, h1, h2, _⟩ := h
 have hn := (hL.net.ports k x hx).node
 rw [h2.outLen hx hr, if_pos]
 obtain ⟨v, hv⟩ := nat_of hn.1
 rw [hv] at hn ⊢
 exact h1 v (by omega)
theorem TickR.out1000 (hL : Ln n p g) (h : TickR n p g F0 F O) {k : Nat} (hk : k < n.Ports.length) : (O k).length ≤ 1000 := by
 obtain ⟨x, hx⟩ := get_of hk
 obtain ⟨r, hr⟩ := get_of (l := p.Ports) (k := k) (by have := hL.flow.pl; omega)
 have := h.outLen hL hx hr
 have := hL.flow.prt k r hr
 omega
inductive Tks (n : Network) (p : Plan) (g : List Int) (fs0 : List (List Piece)) (F0 : Nat → List Int) : Nat → List (List Piece) → (Nat → List Int) → (Nat → List Int) → Prop
 | zero : Tks n p g fs0 F0 0 fs0 F0 (fun _ => [])
 | succ {k : Nat} {fs fs' os : List (List Piece)} {F F' A O : Nat → List Int} : Tks n p g fs0 F0 k fs F A → L.zcgl n fs p g = some (fs', os, 0) → TickR n p g F F' O → Fil n fs' F' → Rp n.Ports.length os O →
   Tks n p g fs0 F0 (k + 1) fs' F' (fun j => A j ++ O j)
theorem Tks.fil {fs0 : List (List Piece)} {k : Nat} {A : Nat → List Int} (h0 : Fil n fs0 F0) (h : Tks n p g fs0 F0 k fs F A) : Fil n fs F := by
 cases h with
 | zero => exact h0
 | succ _ _ _ h _ => exact h
theorem Tks.len (hL : Ln n p g) {fs0 : List (List Piece)} {k : Nat} {A : Nat → List Int} (h : Tks n p g fs0 F0 k fs F A) {j : Nat} (hj : j < n.Ports.length) : (A j).length ≤ 1000 * k := by
 induction h with
 | zero => simp
 | succ _ _ h _ _ ih => have := h.out1000 hL hj; rw [List.length_append]; omega
theorem Rp.inj {m : Nat} {l : List (List Piece)} {F G : Nat → List Int} (h : Rp m l F) (h' : Rp m l G) {i : Nat} (hi : i < m) : F i = G i := by
 have := h.get i hi
 rw [h'.get i hi] at this
 exact (rle_inj (Option.some.inj this)).symm
theorem Tks.det {fs0 : List (List Piece)} {k : Nat} {A : Nat → List Int} (h : Tks n p g fs0 F0 k fs F A) : ∀ {fs1 : List (List Piece)} {F1 A1 : Nat → List Int}, Tks n p g fs0 F0 k fs1 F1 A1 → fs = fs1 ∧ ∀ j, j < n.Ports.length → A j = A1 j := by
 induction h with
 | zero => intro _ _ _ h1; cases h1; exact ⟨rfl, fun _ _ => rfl⟩
 | succ h t1 _ _ r1 ih =>
  intro _ _ _ h1
  cases h1 with
  | succ h2 t2 _ _ r2 =>
   obtain ⟨rfl, ha⟩ := ih h2
   rw [t1] at t2
   cases t2
   exact ⟨rfl, fun j hj => by dsimp only; rw [ha j hj, r1.inj r2 hj]⟩
theorem Tks.idle {fs0 : List (List Piece)} {k : Nat} {A : Nat → List Int} (h : Tks n p g fs0 F0 k fs F A) {i : Nat} (hi : ∀ s r, ¬ Flw n p i s r) : F i = F0 i := by
 induction h with
 | zero => rfl
 | succ _ _ t _ _ ih => obtain ⟨od, G, _, _, _, h2, _⟩ := t; rw [h2.idle hi, ih]
theorem tick_state : L.zlri ⟨n, p, g, od, fs, gws, os⟩ = L.zlri ⟨n, p, g, od, fs, [], []⟩ := rfl
theorem joins_ok {A O : Nat → List Int} {out so : List (List Piece)} {r : Int × List (List Piece) × List (List Piece) × List (List Piece)} (hr : r.2.2.2 = so) (hA : Rp n.Ports.length out A) (hO : Rp n.Ports.length so O) (bA : ∀ j, j < n.Ports.length → (A j).length ≤ 1000000) (bO : ∀ j, j < n.Ports.length → (O j).length ≤ 1000) :
  Ok (forI (L.zctt.B6 r) 0 so.length out) (Sum.elim (fun st => Rp n.Ports.length st fun j => A j ++ O j) fun d => d = ([], [], 4)) := by
 subst hr
 refine .forI (fun k st => Rp n.Ports.length st fun j => if j < k then A j ++ O j else A j) (fun d => d = ([], [], 4)) (hA.congr fun j _ => by rw [if_neg (by omega)]) ?_ (fun st h => ?_) fun _ h => h
 ·intro k st hk h
  rw [hO.len] at hk
  have h1 := h.get k hk
  rw [if_neg (by omega)] at h1
  have b1 := bA k hk; have b2 := bO k hk
  unfold L.zctt.B6
  refine .bind' (.eq (ix_nat (hO.get k hk)) (.bind' (.eq (ix_nat h1) ?_)))
  dsimp only
  rw [join_rle (rle_can _).pos (by rw [vol_rle]; omega), Option.bind_some, lit_rle]
  refine .bind' (.eq (ix_nat (x := rle (A k ++ O k)) ?_) ?_)
  ·rw [List.getElem?_set, if_pos rfl, if_pos (by rw [h.len]; exact hk)]
  ·refine Ok.iteD (fun _ => .pure rfl) fun _ => .pure ?_
   refine (h.set (i := k) _).congr fun i hi => ?_
   unfold upd
   by_cases e : i = k
   ·subst e; rw [if_pos rfl, if_pos (by omega)]
   ·rw [if_neg e]
    dsimp only
    by_cases h2 : i < k
    ·rw [if_pos h2, if_pos (by omega)]
    ·rw [if_neg h2, if_neg (by omega)]
 ·show Rp n.Ports.length st fun j => A j ++ O j
  exact h.congr fun j hj => by rw [if_pos (by rw [hO.len]; exact hj)]
theorem Run_ok (hL : Ln n p g) (h : Fil n fs F0) {t : Nat} (ht : t ≤ 400) : Ok (L.zctt n fs p g (t : Int)) fun q => (q = ([], [], 4) ∧ 1 ≤ t) ∨ q.2.2 = 0 ∧ ∃ F A, Tks n p g fs F0 t q.1 F A ∧ Rp n.Ports.length q.2.1 A := by
 have s2 := hL.net.ports1
 unfold L.zctt
 rw [if_neg (by simp; omega)]
 refine .bind (start_ok hL h) ?_
 rintro ⟨_, _⟩ ⟨rfl, od, o1, o2, o3, rfl⟩
 show Ok (Option.bind (mk? (n.Ports.length : Int) ([] : List Piece)) _) _
 refine .bind' (.mk n.Ports.length rfl (by omega) (.bind' (.chk (by omega) ?_)))
 rw [show ((t : Int).toNat) = t by omega]
 refine .bind' (.forI (fun k st => ∃ F A, Tks n p g fs F0 k st.1 F A ∧ Rp n.Ports.length st.2.2.2 A) (fun q => q = ([], [], 4) ∧ 1 ≤ t) ⟨F0, _, .zero, ⟨by simp, fun i hi => by rw [List.getElem?_replicate, if_pos hi]; rfl⟩⟩ ?_ ?_ fun q hq => .pure (.inl hq))
 ·rintro k ⟨f1, g1, o1', a1⟩ hk ⟨F, A, h1, h2⟩
  dsimp only at h1 h2
  have hf := h1.fil h
  have hT := Tick_eq hL hf o1
  obtain ⟨⟨qc, qf, qg, qo⟩, hq1, hq⟩ := tick_ok (gws := []) (os := []) hL o2 hf.rp hf.vd
  rw [hq1, Option.bind_some] at hT
  unfold L.zctt.B4
  dsimp only
  rw [tick_state]
  refine .bind' (.eq hq1 ?_)
  rcases hq with hq | ⟨hq, F', G', O', q1, q2, q3, q4, q5⟩
  ·dsimp only at hq; subst hq
   rw [if_pos (by simp)]
   exact .pure ⟨rfl, by omega⟩
  ·dsimp only at hq; subst hq
   rw [if_neg (by simp)] at hT ⊢
   dsimp only at hT q3 q4 q5
   have hTR : TickR n p g F F' O' := ⟨od, G', o1, o2, o3, q1, q2⟩
   refine .bind (joins_ok (so := qo) rfl h2 q5 (fun j hj => by have := h1.len hL hj; omega) fun j hj => hTR.out1000 hL hj) ?_
   rintro (st | d) hst
   ·exact .pure ⟨F', _, .succ h1 hT hTR ⟨q3, q2.vF, fun i s hs => by rw [q1.len i]; exact hf.cap i s hs⟩ q5, hst⟩
   ·exact .pure ⟨hst, by omega⟩
 ·rintro ⟨f1, g1, o1', a1⟩ ⟨F, A, h1, h2⟩
  exact .pure (.inr ⟨rfl, F, A, h1, h2⟩)
end
theorem u8_mod {w : Int} (hw : 0 ≤ w ∧ w ≤ 255) {m : Int} (hm : 1 ≤ m ∧ m ≤ 1000) : ∃ t : Nat, (wr w).tmod m = (t : Int) ∧ (t : Int) < m := by
 rw [wr_id (by omega), Int.tmod_eq_emod_of_nonneg hw.1]
 have h1 := Int.emod_nonneg w (by omega : m ≠ 0)
 have h2 := Int.emod_lt_of_pos w (by omega : 0 < m)
 exact ⟨(w % m).toNat, by omega, by omega⟩
theorem advanceSteps (l : List Int) (w : Int) (hw : 0 ≤ w ∧ w ≤ 255) : L.zzec l w = some true := by
 have : Ok (L.zzec l w) fun r => r = true := by
  unfold L.zzec
  refine .bind (new_ok l) fun d0 hd0 => .bind (net_ok hd0) ?_
  rintro ⟨n, d1⟩ ⟨hn, hd1⟩
  dsimp only at hn hd1 ⊢
  refine .bind (fills_ok hn hd1 (m := 3) (by omega)) ?_
  rintro ⟨fs, d2⟩ ⟨hd2, F0, hf, _⟩
  refine .bind (plan_ok hn hd2) ?_
  rintro ⟨⟨R, P, M⟩, d3⟩ ⟨hp, hd3⟩
  refine .bind (feeds_ok hn hd3 (m := 4) (by omega)) ?_
  rintro ⟨g, d4⟩ ⟨hd4, hg1, hg2⟩
  dsimp only at hf hp hg1 hg2 ⊢
  have s1 := hn.segs1; have s2 := hn.ports1; have s3 := hn.sts1
  have hL : Ln n ⟨R, P, M⟩ g := ⟨hn, hp.flow, hg1, fun b hb => by have := hg2 b hb; omega⟩
  obtain ⟨t, ht, ht5⟩ := u8_mod hw (m := 5) (by omega)
  unfold L.zzec.J1
  dsimp only
  rw [ht]
  obtain ⟨⟨qf, qo, qe⟩, hq1, hq⟩ := Run_ok hL hf (t := t) (by omega)
  refine .bind' (.eq hq1 (.bind' (.mk n.Ports.length rfl (by omega) ?_)))
  have wake : Ok (Option.bind L.zdqe fun r => some r) fun r => r = true := by rw [awake18]; exact .pure rfl
  refine .bind (Q := Sum.elim (fun b : Bool => b = true) fun d : List (List Piece) × List (List Piece) => qe ≠ 4 ∧ ∃ F A, Tks n ⟨R, P, M⟩ g fs F0 t d.1 F A ∧ Rp n.Ports.length d.2 A)
   (.loop (fun st => ∃ k : Nat, st.2.2 = (k : Int) ∧ k ≤ t ∧ (1 ≤ k → qe ≠ 4) ∧ ∃ F A, Tks n ⟨R, P, M⟩ g fs F0 k st.1 F A ∧ Rp n.Ports.length st.2.1 A) (fun st => t - st.2.2.toNat)
    ⟨0, rfl, by omega, by omega, F0, _, .zero, ⟨by simp, fun i hi => by rw [List.getElem?_replicate, if_pos hi]; rfl⟩⟩ (by dsimp only; omega) ?_) ?_
  ·rintro ⟨now, out, _⟩ ⟨k, rfl, hk, hk4, F, A, h1, h2⟩
   dsimp only at h1 h2
   have hfk := h1.fil hf
   unfold L.zzec.B7
   dsimp only
   rw [ht]
   refine Ok.iteD (fun hlt => ?_) fun hlt => ?_
   ·obtain ⟨⟨tf, to, te⟩, hT, hT2⟩ := Tick_ok hL hfk
    refine .bind' (.eq hT ?_)
    dsimp only
    refine Ok.iteB (fun _ => ?_) fun h4 => ?_
    ·rw [awake18]; exact .pure rfl
    ·simp at h4
     rcases hT2 with hT2 | ⟨hT2, F', O, q1, q2, q3⟩
     ·cases hT2; exact absurd rfl h4.1
     ·dsimp only at hT2 q1 q2 q3
      subst hT2
      rw [if_neg (by simp [q3.len, h2.len])]
      refine .bind (Q := fun r => Rp n.Ports.length r fun j => A j ++ O j) (.forJ (fun i r => Rp n.Ports.length r fun j => if j < i then A j ++ O j else A j) (h2.congr fun j _ => by rw [if_neg (by omega)]) ?_ fun r hr => hr.congr fun j hj => by rw [if_pos (by rw [h2.len]; exact hj)]) ?_
      ·intro i r hi hr
       rw [h2.len] at hi
       have hr1 := hr.get i hi
       rw [if_neg (by omega)] at hr1
       have b1 := h1.len hL hi; have b2 := q1.out1000 hL hi
       have l1 := rle_len (A i); have l2 := rle_len (O i)
       unfold L.zzec.B10
       refine .bind' (.eq (ix_nat hr1) (.bind' (.app (by simp; omega) (.bind' (.eq (ix_nat (q3.get i hi)) (.bind' (.app (by simp; omega) ?_)))))))
       dsimp only
       rw [List.nil_append]
       refine .bind' (.eq (joined_rle (f := rle (A i) ++ rle (O i)) (fun p hp => ?_) (by rw [vol_app, vol_rle, vol_rle]; omega)) (.pure ?_))
       ·rcases List.mem_append.1 hp with hp | hp
        ·have := (rle_can _).pos p hp; omega
        ·have := (rle_can _).pos p hp; omega
       ·rw [lit_app, lit_rle, lit_rle]
        refine (hr.set (i := i) _).congr fun j hj => ?_
        unfold upd
        by_cases e : j = i
        ·subst e; rw [if_pos rfl, if_pos (by omega)]
        ·rw [if_neg e]
         dsimp only
         by_cases h5 : j < i
         ·rw [if_pos h5, if_pos (by omega)]
         ·rw [if_neg h5, if_neg (by omega)]
      ·intro r hr
       refine .pure ⟨⟨k + 1, ?_, by omega, fun _ => h4.2, F', _, .succ h1 hT q1 q2 q3, hr⟩, ?_⟩
       ·dsimp only; rw [wr_id (by omega)]; omega
       ·dsimp only; rw [wr_id (by omega)]; omega
   ·obtain rfl : k = t := by omega
    refine .pure ⟨?_, F, A, h1, h2⟩
    rcases hq with ⟨hq, hq0⟩ | ⟨hq, _⟩
    ·exact hk4 hq0
    ·dsimp only at hq; omega
  ·rintro (b | ⟨now, out⟩) hd
   ·exact .pure hd
   ·obtain ⟨h4, F, A, h1, h2⟩ := hd
    rcases hq with ⟨hq, _⟩ | ⟨hq, F', A', q1, q2⟩
    ·cases hq; exact absurd rfl h4
    ·dsimp only at hq q1 q2 h1 h2
     subst hq
     obtain ⟨rfl, hA⟩ := h1.det q1
     obtain rfl : out = qo := h2.det (q2.congr fun j hj => hA j hj)
     show Ok (L.zzec.J2 (fs, R, P, M, g) (now, out, 0) (now, out)) _
     unfold L.zzec.J2
     rw [if_neg (by simp), same17_refl, Option.bind_some, if_neg (by simp), same17_refl, Option.bind_some]
     unfold L.zzec.J3
     rw [if_neg (by simp)]
     refine .bind' (.forL (fun _ _ => True) (fun _ => False) trivial ?_ (fun _ _ => wake) fun _ h => h.elim)
     intro i x _ hx _
     dsimp only at hx
     have hi := (gs hx).1
     have hrl := hp.rl
     dsimp only at hrl
     have fine : ∀ b, b = false → Ok (L.zzec.J6 b) (Sum.elim (fun _ : Unit => True) fun _ : Bool => False) := by rintro _ rfl; exact .pure trivial
     unfold L.zzec.B5
     refine Ok.iteE (fun h0 => ?_) fun _ => fine _ rfl
     have e : F i = F0 i := h1.idle fun s r hfl => by
      have := hfl.rate
      dsimp only at this
      rw [hx] at this; cases this
      exact hfl.ne h0
     have hn1 := (h1.fil hf).rp.get i (by omega)
     have hn2 := hf.rp.get i (by omega)
     rw [e] at hn1
     refine .bind' (.eq (ix_nat hn1) (.bind' (.eq (ix_nat hn2) (.bind' (.eq (same14_refl _) (fine _ rfl))))))
 obtain ⟨r, h1, rfl⟩ := this
 exact h1
end Go.Proofs.Ytligpmmgdjipbaa
