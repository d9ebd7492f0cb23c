/- Plain proofs. No condition. -/
import Derived.Test.YtligpmmgdjipbaaZvP2
set_option maxRecDepth 100000
namespace Go.Proofs.Ytligpmmgdjipbaa
set_option linter.unusedVariables false
set_option linter.unusedSimpArgs false
open Go.Aw
section
variable {n : Network} {p : Plan} {g od : List Int} {fs gws os : List (List Piece)} {F0 F G O : Nat → List Int} {l : List Int}
theorem Stp.outLen (h : Stp n p g F0 l F G O) {k : Nat} {x : Port} {r : Int} (hx : n.Ports[k]? = some x) (hr : p.Ports[k]? = some r) : ((O k).length : Int) = if x.Node ∈ l then max 0 (-r) else 0 := by
 have hk := (gs hx).1
 induction h with
 | nil => simp
 | @snoc l F G O ZP ZS v h hs ih =>
  dsimp only
  have hc := cP_of (v := v) (b := false) hx hr
  by_cases hv : x.Node = v
  ·subst hv
   have hR : (if x.Node ∈ l ++ [x.Node] then max 0 (-r) else 0) = max 0 (-r) := if_pos (by simp)
   rw [hR]
   rcases Int.lt_trichotomy r 0 with h2 | h2 | h2
   ·rw [if_pos ⟨rfl, by omega, by simp; omega⟩] at hc
    rw [if_pos (by rw [hc]; rfl), hs.lenP k _ hk hc]; omega
   ·rw [if_neg (fun h => h.2.1 h2)] at hc
    rw [if_neg (by rw [hc]; simp), ih]; split <;> omega
   ·rw [if_neg (fun h => by have := h.2.2; simp at this; omega)] at hc
    rw [if_neg (by rw [hc]; simp), ih]; split <;> omega
  ·rw [if_neg (fun h => hv h.1)] at hc
   rw [if_neg (by rw [hc]; simp), ih]
   have : (x.Node ∈ l ++ [v]) = (x.Node ∈ l) := by simp [hv]
   simp only [this]
theorem TickR.outLen (hL : Ln n p g) (h : TickR n p g F0 F O) {k : Nat} {x : Port} {r : Int} (hx : n.Ports[k]? = some x) (hr : p.Ports[k]? = some r) : ((O k).length : Int) = max 0 (-r) := by
 obtain ⟨od, G, _, _, h1, h2, _⟩ := h
 have hn := (hL.net.ports k x hx).node
 rw [h2.outLen hx hr, if_pos]
 obtain ⟨v, hv⟩ := nat_of hn.1
 rw [hv] at hn ⊢
 exact h1 v (by omega)
theorem TickR.out1000 (hL : Ln n p g) (h : TickR n p g F0 F O) {k : Nat} (hk : k < n.Ports.length) : (O k).length ≤ 1000 := by
 obtain ⟨x, hx⟩ := get_of hk
 obtain ⟨r, hr⟩ := get_of (l := p.Ports) (k := k) (by have := hL.flow.pl; omega)
 have := h.outLen hL hx hr
 have := hL.flow.prt k r hr
 omega
inductive Tks (n : Network) (p : Plan) (g : List Int) (fs0 : List (List Piece)) (F0 : Nat → List Int) : Nat → List (List Piece) → (Nat → List Int) → (Nat → List Int) → Prop
 | zero : Tks n p g fs0 F0 0 fs0 F0 (fun _ => [])
 | succ {k : Nat} {fs fs' os : List (List Piece)} {F F' A O : Nat → List Int} : Tks n p g fs0 F0 k fs F A → L.zcgl n fs p g = some (fs', os, 0) → TickR n p g F F' O → Fil n fs' F' → Rp n.Ports.length os O →
   Tks n p g fs0 F0 (k + 1) fs' F' (fun j => A j ++ O j)
theorem Tks.fil {fs0 : List (List Piece)} {k : Nat} {A : Nat → List Int} (h0 : Fil n fs0 F0) (h : Tks n p g fs0 F0 k fs F A) : Fil n fs F := by
 cases h with
 | zero => exact h0
 | succ _ _ _ h _ => exact h
theorem Tks.len (hL : Ln n p g) {fs0 : List (List Piece)} {k : Nat} {A : Nat → List Int} (h : Tks n p g fs0 F0 k fs F A) {j : Nat} (hj : j < n.Ports.length) : (A j).length ≤ 1000 * k := by
 induction h with
 | zero => simp
 | succ _ _ h _ _ ih => have := h.out1000 hL hj; rw [List.length_append]; omega
theorem Rp.inj {m : Nat} {l : List (List Piece)} {F G : Nat → List Int} (h : Rp m l F) (h' : Rp m l G) {i : Nat} (hi : i < m) : F i = G i := by
 have := h.get i hi
 rw [h'.get i hi] at this
 exact (rle_inj (Option.some.inj this)).symm
theorem Tks.det {fs0 : List (List Piece)} {k : Nat} {A : Nat → List Int} (h : Tks n p g fs0 F0 k fs F A) : ∀ {fs1 : List (List Piece)} {F1 A1 : Nat → List Int}, Tks n p g fs0 F0 k fs1 F1 A1 → fs = fs1 ∧ ∀ j, j < n.Ports.length → A j = A1 j := by
 induction h with
 | zero => intro _ _ _ h1; cases h1; exact ⟨rfl, fun _ _ => rfl⟩
 | succ h t1 _ _ r1 ih =>
  intro _ _ _ h1
  cases h1 with
  | succ h2 t2 _ _ r2 =>
   obtain ⟨rfl, ha⟩ := ih h2
   rw [t1] at t2
   cases t2
   exact ⟨rfl, fun j hj => by dsimp only; rw [ha j hj, r1.inj r2 hj]⟩
theorem tick_state : L.zlri ⟨n, p, g, od, fs, gws, os⟩ = L.zlri ⟨n, p, g, od, fs, [], []⟩ := rfl
theorem joins_ok {A O : Nat → List Int} {out so : List (List Piece)} {r : Int × List (List Piece) × List (List Piece) × List (List Piece)} (hr : r.2.2.2 = so) (hA : Rp n.Ports.length out A) (hO : Rp n.Ports.length so O) (bA : ∀ j, j < n.Ports.length → (A j).length ≤ 1000000) (bO : ∀ j, j < n.Ports.length → (O j).length ≤ 1000) :
  Ok (forI (L.zctt.B6 r) 0 so.length out) (Sum.elim (fun st => Rp n.Ports.length st fun j => A j ++ O j) fun d => d = ([], [], 4)) := by
 subst hr
 refine .forI (fun k st => Rp n.Ports.length st fun j => if j < k then A j ++ O j else A j) (fun d => d = ([], [], 4)) (hA.congr fun j _ => by rw [if_neg (by omega)]) ?_ (fun st h => ?_) fun _ h => h
 ·intro k st hk h
  rw [hO.len] at hk
  have h1 := h.get k hk
  rw [if_neg (by omega)] at h1
  have b1 := bA k hk; have b2 := bO k hk
  unfold L.zctt.B6
  refine .bind' (.eq (ix_nat (hO.get k hk)) (.bind' (.eq (ix_nat h1) ?_)))
  dsimp only
  rw [join_rle (rle_can _).pos (by rw [vol_rle]; omega), Option.bind_some, lit_rle]
  refine .bind' (.eq (ix_nat (x := rle (A k ++ O k)) ?_) ?_)
  ·rw [List.getElem?_set, if_pos rfl, if_pos (by rw [h.len]; exact hk)]
  ·refine Ok.iteD (fun _ => .pure rfl) fun _ => .pure ?_
   refine (h.set (i := k) _).congr fun i hi => ?_
   unfold upd
   by_cases e : i = k
   ·subst e; rw [if_pos rfl, if_pos (by omega)]
   ·rw [if_neg e]
    dsimp only
    by_cases h2 : i < k
    ·rw [if_pos h2, if_pos (by omega)]
    ·rw [if_neg h2, if_neg (by omega)]
 ·show Rp n.Ports.length st fun j => A j ++ O j
  exact h.congr fun j hj => by rw [if_pos (by rw [hO.len]; exact hj)]
theorem Run_ok (hL : Ln n p g) (h : Fil n fs F0) {t : Nat} (ht : t ≤ 400) : Ok (L.zctt n fs p g (t : Int)) fun q => (q = ([], [], 4) ∧ 1 ≤ t) ∨ q.2.2 = 0 ∧ ∃ F A, Tks n p g fs F0 t q.1 F A ∧ Rp n.Ports.length q.2.1 A := by
 have s2 := hL.net.ports1
 unfold L.zctt
 rw [if_neg (by simp; omega)]
 refine .bind (start_ok hL h) ?_
 rintro ⟨_, _⟩ ⟨rfl, od, o1, o2, o3, rfl⟩
 show Ok (Option.bind (mk? (n.Ports.length : Int) ([] : List Piece)) _) _
 refine .bind' (.mk n.Ports.length rfl (by omega) (.bind' (.chk (by omega) ?_)))
 rw [show ((t : Int).toNat) = t by omega]
 refine .bind' (.forI (fun k st => ∃ F A, Tks n p g fs F0 k st.1 F A ∧ Rp n.Ports.length st.2.2.2 A) (fun q => q = ([], [], 4) ∧ 1 ≤ t) ⟨F0, _, .zero, ⟨by simp, fun i hi => by rw [List.getElem?_replicate, if_pos hi]; rfl⟩⟩ ?_ ?_ fun q hq => .pure (.inl hq))
 ·rintro k ⟨f1, g1, o1', a1⟩ hk ⟨F, A, h1, h2⟩
  dsimp only at h1 h2
  have hf := h1.fil h
  have hT := Tick_eq hL hf o1
  obtain ⟨⟨qc, qf, qg, qo⟩, hq1, hq⟩ := tick_ok (gws := []) (os := []) hL o2 hf.rp hf.vd
  rw [hq1, Option.bind_some] at hT
  unfold L.zctt.B4
  dsimp only
  rw [tick_state]
  refine .bind' (.eq hq1 ?_)
  rcases hq with hq | ⟨hq, F', G', O', q1, q2, q3, q4, q5⟩
  ·dsimp only at hq; subst hq
   rw [if_pos (by simp)]
   exact .pure ⟨rfl, by omega⟩
  ·dsimp only at hq; subst hq
   rw [if_neg (by simp)] at hT ⊢
   dsimp only at hT q3 q4 q5
   have hTR : TickR n p g F F' O' := ⟨od, G', o1, o2, o3, q1, q2⟩
   refine .bind (joins_ok (so := qo) rfl h2 q5 (fun j hj => by have := h1.len hL hj; omega) fun j hj => hTR.out1000 hL hj) ?_
   rintro (st | d) hst
   ·exact .pure ⟨F', _, .succ h1 hT hTR ⟨q3, q2.vF, fun i s hs => by rw [q1.len i]; exact hf.cap i s hs⟩ q5, hst⟩
   ·exact .pure ⟨hst, by omega⟩
 ·rintro ⟨f1, g1, o1', a1⟩ ⟨F, A, h1, h2⟩
  exact .pure (.inr ⟨rfl, F, A, h1, h2⟩)
end
theorem u8_mod {w : Int} (hw : 0 ≤ w ∧ w ≤ 255) {m : Int} (hm : 1 ≤ m ∧ m ≤ 1000) : ∃ t : Nat, (wr w).tmod m = (t : Int) ∧ (t : Int) < m := by
 rw [wr_id (by omega), Int.tmod_eq_emod_of_nonneg hw.1]
 have h1 := Int.emod_nonneg w (by omega : m ≠ 0)
 have h2 := Int.emod_lt_of_pos w (by omega : 0 < m)
 exact ⟨(w % m).toNat, by omega, by omega⟩
def ow (c : Option Int) (f : Int → Int) : Int := match c with | some r => f r | none => 0
theorem ow_some (r : Int) (f : Int → Int) : ow (some r) f = f r := rfl
theorem ow_none (f : Int → Int) : ow none f = 0 := rfl
def endOf (n : Network) (p : Plan) (i : Nat) : Option Int :=
 match n.Segments[i]?, p.Rates[i]? with
 | some s, some r => if r ≠ 0 then some (L.ztzg s r).2 else none
 | _, _ => none
def pend (n : Network) (p : Plan) (l : List Int) (G : Nat → List Int) (b : Int) (i : Nat) : Int :=
 match endOf n p i with
 | some e => if e ∈ l then 0 else ((G i).count b : Int)
 | none => 0
def inn (n : Network) (p : Plan) (g : List Int) (l : List Int) (b : Int) (k : Nat) : Int :=
 match n.Ports[k]?, p.Ports[k]? with
 | some x, some r => if x.Node ∈ l ∧ g.getD k 0 = b then max 0 r else 0
 | _, _ => 0
section
variable {n : Network} {p : Plan} {g od : List Int} {fs gws os : List (List Piece)} {F0 F G O : Nat → List Int} {l : List Int}
theorem endOf_flw {i : Nat} {s : Segment} {r : Int} (h : Flw n p i s r) : endOf n p i = some (L.ztzg s r).2 := by simp only [endOf, h.seg, h.rate, if_pos h.ne]
theorem flw_or (hp : FlowOk n p) {i : Nat} (hi : i < n.Segments.length) : (∃ s r, Flw n p i s r) ∨ endOf n p i = none ∧ ∀ v b, cS n p v b i = none := by
 obtain ⟨s, hs⟩ := get_of hi
 obtain ⟨r, hr⟩ := get_of (l := p.Rates) (k := i) (by have := hp.rl; omega)
 by_cases h : r = 0
 ·refine .inr ⟨by simp only [endOf, hs, hr]; rw [if_neg (by simp [h])], fun v b => ?_⟩
  rw [cS_of hs hr, if_neg (fun h' => h'.1 h)]
 ·exact .inl ⟨s, r, hs, hr, h⟩
theorem keep_step (hL : Ln n p g) {b v : Int} {ZP ZS : Nat → List Int} (hv : v ∉ l) (hc : ∀ i s r, Flw n p i s r → (L.ztzg s r).2 ∈ l → (L.ztzg s r).1 ∈ l) (hg0 : ∀ i s r, Flw n p i s r → (L.ztzg s r).1 ∉ l → G i = []) (hO : ∀ k x, n.Ports[k]? = some x → x.Node ∉ l → O k = []) (hs : Shared n p v (strm n p g G v) ZP ZS) :
  (sumN n.Segments.length fun i => ((if (cS n p v false i).isSome = true then fl (p.Rates.getD i 0) (F i) (ZS i) else F i).count b : Int)) +
   (sumN n.Segments.length fun i => pend n p (l ++ [v]) (fun i => if (cS n p v false i).isSome = true then gv (p.Rates.getD i 0) (F i) (ZS i) else G i) b i) +
   (sumN n.Ports.length fun k => ((if (cP n p v false k).isSome = true then ZP k else O k).count b : Int)) - (sumN n.Ports.length fun k => inn n p g (l ++ [v]) b k) =
  (sumN n.Segments.length fun i => ((F i).count b : Int)) + (sumN n.Segments.length fun i => pend n p l G b i) + (sumN n.Ports.length fun k => ((O k).count b : Int)) - sumN n.Ports.length fun k => inn n p g l b k := by
 have h1 : (sumN n.Ports.length fun k => ow (cP n p v false k) fun _ => ((ZP k).count b : Int)) + (sumN n.Segments.length fun i => ow (cS n p v false i) fun _ => ((ZS i).count b : Int)) = ((strm n p g G v).count b : Int) := hs.sum b
 have h2 : ((strm n p g G v).count b : Int) = (sumN n.Ports.length fun k => ow (cP n p v true k) fun r => ((List.replicate r.toNat (g.getD k 0)).count b : Int)) + sumN n.Segments.length fun i => ow (cS n p v true i) fun _ => ((G i).count b : Int) := by
  rw [strm, List.count_append, Int.natCast_add, sl_flat (c := cP n p v true) (fun k r => List.replicate r.toNat (g.getD k 0)), sl_flat (c := cS n p v true) (fun k _ => G k)]; rfl
 have h3 : (sumN n.Segments.length fun i => ((if (cS n p v false i).isSome = true then fl (p.Rates.getD i 0) (F i) (ZS i) else F i).count b : Int)) +
   (sumN n.Segments.length fun i => pend n p (l ++ [v]) (fun i => if (cS n p v false i).isSome = true then gv (p.Rates.getD i 0) (F i) (ZS i) else G i) b i) +
   (sumN n.Segments.length fun i => ow (cS n p v true i) fun _ => ((G i).count b : Int)) =
   (sumN n.Segments.length fun i => ((F i).count b : Int)) + (sumN n.Segments.length fun i => pend n p l G b i) + (sumN n.Segments.length fun i => ow (cS n p v false i) fun _ => ((ZS i).count b : Int)) := by
  rw [← sumN_add, ← sumN_add, ← sumN_add, ← sumN_add]
  refine sumN_congr fun i hil => ?_
  rcases flw_or hL.flow hil with ⟨s, r, hf⟩ | ⟨he, hc0⟩
  ·have ne := (hL.net.segs i s hf.seg).ends.2.2.2.2
   have hne : (L.ztzg s r).1 ≠ (L.ztzg s r).2 := by
    rcases endsOf (s := s) hf.ne with ⟨h, _⟩ | ⟨h, _⟩ <;> rw [h]
    ·exact Ne.symm ne
    ·exact ne
   have ct := cS_flw (v := v) (b := true) hf
   have cf := cS_flw (v := v) (b := false) hf
   rw [if_pos rfl] at ct
   rw [if_neg (by simp : ¬ (false = true))] at cf
   unfold pend
   rw [endOf_flw hf]
   dsimp only
   by_cases a1 : (L.ztzg s r).1 = v
   ·have a2 : (L.ztzg s r).2 ≠ v := fun h => hne (by rw [a1, h])
    rw [if_pos a1] at cf
    rw [if_neg a2] at ct
    have a3 : (L.ztzg s r).2 ∉ l := fun h => hv (by rw [← a1]; exact hc i s r hf h)
    have a4 : G i = [] := hg0 i s r hf (by rw [a1]; exact hv)
    have a5 := gf_count (p.Rates.getD i 0) (F i) (ZS i) b
    have a6 : (L.ztzg s r).2 ∉ l ++ [v] := by simp [a3, a2]
    simp only [ct, cf, ow_some, ow_none, a4, a3, a6, Option.isSome_some, if_true, if_false, List.count_nil]
    omega
   ·rw [if_neg a1] at cf
    by_cases a2 : (L.ztzg s r).2 = v
    ·rw [if_pos a2] at ct
     have a6 : (L.ztzg s r).2 ∈ l ++ [v] := by simp [a2]
     have a3 : (L.ztzg s r).2 ∉ l := by rw [a2]; exact hv
     simp only [ct, cf, ow_some, ow_none, a3, a6, Option.isSome_none, if_true, if_false, Bool.false_eq_true]
     omega
    ·rw [if_neg a2] at ct
     have a6 : (L.ztzg s r).2 ∈ l ++ [v] ↔ (L.ztzg s r).2 ∈ l := by simp [a2]
     simp only [ct, cf, ow_some, ow_none, a6, Option.isSome_none, if_false, Bool.false_eq_true]
  ·unfold pend
   simp only [he, hc0, ow_none, Option.isSome_none, if_false, Bool.false_eq_true]
 have h4 : (sumN n.Ports.length fun k => ((if (cP n p v false k).isSome = true then ZP k else O k).count b : Int)) = (sumN n.Ports.length fun k => ((O k).count b : Int)) + sumN n.Ports.length fun k => ow (cP n p v false k) fun _ => ((ZP k).count b : Int) := by
  rw [← sumN_add]
  refine sumN_congr fun k hk => ?_
  cases hck : cP n p v false k with
  | none => simp [ow_none]
  | some a =>
   obtain ⟨x, r, hx, _, hn, _⟩ := cP_some hck
   rw [hO k x hx (by rw [hn]; exact hv)]
   simp [ow_some]
 have h5 : (sumN n.Ports.length fun k => inn n p g (l ++ [v]) b k) = (sumN n.Ports.length fun k => inn n p g l b k) + sumN n.Ports.length fun k => ow (cP n p v true k) fun r => ((List.replicate r.toNat (g.getD k 0)).count b : Int) := by
  rw [← sumN_add]
  refine sumN_congr fun k hk => ?_
  obtain ⟨x, hx⟩ := get_of hk
  obtain ⟨r, hr⟩ := get_of (l := p.Ports) (k := k) (by have := hL.flow.pl; omega)
  have hck := cP_of (v := v) (b := true) hx hr
  by_cases a1 : x.Node = v
  ·have a2 : x.Node ∉ l := by rw [a1]; exact hv
   have a3 : x.Node ∈ l ++ [v] := by simp [a1]
   by_cases a4 : r > 0
   ·rw [if_pos ⟨a1, by omega, by simp [a4]⟩] at hck
    rw [hck, ow_some]
    simp only [inn, hx, hr]
    by_cases a5 : g.getD k 0 = b
    ·simp only [a2, a3, a5, true_and, false_and, if_true, if_false, List.count_replicate, beq_self_eq_true]
     omega
    ·have a6 : ((g.getD k 0) == b) = false := by simpa using a5
     simp only [a2, a3, a5, and_false, if_false, List.count_replicate, a6, Bool.false_eq_true]
     omega
   ·rw [if_neg (fun h => by have := h.2.2; simp at this; omega)] at hck
    have : max 0 r = 0 := by omega
    rw [hck, ow_none]
    simp only [inn, hx, hr, a2, this, false_and, if_false]
    split <;> rfl
  ·rw [if_neg (fun h => a1 h.1)] at hck
   have a2 : (x.Node ∈ l ++ [v]) = (x.Node ∈ l) := by simp [a1]
   rw [hck, ow_none]
   simp only [inn, hx, hr, a2]; omega
 omega
theorem Stp.g0 (h : Stp n p g F0 l F G O) {i : Nat} {s : Segment} {r : Int} (hf : Flw n p i s r) (hn : (L.ztzg s r).1 ∉ l) : G i = [] := by
 induction h with
 | nil => rfl
 | @snoc l F G O ZP ZS v h hs ih =>
  dsimp only
  have cf := cS_flw (v := v) (b := false) hf
  rw [if_neg (by simp : ¬ (false = true)), if_neg (fun e => hn (by simp [e]))] at cf
  rw [if_neg (by rw [cf]; simp)]
  exact ih fun h => hn (by simp [h])
theorem Stp.keep (hL : Ln n p g) (h : Stp n p g F0 l F G O) (ht : Topo n p l) (b : Int) :
  (sumN n.Segments.length fun i => ((F i).count b : Int)) + (sumN n.Segments.length fun i => pend n p l G b i) + (sumN n.Ports.length fun k => ((O k).count b : Int)) - (sumN n.Ports.length fun k => inn n p g l b k) = sumN n.Segments.length fun i => ((F0 i).count b : Int) := by
 induction h with
 | nil =>
  rw [sumN_zero (f := fun i => pend n p [] (fun _ => []) b i) fun i _ => by unfold pend; split <;> simp, sumN_zero (f := fun k => ((([] : List Int).count b : Nat) : Int)) fun i _ => by simp, sumN_zero (f := fun k => inn n p g [] b k) fun i _ => by unfold inn; split <;> simp]
  omega
 | @snoc l F G O ZP ZS v h hs ih =>
  have ht' : Topo n p l := ⟨fun w hw => ht.rng w (by simp [hw]), (List.nodup_append.1 ht.nodup).1, fun k w hw i s r hf he => by
   have hk := (gs hw).1
   have := ht.topo k w (by rw [List.getElem?_append_left hk]; exact hw) i s r hf he
   rwa [List.take_append_of_le_length (by omega)] at this⟩
  have hv : v ∉ l := fun h => (List.nodup_append.1 ht.nodup).2.2 v h v (by simp) rfl
  have ih' := ih ht'
  rw [← ih']
  refine keep_step hL hv (fun i s r hf he => ?_) (fun i s r hf hn => h.g0 hf hn) (fun k x hx hn => ?_) hs
  ·obtain ⟨k, hk⟩ := List.getElem?_of_mem he
   exact List.mem_of_mem_take (ht'.topo k _ hk i s r hf rfl)
  ·obtain ⟨r, hr⟩ := get_of (l := p.Ports) (k := k) (by have := (gs hx).1; have := hL.flow.pl; omega)
   have := h.outLen hx hr
   rw [if_neg hn] at this
   exact List.length_eq_zero_iff.1 (by omega)
end
def inb (n : Network) (p : Plan) (g : List Int) (b : Int) : Int := sumN n.Ports.length fun k => if g.getD k 0 = b then max 0 (p.Ports.getD k 0) else 0
section
variable {n : Network} {p : Plan} {g od : List Int} {fs gws os : List (List Piece)} {F0 F G O : Nat → List Int} {l : List Int}
theorem TickR.keep (hL : Ln n p g) (h : TickR n p g F0 F O) (b : Int) :
  (sumN n.Segments.length fun i => ((F i).count b : Int)) + (sumN n.Ports.length fun k => ((O k).count b : Int)) = (sumN n.Segments.length fun i => ((F0 i).count b : Int)) + inb n p g b := by
 obtain ⟨od, G, _, h1, h2, h3, _⟩ := h
 have := h3.keep hL h1 b
 have e1 : (sumN n.Segments.length fun i => pend n p od G b i) = 0 := sumN_zero fun i hi => by
  rcases flw_or hL.flow hi with ⟨s, r, hf⟩ | ⟨he, _⟩
  ·unfold pend
   rw [endOf_flw hf]
   have hn := (hL.net.segs i s hf.seg).ends
   have hm : (L.ztzg s r).2 ∈ od := by
    rcases endsOf (s := s) hf.ne with ⟨h, _⟩ | ⟨h, _⟩ <;> rw [h] <;> dsimp only
    ·obtain ⟨v, hv⟩ := nat_of hn.1
     rw [hv] at hn ⊢; exact h2 v (by omega)
    ·obtain ⟨v, hv⟩ := nat_of hn.2.2.1
     rw [hv] at hn ⊢; exact h2 v (by omega)
   simp [hm]
  ·unfold pend; rw [he]
 have e2 : (sumN n.Ports.length fun k => inn n p g od b k) = inb n p g b := sumN_congr fun k hk => by
  obtain ⟨x, hx⟩ := get_of hk
  obtain ⟨r, hr⟩ := get_of (l := p.Ports) (k := k) (by have := hL.flow.pl; omega)
  have hn := (hL.net.ports k x hx).node
  have hm : x.Node ∈ od := by
   obtain ⟨v, hv⟩ := nat_of hn.1
   rw [hv] at hn ⊢; exact h2 v (by omega)
  simp only [inn, hx, hr, hm, true_and, List.getD_eq_getElem?_getD]; rfl
 omega
theorem Tks.keep (hL : Ln n p g) {fs0 : List (List Piece)} {k : Nat} {A : Nat → List Int} (h : Tks n p g fs0 F0 k fs F A) (b : Int) :
  (sumN n.Segments.length fun i => ((F i).count b : Int)) + (sumN n.Ports.length fun k => ((A k).count b : Int)) = (sumN n.Segments.length fun i => ((F0 i).count b : Int)) + k * inb n p g b := by
 induction h with
 | zero => rw [sumN_zero (f := fun k => ((([] : List Int).count b : Nat) : Int)) fun i _ => by simp]; simp
 | @succ k fs fs' os F F' A O _ _ t _ _ ih =>
  have h1 := t.keep hL b
  have e : (sumN n.Ports.length fun j => ((A j ++ O j).count b : Int)) = (sumN n.Ports.length fun k => ((A k).count b : Int)) + sumN n.Ports.length fun k => ((O k).count b : Int) := by
   rw [← sumN_add]; exact sumN_congr fun j _ => by rw [List.count_append]; omega
  have e2 : ((k + 1 : Nat) : Int) * inb n p g b = (k : Int) * inb n p g b + inb n p g b := by
   rw [Int.natCast_add, Int.add_mul]; simp
  dsimp only
  omega
theorem Tks.outLen (hL : Ln n p g) {fs0 : List (List Piece)} {k : Nat} {A : Nat → List Int} (h : Tks n p g fs0 F0 k fs F A) {j : Nat} {x : Port} {r : Int} (hx : n.Ports[j]? = some x) (hr : p.Ports[j]? = some r) : ((A j).length : Int) = k * max 0 (-r) := by
 induction h with
 | zero => simp
 | @succ k fs fs' os F F' A O _ _ t _ _ ih =>
  have h1 := t.outLen hL hx hr
  have e2 : ((k + 1 : Nat) : Int) * max 0 (-r) = (k : Int) * max 0 (-r) + max 0 (-r) := by
   rw [Int.natCast_add, Int.add_mul]; simp
  rw [List.length_append]; omega
end
theorem of14 {f : List Piece} (hf : ∀ p, p ∈ f → 0 ≤ p.Volume) (hl : vol f ≤ 1000000000) (b : Int) : L.zzja f b = some ((lit f).count b : Int) := by
 have : Ok (L.zzja f b) fun r => r = ((lit f).count b : Int) := by
  unfold L.zzja
  refine .bind (Q := fun r => r = ((lit f).count b : Int)) (.forS (fun k st => st = ((lit (f.take k)).count b : Int)) rfl ?_ fun st h => by rw [h, List.take_length]) fun r hr => .pure hr
  rintro k x _ hx rfl
  have h0 := hf x (mg hx)
  have h1 := vol_mem hf (mg hx)
  have h2 := lit_len (f := f.take k) fun p hp => hf p (List.mem_of_mem_take hp)
  have h3 : vol f = vol (f.take k) + vol (f.drop k) := by rw [← vol_app, List.take_append_drop]
  have h4 := vol_pos (f := f.drop k) fun p hp => hf p (List.mem_of_mem_drop hp)
  have h5 : (lit (f.take k)).count b ≤ (lit (f.take k)).length := List.count_le_length
  have e : lit (f.take (k + 1)) = lit (f.take k) ++ List.replicate x.Volume.toNat x.Batch := by
   rw [List.take_add_one, hx]; simp [lit_app, lit_one]
  rw [e, List.count_append, List.count_replicate]
  unfold L.zzja.B2
  refine Ok.iteE (fun hb => .pure ?_) fun hb => .pure ?_
  ·rw [if_pos (by simp [hb]), wr_id (by omega)]; omega
  ·rw [if_neg (by simp [hb])]; simp
 obtain ⟨r, h1, rfl⟩ := this
 exact h1
theorem total_of {m : Nat} {l : List (List Piece)} {F : Nat → List Int} (h : Rp m l F) (hm : m ≤ 100) (hF : ∀ i, i < m → (F i).length ≤ 1000000) (b : Int) : L.zlet l b = some (sumN m fun i => ((F i).count b : Int)) := by
 have : Ok (L.zlet l b) fun r => r = sumN m fun i => ((F i).count b : Int) := by
  unfold L.zlet
  refine .bind (Q := fun r => r = sumN m fun i => ((F i).count b : Int)) (.forS (fun k st => st = (sumN k fun i => ((F i).count b : Int)) ∧ 0 ≤ st ∧ st ≤ 1000000 * k) ⟨rfl, by omega, by omega⟩ ?_ fun st h' => by rw [h'.1, h.len]) fun r hr => .pure hr
  rintro k x st hx ⟨h1, h2, h3⟩
  have hk := (gs hx).1
  rw [h.len] at hk
  rw [h.get k hk] at hx
  cases hx
  have h4 := hF k hk
  have h5 : (F k).count b ≤ (F k).length := List.count_le_length
  unfold L.zlet.B2
  refine .bind' (.eq (of14 (fun p hp => by have := (rle_can _).pos p hp; omega) (by rw [vol_rle]; omega) b) (.pure ?_))
  rw [lit_rle, wr_id (by omega)]
  simp only [sumN]
  omega
 obtain ⟨r, h1, rfl⟩ := this
 exact h1
theorem advanceKeeps (l : List Int) (w : Int) (hw : 0 ≤ w ∧ w ≤ 255) : L.zaho l w = some true := by
 have : Ok (L.zaho l w) fun r => r = true := by
  unfold L.zaho
  refine .bind (new_ok l) fun d0 hd0 => .bind (net_ok hd0) ?_
  rintro ⟨n, d1⟩ ⟨hn, hd1⟩
  dsimp only at hn hd1 ⊢
  refine .bind (fills_ok hn hd1 (m := 4) (by omega)) ?_
  rintro ⟨fs, d2⟩ ⟨hd2, F0, hf, _⟩
  refine .bind (plan_ok hn hd2) ?_
  rintro ⟨⟨R, P, M⟩, d3⟩ ⟨hp, hd3⟩
  refine .bind (feeds_ok hn hd3 (m := 5) (by omega)) ?_
  rintro ⟨g, d4⟩ ⟨hd4, hg1, hg2⟩
  dsimp only at hf hp hg1 hg2 ⊢
  have s1 := hn.segs1; have s2 := hn.ports1; have s3 := hn.sts1
  have hL : Ln n ⟨R, P, M⟩ g := ⟨hn, hp.flow, hg1, fun b hb => by have := hg2 b hb; omega⟩
  have hpl : P.length = n.Ports.length := hp.pl
  have hprt : ∀ (k : Nat) (x : Int), P[k]? = some x → -1000 ≤ x ∧ x ≤ 1000 := hp.prt
  obtain ⟨t, ht, ht8⟩ := u8_mod hw (m := 8) (by omega)
  have wake : Ok (Option.bind L.zdqe fun r => some r) fun r => r = true := by rw [awake18]; exact .pure rfl
  unfold L.zaho.J1
  dsimp only
  rw [ht]
  obtain ⟨⟨next, out, e⟩, hq1, hq⟩ := Run_ok hL hf (t := t) (by omega)
  refine .bind' (.eq hq1 ?_)
  rcases hq with ⟨hq, _⟩ | ⟨hq, F, A, q1, q2⟩
  ·cases hq
   exact Ok.iteE (fun _ => wake) fun h => absurd rfl h
  ·dsimp only at hq q1 q2
   subst hq
   have hf' := q1.fil hf
   refine Ok.iteE (fun h => by dsimp only at h; omega) fun _ => Ok.iteU (fun h => absurd rfl h) fun _ => ?_
   refine .bind' (.eq (check_ok hn hf') ?_)
   rw [if_neg (by simp)]
   have hol := q2.len
   dsimp only
   have e0 : ((out.length : Int) != (n.Ports.length : Int)) = false := by simp [hol]
   rw [e0]
   unfold L.zaho.J2
   rw [if_neg (by simp)]
   have bA : ∀ i, i < n.Ports.length → (A i).length ≤ 1000000 := fun i hi => by have := q1.len hL hi; omega
   have capF : ∀ {fs : List (List Piece)} {F : Nat → List Int}, Fil n fs F → ∀ i, i < n.Segments.length → (F i).length ≤ 1000 := fun h i hi => by
    obtain ⟨s, hs⟩ := get_of hi
    have := h.cap i s hs; have := (hn.segs i s hs).cap; omega
   refine .bind (Q := Sum.elim (fun _ : Bool => False) fun _ : Unit => True) (.loop (fun b => 0 ≤ b ∧ b ≤ 5) (fun b => 5 - b.toNat) ⟨by omega, by omega⟩ (by omega) ?_) ?_
   ·rintro b ⟨b0, b5⟩
    unfold L.zaho.B6
    refine Ok.iteD (fun hb => ?_) fun _ => .pure trivial
    have hin : ∀ k, k ≤ n.Ports.length → 0 ≤ (sumN k fun i => if g.getD i 0 = b then (t : Int) * max 0 (P.getD i 0) else 0) ∧ (sumN k fun i => if g.getD i 0 = b then (t : Int) * max 0 (P.getD i 0) else 0) ≤ 8000 * k := by
     intro k
     induction k with
     | zero => intro _; simp [sumN]
     | succ k ih =>
      intro hk
      have h1 := ih (by omega)
      obtain ⟨x, hx⟩ := get_of (l := P) (k := k) (by omega)
      have h2 := hprt k x hx
      simp only [sumN]
      rw [List.getD_eq_getElem?_getD (l := P), hx]
      dsimp only [Option.getD]
      have h3 : 0 ≤ (t : Int) * max 0 x ∧ (t : Int) * max 0 x ≤ 8 * 1000 := ⟨Int.mul_nonneg (by omega) (by omega), Int.mul_le_mul (by omega) (by omega) (by omega) (by omega)⟩
      split <;> omega
    refine .bind (Q := fun st => st = (t : Int) * inb n ⟨R, P, M⟩ g b) (.forS (fun k st => st = sumN k fun i => if g.getD i 0 = b then (t : Int) * max 0 (P.getD i 0) else 0) rfl ?_ ?_) ?_
    ·rintro k x _ hx rfl
     dsimp only at hx
     have hk := (gs hx).1
     have h1 := hin k (by omega)
     have h2 := hprt k x hx
     have h3 : 0 ≤ (t : Int) * max 0 x ∧ (t : Int) * max 0 x ≤ 8 * 1000 := ⟨Int.mul_nonneg (by omega) (by omega), Int.mul_le_mul (by omega) (by omega) (by omega) (by omega)⟩
     obtain ⟨y, hy⟩ := get_of (l := g) (k := k) (by omega)
     unfold L.zaho.B9
     refine .bind' (.eq (ix_nat hy) ?_)
     dsimp only
     simp only [sumN]
     rw [List.getD_eq_getElem?_getD (l := P), hx, List.getD_eq_getElem?_getD (l := g), hy]
     dsimp only [Option.getD]
     refine Ok.iteE (fun hb => .pure ?_) fun hb => .pure ?_
     ·rw [if_pos hb, ht, wr_id (by omega : _ ≤ (t : Int) * max 0 x ∧ _), wr_id (by omega)]
     ·rw [if_neg hb]; omega
    ·rintro _ rfl
     dsimp only
     rw [hpl]
     unfold inb
     have : ∀ (f : Nat → Int) (m : Nat), sumN m (fun i => (t : Int) * f i) = (t : Int) * sumN m f := fun f m => by
      induction m with
      | zero => simp [sumN]
      | succ m ih => simp only [sumN]; rw [ih, Int.mul_add]
     rw [← this]
     exact sumN_congr fun k _ => by dsimp only; split <;> simp
    ·rintro _ rfl
     unfold L.zaho.J8
     refine .bind' (.eq (total_of hf.rp (by omega) (fun i hi => by have := capF hf i hi; omega) b) (.bind' (.eq (total_of hf'.rp (by omega) (fun i hi => by have := capF hf' i hi; omega) b) (.bind' (.eq (total_of q2 (by omega) bA b) ?_)))))
     have hk := q1.keep hL b
     rw [hk]
     rw [if_neg (by simp)]
     unfold L.zaho.J7
     refine .pure ⟨⟨?_, ?_⟩, ?_⟩ <;> rw [wr_id (by omega)] <;> omega
   ·rintro (_ | _) hd
    ·exact hd.elim
    ·show Ok (L.zaho.J3 w (fs, R, P, M, g) (next, out, 0) ()) _
     unfold L.zaho.J3
     refine .bind' (.forL (fun _ _ => True) (fun _ => False) trivial ?_ (fun _ _ => wake) fun _ h => h.elim)
     intro k x _ hx _
     dsimp only at hx
     have hk := (gs hx).1
     rw [hol] at hk
     rw [q2.get k hk] at hx
     cases hx
     obtain ⟨y, hy⟩ := get_of (l := P) (k := k) (by omega)
     obtain ⟨z, hz⟩ := get_of (l := n.Ports) (k := k) hk
     have h2 := hprt k y hy
     have h4 := bA k hk
     have h5 := q1.outLen hL hz hy
     have h3 : 0 ≤ (t : Int) * max 0 (-y) ∧ (t : Int) * max 0 (-y) ≤ 8 * 1000 := ⟨Int.mul_nonneg (by omega) (by omega), Int.mul_le_mul (by omega) (by omega) (by omega) (by omega)⟩
     unfold L.zaho.B5
     refine .bind' (.eq (sum14_eq (fun p hp => by have := (rle_can _).pos p hp; omega) (by rw [vol_rle]; omega)) (.bind' (.eq (ix_nat hy) ?_)))
     dsimp only
     rw [vol_rle, ht, wr_id (by omega : _ ≤ (0 : Int) - y ∧ _), show (0 : Int) - y = -y by omega, wr_id (by omega), h5, if_neg (by simp)]
     exact .pure trivial
 obtain ⟨r, h1, rfl⟩ := this
 exact h1
end Go.Proofs.Ytligpmmgdjipbaa
