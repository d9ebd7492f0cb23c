/- Plain proofs. No condition. -/
import Derived.Test.YtihdchjpepkpbaaGreatZwP1
import Derived.Test.YtihdchjpepkpbaaGreatZwD
import Derived.Test.YtihdchjpepkpbaaGreatZwP0
import Derived.KernelRfl
set_option maxRecDepth 100000
namespace Go.Proofs.YtihdchjpepkpbaaGreat
set_option linter.unusedVariables false
set_option linter.unusedSimpArgs false
open Go.Aw
theorem lE {x : Int} (h : -1000000 ≤ x ∧ x ≤ 1000000) : Ht x = max x (-x) := by
 unfold Ht
 rw [Bn (by omega), Int.zero_sub]
theorem Kk {s : Sg} {r : Int} : Jg s r = Ck s r := rfl
structure Sum16 (b : Int) (st : Int × Int) (d : Int) : Prop where
 come : 0 ≤ st.1 ∧ st.1 ≤ b
 leave : 0 ≤ st.2 ∧ st.2 ≤ b
 diff : st.1 - st.2 = d
theorem Ys {n : Nw} (hn : NetC n) {p : Plan} (h4 : p.Rates.length = n.Segments.length) (h5 : p.Ports.length = n.Ports.length) (hr : ∀ (k : Nat) (r : Int), p.Rates[k]? = some r → -1000 ≤ r ∧ r ≤ 1000)
  (hp : ∀ (k : Nat) (x : Int), p.Ports[k]? = some x → -1000 ≤ x ∧ x ≤ 1000) (v : Nat) : Ok (Ox n p (v : Int)) fun r => r.1 - r.2 = Ep (wt n v) p.Rates + Ep (wp n v) p.Ports := by
 have h2 := hn.segs1; have h3 := hn.ports1
 unfold Ox
 refine .bind (.forS (fun k (Y : Int × Int) => Sum16 (1000 * k) Y (Ep (wt n v) (p.Rates.take k))) ⟨by simp, by simp, by simp [Ic]⟩ ?_ fun Y h => h) ?_
 ·rintro k s ⟨a, b⟩ Z ⟨i1, i2, i3⟩
  dsimp only at i1 i2 i3
  have hkl := (gs Z).1
  have G : p.Rates[k]? = some p.Rates[k] := gq (by omega)
  have X := hr k _ G
  have he := (hn.segs k s Z).1
  have O := Fm (w := wt n v) (a := ind s.To v - ind s.From v) (by unfold wt; rw [List.getElem?_map, Z]; rfl) G
  generalize p.Rates[k] = r at G X O
  unfold Ox.B5
  refine .bind' (.eq (A8 G) (Dk (fun h0 => ?_) fun h0 => ?_))
  ·dsimp only at h0
   subst h0
   unfold Ox.J6
   rw [O]
   exact .pure ⟨by dsimp only; omega, by dsimp only; omega, by simp; omega⟩
  dsimp only at h0 ⊢
  have ha := lE (x := r) (by omega)
  rw [ha]
  have j7 : ∀ (j : Int), 0 ≤ j ∧ j ≤ 1000 * k + 1000 → ∀ l : Int, l = ind (Ck s r).1 v → j = b + max r (-r) * l → Ok (Ox.J7 (v : Int) s (a, b) (k, r) j) fun Y => Sum16 (1000 * ((k + 1 : Nat) : Int)) Y (Ep (wt n v) (p.Rates.take (k + 1))) := by
   intro j hj l hl hjl
   unfold Ox.J7 Ox.J6
   dsimp only
   rw [ha, Kk]
   have aa : ∀ c : Int, c = ind (Ck s r).2 v → a + max r (-r) * c - j = Ep (wt n v) (p.Rates.take (k + 1)) := by
    intro c hc
    subst hc; subst hl; subst hjl
    rw [O]
    rcases Wn (s := s) h0 with ⟨e, hr0⟩ | ⟨e, hr0⟩
    ·rw [e]
     dsimp only
     rw [show max r (-r) = -r by omega, Int.neg_mul, Int.neg_mul, Int.sub_mul, Int.mul_comm r, Int.mul_comm r]; omega
    ·rw [e]
     dsimp only
     rw [show max r (-r) = r by omega, Int.sub_mul, Int.mul_comm r, Int.mul_comm r]; omega
   refine Dk (fun M => .pure ?_) fun M => .pure ?_
   ·rw [Bn (by omega)]
    have := aa 1 (by rw [M, Eh])
    exact ⟨by dsimp only; omega, by dsimp only; omega, by dsimp only; omega⟩
   ·have := aa 0 (by rw [D9 M])
    exact ⟨by dsimp only; omega, by dsimp only; omega, by dsimp only; omega⟩
  rw [Kk]
  refine Dk (fun M => j7 _ ?_ 1 (by rw [M, Eh]) ?_) fun M => j7 _ ?_ 0 (by rw [D9 M]) ?_
  ·rw [Bn (by omega)]; omega
  ·rw [Bn (by omega)]; omega
  ·omega
  ·omega
 ·rintro ⟨a, b⟩ W
  rw [List.take_of_length_le (by omega)] at W
  unfold Ox.J1
  refine .bind (.forS (fun k (Y : Int × Int) => Sum16 (32000 + 1000 * k) Y (Ep (wt n v) p.Rates + Ep (wp n v) (p.Ports.take k))) ⟨by have := W.come; dsimp only at this ⊢; omega, by have := W.leave; dsimp only at this ⊢; omega, by have := W.diff; dsimp only at this ⊢; simp [Ic]; omega⟩ ?_ fun Y h => h) ?_
  ·rintro k s ⟨a, b⟩ Z ⟨i1, i2, i3⟩
   dsimp only at i1 i2 i3
   have hkl := (gs Z).1
   have G : p.Ports[k]? = some p.Ports[k] := gq (by omega)
   have X := hp k _ G
   have O := Fm (w := wp n v) (a := ind s.Node v) (by unfold wp; rw [List.getElem?_map, Z]; rfl) G
   generalize p.Ports[k] = r at G X O
   unfold Ox.B3 Ox.J4
   refine Dk (fun M => .bind' (.eq (A8 G) (.pure ?_))) fun M => .pure ?_
   ·rw [M, Eh] at O
    dsimp only
    rw [Bn (x := 0 - r) (by omega), Bn (by omega), Bn (by omega), O]
    exact ⟨by dsimp only; omega, by dsimp only; omega, by dsimp only; omega⟩
   ·rw [D9 M] at O
    rw [O]
    exact ⟨by dsimp only; omega, by dsimp only; omega, by dsimp only; omega⟩
  ·rintro ⟨a, b⟩ W
   rw [List.take_of_length_le (by omega)] at W
   unfold Ox.J2
   exact .pure W.diff
theorem jX {n : Nw} (hn : NetC n) {p : Plan} (h4 : p.Rates.length = n.Segments.length) {out : Li} {there : List Bool} (iT : There n p out there) :
  Ok (forS (L5.B3 n p (out, there)) 0 n.Nodes (-1)) fun k : Int => (k = -1 ∧ ∀ j : Nat, there[j]? = some false → Ef n p there j) ∨ ∃ j : Nat, k = (j : Int) ∧ there[j]? = some false ∧ (∀ i s r, Flw n p i s r → (Ck s r).2 = (j : Int) → (Ck s r).1 ∈ out) ∧ ∀ i : Nat, i < j → there[i]? = some false → Ef n p there i := by
 have h1 := hn.nodes; have h2 := hn.segs1; have i1 := iT.len
 refine .forS (fun m (k : Int) => (k = -1 ∧ ∀ j : Nat, j < m → there[j]? = some false → Ef n p there j) ∨ ∃ j : Nat, k = (j : Int) ∧ there[j]? = some false ∧ (∀ i s r, Flw n p i s r → (Ck s r).2 = (j : Int) → (Ck s r).1 ∈ out) ∧ ∀ i : Nat, i < j → there[i]? = some false → Ef n p there i) (.inl ⟨rfl, fun j h => absurd h (Nat.not_lt_zero _)⟩) ?_ ?_
 ·intro k x st hx M
  have hkl := (gs hx).1
  have ht : there[k]? = some there[k] := gq (by omega)
  unfold L5.B3
  refine .bind' (.eq (A8 ht) ?_)
  refine .bind (Q := fun b => (b = true → there[k]? = some false ∧ ∀ (i : Nat) s r, i < n.Segments.length → Flw n p i s r → (Ck s r).2 = (k : Int) → (Ck s r).1 ∈ out) ∧ (b = false → there[k]? = some false → Ef n p there k)) ?_ ?_
  ·refine .forS (fun m (b : Bool) => (b = true → there[k]? = some false ∧ ∀ (i : Nat) s r, i < m → Flw n p i s r → (Ck s r).2 = (k : Int) → (Ck s r).1 ∈ out) ∧ (b = false → there[k]? = some false → Ef n p there k)) ?_ ?_ fun b h => h
   ·refine ⟨fun Z => ⟨by rw [ht]; simpa using Z, fun i _ _ h => absurd h (Nat.not_lt_zero _)⟩, fun Z G => ?_⟩
    rw [ht] at G; simp at G; simp [G] at Z
   ·intro i s b hs Z
    have hil := (gs hs).1
    obtain ⟨r, hr⟩ : ∃ ζ, p.Rates[i]? = some ζ := ⟨_, gq (by omega)⟩
    have he := (hn.segs i s hs).1
    have W : b = true → (r ≠ 0 → (Ck s r).2 = (k : Int) → (Ck s r).1 ∈ out) → there[k]? = some false ∧ ∀ (j : Nat) s r, j < i + 1 → Flw n p j s r → (Ck s r).2 = (k : Int) → (Ck s r).1 ∈ out := fun X hq => by
     obtain ⟨q1, q2⟩ := Z.1 X
     refine ⟨q1, fun j s' r' hj G O => ?_⟩
     by_cases hji : j = i
     ·subst hji
      have e1 := G.seg; have e2 := G.rate
      rw [hs] at e1; cases e1
      rw [hr] at e2; cases e2
      exact hq G.ne O
     ·exact q2 j s' r' (by omega) G O
    unfold L5.B6 L5.J7
    refine .bind' (.eq (A8 hr) (Cx (fun Y => A7 (fun X => Cx (fun O => .pure ⟨fun _ => W X fun _ h => absurd h O, fun h => by cases h⟩) fun O => ?_) fun hbf => .pure ⟨fun h => (by cases h), fun _ => Z.2 hbf⟩) fun Y => .pure ⟨fun h => W h fun h0 => absurd Y h0, Z.2⟩))
    dsimp only at Y O ⊢
    rw [Kk] at O
    have hfr : 0 ≤ (Ck s r).1 ∧ (Ck s r).1 < (n.Nodes.length : Int) := by
     unfold Ck
     split <;> dsimp only <;> omega
    rw [Kk]
    refine .bind' (.ix' hfr.1 (by omega) fun f y G hy => .pure ⟨fun ac => W X fun _ _ => ?_, fun ab _ => ⟨i, s, r, f, hs, hr, Y, O, G, ?_⟩⟩)
    ·dsimp only at hy ac
     rw [G]; exact (iT.mem f).1 (by rw [hy, ac])
    ·dsimp only at hy ab
     rw [hy, ab]
  ·rintro b ⟨b1, b2⟩
   unfold L5.J5 L5.J4
   refine A7 (fun h => ?_) fun aa => .pure ?_
   ·simp at h
    rcases M with ⟨rfl, M⟩ | ⟨j, rfl, _⟩
    ·obtain ⟨q1, q2⟩ := b1 h.1
     exact .pure (.inr ⟨k, rfl, q1, fun i s r G => q2 i s r (gs G.seg).1 G, M⟩)
    ·exact absurd h.2 (by omega)
   ·rcases M with ⟨rfl, M⟩ | M
    ·refine .inl ⟨rfl, fun j hj G => ?_⟩
     by_cases hjk : j = k
     ·subst hjk
      simp at aa
      exact b2 aa G
     ·exact M j (by omega) G
    ·exact .inr M
 ·rintro k (⟨rfl, h⟩ | h)
  ·exact .inl ⟨rfl, fun j hj => h j (by have := (gs hj).1; omega) hj⟩
  ·exact .inr h
theorem Iw {n : Nw} (hn : NetC n) {p : Plan} (h4 : p.Rates.length = n.Segments.length) : Ok (L5 n p) fun r => Topo n p r ∧ ((∀ v : Nat, v < n.Nodes.length → (v : Int) ∈ r) ∨ ((∃ v : Nat, v < n.Nodes.length ∧ (v : Int) ∉ r) ∧ ¬ I0 n p)) := by
 have h1 := hn.nodes
 unfold L5
 refine .bind' (.mk n.Nodes.length rfl (by omega) ?_)
 refine .bind (Q := fun r : Li => Topo n p r ∧ ((∀ v : Nat, v < n.Nodes.length → (v : Int) ∈ r) ∨ ((∃ v : Nat, v < n.Nodes.length ∧ (v : Int) ∉ r) ∧ ¬ I0 n p))) ?_ fun r hr => .pure hr
 refine .loop (fun W : Li × List Bool => There n p W.1 W.2) (fun W => n.Nodes.length - bZ W.2) (.nil n p) (by dsimp only; omega) ?_
 rintro ⟨out, G⟩ O
 dsimp only at O
 have i1 := O.len
 have hc := Nq G
 unfold L5.B1
 refine .bind (jX hn h4 O) fun k hk => ?_
 unfold L5.J2
 rcases hk with ⟨rfl, hb⟩ | ⟨j, rfl, M, Y, Z⟩
 ·exact Ax (fun _ => .pure ⟨O.topo, O.fin hb⟩) fun h0 => absurd (by decide) h0
 refine Ax (fun h => by omega) fun _ => ?_
 have := O.short
 refine .bind' (.app (by simp; omega) (.bind' (.eq (A8 M) (.pure ?_))))
 have hcs := Tq M
 have X := Nq (G.set j true)
 simp at X
 exact ⟨O.step M Y Z, by dsimp only; omega⟩
theorem Wy {n : Nw} (X : NetC n) {p : Plan} (O : p.Rates.length = n.Segments.length) : Ok (L5 n p) fun r => r.length = n.Nodes.length → I0 n p :=
 (Iw X O).mono fun r ⟨M, G⟩ Z => by
  rcases G with G | ⟨⟨v, Y, W⟩, G⟩
  ·exact M.acyc G
  ·have := Va M.rng M.nodup Y W; omega
theorem Qn {n : Nw} (W : NetC n) {p : Plan} (O : p.Rates.length = n.Segments.length) (G : I0 n p) : Ok (L5 n p) fun r => r.length = n.Nodes.length :=
 (Iw W O).mono fun r ⟨M, X⟩ => Ve M.rng M.nodup (X.resolve_right fun h => h.2 G)
theorem Rj {n : Nw} (W : NetC n) (h12 : Eg n = some 0) {p : Plan} : Ok (Hr n p) (FlowRes n p) := by
 have h1 := W.nodes; have h2 := W.segs1; have h3 := W.ports1
 unfold Hr
 refine .bind' (.eq h12 (Cx (fun h => absurd rfl h) fun _ => C4 (Q := ¬ Wd n p) (by unfold Wd; simp; omega) (fun h => .pure (.inl ⟨h, rfl⟩)) fun M => ?_))
 have M := Classical.not_not.1 M
 have l1 := M.1; have l2 := M.2.1
 have hsk : ∀ (k : Nat) (r : Int), p.Rates[k]? = some r → ∃ s, n.Segments[k]? = some s := fun k r G => ⟨_, gq (by have := (gs G).1; omega)⟩
 refine .bind (Ok.any (d := 1) (P := fun k r => ∃ s, n.Segments[k]? = some s ∧ ¬ Nj s r) fun k r G => ?_) ?_
 ·obtain ⟨s, X⟩ := hsk k r G
  have hc := (W.segs k s X).2
  unfold Hr.B6
  refine .bind' (.eq (A8 X) (.test ?_))
  dsimp only
  rw [Bn (by omega), Bool.or_eq_true, decide_eq_true_eq, decide_eq_true_eq]
  refine ⟨fun h => ⟨s, X, fun O => by unfold Nj at O; omega⟩, fun ⟨s', aa, h⟩ => ?_⟩
  rw [X] at aa; cases aa
  unfold Nj at h; omega
 rintro _ (⟨⟨k, r, G, s, X, h⟩, rfl⟩ | ⟨h, rfl⟩)
 ·exact .pure (.inr ⟨M, .inl ⟨fun O => h (O k r s G X), rfl⟩⟩)
 have O : Rng n p := fun k r s G X => Classical.not_not.1 fun W => h k r G ⟨s, X, W⟩
 simp only [Sum.elim_inl]
 unfold Hr.J1
 refine .bind (Ok.any (d := 1) (P := fun _ x => ¬ (-1000 ≤ x ∧ x ≤ 1000)) fun k x Y => ?_) ?_
 ·unfold Hr.B5
  exact .test (by simp; omega)
 rintro _ (⟨⟨k, x, Y, h⟩, rfl⟩ | ⟨h, rfl⟩)
 ·exact .pure (.inr ⟨M, .inr ⟨O, .inl ⟨fun Z => h (Z k x Y), rfl⟩⟩⟩)
 have Z : lI p := fun k x Y => Classical.not_not.1 (h k x Y)
 simp only [Sum.elim_inl]
 unfold Hr.J2
 refine .bind (Ok.any (d := 12) (P := fun k _ => Ep (wt n (k : Int)) p.Rates + Ep (wp n (k : Int)) p.Ports ≠ 0) fun k x Y => ?_) ?_
 ·unfold Hr.B4
  exact .bind (Ys W l1 l2 (O.all M) Z k) fun r G => .test (by rw [← G]; simp; omega)
 rintro _ (⟨⟨k, x, Y, h⟩, rfl⟩ | ⟨h, rfl⟩)
 ·exact .pure (.inr ⟨M, .inr ⟨O, .inr ⟨Z, .inl ⟨fun hb => h (hb k (gs Y).1), rfl⟩⟩⟩⟩)
 have hb : Bal n p := fun v hv => Classical.not_not.1 (h v _ (gq hv))
 simp only [Sum.elim_inl]
 unfold Hr.J3
 by_cases ha : I0 n p
 ·exact .bind (Qn W l1 ha) fun r G => Cx (fun h => by omega) fun _ => .pure (.inr ⟨M, .inr ⟨O, .inr ⟨Z, .inr ⟨hb, .inr ⟨ha, rfl⟩⟩⟩⟩⟩)
 ·exact .bind (Wy W l1) fun r G => Cx (fun h => .pure (.inr ⟨M, .inr ⟨O, .inr ⟨Z, .inr ⟨hb, .inl ⟨ha, rfl⟩⟩⟩⟩⟩)) fun h => absurd (G (by omega)) ha
theorem Pt (n : Nw) (p : Plan) : ∃ r, Ga n p = some r ∧ Hr n p = some r ∧ (r = 0 → NetC n ∧ FlowOk n p) := by
 obtain ⟨e, W, X, h3⟩ := F7 n
 by_cases G : e = 0
 ·subst G
  have M := h3.c W
  obtain ⟨r, Y, O⟩ := Yb M (p := p)
  obtain ⟨r', Z, g4⟩ := Rj M X (p := p)
  obtain rfl := O.uniq g4
  exact ⟨r, Y, Z, fun h => by subst h; exact ⟨M, O.flow M⟩⟩
 ·refine ⟨e, ?_, ?_, fun h => absurd h G⟩
  ·unfold Ga
   rw [W, Option.bind_some, if_pos (by simpa using G)]
  ·unfold Hr
   rw [X, Option.bind_some, if_pos (by simpa using G)]
structure SegF (m : Nat) (s : Segment) : Prop where
 ends : 0 ≤ s.From ∧ s.From < (m : Int) ∧ 0 ≤ s.To ∧ s.To < (m : Int) ∧ s.From ≠ s.To
 low : s.From < 6 ∧ s.To < 6
theorem SegF.at6 {m : Nat} {s : Sg} (h : SegF m s) : (0 ≤ s.From ∧ s.From < (m : Int) ∧ 0 ≤ s.To ∧ s.To < (m : Int) ∧ s.From ≠ s.To) ∧ s.From < 6 ∧ s.To < 6 := ⟨h.ends, h.low⟩
structure AtF (m : Nat) (v : Int) : Prop where
 node : 0 ≤ v ∧ v < (m : Int)
 low : v < 6
theorem AtF.at6 {m : Nat} {v : Int} (h : AtF m v) : 0 ≤ v ∧ v < (m : Int) ∧ v < 6 := ⟨h.node.1, h.node.2, h.low⟩
structure NetF (n : Network) : Prop where
 c : NetC n
 segs1 : 0 ≤ n.Segments.length ∧ n.Segments.length ≤ 8
 segs : ∀ (k : Nat) (s : Sg), n.Segments[k]? = some s → SegF n.Nodes.length s
 ports1 : 0 ≤ n.Ports.length ∧ n.Ports.length ≤ 6
 ports : ∀ (k : Nat) (s : Port), n.Ports[k]? = some s → AtF n.Nodes.length s.Node
 sts1 : n.Stations.length ≤ 7
 sts : ∀ (k : Nat) (s : Sn), n.Stations[k]? = some s → AtF n.Nodes.length s.Node
 ck12 : Eg n = some 0
theorem NetF.check {n : Nw} (h : NetF n) : Dw n = some 0 := h.c.check
theorem NetF.nodes {n : Nw} (h : NetF n) : 1 ≤ n.Nodes.length ∧ n.Nodes.length ≤ 24 := h.c.nodes
theorem NetOk.f {n : Nw} (h : NetOk n) : NetF n := by
 have M := h.nodes; have O := h.segs1; have W := h.ports1; have X := h.sts1
 refine ⟨h.g.c, by omega, fun k s G => ?_, by omega, fun k s G => ?_, by omega, fun k s G => ?_, iA h⟩
 ·have := (h.segs k s G).ends
  exact ⟨this, by omega⟩
 ·have := (h.ports k s G).node
  exact ⟨this, by omega⟩
 ·have := (h.sts k s G).node
  exact ⟨this, by omega⟩
theorem jA {n : Nw} (G : NetF n) {p : Plan} (h : FlowOk n p) : Ga n p = some 0 := W8 G.c h
theorem gY {n : Nw} (G : NetF n) {p : Plan} (h : FlowOk n p) : Hr n p = some 0 := by
 obtain ⟨r, M, O⟩ := Rj G.c G.ck12 (p := p)
 rw [M, O.uniq (h.res G.c)]
def Lt (up : Bool) (a b : Int) : Prop := if up = true then a < b else b < a
theorem Lt.ne {up : Bool} {a b : Int} (h : Lt up a b) : a ≠ b := by unfold Lt at h; split at h <;> omega
theorem Lt.trans {up : Bool} {a b c : Int} (h : Lt up a b) (k : Lt up b c) : Lt up a c := by
 cases up <;> simp only [Lt, if_true] at * <;> first | omega | (simp at *; omega)
structure Res (n : Network) (up : Bool) (rates ports : List Int) : Prop where
 rl : rates.length = n.Segments.length
 pl : ports.length = n.Ports.length
 rng : ∀ (k : Nat) (r : Int) (s : Sg), rates[k]? = some r → n.Segments[k]? = some s → -1000 ≤ r ∧ r ≤ 1000 ∧ (0 < r → Lt up s.From s.To) ∧ (r < 0 → Lt up s.To s.From)
 prt : ∀ (k : Nat) (x : Int), ports[k]? = some x → -1000 ≤ x ∧ x ≤ 1000
 bal : ∀ v, Ep (wt n v) rates + Ep (wp n v) ports = 0
theorem PlanOk.res {n : Nw} {p : Plan} (h : PlanOk n p) : ∃ up, Res n up p.Rates p.Ports := by
 rcases h.dir with O | O
 ·exact ⟨true, h.rl, h.pl, fun k r s G M => ⟨(h.rng k r s G M).1, (h.rng k r s G M).2.1, (O k r s G M).1, (O k r s G M).2⟩, h.prt, h.bal⟩
 ·exact ⟨false, h.rl, h.pl, fun k r s G M => ⟨(h.rng k r s G M).1, (h.rng k r s G M).2.1, fun h => by have := (O k r s G M).1 h; simpa [Lt] using this, fun h => by have := (O k r s G M).2 h; simpa [Lt] using this⟩, h.prt, h.bal⟩
theorem Hc : ∀ {w l : Li}, (∀ (k : Nat) (a x : Int), w[k]? = some a → l[k]? = some x → 0 ≤ a * x) → 0 ≤ Ep w l
 | [], _, _ => by simp [Ep]
 | _ :: _, [], _ => by simp [Ep]
 | a :: w, x :: l, h => by
  have O := h 0 a x rfl rfl
  have := Hc (w := w) (l := l) fun k b y G M => h (k + 1) b y (by simpa using G) (by simpa using M)
  simp only [Ep]; omega
theorem Tn : ∀ {w l : Li} {k : Nat} {a x : Int}, (∀ (k : Nat) (a x : Int), w[k]? = some a → l[k]? = some x → 0 ≤ a * x) → w[k]? = some a → l[k]? = some x → 0 < a * x → 0 < Ep w l
 | [], _, k, _, _, _, h, _, _ => by simp at h
 | _ :: _, [], k, _, _, _, _, h, _ => by simp at h
 | a :: w, x :: l, 0, b, y, h, G, M, hp => by
  simp at G M; subst G; subst M
  have := Hc (w := w) (l := l) fun k b y G M => h (k + 1) b y (by simpa using G) (by simpa using M)
  simp only [Ep]; omega
 | a :: w, x :: l, k + 1, b, y, h, G, M, hp => by
  have O := h 0 a x rfl rfl
  have := Tn (w := w) (l := l) (k := k) (fun k b y G M => h (k + 1) b y (by simpa using G) (by simpa using M)) (by simpa using G) (by simpa using M) hp
  simp only [Ep]; omega
theorem T9 {n : Nw} {k : Nat} {s : Sg} (v : Int) (h : n.Segments[k]? = some s) : (wt n v)[k]? = some (ind s.To v - ind s.From v) := by unfold wt; rw [List.getElem?_map, h]; rfl
theorem Ua {n : Nw} {k : Nat} {p : Port} (v : Int) (h : n.Ports[k]? = some p) : (wp n v)[k]? = some (ind p.Node v) := by unfold wp; rw [List.getElem?_map, h]; rfl
def Xy (n : Nw) (rates ports : Li) (v : Int) : Prop :=
 (∃ (i : Nat) (p : Port) (x : Int), n.Ports[i]? = some p ∧ p.Node = v ∧ ports[i]? = some x ∧ 0 < x) ∨
 ∃ (k : Nat) (s : Sg) (r : Int), n.Segments[k]? = some s ∧ rates[k]? = some r ∧ s.From ≠ s.To ∧ (0 < r ∧ s.To = v ∨ r < 0 ∧ s.From = v)
theorem Wi {n : Nw} {up : Bool} {rates ports : Li} {v : Int} (h : Res n up rates ports) (hc : Xy n rates ports v) (hp : ∀ (i : Nat) (p : Port) (x : Int), n.Ports[i]? = some p → p.Node = v → ports[i]? = some x → 0 ≤ x)
  (hs : ∀ (k : Nat) (s : Sg) (r : Int), n.Segments[k]? = some s → rates[k]? = some r → ¬ (0 < r ∧ s.From = v) ∧ ¬ (r < 0 ∧ s.To = v)) : False := by
 have b := h.bal v
 have w1 : ∀ (k : Nat) (a x : Int), (wt n v)[k]? = some a → rates[k]? = some x → 0 ≤ a * x := by
  intro k a x M X
  have hkl := (gs X).1
  obtain ⟨s, G⟩ : ∃ ζ, n.Segments[k]? = some ζ := ⟨_, gq (by have := h.rl; omega)⟩
  rw [T9 v G] at M; simp at M; subst M
  obtain ⟨n1, n2⟩ := hs k s x G X
  unfold ind
  by_cases O : s.To = v <;> by_cases e2 : s.From = v <;> simp [O, e2]
  ·have : ¬ x < 0 := fun h => n2 ⟨h, O⟩
   omega
  ·have : ¬ 0 < x := fun h => n1 ⟨h, e2⟩
   omega
 have w2 : ∀ (k : Nat) (a x : Int), (wp n v)[k]? = some a → ports[k]? = some x → 0 ≤ a * x := by
  intro k a x M X
  have hkl := (gs X).1
  obtain ⟨s, G⟩ : ∃ ζ, n.Ports[k]? = some ζ := ⟨_, gq (by have := h.pl; omega)⟩
  rw [Ua v G] at M; simp at M; subst M
  unfold ind
  by_cases O : s.Node = v
  ·have := hp k s x G O X
   simp [O]; exact this
  ·simp [O]
 rcases hc with ⟨i, p, x, Y, Z, h3, h4⟩ | ⟨k, s, r, Y, Z, h3, h4⟩
 ·have := Tn w2 (Ua v Y) h3 (by rw [Z, Eh]; omega)
  have := Hc w1
  omega
 ·have W : 0 < (ind s.To v - ind s.From v) * r := by
   rcases h4 with ⟨h5, h6⟩ | ⟨h5, h6⟩
   ·rw [h6, Eh, D9 (by omega)]; omega
   ·rw [h6, Eh, D9 (by omega)]; omega
  have := Tn w1 (T9 v Y) Z W
  have := Hc w2
  omega
def HopIs (n : Nw) (rates : Li) (a : Int) (h : Hop) (b : Int) : Prop :=
 ∃ (k : Nat) (s : Sg) (r : Int), h.Segment = (k : Int) ∧ n.Segments[k]? = some s ∧ rates[k]? = some r ∧ (h.Back = false ∧ 0 < r ∧ s.From = a ∧ s.To = b ∨ h.Back = true ∧ r < 0 ∧ s.To = a ∧ s.From = b)
def bW (rates : Li) (h : Hop) : Int := max (rates.getD h.Segment.toNat 0) (-rates.getD h.Segment.toNat 0)
structure WayIs (n : Network) (rates : List Int) (hops : List Hop) (nd : Nat → Int) : Prop where
 hop : ∀ (j : Nat) (h : Hop), hops[j]? = some h → HopIs n rates (nd j) h (nd (j + 1))
theorem Le {rates : Li} {h : Hop} {k : Nat} {r : Int} (h1 : h.Segment = (k : Int)) (h2 : rates[k]? = some r) : bW rates h = max r (-r) := by
 unfold bW
 rw [h1, List.getD_eq_getElem?_getD, Int.toNat_natCast, h2]; rfl
theorem WayIs.snoc {n : Nw} {rates : Li} {hops : List Hop} {nd : Nat → Int} (w : WayIs n rates hops nd) {h : Hop} {t : Int} (W : HopIs n rates (nd hops.length) h t) :
  WayIs n rates (hops ++ [h]) (fun i => if i ≤ hops.length then nd i else t) := by
 refine ⟨fun j M G => ?_⟩
 rw [List.getElem?_append] at G
 split at G
 ·rename_i X
  have := w.hop j M G
  rw [if_pos (by omega), if_pos (by omega)]; exact this
 ·have O := (gs G).1
  simp at O
  have : j = hops.length := by omega
  subst this
  simp at G; subst G
  rw [if_pos (by omega), if_neg (by omega)]; exact W
theorem HopIs.lt {n : Nw} {up : Bool} {rates ports : Li} (h : Res n up rates ports) {a b : Int} {x : Hop} (hx : HopIs n rates a x b) : Lt up a b := by
 obtain ⟨k, s, r, X, M, O, W⟩ := hx
 have := h.rng k r s O M
 rcases W with ⟨_, G, rfl, rfl⟩ | ⟨_, G, rfl, rfl⟩
 ·exact this.2.2.1 G
 ·exact this.2.2.2 G
theorem WayIs.mono {n : Nw} {up : Bool} {rates ports : Li} (h : Res n up rates ports) {hops : List Hop} {nd : Nat → Int} (w : WayIs n rates hops nd) : ∀ (j i : Nat), i < j → j ≤ hops.length → Lt up (nd i) (nd j) := by
 intro j
 induction j with
 | zero => intro i O; omega
 | succ j ih =>
  intro i O W
  have M := (w.hop j hops[j] (gq (by omega))).lt h
  by_cases G : i = j
  ·subst G; exact M
  ·exact (ih i (by omega) (by omega)).trans M
def V8 (n : Nw) (up : Bool) (v : Int) : Nat := if up = true then min 6 n.Nodes.length - v.toNat else v.toNat + 1
theorem Ss {n : Nw} {up : Bool} {a b : Int} (M : 0 ≤ a ∧ a < (n.Nodes.length : Int) ∧ a < 6) (hb : 0 ≤ b ∧ b < (n.Nodes.length : Int) ∧ b < 6) (h : Lt up a b) : V8 n up b < V8 n up a := by
 unfold Lt at h
 unfold V8
 split at h <;> rename_i G <;> simp only [G, if_true, if_false] <;> first | omega | (simp; omega)
structure Walk (n : Network) (up : Bool) (rates ports : List Int) (x0 s0 : Int) (hops : List Hop) (rate t : Int) : Prop where
 way : ∃ nd, WayIs n rates hops nd ∧ nd 0 = s0 ∧ nd hops.length = t
 at_ : 0 ≤ t ∧ t < (n.Nodes.length : Int) ∧ t < 6
 len : hops.length + V8 n up t ≤ min 6 n.Nodes.length
 rt : 1 ≤ rate ∧ rate ≤ x0
 most : ∀ h, h ∈ hops → rate ≤ bW rates h
 tight : rate = x0 ∨ ∃ h, h ∈ hops ∧ rate = bW rates h
 comes : Xy n rates ports t
theorem gO {n : Nw} (hn : NetF n) {up : Bool} {rates ports : Li} (h : Res n up rates ports) {i0 : Nat} {p0 : Port} {x0 : Int} (hp0 : n.Ports[i0]? = some p0) (hx0 : ports[i0]? = some x0) (hpos : 0 < x0) :
  Ok (Cl (Jj.B4 ⟨n, rates, ports⟩) Du ([], x0, p0.Node)) fun d => ∃ (W : Nat) (p : Port) (y rate : Int), d.1 = (W : Int) ∧ n.Ports[W]? = some p ∧ ports[W]? = some y ∧ y < 0 ∧ Walk n up rates ports x0 p0.Node d.2.1 rate p.Node ∧ d.2.2 = min rate (-y) := by
 have hnn := hn.nodes; have hsn := hn.segs1
 have hxr := h.prt i0 x0 hx0
 have hpn := (hn.ports i0 p0 hp0).at6
 refine .loop (fun st : List Hop × Int × Int => Walk n up rates ports x0 p0.Node st.1 st.2.1 st.2.2) (fun st => V8 n up st.2.2) ⟨⟨fun _ => p0.Node, ⟨by simp⟩, rfl, rfl⟩, hpn, ?_, by dsimp only; omega, by simp, .inl rfl, .inl ⟨i0, p0, x0, hp0, rfl, hx0, hpos⟩⟩ ?_ ?_
 ·dsimp only [List.length_nil]
  unfold V8; split <;> omega
 ·dsimp only
  unfold V8; split <;> omega
 rintro ⟨M, rate, G⟩ w
 dsimp only at w
 obtain ⟨nd, w1, w2, w3⟩ := w.way
 have hlen := w.len
 have hrate := w.rt
 have hat := w.at_
 unfold Jj.B4
 refine .bind' (.forL (fun k _ => ∀ (i : Nat) (p : Port) (x : Int), i < k → n.Ports[i]? = some p → p.Node = G → ports[i]? = some x → 0 ≤ x)
  (fun d : Int × List Hop × Int => ∃ (W : Nat) (p : Port) (y : Int), d.1 = (W : Int) ∧ n.Ports[W]? = some p ∧ ports[W]? = some y ∧ y < 0 ∧ p.Node = G ∧ d.2.1 = M ∧ d.2.2 = min rate (-y)) (fun i _ _ h => absurd h (Nat.not_lt_zero _)) ?_ ?_ ?_)
 ·intro k p _ hp hi
  dsimp only at hp
  have hkl := (gs hp).1
  obtain ⟨x, O⟩ : ∃ ζ, ports[k]? = some ζ := ⟨_, gq (by have := h.pl; omega)⟩
  have hxr := h.prt k x O
  have no : (p.Node = G → 0 ≤ x) → Ok (Jj.J11 ⟨n, rates, ports⟩ (M, rate, G) k false) (Sum.elim (fun _ : Unit => ∀ (i : Nat) (p : Port) (x : Int), i < k + 1 → n.Ports[i]? = some p → p.Node = G → ports[i]? = some x → 0 ≤ x)
    fun d : Int × List Hop × Int => ∃ (W : Nat) (p : Port) (y : Int), d.1 = (W : Int) ∧ n.Ports[W]? = some p ∧ ports[W]? = some y ∧ y < 0 ∧ p.Node = G ∧ d.2.1 = M ∧ d.2.2 = min rate (-y)) := by
   intro hno
   unfold Jj.J11
   refine .pure fun i q y hik hq hqn hy => ?_
   by_cases hi' : i = k
   ·subst hi'
    rw [hp] at hq; simp at hq; subst hq
    rw [O] at hy; simp at hy; subst hy
    exact hno hqn
   ·exact hi i q y (by omega) hq hqn hy
  unfold Jj.B10
  refine Dk (fun he => .bind' (.eq (A8 O) ?_)) fun he => no fun h => absurd h he
  dsimp only
  by_cases X : x < 0
  ·simp only [X, decide_true]
   unfold Jj.J11
   refine .bind' (.eq (A8 O) (.pure ⟨k, p, x, rfl, hp, O, X, he, rfl, ?_⟩))
   dsimp only
   rw [Bn (by omega), Int.zero_sub]
  ·simp only [X, decide_false]
   exact no fun _ => by omega
 ·intro _ Y
  dsimp only at Y
  simp only [Sum.elim_inl]
  unfold Jj.J5
  refine .bind' (.forL (fun k _ => ∀ (i : Nat) (s : Sg) (r : Int), i < k → n.Segments[i]? = some s → rates[i]? = some r → ¬ (0 < r ∧ s.From = G) ∧ ¬ (r < 0 ∧ s.To = G))
   (fun d : List Hop × Int × Int => ∃ (hp : Hop), HopIs n rates G hp d.2.2 ∧ d.1 = M ++ [hp] ∧ d.2.1 = min rate (bW rates hp)) (fun i _ _ h => absurd h (Nat.not_lt_zero _)) ?_ ?_ ?_)
  ·intro k s _ hs hi
   dsimp only at hs
   have hkl := (gs hs).1
   obtain ⟨r, hr⟩ : ∃ ζ, rates[k]? = some ζ := ⟨_, gq (by have := h.rl; omega)⟩
   have hrr := h.rng k r s hr hs
   unfold Jj.B7 Jj.J8 Jj.J9
   refine .bind' (.eq (A8 hr) (A7 (fun hb => .bind' (.app (by simp; omega) (.pure ?_))) fun hb1 => A7 (fun hb => .bind' (.app (by simp; omega) (.pure ?_))) fun hb2 => .pure fun i s' r' hik hs' Z => ?_))
   ·simp at hb
    refine ⟨⟨(k : Int), false⟩, ⟨k, s, r, rfl, hs, hr, .inl ⟨rfl, hb.1, hb.2, rfl⟩⟩, rfl, ?_⟩
    rw [Le (k := k) rfl hr]
    dsimp only
    rw [show max r (-r) = r by omega]
   ·simp at hb
    refine ⟨⟨(k : Int), true⟩, ⟨k, s, r, rfl, hs, hr, .inr ⟨rfl, hb.1, hb.2, rfl⟩⟩, rfl, ?_⟩
    rw [Le (k := k) rfl hr]
    dsimp only
    rw [Bn (by omega), show max r (-r) = 0 - r by omega]
   ·by_cases hi' : i = k
    ·subst hi'
     rw [hs] at hs'; simp at hs'; subst hs'
     rw [hr] at Z; simp at Z; subst Z
     simp at hb1 hb2
     exact ⟨fun h => hb1 h.1 h.2, fun h => hb2 h.1 h.2⟩
    ·exact hi i s' r' (by omega) hs' Z
  ·intro _ hno
   exact (Wi h w.comes (fun i p x hp => Y i p x (gs hp).1 hp) fun k s r hs => hno k s r (gs hs).1 hs).elim
  ·rintro ⟨hops', rate', to'⟩ ⟨hp, hh, e1, e2⟩
   dsimp only at hh e1 e2
   subst e1; subst e2
   have hh' := hh
   have hlt := hh.lt h
   obtain ⟨k, s, r, q1, q2, q3, q4⟩ := hh
   have hse := (hn.segs k s q2).at6
   have hto : 0 ≤ to' ∧ to' < (n.Nodes.length : Int) ∧ to' < 6 := by rcases q4 with ⟨_, _, _, q⟩ | ⟨_, _, _, q⟩ <;> omega
   have hfar := Ss (n := n) (by omega) (by omega) hlt
   have hamt : 1 ≤ bW rates hp := by rw [Le q1 q3]; rcases q4 with ⟨_, q, _, _⟩ | ⟨_, q, _, _⟩ <;> omega
   refine .pure ⟨⟨⟨_, w1.snoc (by rw [w3]; exact hh'), by simp [w2], by simp; omega⟩, hto, by simp; omega, by dsimp only; omega, fun x O => ?_, ?_, .inr ⟨k, s, r, q2, q3, by omega, ?_⟩⟩, hfar⟩
   ·rcases List.mem_append.1 O with O | O
    ·have := w.most x O; dsimp only; omega
    ·simp at O; subst O; dsimp only; omega
   ·dsimp only
    by_cases hle : rate ≤ bW rates hp
    ·rw [show min rate (bW rates hp) = rate by omega]
     rcases w.tight with ht | ⟨x, O, ht⟩
     ·exact .inl ht
     ·exact .inr ⟨x, by simp [O], ht⟩
    ·exact .inr ⟨hp, by simp, by omega⟩
   ·rcases q4 with ⟨_, q5, _, q6⟩ | ⟨_, q5, _, q6⟩
    ·exact .inl ⟨q5, q6⟩
    ·exact .inr ⟨q5, q6⟩
 ·rintro ⟨o, hops', rate'⟩ ⟨W, p, y, e1, e2, e3, e4, e5, e6, e7⟩
  dsimp only at e1 e6 e7
  subst e1; subst e6; subst e7
  exact .pure ⟨W, p, y, rate, rfl, e2, e3, e4, by rw [e5]; exact w, rfl⟩
def Iq (rate : Int) (h : Hop) : Int := if h.Back = true then -rate else rate
def Do (rate : Int) (k : Nat) : List Hop → Int
 | [] => 0
 | h :: t => (if h.Segment = (k : Int) then Iq rate h else 0) + Do rate k t
theorem Mx (rate : Int) (k : Nat) : ∀ l m : List Hop, Do rate k (l ++ m) = Do rate k l + Do rate k m
 | [], m => by simp [Do]
 | h :: l, m => by simp only [List.cons_append, Do, Mx rate k l m]; omega
theorem Ii {rate : Int} {k j : Nat} {l : List Hop} {h : Hop} (G : l[j]? = some h) : Do rate k (l.take (j + 1)) = Do rate k (l.take j) + if h.Segment = (k : Int) then Iq rate h else 0 := by
 rw [List.take_add_one, G, Mx]; simp [Do]
theorem L9 {rate : Int} {k : Nat} : ∀ {l : List Hop}, (∀ h, h ∈ l → h.Segment ≠ (k : Int)) → Do rate k l = 0
 | [], _ => rfl
 | h :: l, hh => by
  simp only [Do]
  rw [if_neg (hh h (by simp)), L9 fun x G => hh x (by simp [G])]; rfl
theorem Pn {rate : Int} {k : Nat} : ∀ {l : List Hop} {i : Nat} {h : Hop}, l[i]? = some h → h.Segment = (k : Int) → (∀ (j : Nat) (x : Hop), j ≠ i → l[j]? = some x → x.Segment ≠ (k : Int)) → Do rate k l = Iq rate h
 | [], i, h, hi, _, _ => by simp at hi
 | x :: l, 0, h, hi, hk, ho => by
  simp at hi; subst hi
  simp only [Do]
  rw [if_pos hk, L9 fun y G => ?_]; omega
  obtain ⟨j, M⟩ := List.getElem?_of_mem G
  exact ho (j + 1) y (by omega) (by simpa using M)
 | x :: l, i + 1, h, hi, hk, ho => by
  simp only [Do]
  rw [if_neg (ho 0 x (by omega) rfl), Pn (i := i) (by simpa using hi) hk fun j y M G => ho (j + 1) y (by omega) (by simpa using G)]; omega
theorem H3 {rate : Int} (G : 0 ≤ rate ∧ rate ≤ 1000) (k : Nat) : ∀ l : List Hop, -(1000 * (l.length : Int)) ≤ Do rate k l ∧ Do rate k l ≤ 1000 * (l.length : Int)
 | [] => by simp [Do]
 | h :: l => by
  have := H3 G k l
  simp only [Do, List.length_cons]
  unfold Iq
  split
  ·split <;> omega
  ·omega
theorem Q9 {h : Hop} {r : Int} (G : -1000000 ≤ r ∧ r ≤ 1000000) : Jc h r = Iq r h := by
 unfold Jc Iq
 rw [Bn (by omega), Int.zero_sub]
theorem WayIs.once {n : Nw} {up : Bool} {rates ports : Li} (h : Res n up rates ports) {hops : List Hop} {nd : Nat → Int} (w : WayIs n rates hops nd) {i j : Nat} {x y : Hop} (hx : hops[i]? = some x) (hy : hops[j]? = some y)
  (he : x.Segment = y.Segment) : i = j := by
 have hi := (gs hx).1
 have hj := (gs hy).1
 obtain ⟨k, s, r, e1, X, Y, Z⟩ := w.hop i x hx
 obtain ⟨k', s', r', f1, M, O, f4⟩ := w.hop j y hy
 have : k = k' := by omega
 subst this
 rw [X] at M; simp at M; subst M
 rw [Y] at O; simp at O; subst O
 have W : nd i = nd j := by
  rcases Z with ⟨_, a, b, _⟩ | ⟨_, a, b, _⟩ <;> rcases f4 with ⟨_, c, d, _⟩ | ⟨_, c, d, _⟩ <;> omega
 rcases Nat.lt_trichotomy i j with G | he | G
 ·exact absurd W (w.mono h j i G (by omega)).ne
 ·exact he
 ·exact absurd W.symm (w.mono h i j G (by omega)).ne
structure Follow (n : Network) (up : Bool) (rates ports : List Int) (i0 : Nat) (x : Path) (d : paths_divider) (o : Nat) (p0 po : Port) (x0 y : Int) (nd : Nat → Int) : Prop where
 net : d.n_ = n
 in_ : x.In = (i0 : Int)
 out : x.Out = (o : Int)
 hp0 : n.Ports[i0]? = some p0
 hpo : n.Ports[o]? = some po
 hx0 : ports[i0]? = some x0 ∧ 0 < x0
 hy : ports[o]? = some y ∧ y < 0
 way : WayIs n rates x.Hops nd
 ends : nd 0 = p0.Node ∧ nd x.Hops.length = po.Node
 len : x.Hops.length ≤ 5
 rt : 1 ≤ x.Rate ∧ x.Rate ≤ x0 ∧ x.Rate ≤ -y
 most : ∀ h, h ∈ x.Hops → x.Rate ≤ bW rates h
 tight : x.Rate = x0 ∨ x.Rate = -y ∨ ∃ h, h ∈ x.Hops ∧ x.Rate = bW rates h
 hports : d.ports = (ports.set i0 (x0 - x.Rate)).set o (y + x.Rate)
 hrates : d.rates.length = rates.length ∧ ∀ (k : Nat) (r : Int), rates[k]? = some r → d.rates[k]? = some (r - Do x.Rate k x.Hops)
 less : ∀ (k : Nat) (r : Int), rates[k]? = some r → (0 ≤ r → 0 ≤ r - Do x.Rate k x.Hops ∧ r - Do x.Rate k x.Hops ≤ r) ∧ (r ≤ 0 → r ≤ r - Do x.Rate k x.Hops ∧ r - Do x.Rate k x.Hops ≤ 0)
 res : Res n up d.rates d.ports
theorem Ma {n : Nw} (hn : NetF n) {up : Bool} {rates ports : Li} (h : Res n up rates ports) {i0 : Nat} {x0 : Int} (hx0 : ports[i0]? = some x0) (hpos : 0 < x0) :
  Ok (Jj ⟨n, rates, ports⟩ (i0 : Int)) fun r => ∃ o p0 po y nd, Follow n up rates ports i0 r.1 r.2 o p0 po x0 y nd := by
 have hil := (gs hx0).1
 obtain ⟨p0, hp0⟩ : ∃ ζ, n.Ports[i0]? = some ζ := ⟨_, gq (by have := h.pl; omega)⟩
 have hxr := h.prt i0 x0 hx0
 unfold Jj
 refine .bind' (.eq (A8 hx0) (.bind' (.eq (A8 hp0) (.bind (gO hn h hp0 hx0 hpos) ?_))))
 rintro ⟨_, G, rt⟩ ⟨o, po, y, rate, rfl, hpo, hy, hyn, w, e7⟩
 dsimp only at w e7 ⊢
 obtain ⟨nd, w1, w2, w3⟩ := w.way
 have hrate := w.rt
 have hyr := h.prt o y hy
 have hrt : 1 ≤ rt ∧ rt ≤ x0 ∧ rt ≤ -y ∧ rt ≤ rate := by omega
 have hne : i0 ≠ o := by rintro rfl; rw [hx0] at hy; simp at hy; omega
 unfold Jj.J1
 dsimp only
 have X : (ports.set i0 (wr (x0 - rt)))[o]? = some y := by rw [List.getElem?_set_ne hne]; exact hy
 refine .bind' (.eq (A8 X) ?_)
 have hlen : G.length ≤ 5 := by
  have hl := w.len; have := hn.nodes; have hat := w.at_
  unfold V8 at hl; split at hl <;> omega
 have W : ∀ h, h ∈ G → rt ≤ bW rates h := fun x M => by have := w.most x M; omega
 have key : ∀ (k : Nat) (r : Int), rates[k]? = some r → Do rt k G = 0 ∨ (0 < r ∧ Do rt k G = rt ∧ rt ≤ r) ∨ (r < 0 ∧ Do rt k G = -rt ∧ rt ≤ -r) := by
  intro k r Y
  by_cases hex : ∃ (i : Nat) (x : Hop), G[i]? = some x ∧ x.Segment = (k : Int)
  ·obtain ⟨i, x, M, O⟩ := hex
   rw [Pn M O fun j y hj hy he => hj (w1.once h hy M (he.trans O.symm))]
   have hm := W x (mg M)
   rw [Le O Y] at hm
   obtain ⟨k', s, r', e1, e2, e3, e4⟩ := w1.hop i x M
   have : k = k' := by omega
   subst this
   rw [Y] at e3; simp at e3; subst e3
   unfold Iq
   rcases e4 with ⟨b, q, _, _⟩ | ⟨b, q, _, _⟩
   ·exact .inr (.inl ⟨q, by rw [b]; rfl, by omega⟩)
   ·exact .inr (.inr ⟨q, by rw [b]; rfl, by omega⟩)
  ·exact .inl (L9 fun x M O => by obtain ⟨i, hi⟩ := List.getElem?_of_mem M; exact hex ⟨i, x, hi, O⟩)
 refine .bind (Q := fun Z => Z.length = rates.length ∧ (∀ (k : Nat) (r : Int), rates[k]? = some r → Z[k]? = some (r - Do rt k G)) ∧ ∀ v, Ep (wt n v) Z = Ep (wt n v) rates - (rt * ind (nd G.length) v - rt * ind (nd 0) v)) ?_ ?_
 ·refine .forJ (fun j Z => Z.length = rates.length ∧ (∀ (k : Nat) (r : Int), rates[k]? = some r → Z[k]? = some (r - Do rt k (G.take j))) ∧ ∀ v, Ep (wt n v) Z = Ep (wt n v) rates - (rt * ind (nd j) v - rt * ind (nd 0) v)) ⟨rfl, fun k r Y => by simp [Do, Y], fun v => by omega⟩ ?_ ?_
  ·rintro j Z hj ⟨i1, i2, i3⟩
   have M : G[j]? = some G[j] := gq hj
   generalize G[j] = x at M
   obtain ⟨k, s, r, e1, e2, e3, e4⟩ := w1.hop j x M
   have hst := i2 k r e3
   have hrr := h.rng k r s e3 e2
   have hb := H3 (rate := rt) (by omega) k (G.take j)
   rw [List.length_take] at hb
   unfold Jj.B3
   refine .bind' (.eq (A8 M) ?_)
   dsimp only
   rw [e1]
   refine .bind' (.eq (A8 hst) (.pure ?_))
   dsimp only
   rw [Q9 (by omega)]
   have hsg : -1000 ≤ Iq rt x ∧ Iq rt x ≤ 1000 := by unfold Iq; split <;> omega
   rw [Bn (by omega)]
   refine ⟨by simp [i1], fun k' r' hr' => ?_, fun v => ?_⟩
   ·rw [Ii M, Ee]
    have hkl := (gs hst).1
    by_cases hkk : k = k'
    ·subst hkk
     rw [hr'] at e3; simp at e3; subst e3
     rw [if_pos ⟨rfl, hkl⟩, if_pos e1]; congr 1; omega
    ·rw [if_neg (fun h => hkk h.1), if_neg (by omega), i2 k' r' hr']; simp
   ·rw [Gp (T9 v e2) hst, i3 v]
    have : (ind s.To v - ind s.From v) * (r - Do rt k (G.take j) - Iq rt x - (r - Do rt k (G.take j))) = -(rt * ind (nd (j + 1)) v - rt * ind (nd j) v) := by
     rw [show r - Do rt k (G.take j) - Iq rt x - (r - Do rt k (G.take j)) = -Iq rt x by omega]
     unfold Iq
     rcases e4 with ⟨b, _, q1, q2⟩ | ⟨b, _, q1, q2⟩
     ·rw [b, q1, q2, if_neg (by simp), Int.sub_mul, Int.mul_neg, Int.mul_neg, Int.mul_comm, Int.mul_comm (ind (nd j) v)]; omega
     ·rw [b, q1, q2, if_pos rfl, Int.neg_neg, Int.sub_mul, Int.mul_comm, Int.mul_comm (ind (nd (j + 1)) v)]; omega
    rw [this]; omega
  ·rintro Z ⟨i1, i2, i3⟩
   rw [List.take_length] at i2
   exact ⟨i1, i2, i3⟩
 rintro Z ⟨i1, i2, i3⟩
 unfold Jj.J2
 dsimp only
 have e1 : wr (x0 - rt) = x0 - rt := Bn (by omega)
 have e2 : wr (y + rt) = y + rt := Bn (by omega)
 rw [e1] at X
 rw [e1, e2]
 have less : ∀ (k : Nat) (r : Int), rates[k]? = some r → (0 ≤ r → 0 ≤ r - Do rt k G ∧ r - Do rt k G ≤ r) ∧ (r ≤ 0 → r ≤ r - Do rt k G ∧ r - Do rt k G ≤ 0) := fun k r Y => by
  have := key k r Y; omega
 refine .pure ⟨o, p0, po, y, nd, rfl, rfl, rfl, hp0, hpo, ⟨hx0, hpos⟩, ⟨hy, hyn⟩, w1, ⟨w2, w3⟩, hlen, ⟨hrt.1, hrt.2.1, hrt.2.2.1⟩, W, ?_, rfl, ⟨i1, i2⟩, less, ⟨by dsimp only; rw [i1]; exact h.rl, by simp [h.pl], fun k r s Y hs => ?_, fun k x O => ?_, fun v => ?_⟩⟩
 ·dsimp only
  by_cases hc : rate ≤ -y
  ·have : rt = rate := by omega
   rcases w.tight with ht | ⟨x, M, ht⟩
   ·exact .inl (by omega)
   ·exact .inr (.inr ⟨x, M, by omega⟩)
  ·exact .inr (.inl (by omega))
 ·dsimp only at Y
  have hkl := (gs Y).1
  obtain ⟨r0, hr0⟩ : ∃ ζ, rates[k]? = some ζ := ⟨_, gq (by omega)⟩
  have := i2 k r0 hr0
  rw [Y] at this; simp at this
  have hl := less k r0 hr0
  have hrr := h.rng k r0 s hr0 hs
  refine ⟨by omega, by omega, fun hp => hrr.2.2.1 (by omega), fun hp => hrr.2.2.2 (by omega)⟩
 ·dsimp only at O
  rw [Ee] at O
  split at O
  ·simp at O; omega
  ·rw [Ee] at O
   split at O
   ·simp at O; omega
   ·exact h.prt k x O
 ·dsimp only
  rw [i3 v, Gp (Ua v hpo) X, Gp (Ua v hp0) hx0, w2, w3]
  have := h.bal v
  have a1 : ind p0.Node v * (x0 - rt - x0) = -(rt * ind p0.Node v) := by rw [show x0 - rt - x0 = -rt by omega, Int.mul_neg, Int.mul_comm]
  have a2 : ind po.Node v * (y + rt - y) = rt * ind po.Node v := by rw [show y + rt - y = rt by omega, Int.mul_comm]
  rw [a1, a2]; omega
def nz : Li → Nat
 | [] => 0
 | x :: l => (if x = 0 then 0 else 1) + nz l
theorem I1 : ∀ l : Li, nz l ≤ l.length
 | [] => Nat.le_refl _
 | x :: l => by have := I1 l; simp only [nz, List.length_cons]; split <;> omega
theorem Xs : ∀ {l m : Li}, l.length = m.length → (∀ k : Nat, l[k]? = some 0 → m[k]? = some 0) → nz m ≤ nz l
 | [], [], _, _ => Nat.le_refl _
 | [], _ :: _, h, _ => by simp at h
 | _ :: _, [], h, _ => by simp at h
 | x :: l, y :: m, hl, h => by
  have M := h 0
  have := Xs (l := l) (m := m) (by simpa using hl) fun k O => by have := h (k + 1) (by simpa using O); simpa using this
  simp at M
  simp only [nz]
  by_cases G : x = 0
  ·rw [if_pos G, if_pos (M G)]; omega
  ·rw [if_neg G]; split <;> omega
theorem Xr : ∀ {l m : Li} {i : Nat} {x : Int}, l.length = m.length → (∀ k : Nat, l[k]? = some 0 → m[k]? = some 0) → l[i]? = some x → x ≠ 0 → m[i]? = some 0 → nz m < nz l
 | [], _, i, _, _, _, h, _, _ => by simp at h
 | _ :: _, [], _, _, h, _, _, _, _ => by simp at h
 | a :: l, b :: m, 0, x, hl, h, hx, hn, hy => by
  have := Xs (l := l) (m := m) (by simpa using hl) fun k M => by have := h (k + 1) (by simpa using M); simpa using this
  simp at hx hy
  simp only [nz]
  rw [if_pos hy, if_neg (show ¬ a = 0 by omega)]; omega
 | a :: l, b :: m, i + 1, x, hl, h, hx, hn, hy => by
  have O := h 0
  have := Xr (l := l) (m := m) (i := i) (by simpa using hl) (fun k M => by have := h (k + 1) (by simpa using M); simpa using this) (by simpa using hx) hn (by simpa using hy)
  simp at O
  simp only [nz]
  by_cases G : a = 0
  ·rw [if_pos G, if_pos (O G)]; omega
  ·rw [if_neg G]; split <;> omega
def Ct (k : Nat) : List Path → Int
 | [] => 0
 | x :: l => Do x.Rate k x.Hops + Ct k l
def Lc (i : Nat) (x : Path) : Int := (if x.In = (i : Int) then x.Rate else 0) - (if x.Out = (i : Int) then x.Rate else 0)
def Cq (i : Nat) : List Path → Int
 | [] => 0
 | x :: l => Lc i x + Cq i l
theorem Fl (k : Nat) : ∀ l m : List Path, Ct k (l ++ m) = Ct k l + Ct k m
 | [], m => by simp [Ct]
 | x :: l, m => by simp only [List.cons_append, Ct, Fl k l m]; omega
theorem Gk (i : Nat) : ∀ l m : List Path, Cq i (l ++ m) = Cq i l + Cq i m
 | [], m => by simp [Cq]
 | x :: l, m => by simp only [List.cons_append, Cq, Gk i l m]; omega
def PathOk (n : Nw) (p : Plan) (x : Path) : Prop := ∃ (i o : Nat) (p0 po : Port) (G M : Int) (nd : Nat → Int), x.In = (i : Int) ∧ x.Out = (o : Int) ∧ n.Ports[i]? = some p0 ∧ n.Ports[o]? = some po ∧ p.Ports[i]? = some G ∧ 0 < G ∧ p.Ports[o]? = some M ∧ M < 0 ∧
 WayIs n p.Rates x.Hops nd ∧ nd 0 = p0.Node ∧ nd x.Hops.length = po.Node ∧ x.Hops.length ≤ 5 ∧ 1 ≤ x.Rate ∧ x.Rate ≤ 1000
def cD (rates ports : Li) (x : Path) : Prop := (∃ i : Nat, x.In = (i : Int) ∧ ports[i]? = some 0) ∨ (∃ o : Nat, x.Out = (o : Int) ∧ ports[o]? = some 0) ∨ ∃ (h : Hop) (k : Nat), h ∈ x.Hops ∧ h.Segment = (k : Int) ∧ rates[k]? = some 0
structure DInv (n : Network) (up : Bool) (p : Plan) (rates ports : List Int) (out : List Path) : Prop where
 res : Res n up rates ports
 shape : ∀ (k : Nat) (r r0 : Int), rates[k]? = some r → p.Rates[k]? = some r0 → (0 ≤ r0 → 0 ≤ r ∧ r ≤ r0) ∧ (r0 ≤ 0 → r0 ≤ r ∧ r ≤ 0)
 pshape : ∀ (k : Nat) (r r0 : Int), ports[k]? = some r → p.Ports[k]? = some r0 → (0 ≤ r0 → 0 ≤ r ∧ r ≤ r0) ∧ (r0 ≤ 0 → r0 ≤ r ∧ r ≤ 0)
 sumR : ∀ (k : Nat) (r r0 : Int), rates[k]? = some r → p.Rates[k]? = some r0 → r = r0 - Ct k out
 sumP : ∀ (k : Nat) (r r0 : Int), ports[k]? = some r → p.Ports[k]? = some r0 → r = r0 - Cq k out
 paths : ∀ x, x ∈ out → PathOk n p x
 dead : ∀ x, x ∈ out → cD rates ports x
 apart : ∀ (i j : Nat) (x y : Path), i < j → out[i]? = some x → out[j]? = some y → ¬ (x.In = y.In ∧ x.Out = y.Out ∧ x.Hops = y.Hops)
 count : out.length + nz rates + nz ports ≤ nz p.Rates + nz p.Ports
theorem DInv.start {n : Nw} {up : Bool} {p : Plan} (h : Res n up p.Rates p.Ports) : DInv n up p p.Rates p.Ports [] :=
 ⟨h, fun k r O M G => by rw [M] at G; simp at G; omega, fun k r O M G => by rw [M] at G; simp at G; omega, fun k r O M G => by rw [M] at G; simp at G; simp [Ct]; omega, fun k r O M G => by rw [M] at G; simp at G; simp [Cq]; omega,
  by simp, by simp, by simp, by simp⟩
theorem DInv.follow {n : Nw} {up : Bool} {p : Plan} (Z : Res n up p.Rates p.Ports) {rates ports : Li} {out : List Path} (h : DInv n up p rates ports out) {i0 o : Nat} {x : Path} {d : paths_divider} {p0 po : Port} {x0 y : Int} {nd : Nat → Int}
  (f : Follow n up rates ports i0 x d o p0 po x0 y nd) : DInv n up p d.rates d.ports (out ++ [x]) ∧ nz d.rates + nz d.ports < nz rates + nz ports ∧ ∀ (j : Nat) (z : Int), d.ports[j]? = some z → ports[j]? = some z ∨ z ≤ 0 ∨ j = i0 := by
 obtain ⟨X, hx0p⟩ := f.hx0
 obtain ⟨hy, hyn⟩ := f.hy
 have hrt := f.rt
 have hne : i0 ≠ o := by rintro rfl; rw [X] at hy; simp at hy; omega
 have hil := (gs X).1
 have hol := (gs hy).1
 obtain ⟨rl, rr⟩ := f.hrates
 have Er : d.ports.length = ports.length := by rw [f.hports]; simp
 have Y : ∀ (j : Nat) (z : Int), d.ports[j]? = some z → (j = i0 ∧ z = x0 - x.Rate) ∨ (j = o ∧ z = y + x.Rate) ∨ (j ≠ i0 ∧ j ≠ o ∧ ports[j]? = some z) := by
  intro j z G
  rw [f.hports, Ee] at G
  split at G
  ·rename_i hh; simp at G; exact .inr (.inl ⟨hh.1.symm, G.symm⟩)
  ·rename_i hh
   rw [Ee] at G
   have hjo : j ≠ o := fun he => hh ⟨he.symm, by simp; omega⟩
   split at G
   ·rename_i hg; simp at G; exact .inl ⟨hg.1.symm, G.symm⟩
   ·rename_i hg
    have hji : j ≠ i0 := fun he => hg ⟨he.symm, by omega⟩
    exact .inr (.inr ⟨hji, hjo, G⟩)
 have hin : d.ports[i0]? = some (x0 - x.Rate) := by rw [f.hports, Ee, if_neg (fun h => hne h.1.symm), Ee, if_pos ⟨rfl, hil⟩]
 have hou : d.ports[o]? = some (y + x.Rate) := by rw [f.hports, Ee, if_pos ⟨rfl, by simpa using hol⟩]
 have back : ∀ (k : Nat) (r' : Int), d.rates[k]? = some r' → ∃ r, rates[k]? = some r ∧ r' = r - Do x.Rate k x.Hops := by
  intro k r' aa
  have hkl := (gs aa).1
  have hr : rates[k]? = some (rates[k]'(by omega)) := gq _
  have := rr k _ hr
  rw [aa] at this; simp at this
  exact ⟨_, hr, this⟩
 have zr : ∀ k : Nat, rates[k]? = some 0 → d.rates[k]? = some 0 := by
  intro k hk
  have O := rr k 0 hk
  have W := f.less k 0 hk
  rw [O]; congr 1; omega
 have zp : ∀ k : Nat, ports[k]? = some 0 → d.ports[k]? = some 0 := by
  intro k hk
  have hki : k ≠ i0 := by rintro rfl; rw [X] at hk; simp at hk; omega
  have hko : k ≠ o := by rintro rfl; rw [hy] at hk; simp at hk; omega
  rw [f.hports, List.getElem?_set_ne (Ne.symm hko), List.getElem?_set_ne (Ne.symm hki)]; exact hk
 have ac : cD d.rates d.ports x := by
  rcases f.tight with ht | ht | ⟨Z, hm, ht⟩
  ·exact .inl ⟨i0, f.in_, by rw [hin]; congr 1; omega⟩
  ·exact .inr (.inl ⟨o, f.out, by rw [hou]; congr 1; omega⟩)
  ·obtain ⟨j, hj⟩ := List.getElem?_of_mem hm
   obtain ⟨k, s, r, e1, e2, e3, e4⟩ := f.way.hop j Z hj
   refine .inr (.inr ⟨Z, k, hm, e1, ?_⟩)
   have O := rr k r e3
   rw [O]
   have hs := Pn (rate := x.Rate) hj e1 fun j' y' hj' hy' he => hj' (f.way.once h.res hy' hj (he.trans e1.symm))
   rw [hs]
   rw [Le e1 e3] at ht
   unfold Iq
   congr 1
   rcases e4 with ⟨b, q, _, _⟩ | ⟨b, q, _, _⟩
   ·rw [b, if_neg (by simp)]; omega
   ·rw [b, if_pos rfl]; omega
 have keep : ∀ z, cD rates ports z → cD d.rates d.ports z := by
  rintro z (⟨i, O, W⟩ | ⟨i, O, W⟩ | ⟨Z, k, O, W, h3⟩)
  ·exact .inl ⟨i, O, zp i W⟩
  ·exact .inr (.inl ⟨i, O, zp i W⟩)
  ·exact .inr (.inr ⟨Z, k, O, W, zr k h3⟩)
 have fresh : ∀ z : Path, z.In = x.In → z.Out = x.Out → z.Hops = x.Hops → ¬ cD rates ports z := by
  rintro z z1 z2 z3 (⟨i, O, W⟩ | ⟨i, O, W⟩ | ⟨Z, k, O, W, h3⟩)
  ·have : i = i0 := by have := f.in_; omega
   subst this; rw [X] at W; simp at W; omega
  ·have : i = o := by have := f.out; omega
   subst this; rw [hy] at W; simp at W; omega
  ·rw [z3] at O
   obtain ⟨j, hj⟩ := List.getElem?_of_mem O
   obtain ⟨k', s, r, e1, e2, e3, e4⟩ := f.way.hop j Z hj
   have : k = k' := by omega
   subst this
   rw [h3] at e3; simp at e3
   rcases e4 with ⟨_, q, _⟩ | ⟨_, q, _⟩ <;> omega
 have hlt : nz d.rates + nz d.ports < nz rates + nz ports := by
  have l1 := Xs (l := rates) (m := d.rates) rl.symm zr
  have l2 := Xs (l := ports) (m := d.ports) Er.symm zp
  rcases ac with ⟨i, O, W⟩ | ⟨i, O, W⟩ | ⟨Z, k, O, W, h3⟩
  ·have : i = i0 := by have := f.in_; omega
   subst this
   have := Xr (l := ports) (m := d.ports) Er.symm zp X (by omega) W
   omega
  ·have : i = o := by have := f.out; omega
   subst this
   have := Xr (l := ports) (m := d.ports) Er.symm zp hy (by omega) W
   omega
  ·obtain ⟨j, hj⟩ := List.getElem?_of_mem O
   obtain ⟨k', s, r, e1, e2, e3, e4⟩ := f.way.hop j Z hj
   have : k = k' := by omega
   subst this
   have := Xr (l := rates) (m := d.rates) rl.symm zr e3 (by rcases e4 with ⟨_, q, _⟩ | ⟨_, q, _⟩ <;> omega) h3
   omega
 have hpi : p.Ports[i0]? = some (p.Ports[i0]'(by have := Z.pl; have := h.res.pl; omega)) := gq _
 have hpo : p.Ports[o]? = some (p.Ports[o]'(by have := Z.pl; have := h.res.pl; omega)) := gq _
 generalize p.Ports[i0]'(by have := Z.pl; have := h.res.pl; omega) = yi at hpi
 generalize p.Ports[o]'(by have := Z.pl; have := h.res.pl; omega) = yo at hpo
 have si := h.pshape i0 x0 yi X hpi
 have so := h.pshape o y yo hy hpo
 have hxr := h.res.prt i0 x0 X
 refine ⟨⟨f.res, fun k r' r0 aa ab => ?_, fun k z z0 G M => ?_, fun k r' r0 aa ab => ?_, fun k z z0 G M => ?_, fun z G => ?_, fun z G => ?_, fun i j a b hij ha hb => ?_, ?_⟩, hlt, fun j z G => ?_⟩
 ·obtain ⟨r, hr, rfl⟩ := back k r' aa
  have := h.shape k r r0 hr ab
  have := f.less k r hr
  omega
 ·rcases Y k z G with ⟨rfl, rfl⟩ | ⟨rfl, rfl⟩ | ⟨_, _, ad⟩
  ·rw [hpi] at M; simp at M; omega
  ·rw [hpo] at M; simp at M; omega
  ·exact h.pshape k z z0 ad M
 ·obtain ⟨r, hr, rfl⟩ := back k r' aa
  have := h.sumR k r r0 hr ab
  rw [Fl]; simp only [Ct]; omega
 ·rw [Gk]; simp only [Cq, Lc]
  rw [f.in_, f.out]
  rcases Y k z G with ⟨rfl, rfl⟩ | ⟨rfl, rfl⟩ | ⟨n1, n2, ad⟩
  ·have := h.sumP k x0 z0 X M
   rw [if_pos rfl, if_neg (by omega)]; omega
  ·have := h.sumP k y z0 hy M
   rw [if_neg (by omega), if_pos rfl]; omega
  ·have := h.sumP k z z0 ad M
   rw [if_neg (by omega), if_neg (by omega)]; omega
 ·rcases List.mem_append.1 G with G | G
  ·exact h.paths z G
  ·simp at G; subst G
   refine ⟨i0, o, p0, po, yi, yo, nd, f.in_, f.out, f.hp0, f.hpo, hpi, by omega, hpo, by omega, ⟨fun j hh hj => ?_⟩, f.ends.1, f.ends.2, f.len, by omega, by omega⟩
   obtain ⟨k, s, r, e1, e2, e3, e4⟩ := f.way.hop j hh hj
   have hkl := (gs e3).1
   obtain ⟨r0, ab⟩ : ∃ ζ, p.Rates[k]? = some ζ := ⟨_, gq (by have := Z.rl; have := h.res.rl; omega)⟩
   have hsh := h.shape k r r0 e3 ab
   refine ⟨k, s, r0, e1, e2, ab, ?_⟩
   rcases e4 with ⟨b, q, q1, q2⟩ | ⟨b, q, q1, q2⟩
   ·exact .inl ⟨b, by omega, q1, q2⟩
   ·exact .inr ⟨b, by omega, q1, q2⟩
 ·rcases List.mem_append.1 G with G | G
  ·exact keep z (h.dead z G)
  ·simp at G; subst G; exact ac
 ·have hbl := (gs hb).1
  simp at hbl
  rw [List.getElem?_append_left (by omega)] at ha
  rw [List.getElem?_append] at hb
  split at hb
  ·exact h.apart i j a b hij ha hb
  ·have : j = out.length := by omega
   subst this
   simp at hb; subst hb
   rintro ⟨a1, a2, a3⟩
   exact fresh a a1 a2 a3 (h.dead a (mg ha))
 ·have := h.count
  simp; omega
 ·rcases Y j z G with ⟨rfl, rfl⟩ | ⟨rfl, rfl⟩ | ⟨_, _, ad⟩
  ·exact .inr (.inr rfl)
  ·exact .inr (.inl (by omega))
  ·exact .inl ad
theorem Lt.flip {up : Bool} {a b : Int} (h : Lt up a b) : Lt (!up) b a := by
 cases up <;> simpa [Lt] using h
theorem Res.neg {n : Nw} {up : Bool} {rates ports : Li} (h : Res n up rates ports) : Res n (!up) (rates.map fun x => -x) (ports.map fun x => -x) := by
 refine ⟨by simp [h.rl], by simp [h.pl], fun k r s O X => ?_, fun k x W => ?_, fun v => ?_⟩
 ·rw [List.getElem?_map] at O
  obtain ⟨M, G, rfl⟩ := Option.map_eq_some_iff.1 O
  have := h.rng k M s G X
  exact ⟨by omega, by omega, fun h => (this.2.2.2 (by omega)).flip, fun h => (this.2.2.1 (by omega)).flip⟩
 ·rw [List.getElem?_map] at W
  obtain ⟨M, G, rfl⟩ := Option.map_eq_some_iff.1 W
  have := h.prt k M G
  omega
 ·have := h.bal v
  rw [Nb, Nb]; omega
theorem still {n : Nw} (hn : NetF n) {up : Bool} {rates ports : Li} (h : Res n up rates ports) (hp : ∀ (k : Nat) (x : Int), ports[k]? = some x → x ≤ 0) :
  (∀ (k : Nat) (r : Int), rates[k]? = some r → r = 0) ∧ ∀ (k : Nat) (x : Int), ports[k]? = some x → x = 0 := by
 have O := h.neg
 have none : ∀ (m : Nat) (v : Int), V8 n (!up) v = m → 0 ≤ v ∧ v < (n.Nodes.length : Int) ∧ v < 6 → ¬ Xy n (rates.map fun x => -x) (ports.map fun x => -x) v := by
  intro m
  induction m using Nat.strongRecOn with
  | ind m ih =>
   intro v hm hv hc
   refine Wi O hc (fun i p x _ _ Y => ?_) fun k s r G X => ?_
   ·rw [List.getElem?_map] at Y
    obtain ⟨r', M, rfl⟩ := Option.map_eq_some_iff.1 Y
    have := hp i r' M
    omega
   ·have hrr := O.rng k r s X G
    have he := (hn.segs k s G).at6
    refine ⟨fun ⟨Z, h2⟩ => ?_, fun ⟨Z, h2⟩ => ?_⟩
    ·have hl := hrr.2.2.1 Z
     rw [h2] at hl
     exact ih (V8 n (!up) s.To) (by have := Ss hv (by omega) hl; omega) s.To rfl (by omega) (.inr ⟨k, s, r, G, X, by omega, .inl ⟨Z, rfl⟩⟩)
    ·have hl := hrr.2.2.2 Z
     rw [h2] at hl
     exact ih (V8 n (!up) s.From) (by have := Ss hv (by omega) hl; omega) s.From rfl (by omega) (.inr ⟨k, s, r, G, X, by omega, .inr ⟨Z, rfl⟩⟩)
 constructor
 ·intro k r X
  have hkl := (gs X).1
  obtain ⟨s, G⟩ : ∃ ζ, n.Segments[k]? = some ζ := ⟨_, gq (by have := h.rl; omega)⟩
  have he := (hn.segs k s G).at6
  have M : (rates.map fun x => -x)[k]? = some (-r) := by rw [List.getElem?_map, X]; rfl
  rcases Int.lt_trichotomy r 0 with W | W | W
  ·exact (none _ s.To rfl (by omega) (.inr ⟨k, s, -r, G, M, by omega, .inl ⟨by omega, rfl⟩⟩)).elim
  ·exact W
  ·exact (none _ s.From rfl (by omega) (.inr ⟨k, s, -r, G, M, by omega, .inr ⟨by omega, rfl⟩⟩)).elim
 ·intro k x Y
  have hkl := (gs Y).1
  obtain ⟨q, G⟩ : ∃ ζ, n.Ports[k]? = some ζ := ⟨_, gq (by have := h.pl; omega)⟩
  have he := (hn.ports k q G).at6
  have hx' : (ports.map fun x => -x)[k]? = some (-x) := by rw [List.getElem?_map, Y]; rfl
  have := hp k x Y
  by_cases hx0 : x = 0
  ·exact hx0
  ·exact (none _ q.Node rfl he (.inl ⟨k, q, -x, G, rfl, hx', by omega⟩)).elim
structure Divided (n : Network) (up : Bool) (p : Plan) (out : List Path) : Prop where
 res : Res n up p.Rates p.Ports
 sumR : ∀ (k : Nat) (r : Int), p.Rates[k]? = some r → r = Ct k out
 sumP : ∀ (k : Nat) (r : Int), p.Ports[k]? = some r → r = Cq k out
 paths : ∀ x, x ∈ out → PathOk n p x
 apart : ∀ (i j : Nat) (x y : Path), i < j → out[i]? = some x → out[j]? = some y → ¬ (x.In = y.In ∧ x.Out = y.Out ∧ x.Hops = y.Hops)
 count : out.length ≤ 14
theorem Kl {l : Li} (h : l.length ≤ 1000) : Lj l = some l := by
 unfold Lj
 rw [Jy (by simp; omega)]; rfl
theorem Rn {n : Nw} (hn : NetF n) {p : Plan} (hp : PlanOk n p) : Ok (F9 n p) fun r => r.2 = 0 ∧ ∃ up, Divided n up p r.1 := by
 obtain ⟨up, Y⟩ := hp.res
 have h1 := hn.segs1; have h2 := hn.ports1; have h3 := hp.rl; have h4 := hp.pl
 have hcnt : nz p.Rates + nz p.Ports ≤ 14 := by have := I1 p.Rates; have := I1 p.Ports; omega
 unfold F9
 rw [hn.check, jA hn hp.flow]
 refine .bind' (.pure (Cx (fun h => absurd rfl h) fun _ => .bind' (.pure (Cx (fun h => absurd rfl h) fun _ => ?_))))
 rw [Kl (by omega), Kl (by omega)]
 refine .bind' (.pure (.bind' (.pure ?_)))
 refine .bind' (.forI (S := List Bt × List Sg × List Port × List Sn × Int × Int × Li × Li × List Path) (fun k st => ∃ M G O, st = (n.Nodes, n.Segments, n.Ports, n.Stations, n.Vapour, n.Settle, M, G, O) ∧ DInv n up p M G O ∧ ∀ (j : Nat) (z : Int), j < k → G[j]? = some z → z ≤ 0)
  (fun _ => False) ⟨_, _, _, rfl, .start Y, fun j z h => absurd h (Nat.not_lt_zero _)⟩ ?_ ?_ fun _ h => h.elim)
 ·rintro k _ hk ⟨M, G, O, rfl, W, hz⟩
  unfold F9.B2
  dsimp only
  refine .bind (Q := fun d : ((List Path) × Int) ⊕ (List Bt × List Sg × List Port × List Sn × Int × Int × Li × Li × List Path) => ∃ M G O, d = .inr (n.Nodes, n.Segments, n.Ports, n.Stations, n.Vapour, n.Settle, M, G, O) ∧ DInv n up p M G O ∧ ∀ (j : Nat) (z : Int), j < k + 1 → G[j]? = some z → z ≤ 0) ?_ ?_
  ·refine .loop (S := List Bt × List Sg × List Port × List Sn × Int × Int × Li × Li × List Path) (fun st => ∃ M G O, st = (n.Nodes, n.Segments, n.Ports, n.Stations, n.Vapour, n.Settle, M, G, O) ∧ DInv n up p M G O ∧ ∀ (j : Nat) (z : Int), j < k → G[j]? = some z → z ≤ 0)
    (fun st => nz st.2.2.2.2.2.2.1 + nz st.2.2.2.2.2.2.2.1) ⟨M, G, O, rfl, W, hz⟩ (by have := W.count; dsimp only; omega) ?_
   rintro _ ⟨M, G, O, rfl, W, hz⟩
   have Er := W.res.pl
   obtain ⟨x, hx⟩ : ∃ ζ, G[k]? = some ζ := ⟨_, gq (by omega)⟩
   unfold F9.B4
   refine .bind' (.eq (A8 hx) (Ax (fun Z => ?_) fun hneg => .pure ⟨M, G, O, rfl, W, fun j z hj X => ?_⟩))
   ·dsimp only at Z ⊢
    refine .bind (Ma hn W.res hx Z) ?_
    rintro ⟨y, d⟩ ⟨o, p0, po, y1, nd, f⟩
    dsimp only at f
    obtain ⟨g1, g2, g3⟩ := W.follow Y f
    have hc := W.count
    have hf := f.len
    refine A7 (fun hb => ?_) fun _ => .bind' (.app (by simp; omega) (.pure ⟨⟨d.rates, d.ports, O ++ [y], ?_, g1, fun j z hj X => ?_⟩, g2⟩))
    ·simp at hb; omega
    ·rw [f.net]
    ·rcases g3 j z X with h | h | h
     ·exact hz j z hj h
     ·exact h
     ·omega
   ·dsimp only at hneg
    by_cases hjk : j = k
    ·subst hjk; rw [hx] at X; simp at X; omega
    ·exact hz j z (by omega) X
  ·rintro _ ⟨M, G, O, rfl, W, hz⟩
   simp only [Sum.elim_inr]
   unfold F9.J3
   exact .pure ⟨M, G, O, rfl, W, hz⟩
 ·rintro _ ⟨M, G, O, rfl, W, hz⟩
  simp only [Sum.elim_inl]
  unfold F9.J1
  have Er := W.res.pl; have hrl := W.res.rl
  obtain ⟨s1, s2⟩ := still hn W.res fun k x hx => hz k x (by have := (gs hx).1; omega) hx
  refine .pure ⟨rfl, up, Y, fun k r hr => ?_, fun k r hr => ?_, W.paths, W.apart, by have := W.count; dsimp only; omega⟩
  ·have hkl := (gs hr).1
   have hq : M[k]? = some (M[k]'(by omega)) := gq _
   have := W.sumR k _ r hq hr
   have := s1 k _ hq
   dsimp only; omega
  ·have hkl := (gs hr).1
   have hq : G[k]? = some (G[k]'(by omega)) := gq _
   have := W.sumP k _ r hq hr
   have := s2 k _ hq
   dsimp only; omega
def FirstP (n : Nw) (ports : Li) (at_ : Int) (k : Nat) (y : Int) : Prop := (∃ p, n.Ports[k]? = some p ∧ p.Node = at_) ∧ ports[k]? = some y ∧ y < 0 ∧ ∀ (i : Nat) (p : Port) (x : Int), i < k → n.Ports[i]? = some p → p.Node = at_ → ports[i]? = some x → 0 ≤ x
def NoP (n : Nw) (ports : Li) (at_ : Int) (k : Nat) : Prop := ∀ (i : Nat) (p : Port) (x : Int), i < k → n.Ports[i]? = some p → p.Node = at_ → ports[i]? = some x → 0 ≤ x
def Lv (s : Sg) (r at_ : Int) : Prop := 0 < r ∧ s.From = at_ ∨ r < 0 ∧ s.To = at_
def NoS (n : Nw) (rates : Li) (at_ : Int) (k : Nat) : Prop := ∀ (i : Nat) (s : Sg) (r : Int), i < k → n.Segments[i]? = some s → rates[i]? = some r → ¬ Lv s r at_
def FirstS (n : Nw) (rates : Li) (at_ : Int) (k : Nat) (s : Sg) (r : Int) : Prop := n.Segments[k]? = some s ∧ rates[k]? = some r ∧ Lv s r at_ ∧ NoS n rates at_ k
theorem NoP.succ {n : Nw} {ports : Li} {at_ : Int} {k : Nat} (h : NoP n ports at_ k) {p : Port} {x : Int} (X : n.Ports[k]? = some p) (hx : ports[k]? = some x) (W : p.Node = at_ → 0 ≤ x) : NoP n ports at_ (k + 1) := fun i q y hi M G hy => by
 by_cases O : i = k
 ·subst O; rw [X] at M; rw [hx] at hy; simp at M hy; subst M; subst hy; exact W G
 ·exact h i q y (by omega) M G hy
theorem NoS.succ {n : Nw} {rates : Li} {at_ : Int} {k : Nat} (h : NoS n rates at_ k) {s : Sg} {x : Int} (W : n.Segments[k]? = some s) (hx : rates[k]? = some x) (O : ¬ Lv s x at_) : NoS n rates at_ (k + 1) := fun i q y hi G hy => by
 by_cases M : i = k
 ·subst M; rw [W] at G; rw [hx] at hy; simp at G hy; subst G; subst hy; exact O
 ·exact h i q y (by omega) G hy
theorem FirstP.one {n : Nw} {ports : Li} {at_ : Int} {k k' : Nat} {y y' : Int} (h : FirstP n ports at_ k y) (h' : FirstP n ports at_ k' y') : k = k' ∧ y = y' := by
 obtain ⟨⟨p, O, W⟩, M, a4, X⟩ := h
 obtain ⟨⟨q, Y, Z⟩, G, b4, b5⟩ := h'
 have : k = k' := by
  rcases Nat.lt_trichotomy k k' with h | h | h
  ·have := b5 k p y h O W M; omega
  ·exact h
  ·have := X k' q y' h Y Z G; omega
 subst this
 rw [M] at G; simp at G; exact ⟨rfl, G⟩
theorem FirstP.no {n : Nw} {ports : Li} {at_ : Int} {k : Nat} {y : Int} (h : FirstP n ports at_ k y) (W : NoP n ports at_ n.Ports.length) : False := by
 obtain ⟨⟨p, G, M⟩, O, X, Y⟩ := h
 have := W k p y (gs G).1 G M O; omega
theorem FirstS.one {n : Nw} {rates : Li} {at_ : Int} {k k' : Nat} {s s' : Sg} {r r' : Int} (h : FirstS n rates at_ k s r) (h' : FirstS n rates at_ k' s' r') : k = k' ∧ s = s' ∧ r = r' := by
 obtain ⟨O, W, X, Y⟩ := h
 obtain ⟨G, M, Z, b4⟩ := h'
 have : k = k' := by
  rcases Nat.lt_trichotomy k k' with h | h | h
  ·exact absurd X (b4 k s r h O W)
  ·exact h
  ·exact absurd Z (Y k' s' r' h G M)
 subst this
 rw [O] at G; rw [W] at M; simp at G M; exact ⟨rfl, G, M⟩
def Fp (s : Sg) (r : Int) : Int := if r < 0 then s.From else s.To
theorem lA {n : Nw} {rates ports : Li} (hn : NetF n) {up : Bool} (h : Res n up rates ports) {hops : List Hop} {rate at_ : Int} (hl : hops.length ≤ 100) :
  Ok (Jj.B4 ⟨n, rates, ports⟩ (hops, rate, at_)) fun o => (∃ k y, FirstP n ports at_ k y ∧ o = .inr ((k : Int), hops, min rate (-y))) ∨ (NoP n ports at_ n.Ports.length ∧ ∃ k s r, FirstS n rates at_ k s r ∧ o = .inl (hops ++ [⟨(k : Int), decide (r < 0)⟩], min rate (max r (-r)), Fp s r)) ∨ (NoP n ports at_ n.Ports.length ∧ NoS n rates at_ n.Segments.length) := by
 unfold Jj.B4
 refine .bind' (.forL (fun k _ => NoP n ports at_ k) (fun d : Int × List Hop × Int => ∃ k y, FirstP n ports at_ k y ∧ d = ((k : Int), hops, min rate (-y))) (fun i _ _ h => absurd h (Nat.not_lt_zero _)) ?_ ?_ ?_)
 ·intro k p _ hp W
  dsimp only at hp
  have hkl := (gs hp).1
  obtain ⟨x, Y⟩ : ∃ ζ, ports[k]? = some ζ := ⟨_, gq (by have := h.pl; omega)⟩
  have hxr := h.prt k x Y
  unfold Jj.B10 Jj.J11
  refine Dk (fun he => .bind' (.eq (A8 Y) ?_)) fun he => A7 (fun h => by cases h) fun _ => .pure (W.succ hp Y fun h => absurd h he)
  refine Ax (fun G => .bind' (.eq (A8 Y) (.pure ⟨k, x, ⟨⟨p, hp, he⟩, Y, G, W⟩, ?_⟩))) fun G => .pure (W.succ hp Y fun _ => by dsimp only at G; omega)
  dsimp only
  rw [Bn (by omega), Int.zero_sub]
 ·intro _ M
  simp only [Sum.elim_inl]
  unfold Jj.J5
  refine .bind' (.forL (fun k _ => NoS n rates at_ k) (fun d : List Hop × Int × Int => ∃ k s r, FirstS n rates at_ k s r ∧ d = (hops ++ [⟨(k : Int), decide (r < 0)⟩], min rate (max r (-r)), Fp s r)) (fun i _ _ h => absurd h (Nat.not_lt_zero _)) ?_ ?_ ?_)
  ·intro k s _ X W
   dsimp only at X
   have hkl := (gs X).1
   obtain ⟨r, hr⟩ : ∃ ζ, rates[k]? = some ζ := ⟨_, gq (by have := h.rl; omega)⟩
   have hrr := h.rng k r s hr X
   unfold Jj.B7 Jj.J8 Jj.J9
   refine .bind' (.eq (A8 hr) (A7 (fun O => .bind' (.app (by simp; omega) (.pure ?_))) fun Z => A7 (fun O => .bind' (.app (by simp; omega) (.pure ?_))) fun aa => .pure (W.succ X hr fun hlv => ?_)))
   ·simp at O
    refine ⟨k, s, r, ⟨X, hr, .inl O, W⟩, ?_⟩
    unfold Fp
    rw [decide_eq_false (by omega), if_neg (by omega)]
    dsimp only; rw [show max r (-r) = r by omega]
   ·simp at O
    refine ⟨k, s, r, ⟨X, hr, .inr O, W⟩, ?_⟩
    unfold Fp
    rw [decide_eq_true O.1, if_pos O.1, Bn (by omega), show max r (-r) = 0 - r by omega]
   ·simp at Z aa
    rcases hlv with ⟨h1, h2⟩ | ⟨h1, h2⟩
    ·exact Z h1 h2
    ·exact aa h1 h2
  ·intro _ hno
   simp only [Sum.elim_inl]
   exact .pure (.inr (.inr ⟨M, hno⟩))
  ·rintro _ ⟨k, s, r, hf, rfl⟩
   exact .pure (.inr (.inl ⟨M, k, s, r, hf, rfl⟩))
 ·rintro _ ⟨k, y, hf, rfl⟩
  exact .pure (.inl ⟨k, y, hf, rfl⟩)
theorem eB {n : Nw} {rates : Li} {up : Bool} {ports : Li} (hn : NetF n) (h : Res n up rates ports) {at_ : Int} :
  Ok (Pb n rates at_) fun o => (∃ k s r, FirstS n rates at_ k s r ∧ o = (⟨(k : Int), decide (r < 0)⟩, true)) ∨ (NoS n rates at_ n.Segments.length) := by
 have hrl := h.rl; have h1 := hn.segs1
 unfold Pb
 refine .bind (Q := fun d : (Hop × Bool) ⊕ Unit => (∃ k s r, FirstS n rates at_ k s r ∧ d = .inl (⟨(k : Int), decide (r < 0)⟩, true)) ∨ (NoS n rates at_ n.Segments.length ∧ d = .inr ())) ?_ ?_
 ·refine .loop (fun G : Int => 0 ≤ G ∧ G ≤ (rates.length : Int) ∧ NoS n rates at_ G.toNat) (fun G => rates.length - G.toNat) ⟨by omega, by omega, fun i _ _ h => absurd h (Nat.not_lt_zero _)⟩ (by omega) ?_
  rintro G ⟨h0, h2, hi⟩
  obtain ⟨k, rfl⟩ := Ed h0
  rw [Int.toNat_natCast] at hi
  unfold Pb.B2
  refine Ax (fun hlt => ?_) fun hge => .pure (.inr ⟨by rw [show n.Segments.length = k by omega]; exact hi, rfl⟩)
  have X : rates[k]? = some (rates[k]'(by omega)) := gq _
  have Y : n.Segments[k]? = some (n.Segments[k]'(by omega)) := gq _
  generalize rates[k]'(by omega) = r at X
  generalize n.Segments[k]'(by omega) = s at Y
  have Z : Lv s r at_ → Ok (Pb.J3 rates (k : Int) true) (Sum.elim (fun G : Int => (0 ≤ G ∧ G ≤ (rates.length : Int) ∧ NoS n rates at_ G.toNat) ∧ rates.length - G.toNat < rates.length - ((k : Nat) : Int).toNat) fun d => (∃ k s r, FirstS n rates at_ k s r ∧ d = .inl (⟨(k : Int), decide (r < 0)⟩, true)) ∨ (NoS n rates at_ n.Segments.length ∧ d = .inr ())) := by
   intro hl
   unfold Pb.J3
   exact A7 (fun _ => .bind' (.eq (A8 X) (.pure (.inl ⟨k, s, r, ⟨Y, X, hl, hi⟩, rfl⟩)))) fun h => by cases h
  have no : ¬ Lv s r at_ → Ok (Pb.J3 rates (k : Int) false) (Sum.elim (fun G : Int => (0 ≤ G ∧ G ≤ (rates.length : Int) ∧ NoS n rates at_ G.toNat) ∧ rates.length - G.toNat < rates.length - ((k : Nat) : Int).toNat) fun d => (∃ k s r, FirstS n rates at_ k s r ∧ d = .inl (⟨(k : Int), decide (r < 0)⟩, true)) ∨ (NoS n rates at_ n.Segments.length ∧ d = .inr ())) := by
   intro hl
   unfold Pb.J3
   refine A7 (fun h => by cases h) fun _ => .pure ?_
   rw [Bn (by omega)]
   exact ⟨⟨by omega, by omega, by rw [show ((k : Int) + 1).toNat = k + 1 by omega]; exact hi.succ Y X hl⟩, by omega⟩
  refine .bind' (.eq (A8 X) (Ax (fun O => .bind' (.eq (A8 Y) (Dk (fun M => Z (.inl ⟨O, M⟩)) fun M => Ax (fun W => by dsimp only at O W; omega) fun _ => no ?_))) fun O => Ax (fun W => .bind' (.eq (A8 Y) ?_)) fun W => no ?_))
  ·rintro (⟨_, h⟩ | ⟨h, _⟩)
   ·exact M h
   ·dsimp only at O; omega
  ·dsimp only at O W ⊢
   by_cases M : s.To = at_
   ·rw [show (s.To == at_) = true by simp [M]]; exact Z (.inr ⟨W, M⟩)
   ·rw [show (s.To == at_) = false by simp [M]]
    refine no ?_
    rintro (⟨h, _⟩ | ⟨_, h⟩)
    ·omega
    ·exact M h
  ·dsimp only at O W
   rintro (⟨h, _⟩ | ⟨h, _⟩) <;> omega
 ·rintro d (⟨k, s, r, hf, rfl⟩ | ⟨hno, rfl⟩)
  ·exact .pure (.inl ⟨k, s, r, hf, rfl⟩)
  ·exact .pure (.inr hno)
theorem Ng {n : Nw} {rates ports : Li} (hn : NetF n) {up : Bool} (h : Res n up rates ports) {hops : List Hop} {rate at_ in_ : Int} (hl : hops.length ≤ 100) {j : Nat} (hj : j ≤ n.Nodes.length) (hc : NoP n ports at_ n.Ports.length → ¬ NoS n rates at_ n.Segments.length) :
  Ok (Oj.B2 n rates ports in_ (hops, rate, at_, (j : Int))) fun o => (∃ k y, FirstP n ports at_ k y ∧ o = .inr (.inl (⟨in_, (k : Int), hops, min rate (-y)⟩, true))) ∨ (NoP n ports at_ n.Ports.length ∧ ∃ k s r, FirstS n rates at_ k s r ∧ o = .inl (hops ++ [⟨(k : Int), decide (r < 0)⟩], min rate (max r (-r)), Fp s r, ((j + 1 : Nat) : Int))) := by
 have Er := h.pl; have h2 := hn.ports1; have hnn := hn.nodes
 unfold Oj.B2
 refine Ax (fun _ => ?_) fun h => by dsimp only at h; omega
 refine .bind (Q := fun d : (Path × Bool) ⊕ Unit => (∃ k y, FirstP n ports at_ k y ∧ d = .inl (⟨in_, (k : Int), hops, min rate (-y)⟩, true)) ∨ (NoP n ports at_ n.Ports.length ∧ d = .inr ())) ?_ ?_
 ·refine .loop (fun M : Int => 0 ≤ M ∧ M ≤ (ports.length : Int) ∧ NoP n ports at_ M.toNat) (fun M => ports.length - M.toNat) ⟨by omega, by omega, fun i _ _ h => absurd h (Nat.not_lt_zero _)⟩ (by omega) ?_
  rintro M ⟨h0, h4, Z⟩
  obtain ⟨k, rfl⟩ := Ed h0
  rw [Int.toNat_natCast] at Z
  unfold Oj.B5
  refine Ax (fun hlt => ?_) fun hge => .pure (.inr ⟨by rw [show n.Ports.length = k by omega]; exact Z, rfl⟩)
  have hp : n.Ports[k]? = some (n.Ports[k]'(by omega)) := gq _
  have W : ports[k]? = some (ports[k]'(by omega)) := gq _
  generalize n.Ports[k]'(by omega) = p at hp
  generalize ports[k]'(by omega) = x at W
  have hxr := h.prt k x W
  have no : (p.Node = at_ → 0 ≤ x) → Ok (Oj.J6 ports in_ (hops, rate, at_, (j : Int)) (k : Int) false) (Sum.elim (fun M : Int => (0 ≤ M ∧ M ≤ (ports.length : Int) ∧ NoP n ports at_ M.toNat) ∧ ports.length - M.toNat < ports.length - ((k : Nat) : Int).toNat) fun d => (∃ k y, FirstP n ports at_ k y ∧ d = .inl (⟨in_, (k : Int), hops, min rate (-y)⟩, true)) ∨ (NoP n ports at_ n.Ports.length ∧ d = .inr ())) := by
   intro hh
   unfold Oj.J6
   refine A7 (fun h => by cases h) fun _ => .pure ?_
   rw [Bn (by omega)]
   exact ⟨⟨by omega, by omega, by rw [show ((k : Int) + 1).toNat = k + 1 by omega]; exact Z.succ hp W hh⟩, by omega⟩
  refine .bind' (.eq (A8 hp) (Dk (fun O => .bind' (.eq (A8 W) ?_)) fun O => no fun h => absurd h O))
  dsimp only
  by_cases G : x < 0
  ·rw [decide_eq_true G]
   unfold Oj.J6
   refine A7 (fun _ => .bind' (.eq (A8 W) (.pure (.inl ⟨k, x, ⟨⟨p, hp, O⟩, W, G, Z⟩, ?_⟩)))) fun h => by cases h
   dsimp only
   rw [Bn (by omega), Int.zero_sub]
  ·rw [decide_eq_false G]
   exact no fun _ => by omega
 ·rintro d (⟨k, y, Y, rfl⟩ | ⟨X, rfl⟩)
  ·exact .pure (.inl ⟨k, y, Y, rfl⟩)
  ·simp only [Sum.elim_inr]
   unfold Oj.J4
   refine .bind (eB hn h) ?_
   rintro _ (⟨k, s, r, Y, rfl⟩ | hns)
   ·have hf' := Y
    obtain ⟨q1, q2, q3, _⟩ := hf'
    have hrr := h.rng k r s q2 q1
    refine Gq (fun h => by cases h) fun _ => .bind' (.app (by simp; omega) (.bind' (.eq (A8 q2) ?_)))
    refine .bind (Q := fun e : Int × Int => e.2 = Fp s r) ?_ ?_
    ·unfold Lm Fp
     refine .bind' (.eq (A8 q1) ?_)
     dsimp only
     by_cases hr : r < 0
     ·rw [decide_eq_true hr, if_pos hr]; exact A7 (fun _ => .pure rfl) fun h => by cases h
     ·rw [decide_eq_false hr, if_neg hr]; exact A7 (fun h => by cases h) fun _ => .pure rfl
    rintro ⟨e1, e2⟩ O
    dsimp only at O
    subst O
    unfold Oj.J3 Lx
    refine .pure (.inr ⟨X, k, s, r, Y, ?_⟩)
    dsimp only
    rw [Bn (x := (j : Int) + 1) (by omega), Bn (x := 0 - r) (by omega), show (0 : Int) - r = -r by omega]; rfl
   ·exact absurd hns (hc X)
theorem dC {n : Nw} {up : Bool} {rates ports : Li} (h : Res n up rates ports) {at_ : Int} (hc : Xy n rates ports at_) (h1 : NoP n ports at_ n.Ports.length) : ¬ NoS n rates at_ n.Segments.length := fun h2 =>
 Wi h hc (fun i p x G => h1 i p x (gs G).1 G) fun k s r hs M => by
  have := h2 k s r (gs hs).1 hs M
  unfold Lv at this
  exact ⟨fun h => this (.inl h), fun h => this (.inr h)⟩
theorem Yr {n : Nw} (hn : NetF n) {up : Bool} {rates ports : Li} (h : Res n up rates ports) {x0 s0 : Int} {hops : List Hop} {rate at_ : Int} (w : Walk n up rates ports x0 s0 hops rate at_) {k : Nat} {s : Sg} {r : Int} (hf : FirstS n rates at_ k s r) :
  Walk n up rates ports x0 s0 (hops ++ [⟨(k : Int), decide (r < 0)⟩]) (min rate (max r (-r))) (Fp s r) ∧ V8 n up (Fp s r) < V8 n up at_ := by
 obtain ⟨Z, q3, q4, _⟩ := hf
 obtain ⟨nd, w1, w2, w3⟩ := w.way
 have hlen := w.len
 have W := w.rt
 have hat := w.at_
 have hh : HopIs n rates at_ ⟨(k : Int), decide (r < 0)⟩ (Fp s r) := by
  refine ⟨k, s, r, rfl, Z, q3, ?_⟩
  rcases q4 with ⟨a, b⟩ | ⟨a, b⟩
  ·exact .inl ⟨by simp; omega, a, b, by unfold Fp; rw [if_neg (by omega)]⟩
  ·exact .inr ⟨by simp [a], a, b, by unfold Fp; rw [if_pos a]⟩
 have O := hh.lt h
 have hse := (hn.segs k s Z).at6
 have Y : 0 ≤ Fp s r ∧ Fp s r < (n.Nodes.length : Int) ∧ Fp s r < 6 := by unfold Fp; split <;> omega
 have M := Ss (n := n) (by omega) (by omega) O
 have ea : bW rates ⟨(k : Int), decide (r < 0)⟩ = max r (-r) := Le rfl q3
 have hr0 : r ≠ 0 := by rcases q4 with ⟨a, _⟩ | ⟨a, _⟩ <;> omega
 refine ⟨⟨⟨_, w1.snoc (by rw [w3]; exact hh), by simp [w2], by simp; omega⟩, Y, by simp; omega, by omega, fun x G => ?_, ?_, .inr ⟨k, s, r, Z, q3, by omega, ?_⟩⟩, M⟩
 ·rcases List.mem_append.1 G with G | G
  ·have := w.most x G; omega
  ·simp at G; subst G; rw [ea]; omega
 ·by_cases hle : rate ≤ max r (-r)
  ·rw [show min rate (max r (-r)) = rate by omega]
   rcases w.tight with X | ⟨x, G, X⟩
   ·exact .inl X
   ·exact .inr ⟨x, by simp [G], X⟩
  ·exact .inr ⟨⟨(k : Int), decide (r < 0)⟩, by simp, by rw [ea]; omega⟩
 ·unfold Fp
  rcases q4 with ⟨a, b⟩ | ⟨a, b⟩
  ·exact .inl ⟨a, by rw [if_neg (by omega)]⟩
  ·exact .inr ⟨a, by rw [if_pos a]⟩
theorem kY {n : Nw} (Z : NetF n) {up : Bool} {rates ports : Li} (h : Res n up rates ports) {i0 : Nat} {p0 : Port} {x0 : Int} (hp0 : n.Ports[i0]? = some p0) (hx0 : ports[i0]? = some x0) (ac : 0 < x0) {d : Int × List Hop × Int}
  (hd : Cl (Jj.B4 ⟨n, rates, ports⟩) Du ([], x0, p0.Node) = some d) :
  Cl (Oj.B2 n rates ports (i0 : Int)) Du ([], x0, p0.Node, 0) = some (.inl (⟨(i0 : Int), d.1, d.2.1, d.2.2⟩, true)) := by
 have hnn := Z.nodes; have hsn := Z.segs1
 have ae := (Z.ports i0 p0 hp0).at6
 have : Ok (Cl (Oj.B2 n rates ports (i0 : Int)) Du ([], x0, p0.Node, 0)) fun o => o = .inl (⟨(i0 : Int), d.1, d.2.1, d.2.2⟩, true) := by
  refine .loop (S := List Hop × Int × Int × Int) (fun W => Walk n up rates ports x0 p0.Node W.1 W.2.1 W.2.2.1 ∧ W.2.2.2 = (W.1.length : Int) ∧ ∃ G, Cl (Jj.B4 ⟨n, rates, ports⟩) G (W.1, W.2.1, W.2.2.1) = some d) (fun W => V8 n up W.2.2.1)
   ⟨⟨⟨fun _ => p0.Node, ⟨by simp⟩, rfl, rfl⟩, ae, ?_, by dsimp only; omega, by simp, .inl rfl, .inl ⟨i0, p0, x0, hp0, rfl, hx0, ac⟩⟩, rfl, Du, hd⟩ ?_ ?_
  ·dsimp only [List.length_nil]
   unfold V8; split <;> omega
  ·dsimp only
   unfold V8; split <;> omega
  rintro ⟨hops, rate, at_, j⟩ ⟨w, hj, G, Y⟩
  dsimp only at w Y hj
  subst hj
  have hlen := w.len
  cases G with
  | zero => simp [Cl] at Y
  | succ G =>
   obtain ⟨o, ho, hP⟩ := lA (rate := rate) (at_ := at_) Z h (hops := hops) (by omega)
   simp only [Cl, ho] at Y
   refine (Ng Z h (hops := hops) (by omega) (by omega) (dC h w.comes)).mono ?_
   rintro _ (⟨k, y, X, rfl⟩ | ⟨ab, k, s, r, X, rfl⟩)
   ·rcases hP with ⟨k', y', M, rfl⟩ | ⟨O, _⟩ | ⟨O, _⟩
    ·obtain ⟨rfl, rfl⟩ := X.one M
     simp only [Option.some.injEq] at Y
     subst Y; rfl
    ·exact (X.no O).elim
    ·exact (X.no O).elim
   ·rcases hP with ⟨k', y', M, rfl⟩ | ⟨_, k', s', r', M, rfl⟩ | ⟨_, ad⟩
    ·exact (M.no ab).elim
    ·obtain ⟨rfl, rfl, rfl⟩ := X.one M
     obtain ⟨w', aa⟩ := Yr Z h w X
     exact ⟨⟨w', by simp, G, Y⟩, aa⟩
    ·exact absurd ad (dC h w.comes ab)
 obtain ⟨o, h, rfl⟩ := this
 exact h
theorem eG {n : Nw} (Z : NetF n) {up : Bool} {rates ports : Li} (h : Res n up rates ports) {i0 : Nat} {x0 : Int} (hx0 : ports[i0]? = some x0) (W : 0 < x0) {r : Path × paths_divider} (G : Jj ⟨n, rates, ports⟩ (i0 : Int) = some r) :
  Oj n rates ports (i0 : Int) = some (r.1, true) := by
 have Y := (gs hx0).1
 obtain ⟨p0, O⟩ : ∃ ζ, n.Ports[i0]? = some ζ := ⟨_, gq (by have := h.pl; omega)⟩
 unfold Jj at G
 obtain ⟨p, M, G⟩ := Option.bind_eq_some_iff.1 G
 dsimp only at M
 rw [A8 hx0] at M; cases M
 obtain ⟨p, M, G⟩ := Option.bind_eq_some_iff.1 G
 dsimp only at M
 rw [A8 O] at M; cases M
 obtain ⟨d, X, G⟩ := Option.bind_eq_some_iff.1 G
 have hw := kY Z h O hx0 W X
 unfold Jj.J1 at G
 obtain ⟨q, _, G⟩ := Option.bind_eq_some_iff.1 G
 obtain ⟨z, _, G⟩ := Option.bind_eq_some_iff.1 G
 unfold Jj.J2 at G
 cases G
 have : Ok (Oj n rates ports (i0 : Int)) fun o => o = (⟨(i0 : Int), d.1, d.2.1, d.2.2⟩, true) := by
  unfold Oj
  refine .bind' (.eq (A8 hx0) (.bind' (.eq (A8 O) ?_)))
  dsimp only
  rw [hw]
  exact .bind' (.pure (.pure rfl))
 obtain ⟨o, h, rfl⟩ := this
 exact h
inductive Dv (n : Network) : List Int → List Int → Nat → List Path → List Path → Prop
 | done {rates ports : Li} {k : Nat} {out : List Path} (h : ports.length ≤ k) : Dv n rates ports k out out
 | next {rates ports : Li} {k : Nat} {out a : List Path} {x : Int} (h : ports[k]? = some x) (hx : x ≤ 0) (t : Dv n rates ports (k + 1) out a) : Dv n rates ports k out a
 | path {rates ports : Li} {k : Nat} {out a : List Path} {x : Int} {r : Path × paths_divider} (h : ports[k]? = some x) (hx : 0 < x) (hf : Jj ⟨n, rates, ports⟩ (k : Int) = some r) (t : Dv n r.2.rates r.2.ports k (out ++ [r.1]) a) : Dv n rates ports k out a
theorem Dv.one {n : Nw} {rates ports : Li} {k : Nat} {out a b : List Path} (h : Dv n rates ports k out a) : Dv n rates ports k out b → a = b := by
 induction h with
 | done h =>
  intro G
  cases G with
  | done _ => rfl
  | next h2 _ _ => have := (gs h2).1; omega
  | path h2 _ _ _ => have := (gs h2).1; omega
 | next h hx t ih =>
  intro G
  cases G with
  | done h2 => have := (gs h).1; omega
  | next h2 _ t2 => exact ih t2
  | path h2 hx2 _ _ => rw [h] at h2; simp at h2; omega
 | path h hx hf t ih =>
  intro G
  cases G with
  | done h2 => have := (gs h).1; omega
  | next h2 hx2 _ => rw [h] at h2; simp at h2; omega
  | path h2 hx2 hf2 t2 => rw [hf] at hf2; cases hf2; exact ih t2
theorem eI {n : Nw} (hn : NetF n) {p : Plan} (hp : PlanOk n p) : Ok (F9 n p) fun r => Dv n p.Rates p.Ports 0 [] r.1 := by
 obtain ⟨up, Y⟩ := hp.res
 have h1 := hn.segs1; have h2 := hn.ports1; have h3 := hp.rl; have h4 := hp.pl
 have hcnt : nz p.Rates + nz p.Ports ≤ 14 := by have := I1 p.Rates; have := I1 p.Ports; omega
 unfold F9
 rw [hn.check, jA hn hp.flow]
 refine .bind' (.pure (Cx (fun h => absurd rfl h) fun _ => .bind' (.pure (Cx (fun h => absurd rfl h) fun _ => ?_))))
 rw [Kl (by omega), Kl (by omega)]
 refine .bind' (.pure (.bind' (.pure ?_)))
 let I : Nat → List Bt × List Sg × List Port × List Sn × Int × Int × Li × Li × List Path → Prop := fun k st => ∃ M G O, st = (n.Nodes, n.Segments, n.Ports, n.Stations, n.Vapour, n.Settle, M, G, O) ∧ DInv n up p M G O ∧ ∀ a, Dv n M G k O a → Dv n p.Rates p.Ports 0 [] a
 refine .bind' (.forI (S := List Bt × List Sg × List Port × List Sn × Int × Int × Li × Li × List Path) I (fun _ => False) ⟨_, _, _, rfl, .start Y, fun a h => h⟩ ?_ ?_ fun _ h => h.elim)
 ·rintro k _ hk ⟨M, G, O, rfl, W, Z⟩
  unfold F9.B2
  dsimp only
  refine .bind (Q := fun d : ((List Path) × Int) ⊕ (List Bt × List Sg × List Port × List Sn × Int × Int × Li × Li × List Path) => ∃ st, d = .inr st ∧ I (k + 1) st) ?_ ?_
  ·refine .loop (S := List Bt × List Sg × List Port × List Sn × Int × Int × Li × Li × List Path) (I k) (fun st => nz st.2.2.2.2.2.2.1 + nz st.2.2.2.2.2.2.2.1) ⟨M, G, O, rfl, W, Z⟩ (by have := W.count; dsimp only; omega) ?_
   rintro _ ⟨M, G, O, rfl, W, Z⟩
   have Er := W.res.pl
   obtain ⟨x, hx⟩ : ∃ ζ, G[k]? = some ζ := ⟨_, gq (by omega)⟩
   unfold F9.B4
   refine .bind' (.eq (A8 hx) (Ax (fun X => ?_) fun hneg => .pure ⟨_, rfl, M, G, O, rfl, W, fun a h => Z a (.next hx (by dsimp only at hneg; omega) h)⟩))
   dsimp only at X ⊢
   obtain ⟨⟨y, d⟩, hfo, o, p0, po, y1, nd, f⟩ := Ma hn W.res hx X
   dsimp only at f
   refine .bind' (.eq hfo ?_)
   obtain ⟨g1, g2, g3⟩ := W.follow Y f
   have hc := W.count
   have hf := f.len
   refine A7 (fun hb => ?_) fun _ => .bind' (.app (by simp; omega) (.pure ⟨⟨d.rates, d.ports, O ++ [y], ?_, g1, fun a h => Z a (.path hx X hfo h)⟩, g2⟩))
   ·simp at hb; omega
   ·rw [f.net]
  ·rintro _ ⟨st, rfl, M, G, O, rfl, W, Z⟩
   simp only [Sum.elim_inr]
   unfold F9.J3
   exact .pure ⟨M, G, O, rfl, W, Z⟩
 ·rintro _ ⟨M, G, O, rfl, W, Z⟩
  simp only [Sum.elim_inl]
  unfold F9.J1
  exact .pure (Z _ (.done (by have := W.res.pl; omega)))
theorem Vk {n : Nw} (hn : NetF n) {p : Plan} (hp : PlanOk n p) {a : List Path} (ha : F9 n p = some (a, 0)) : Fb n p = some (a, 0) := by
 have : Ok (Fb n p) fun r => r.2 = 0 ∧ Dv n p.Rates p.Ports 0 [] r.1 := by
  obtain ⟨up, hres⟩ := hp.res
  have h1 := hn.segs1; have h2 := hn.ports1; have h3 := hp.rl; have h4 := hp.pl
  have hcnt : nz p.Rates + nz p.Ports ≤ 14 := by have := I1 p.Rates; have := I1 p.Ports; omega
  unfold Fb
  rw [gY hn hp.flow]
  refine .bind' (.pure (Cx (fun h => absurd rfl h) fun _ => .bind' (.app (by simp; omega) (.bind' (.app (by simp; omega) ?_)))))
  simp only [List.nil_append]
  refine .bind (Q := fun d : ((List Path) × Int) ⊕ List Path => ∃ a, d = .inr a ∧ Dv n p.Rates p.Ports 0 [] a) ?_ ?_
  ·refine .loop (S := Li × Li × List Path × Int) (fun G => ∃ k : Nat, G.2.2.2 = (k : Int) ∧ k ≤ n.Ports.length ∧ DInv n up p G.1 G.2.1 G.2.2.1 ∧ ∀ a, Dv n G.1 G.2.1 k G.2.2.1 a → Dv n p.Rates p.Ports 0 [] a) (fun G => n.Ports.length - G.2.2.2.toNat)
    ⟨0, rfl, by omega, .start hres, fun a h => h⟩ (by dsimp only; omega) ?_
   rintro ⟨M, ports, out, j⟩ ⟨k, hj, hk, O, Y⟩
   dsimp only at hj O Y
   subst hj
   have Er := O.res.pl
   unfold Fb.B2
   refine Ax (fun hlt => ?_) fun hge => .pure ⟨_, rfl, Y _ (.done (by dsimp only at hge; omega))⟩
   dsimp only at hlt
   refine .bind (Q := fun d : ((List Path) × Int) ⊕ (Li × Li × List Path) => ∃ G, d = .inr G ∧ DInv n up p G.1 G.2.1 G.2.2 ∧ ∀ a, Dv n G.1 G.2.1 (k + 1) G.2.2 a → Dv n p.Rates p.Ports 0 [] a) ?_ ?_
   ·refine .loop (S := Li × Li × List Path) (fun G => DInv n up p G.1 G.2.1 G.2.2 ∧ ∀ a, Dv n G.1 G.2.1 k G.2.2 a → Dv n p.Rates p.Ports 0 [] a) (fun G => nz G.1 + nz G.2.1) ⟨O, Y⟩ (by have := O.count; dsimp only; omega) ?_
    rintro ⟨M, ports, out⟩ ⟨O, Y⟩
    dsimp only at O Y
    have Er := O.res.pl; have hrl := O.res.rl
    obtain ⟨x, hx⟩ : ∃ ζ, ports[k]? = some ζ := ⟨_, gq (by omega)⟩
    unfold Fb.B4
    refine .bind' (.eq (A8 hx) (Ax (fun W => ?_) fun hneg => .pure ⟨_, rfl, O, fun a h => Y a (.next hx (by dsimp only at hneg; omega) h)⟩))
    dsimp only at W ⊢
    obtain ⟨⟨y, d⟩, hfo, o, p0, po, y1, nd, f⟩ := Ma hn O.res hx W
    dsimp only at f
    obtain ⟨g1, g2, g3⟩ := O.follow hres f
    have hc := O.count
    have hf := f.len
    obtain ⟨hx0, hx0p⟩ := f.hx0
    obtain ⟨hy, hyn⟩ := f.hy
    have hrt := f.rt
    have hxr := O.res.prt k x hx
    have hyr := O.res.prt o y1 hy
    have hne : k ≠ o := by rintro rfl; rw [hx] at hy; simp at hy; omega
    refine .bind' (.eq (eG hn O.res hx W hfo) ?_)
    refine A7 (fun hb => ?_) fun _ => ?_
    ·simp at hb; omega
    rw [f.in_, f.out]
    refine .bind' (.eq (A8 hx) ?_)
    dsimp only
    rw [Bn (x := x - y.Rate) (by omega)]
    refine .bind' (.eq (A8 (show (ports.set k (x - y.Rate))[o]? = some y1 by rw [List.getElem?_set_ne hne]; exact hy)) ?_)
    have e : (ports.set k (wr (x - y.Rate))).set o (wr (y1 + y.Rate)) = d.ports := by rw [Bn (x := x - y.Rate) (by omega), Bn (x := y1 + y.Rate) (by omega), f.hports]
    refine .bind (Q := fun rs => rs = d.rates) ?_ ?_
    ·refine .loop (S := Li × Int) (fun G => ∃ j : Nat, G.2 = (j : Int) ∧ j ≤ y.Hops.length ∧ G.1.length = M.length ∧ ∀ (m : Nat) (r : Int), M[m]? = some r → G.1[m]? = some (r - Do y.Rate m (y.Hops.take j))) (fun G => y.Hops.length - G.2.toNat) ⟨0, rfl, by omega, rfl, fun m r Z => by simp [Do, Z]⟩ (by dsimp only; omega) ?_
     rintro ⟨G, i⟩ ⟨j, hj, hjl, hsl, X⟩
     dsimp only at hj hsl X
     subst hj
     unfold Fb.B6
     refine Ax (fun hlt => ?_) fun hge => .pure ?_
     ·dsimp only at hlt
      obtain ⟨hp, hh⟩ : ∃ ζ, y.Hops[j]? = some ζ := ⟨_, gq (by omega)⟩
      obtain ⟨m, s, r0, q1, q2, q3, q4⟩ := f.way.hop j hp hh
      have Z := X m r0 q3
      have hrr := O.res.rng m r0 s q3 q2
      have hb := H3 (rate := y.Rate) (by omega) m (y.Hops.take j)
      rw [List.length_take] at hb
      refine .bind' (.eq (A8 hh) ?_)
      dsimp only
      rw [q1]
      have j7 : ∀ z, z = r0 - Do y.Rate m (y.Hops.take j) - Iq y.Rate hp → Ok (Fb.J7 (G, (j : Int)) (G.set m z)) (Sum.elim (fun G : Li × Int => (∃ j : Nat, G.2 = (j : Int) ∧ j ≤ y.Hops.length ∧ G.1.length = M.length ∧ ∀ (m : Nat) (r : Int), M[m]? = some r → G.1[m]? = some (r - Do y.Rate m (y.Hops.take j))) ∧ y.Hops.length - G.2.toNat < y.Hops.length - ((j : Nat) : Int).toNat) fun rs => rs = d.rates) := by
       intro z hz'
       unfold Fb.J7
       refine .pure ⟨⟨j + 1, by dsimp only; rw [Bn (by omega)]; omega, by omega, by simp [hsl], fun m' r hm' => ?_⟩, by dsimp only; rw [Bn (by omega)]; omega⟩
       dsimp only
       rw [Ii hh]
       have hml := (gs Z).1
       by_cases hmm : m = m'
       ·subst hmm
        rw [hm'] at q3; simp at q3; subst q3
        rw [List.getElem?_set_self hml, if_pos q1, hz']; congr 1; omega
       ·rw [List.getElem?_set_ne hmm, X m' r hm', if_neg (by omega)]; simp
      rcases q4 with ⟨b, _⟩ | ⟨b, _⟩
      ·rw [b]
       refine A7 (fun h => by cases h) fun _ => .bind' (.eq (A8 Z) ?_)
       dsimp only
       rw [Bn (by omega)]
       exact j7 _ (by unfold Iq; rw [b]; simp)
      ·rw [b]
       refine A7 (fun _ => .bind' (.eq (A8 Z) ?_)) fun h => by cases h
       dsimp only
       rw [Bn (by omega)]
       exact j7 _ (by unfold Iq; rw [b]; simp)
     ·dsimp only at hge
      have : j = y.Hops.length := by omega
      subst this
      show G = d.rates
      obtain ⟨r1, r2⟩ := f.hrates
      refine List.ext_getElem? fun m => ?_
      by_cases Z : m < M.length
      ·rw [X m _ (gq Z), r2 m _ (gq Z), List.take_length]
      ·rw [List.getElem?_eq_none (by omega), List.getElem?_eq_none (by omega)]
    ·rintro _ rfl
     unfold Fb.J5
     refine .bind' (.app (by simp; omega) ?_)
     dsimp only
     rw [e]
     exact .pure ⟨⟨g1, fun a h => Y a (.path hx W hfo h)⟩, g2⟩
   ·rintro _ ⟨G, rfl, O, Y⟩
    simp only [Sum.elim_inr]
    unfold Fb.J3
    exact .pure ⟨⟨k + 1, by dsimp only; rw [Bn (by omega)]; omega, by omega, O, Y⟩, by dsimp only; rw [Bn (by omega)]; omega⟩
  ·rintro _ ⟨a, rfl, hd⟩
   exact .pure ⟨rfl, hd⟩
 obtain ⟨⟨b, e⟩, h, rfl, hb⟩ := this
 obtain ⟨⟨a', e'⟩, h', ha'⟩ := eI hn hp
 rw [ha] at h'; cases h'
 have := ha'.one hb
 dsimp only at this
 subst this
 exact h
theorem Ix {s : Li} {v : Int} :
  Ok (Og s v) fun r => (r = -1 ∧ ∀ (j : Nat) (y : Int), s[j]? = some y → (v == y) = false) ∨ ∃ (k : Nat) (y : Int), r = (k : Int) ∧ s[k]? = some y ∧ (v == y) = true ∧ ∀ (j : Nat) (y : Int), j < k → s[j]? = some y → (v == y) = false := by
 unfold Og
 refine .bind' (.forL (fun k _ => ∀ (j : Nat) (y : Int), j < k → s[j]? = some y → (v == y) = false) (fun r => ∃ (k : Nat) (y : Int), r = (k : Int) ∧ s[k]? = some y ∧ (v == y) = true ∧ ∀ (j : Nat) (y : Int), j < k → s[j]? = some y → (v == y) = false) (fun j y h => absurd h (Nat.not_lt_zero _)) ?_ ?_ ?_)
 ·intro k x _ W M
  unfold Og.B2
  refine A7 (fun O => .pure ⟨k, x, rfl, W, O, M⟩) fun O => .pure fun j y Y G => ?_
  by_cases h : j < k
  ·exact M j y h G
  ·have : j = k := by omega
   subst this
   rw [W] at G; simp at G; subst G; exact O
 ·intro _ M
  simp only [Sum.elim_inl]
  unfold Og.J1
  exact .pure (.inl ⟨rfl, fun j y G => M j y (gs G).1 G⟩)
 ·intro b X
  exact .pure (.inr X)
theorem Yg : Nz = some true := by kernel_rfl
theorem Qo {s : List Hop} {g : Hop → Option Bool} {P : Hop → Bool} (hg : ∀ (k : Nat) (x : Hop), s[k]? = some x → g x = some (P x)) :
  Ok (N1 s g) fun r => (r = -1 ∧ ∀ (j : Nat) (y : Hop), s[j]? = some y → P y = false) ∨ ∃ (k : Nat) (x : Hop), r = (k : Int) ∧ s[k]? = some x ∧ P x = true ∧ ∀ (j : Nat) (y : Hop), j < k → s[j]? = some y → P y = false := by
 unfold N1
 refine .bind' (.forL (fun k _ => ∀ (j : Nat) (y : Hop), j < k → s[j]? = some y → P y = false) (fun r => ∃ (k : Nat) (x : Hop), r = (k : Int) ∧ s[k]? = some x ∧ P x = true ∧ ∀ (j : Nat) (y : Hop), j < k → s[j]? = some y → P y = false) (fun j y h => absurd h (Nat.not_lt_zero _)) ?_ ?_ ?_)
 ·intro k x _ W M
  unfold N1.B2
  refine .bind' (.eq (hg k x W) (A7 (fun O => .pure ⟨k, x, rfl, W, O, M⟩) fun O => .pure fun j y Y G => ?_))
  by_cases h : j < k
  ·exact M j y h G
  ·have : j = k := by omega
   subst this
   rw [W] at G; simp at G; subst G; exact O
 ·intro _ M
  simp only [Sum.elim_inl]
  unfold N1.J1
  exact .pure (.inl ⟨rfl, fun j y G => M j y (gs G).1 G⟩)
 ·intro b X
  exact .pure (.inr X)
theorem Mq {s : List Hop} {g : Hop → Option Bool} {P : Hop → Bool} (hg : ∀ (k : Nat) (x : Hop), s[k]? = some x → g x = some (P x)) :
  Oy s g = some (s.any P) := by
 have : Ok (Oy s g) fun r => r = s.any P := by
  unfold Oy
  refine .bind (Qo hg) fun r M => .pure ?_
  rcases M with ⟨rfl, h⟩ | ⟨k, x, rfl, O, G, _⟩
  ·rw [Za h]; rfl
  ·have : s.any P = true := List.any_eq_true.2 ⟨x, mg O, G⟩
   rw [this]; simp
 obtain ⟨r, h, rfl⟩ := this
 exact h
theorem Te {x : Path} (h : x.Hops.length ≤ 1000) (r : Int) : Ls x r = some ⟨x.In, x.Out, x.Hops, r⟩ := by
 unfold Ls S6
 rw [Jy (by simp; omega)]; rfl
def Qk (k : Nat) (x : Path) : Bool := x.Hops.any fun h => h.Segment == (k : Int)
theorem Wu {n : Nw} (Y : NetF n) {l : List Path} {k : Nat} (Z : k < n.Segments.length) (hl : l.length ≤ 1000) (W : ∀ x, x ∈ l → x.Hops.length ≤ 1000) : Hy n l (k : Int) = some (l.filter (Qk k), 0) := by
 have : Ok (Hy n l (k : Int)) fun r => r = (l.filter (Qk k), 0) := by
  unfold Hy
  rw [Y.check]
  refine .bind' (.pure (Cx (fun h => absurd rfl h) fun _ => A7 (fun h => by simp at h; omega) fun _ => ?_))
  refine .bind (.forS (fun j O => O = (l.take j).filter (Qk k)) (by simp) ?_ fun O h => h) ?_
  ·rintro j x _ G rfl
   have X := (gs G).1
   unfold Hy.B2 Hy.J3
   refine .bind' (.eq (Mq (P := fun h => h.Segment == (k : Int)) fun _ _ _ => rfl) (A7 (fun M => ?_) fun M => .pure ?_))
   ·rw [Te (W x (mg G))]
    refine .bind' (.pure (.bind' (.app ?_ (.pure ?_))))
    ·have := List.length_filter_le (Qk k) (l.take j)
     simp at this ⊢; omega
    ·rw [List.take_add_one, G, List.filter_append]
     have : Qk k x = true := M
     simp [this]
   ·rw [List.take_add_one, G, List.filter_append]
    have : Qk k x = false := M
    simp [this]
  ·rintro _ rfl
   unfold Hy.J1
   exact .pure (by simp)
 obtain ⟨r, h, rfl⟩ := this
 exact h
theorem V1 {s : Li} {v : Int} (h : v ∉ s) : Hu s v = some false := by
 have : Ok (Hu s v) fun r => r = false := by
  unfold Hu
  refine .bind Ix fun r O => .pure ?_
  rcases O with ⟨rfl, _⟩ | ⟨k, y, rfl, M, G, _⟩
  ·rfl
  ·have : v = y := by simpa using G
   subst this
   exact absurd (mg M) h
 obtain ⟨r, h, rfl⟩ := this
 exact h
theorem Mw {a b : Li} (hl : a.length ≤ 1000) : Lu a b = some (a == b) := by
 have : Ok (Lu a b) fun r => r = (a == b) := by
  unfold Lu
  refine Cx (fun h => .pure ?_) fun h => ?_
  ·symm; rw [beq_eq_false_iff_ne]; rintro rfl; exact h rfl
  have hl2 : a.length = b.length := by omega
  refine .bind (Q := fun d : Bool ⊕ Unit => (d = .inl false ∧ a ≠ b) ∨ (d = .inr () ∧ a = b)) ?_ ?_
  ·refine .loop (fun M : Int => 0 ≤ M ∧ M ≤ (a.length : Int) ∧ ∀ j : Nat, (j : Int) < M → a[j]? = b[j]?) (fun M => a.length - M.toNat) ⟨by omega, by omega, fun j hj => by omega⟩ (by omega) ?_
   rintro M ⟨h0, h1, h2⟩
   obtain ⟨k, rfl⟩ := Ed h0
   unfold Lu.B2
   refine Ax (fun hlt => ?_) fun hge => .pure (.inr ⟨rfl, ?_⟩)
   ·have G : a[k]? = some (a[k]'(by omega)) := gq _
    have O : b[k]? = some (b[k]'(by omega)) := gq _
    generalize a[k]'(by omega) = x at G
    generalize b[k]'(by omega) = y at O
    refine .bind' (.eq (A8 G) (.bind' (.eq (A8 O) (Cx (fun Y => .pure (.inl ⟨rfl, ?_⟩)) fun W => .pure ?_))))
    ·intro he; rw [he, O] at G; simp at G; exact Y G.symm
    ·rw [Bn (by omega)]
     have Z : x = y := W
     refine ⟨⟨by omega, by omega, fun j hj => ?_⟩, by omega⟩
     by_cases X : j = k
     ·subst X; rw [G, O, Z]
     ·exact h2 j (by omega)
   ·refine List.ext_getElem? fun j => ?_
    by_cases hj : j < a.length
    ·exact h2 j (by omega)
    ·rw [List.getElem?_eq_none (by omega), List.getElem?_eq_none (by omega)]
  ·rintro _ (⟨rfl, h⟩ | ⟨rfl, h⟩)
   ·exact .pure (by symm; rw [beq_eq_false_iff_ne]; exact h)
   ·exact .pure (by symm; rw [beq_iff_eq]; exact h)
 obtain ⟨r, h, rfl⟩ := this
 exact h
theorem Tv {a b : List Bool} (hl : a.length ≤ 1000) : Nv a b = some (a == b) := by
 have : Ok (Nv a b) fun r => r = (a == b) := by
  unfold Nv
  refine Cx (fun h => .pure ?_) fun h => ?_
  ·symm; rw [beq_eq_false_iff_ne]; rintro rfl; exact h rfl
  have hl2 : a.length = b.length := by omega
  refine .bind (Q := fun d : Bool ⊕ Unit => (d = .inl false ∧ a ≠ b) ∨ (d = .inr () ∧ a = b)) ?_ ?_
  ·refine .loop (fun M : Int => 0 ≤ M ∧ M ≤ (a.length : Int) ∧ ∀ j : Nat, (j : Int) < M → a[j]? = b[j]?) (fun M => a.length - M.toNat) ⟨by omega, by omega, fun j hj => by omega⟩ (by omega) ?_
   rintro M ⟨h0, h1, h2⟩
   obtain ⟨k, rfl⟩ := Ed h0
   unfold Nv.B2
   refine Ax (fun hlt => ?_) fun hge => .pure (.inr ⟨rfl, ?_⟩)
   ·have G : a[k]? = some (a[k]'(by omega)) := gq _
    have O : b[k]? = some (b[k]'(by omega)) := gq _
    generalize a[k]'(by omega) = x at G
    generalize b[k]'(by omega) = y at O
    refine .bind' (.eq (A8 G) (.bind' (.eq (A8 O) (A7 (fun Y => .pure (.inl ⟨rfl, ?_⟩)) fun W => .pure ?_))))
    ·intro he; rw [he, O] at G; simp at G; subst G; simp at Y
    ·rw [Bn (by omega)]
     have Z : x = y := by simpa using W
     refine ⟨⟨by omega, by omega, fun j hj => ?_⟩, by omega⟩
     by_cases X : j = k
     ·subst X; rw [G, O, Z]
     ·exact h2 j (by omega)
   ·refine List.ext_getElem? fun j => ?_
    by_cases hj : j < a.length
    ·exact h2 j (by omega)
    ·rw [List.getElem?_eq_none (by omega), List.getElem?_eq_none (by omega)]
  ·rintro _ (⟨rfl, h⟩ | ⟨rfl, h⟩)
   ·exact .pure (by symm; rw [beq_eq_false_iff_ne]; exact h)
   ·exact .pure (by symm; rw [beq_iff_eq]; exact h)
 obtain ⟨r, h, rfl⟩ := this
 exact h
theorem Vz {a b : Plan} (h1 : a.Rates.length ≤ 1000) (h2 : a.Ports.length ≤ 1000) (G : a.Pumps.length ≤ 1000) (h : a = b) : Ny a b = some true := by
 subst h
 unfold Ny Ny.J1
 rw [Mw h1, Mw h2, Tv G]
 simp
theorem Vq {x y : Path} (hl : x.Hops.length ≤ 1000) : Ok (Je x y) fun r => r = true ↔ (x.In = y.In ∧ x.Out = y.Out ∧ x.Hops = y.Hops) := by
 unfold Je
 refine A7 (fun G => .pure ?_) fun G => ?_
 ·simp only [Bool.false_eq_true, false_iff]
  rintro ⟨X, Y, W⟩
  simp [X, Y, W] at G
 simp at G
 obtain ⟨X, Y, W⟩ := G
 refine .bind (Q := fun d : Bool ⊕ Unit => (d = .inl false ∧ x.Hops ≠ y.Hops) ∨ (d = .inr () ∧ x.Hops = y.Hops)) ?_ ?_
 ·refine .loop (fun O : Int => 0 ≤ O ∧ O ≤ (x.Hops.length : Int) ∧ ∀ j : Nat, (j : Int) < O → x.Hops[j]? = y.Hops[j]?) (fun O => x.Hops.length - O.toNat) ⟨by omega, by omega, fun j hj => by omega⟩ (by omega) ?_
  rintro O ⟨h0, h4, h5⟩
  obtain ⟨k, rfl⟩ := Ed h0
  unfold Je.B2
  refine Ax (fun hlt => ?_) fun hge => .pure (.inr ⟨rfl, ?_⟩)
  ·have M : x.Hops[k]? = some (x.Hops[k]'(by omega)) := gq _
   have G : y.Hops[k]? = some (y.Hops[k]'(by omega)) := gq _
   generalize x.Hops[k]'(by omega) = u at M
   generalize y.Hops[k]'(by omega) = v at G
   refine .bind' (.eq (A8 M) (.bind' (.eq (A8 G) (Gq (fun h => .pure (.inl ⟨rfl, ?_⟩)) fun h => .pure ?_))))
   ·intro he; rw [he, G] at M; simp at M; subst M; simp at h
   ·rw [Bn (by omega)]
    have aa : u = v := by
     simp at h
     cases u; cases v; simp_all
    refine ⟨⟨by omega, by omega, fun j hj => ?_⟩, by omega⟩
    by_cases Z : j = k
    ·subst Z; rw [M, G, aa]
    ·exact h5 j (by omega)
  ·refine List.ext_getElem? fun j => ?_
   by_cases hj : j < x.Hops.length
   ·exact h5 j (by omega)
   ·rw [List.getElem?_eq_none (by omega), List.getElem?_eq_none (by omega)]
 ·rintro _ (⟨rfl, h⟩ | ⟨rfl, h⟩)
  ·refine .pure ?_
   simp only [Bool.false_eq_true, false_iff]
   rintro ⟨_, _, W⟩; exact h W
  ·simp only [Sum.elim_inr]
   unfold Je.J1
   exact .pure ⟨fun _ => ⟨X, Y, h⟩, fun _ => rfl⟩
theorem PathOk.small {n : Nw} {p : Plan} {x : Path} (h : PathOk n p x) : x.Hops.length ≤ 5 ∧ 1 ≤ x.Rate ∧ x.Rate ≤ 1000 := by
 obtain ⟨i, o, p0, po, y0, y1, nd, X, Y, Z, e4, e5, e6, e7, e8, w, e9, W, G, M, O⟩ := h
 exact ⟨G, M, O⟩
theorem jP : Ok (Nz.bind fun r => some r) fun r => r = true := by rw [Yg]; exact .pure rfl
theorem Tp {x : Path} (h : x.Hops.length ≤ 1000) : Lw x = some x := by
 unfold Lw
 rw [Jy (by simp; omega)]; rfl
def cE (u : Path) (r : Int) : Path := ⟨u.In, u.Out, u.Hops, r⟩
theorem Y4 {a b : List Hop} : Ok (S2 a b) fun r => r = true ↔ a = b := by
 unfold S2
 refine Cx (fun h => .pure ?_) fun h => ?_
 ·simp only [Bool.false_eq_true, false_iff]; rintro rfl; exact h rfl
 have hl : a.length = b.length := by omega
 refine .bind' (.forL (fun k _ => ∀ j : Nat, j < k → a[j]? = b[j]?) (fun r => r = false ∧ a ≠ b) (fun j h => absurd h (Nat.not_lt_zero _)) ?_ ?_ ?_)
 ·intro k x _ G W
  have hkl := (gs G).1
  obtain ⟨y, O⟩ : ∃ ζ, b[k]? = some ζ := ⟨_, gq (by omega)⟩
  unfold S2.B2
  refine .bind' (.eq (A8 O) (Gq (fun h => .pure ⟨rfl, ?_⟩) fun h => .pure fun j Z => ?_))
  ·intro he; rw [he, O] at G; simp at G; subst G; simp at h
  ·have Y : x = y := by
    simp at h
    cases x; cases y; simp_all
   by_cases X : j = k
   ·subst X; rw [G, O, Y]
   ·exact W j (by omega)
 ·intro _ W
  simp only [Sum.elim_inl]
  unfold S2.J1
  refine .pure ⟨fun _ => ?_, fun _ => rfl⟩
  refine List.ext_getElem? fun j => ?_
  by_cases Z : j < a.length
  ·exact W j Z
  ·rw [List.getElem?_eq_none (by omega), List.getElem?_eq_none (by omega)]
 ·rintro _ ⟨rfl, h⟩
  exact .pure ⟨fun M => (by cases M), fun M => absurd M h⟩
def Alike (x y : Path) : Prop := x.In = y.In ∧ x.Out = y.Out ∧ x.Hops = y.Hops
theorem Yw {x y : Path} : Ok (Oa x y) fun r => r = true ↔ Alike x y := by
 unfold Oa Oa.J1
 refine Dk (fun G => Dk (fun M => .bind Y4 fun r O => .pure ?_) fun M => .pure ?_) fun G => .pure ?_
 ·rw [O]; exact ⟨fun h => ⟨G, M, h⟩, fun h => h.2.2⟩
 ·simp only [Bool.false_eq_true, false_iff]; exact fun h => M h.2.1
 ·simp only [Bool.false_eq_true, false_iff]; exact fun h => G h.1
theorem Jt {a : List Path} (h : ∀ x, x ∈ a → x.Hops.length ≤ 1000) (hl : a.length ≤ 1000) : G6 a a = some true := by
 have : Ok (G6 a a) fun r => r = true := by
  unfold G6
  refine Cx (fun h => absurd rfl h) fun _ => ?_
  refine .bind (Q := fun d : Bool ⊕ Unit => d = .inr ()) ?_ ?_
  ·refine .loop (fun G : Int => 0 ≤ G ∧ G ≤ (a.length : Int)) (fun G => a.length - G.toNat) ⟨by omega, by omega⟩ (by omega) ?_
   rintro G ⟨O, Y⟩
   obtain ⟨k, rfl⟩ := Ed O
   unfold G6.B2
   refine Ax (fun W => ?_) fun _ => .pure rfl
   obtain ⟨x, M⟩ : ∃ ζ, a[k]? = some ζ := ⟨_, gq (by omega)⟩
   refine .bind' (.eq (A8 M) (.bind' (.eq (A8 M) (.bind (Vq (h x (mg M))) fun r X => ?_))))
   have := X.2 ⟨rfl, rfl, rfl⟩
   subst this
   refine Gq (fun h => by cases h) fun _ => ?_
   unfold G6.J3
   refine Cx (fun h => absurd rfl h) fun _ => .pure ?_
   rw [Bn (by omega)]
   exact ⟨⟨by omega, by omega⟩, by omega⟩
  ·rintro _ rfl
   exact .pure rfl
 obtain ⟨r, h, rfl⟩ := this
 exact h
instance (x y : Path) : Decidable (Alike x y) := inferInstanceAs (Decidable (_ ∧ _ ∧ _))
theorem iE {x y : Path} (hl : x.Hops.length ≤ 1000) : Je x y = some (decide (Alike x y)) := by
 obtain ⟨r, h, G⟩ := Vq (y := y) hl
 rw [h]; congr 1
 cases r with
 | true => exact (decide_eq_true (G.1 rfl)).symm
 | false => exact (decide_eq_false fun h => by have := G.2 h; cases this).symm
def Pe (l : List Path) (p : Path) (k : Nat) (y : Path) : Prop := l[k]? = some y ∧ Alike y p ∧ ∀ (i : Nat) (z : Path), i < k → l[i]? = some z → ¬ Alike z p
theorem gZ {l : List Path} (h : ∀ x, x ∈ l → x.Hops.length ≤ 1000) (hl : l.length ≤ 1000) {p : Path} : Ok (Hx l p) fun r => (r = -1 ∧ ∀ y, y ∈ l → ¬ Alike y p) ∨ ∃ k y, r = ((k : Nat) : Int) ∧ Pe l p k y := by
 unfold Hx
 refine .bind (Q := fun d : Int ⊕ Unit => (∃ k y, d = .inl ((k : Nat) : Int) ∧ Pe l p k y) ∨ (d = .inr () ∧ ∀ y, y ∈ l → ¬ Alike y p)) ?_ ?_
 ·refine .loop (fun G : Int => 0 ≤ G ∧ G ≤ (l.length : Int) ∧ ∀ (i : Nat) (z : Path), (i : Int) < G → l[i]? = some z → ¬ Alike z p) (fun G => l.length - G.toNat) ⟨by omega, by omega, fun i z h => by omega⟩ (by omega) ?_
  rintro G ⟨h0, h1, Z⟩
  obtain ⟨k, rfl⟩ := Ed h0
  unfold Hx.B2
  refine Ax (fun hlt => ?_) fun hge => .pure (.inr ⟨rfl, fun y hy => ?_⟩)
  ·obtain ⟨x, W⟩ : ∃ ζ, l[k]? = some ζ := ⟨_, gq (by omega)⟩
   refine .bind' (.eq (A8 W) ?_)
   dsimp only
   rw [iE (h x (mg W))]
   refine .bind' (.pure (Ax (fun Y => .pure (.inl ⟨k, x, rfl, W, Y, fun i z aa => Z i z (by omega)⟩)) fun Y => .pure ?_))
   rw [Bn (by omega)]
   refine ⟨⟨by omega, by omega, fun i z aa X => ?_⟩, by omega⟩
   by_cases O : i = k
   ·subst O; rw [W] at X; simp at X; subst X; exact Y
   ·exact Z i z (by omega) X
  ·obtain ⟨i, M⟩ := List.getElem?_of_mem hy
   exact Z i y (by have := (gs M).1; omega) M
 ·rintro _ (⟨k, y, rfl, hf⟩ | ⟨rfl, ab⟩)
  ·exact .pure (.inr ⟨k, y, rfl, hf⟩)
  ·exact .pure (.inl ⟨rfl, ab⟩)
end Go.Proofs.YtihdchjpepkpbaaGreat
