/- Plain proofs. No condition. -/
import Derived.Test.YtaoclefkknloiaaGreatZwP1
import Derived.Test.YtaoclefkknloiaaGreatZwP0
import Derived.Test.YtaoclefkknloiaaGreatZwD
set_option maxRecDepth 100000
namespace Go.Proofs.YtaoclefkknloiaaGreat
set_option linter.unusedVariables false
set_option linter.unusedSimpArgs false
open Go.Aw
def rn (n : Nw) (p : Plan) (g : Li) (F0 : Nat → Li) (l : Li) : T3 := l.foldl (nd n p g) (F0, fun _ => [], fun _ => [])
structure Inv (n : Network) (p : Plan) (F0 : Nat → List Int) (l : List Int) (s : T3) : Prop where
 bF : ∀ i, i < n.Segments.length → S6 (s.1 i)
 bG : ∀ i, i < n.Segments.length → S6 (s.2.1 i)
 lF : ∀ i, (s.1 i).length = (F0 i).length
 gl : ∀ i sg r, Flw n p i sg r → (Bo sg r).1 ∈ l → ((s.2.1 i).length : Int) = max r (-r)
 g0 : ∀ i, i < n.Segments.length → (∀ sg r, Flw n p i sg r → (Bo sg r).1 ∉ l) → s.2.1 i = []
section
variable {n : Nw} {p : Plan} {g od : Li} {fs gws os : List (List Piece)} {F0 : Nat → Li} {s : T3} {l : Li}
theorem In {v : Int} : rn n p g F0 (l ++ [v]) = nd n p g (rn n p g F0 l) v := by simp [rn, List.foldl_append]
theorem gG {v : Int} {b : Bool} {i : Nat} {s : Sg} {r : Int} (h : Flw n p i s r) : cS n p v b i = if (if b = true then (Bo s r).2 else (Bo s r).1) = v then some (max r (-r)) else none := by
 rw [S8 h.seg h.rate]
 by_cases e : (if b = true then (Bo s r).2 else (Bo s r).1) = v
 ·rw [if_pos ⟨h.ne, e⟩, if_pos e]
 ·rw [if_neg (fun h => e h.2), if_neg e]
theorem Flw.getD {i : Nat} {s : Sg} {r : Int} (h : Flw n p i s r) : p.Rates.getD i 0 = r := by rw [List.getD_eq_getElem?_getD, h.rate]; rfl
theorem Flw.lt {i : Nat} {s : Sg} {r : Int} (h : Flw n p i s r) : i < n.Segments.length := (gs h.seg).1
theorem Inv.len1000 (Z : Ln n p g) (h : Inv n p F0 l s) {i : Nat} (hi : i < n.Segments.length) : (s.2.1 i).length ≤ 1000 := by
 by_cases M : ∃ G r, Flw n p i G r ∧ (Bo G r).1 ∈ l
 ·obtain ⟨G, r, M, Y⟩ := M
  have h1 := h.gl i G r M Y
  have h2 := Z.flow.rng i r G M.rate M.seg
  omega
 ·rw [h.g0 i hi fun G r W Y => M ⟨G, r, W, Y⟩]; simp
theorem Inv.lG (h : Inv n p F0 l s) {v : Int} (G : ∀ i sg r, Flw n p i sg r → (Bo sg r).2 = v → (Bo sg r).1 ∈ l) : ∀ i a, i < n.Segments.length → cS n p v true i = some a → ((s.2.1 i).length : Int) = a := fun i a hi hc => by
 obtain ⟨sg, r, hf, he, rfl⟩ := Mk hc
 rw [if_pos rfl] at he
 exact h.gl i sg r hf (G i sg r hf he)
theorem Inv.next (hL : Ln n p g) (h : Inv n p F0 l s) {v : Nat} (hv : v < n.Nodes.length) (hs : ∀ i sg r, Flw n p i sg r → (Bo sg r).2 = (v : Int) → (Bo sg r).1 ∈ l) : Inv n p F0 (l ++ [(v : Int)]) (nd n p g s v) := by
 have hb := Rn (v := (v : Int)) hL h.bG
 obtain ⟨ab, _, _⟩ := Mt hL hv (h.lG hs)
 refine ⟨fun i Z => ?_, fun i Z => ?_, fun i => ?_, fun i sg r Y W => ?_, fun i Z aa => ?_⟩ <;> dsimp only [nd]
 ·split
  ·intro b G
   rcases gB G with G | G
   ·exact h.bF i Z b G
   ·exact hb b (Mf G)
  ·exact h.bF i Z
 ·split
  ·intro b G
   rcases oQ G with G | G
   ·exact h.bF i Z b G
   ·exact hb b (Mf G)
  ·exact h.bG i Z
 ·split
  ·rw [gC, h.lF]
  ·exact h.lF i
 ·have M := gG (v := (v : Int)) (b := false) Y
  rw [if_neg (by simp : ¬ (false = true))] at M
  by_cases e : (Bo sg r).1 = v
  ·rw [if_pos e] at M
   rw [if_pos (by rw [M]; rfl), oR]
   exact Yg hL.flow ab Y.lt M
  ·rw [if_neg e] at M
   rw [if_neg (by rw [M]; simp)]
   refine h.gl i sg r Y ?_
   rcases List.mem_append.1 W with W | W
   ·exact W
   ·simp at W; exact absurd W e
 ·have M : cS n p v false i = none := by
   cases M : cS n p v false i with
   | none => rfl
   | some a =>
    obtain ⟨sg, r, Y, he, _⟩ := Mk M
    rw [if_neg (by simp : ¬ (false = true))] at he
    exact absurd (by rw [he]; simp) (aa sg r Y)
  rw [if_neg (by rw [M]; simp)]
  exact h.g0 i Z fun sg r Y W => aa sg r Y (by simp [W])
theorem Ni (W : Ln n p g) (G : Topo n p od) (bF : ∀ i, i < n.Segments.length → S6 (F0 i)) : ∀ k, k ≤ od.length → Inv n p F0 (od.take k) (rn n p g F0 (od.take k))
 | 0, _ => ⟨bF, fun i _ b Y => absurd Y (by simp [rn]), fun _ => rfl, fun i sg r _ h => absurd h (by simp), fun _ _ _ => rfl⟩
 | k + 1, hk => by
  obtain ⟨v, M⟩ := D1 (l := od) (k := k) (by omega)
  have Z := G.rng v (mg M)
  have h := Ni W G bF k (by omega)
  have hs := G.topo k v M
  obtain ⟨w, rfl⟩ := Gl Z.1
  rw [List.take_add_one, M]
  show Inv n p F0 (od.take k ++ [(w : Int)]) (rn n p g F0 (od.take k ++ [(w : Int)]))
  rw [In]
  exact h.next W (by omega) hs
theorem lH {v : Int} {i : Nat} {a : Int} (hc : cS n p v false i = some a) : ∀ G : Li, v ∉ G → (rn n p g F0 (l ++ v :: G)).1 i = (nd n p g (rn n p g F0 l) v).1 i ∧ (rn n p g F0 (l ++ v :: G)).2.1 i = (nd n p g (rn n p g F0 l) v).2.1 i := by
 intro G
 induction G using Mo with
 | h0 => intro _; rw [In]; exact ⟨rfl, rfl⟩
 | h1 b x ih =>
  intro Y
  obtain ⟨h1, Z⟩ := ih fun h => Y (by simp [h])
  have M : cS n p x false i = none := by
   obtain ⟨sg, r, hf, W, _⟩ := Mk hc
   rw [gG hf]
   rw [if_neg (by simp : ¬ (false = true))] at W ⊢
   rw [if_neg]
   rintro rfl
   exact Y (by simp [W])
  have e : l ++ v :: (b ++ [x]) = (l ++ v :: b) ++ [x] := by simp
  rw [e, In, ← h1, ← Z]
  dsimp only [nd]
  rw [M]
  exact ⟨rfl, rfl⟩
structure Lng (n : Network) (p : Plan) (g : List Int) (F0 : Nat → List Int) (od : List Int) : Prop where
 any : (∃ (k : Nat) (v : Int), od[k]? = some v ∧ 200 < (Ci (Ei n p g (rn n p g F0 (od.take k)).2.1 v)).length) ∨ (∃ i, i < n.Segments.length ∧ (200 < (Ci ((rn n p g F0 od).1 i)).length ∨ 200 < (Ci ((rn n p g F0 od).2.1 i)).length)) ∨ ∃ k, k < n.Ports.length ∧ 200 < (Ci ((rn n p g F0 od).2.2 k)).length
theorem kE (ht : Topo n p od) {k : Nat} {v : Int} (hv : od[k]? = some v) (h : Over n p g (rn n p g F0 (od.take k)) v) : Lng n p g F0 od := by
 rcases h with h | ⟨i, a, W, M, h⟩
 ·exact ⟨.inl ⟨k, v, hv, h⟩⟩
 ·have Y := (gs hv).1
  have e : od.take k ++ v :: od.drop (k + 1) = od := by
   rw [← (gs hv).2, ← List.drop_eq_getElem_cons Y, List.take_append_drop]
  have G := ht.nodup
  rw [← e] at G
  have Z := (List.nodup_cons.1 (List.nodup_append.1 G).2.1).1
  have := lH (n := n) (p := p) (g := g) (F0 := F0) (l := od.take k) M (od.drop (k + 1)) Z
  rw [e] at this
  rw [← this.1, ← this.2] at h
  exact ⟨.inr (.inl ⟨i, W, h⟩)⟩
def TickA (n : Nw) (p : Plan) (g : Li) (F0 : Nat → Li) (od : Li) (q : List (List Piece) × List (List Piece) × Int) : Prop :=
 Lng n p g F0 od ∧ q = ([], [], 4) ∨ ¬ Lng n p g F0 od ∧ q.2.2 = 0 ∧ Rp n.Segments.length q.1 (rn n p g F0 od).1 ∧ Rp n.Ports.length q.2.1 (rn n p g F0 od).2.2
theorem TickA.uniq {q q' : List (List Piece) × List (List Piece) × Int} (h : TickA n p g F0 od q) (Z : TickA n p g F0 od q') : q = q' := by
 rcases h with ⟨a, rfl⟩ | ⟨a, b, c, d⟩ <;> rcases Z with ⟨G, rfl⟩ | ⟨G, M, W, Y⟩
 ·rfl
 ·exact absurd a G
 ·exact absurd G a
 ·obtain ⟨x, y, z⟩ := q
  obtain ⟨x', y', z'⟩ := q'
  dsimp only at b c d M W Y
  rw [c.det W, d.det Y, b, M]
theorem Zz (hL : Ln n p g) (ht : Topo n p od) (hF : Rp n.Segments.length fs F0) (vF : ∀ i, i < n.Segments.length → Vd (Ci (F0 i))) :
  Ok (Ih ⟨n, p, g, od, fs, gws, os⟩) fun q => q.1 = 4 ∧ Lng n p g F0 od ∨ q.1 = 0 ∧ ¬ Lng n p g F0 od ∧ Left n (rn n p g F0 od) q.2 ∧ Tame n (rn n p g F0 od) := by
 have s1 := hL.net.segs1; have s2 := hL.net.ports1
 have bF : ∀ i, i < n.Segments.length → S6 (F0 i) := fun i G => by have := (vF i G).bat; rw [C9] at this; exact this
 have rep : ∀ m : Nat, Rp m (List.replicate m []) fun _ => [] := fun m => ⟨by simp, fun i G => by rw [List.getElem?_replicate, if_pos G]; rfl⟩
 unfold Ih
 refine .bind' (.mk n.Segments.length rfl (by omega) (.bind' (.mk n.Ports.length rfl (by omega) ?_)))
 unfold Ih.J1
 refine .bind' (.forL (fun k st => (∀ (j : Nat) (v : Int), j < k → od[j]? = some v → (Ci (Ei n p g (rn n p g F0 (od.take j)).2.1 v)).length ≤ 200) ∧ Left n (rn n p g F0 (od.take k)) st ∧ Tame n (rn n p g F0 (od.take k))) (fun q => q.1 = 4 ∧ Lng n p g F0 od)
  ⟨fun j v hj _ => absurd hj (by omega), ⟨hF, rep _, rep _⟩, ⟨vF, fun i G => by simp [rn, Ir], fun k hk => by simp [rn, Ir]⟩⟩ ?_ ?_ fun q M => .pure (.inl M))
 ·rintro k v ⟨f1, g1, o1⟩ W ⟨h0, h1, Y⟩
  have hkl : k < od.length := (gs W).1
  have G := Ni hL ht bF k (by omega)
  obtain ⟨v0, v1⟩ := ht.rng v (mg W)
  have hs := ht.topo k v W
  have hov := fun h => kE (n := n) (p := p) (g := g) (F0 := F0) ht W h
  obtain ⟨w, rfl⟩ := Gl v0
  unfold Ih.B3
  refine .bind (lT (od := od) hL (by omega) h1 Y (fun i hi' => ⟨G.bG i hi', G.len1000 hL hi'⟩) (G.lG hs)) ?_
  rintro ⟨qc, qq⟩ M
  rcases M with ⟨M, ho⟩ | ⟨M, q0, q1, q2⟩
  ·dsimp only at M
   rw [if_pos (by simp [M])]
   exact .pure ⟨M, hov ho⟩
  ·dsimp only at M
   rw [if_neg (by simp [M])]
   rw [List.take_add_one, W]
   refine .pure ⟨fun j v hj Z => ?_, by show Left n (rn n p g F0 (od.take k ++ [(w : Int)])) _; rw [In]; exact q1, by show Tame n (rn n p g F0 (od.take k ++ [(w : Int)])); rw [In]; exact q2⟩
   by_cases e : j = k
   ·subst e; rw [W] at Z; cases Z; exact q0
   ·exact h0 j v (by omega) Z
 ·rintro ⟨f1, g1, o1⟩ ⟨h0, h1, Y⟩
  rw [List.take_length] at h1 Y
  change Left n (rn n p g F0 od) _ at h1
  change Tame n (rn n p g F0 od) at Y
  refine .pure (.inr ⟨rfl, ?_, h1, Y⟩)
  rintro ⟨⟨k, v, W, h⟩ | ⟨i, G, h | h⟩ | ⟨k, hk, h⟩⟩
  ·have := h0 k v (gs W).1 W; omega
  ·have := (Y.vd i G).len; omega
  ·have := Y.gl i G; omega
  ·have := Y.ol k hk; omega
structure Fil (n : Network) (fs : List (List Piece)) (F : Nat → List Int) : Prop where
 rp : Rp n.Segments.length fs F
 vd : ∀ i, i < n.Segments.length → Vd (Ci (F i))
 cap : ∀ (i : Nat) (s : Sg), n.Segments[i]? = some s → ((F i).length : Int) = s.Capacity
theorem iK (hn : NetC n) (h : Fil n fs F0) : Ig n fs = some 0 := by
 have hl := h.rp.len
 have : Ok (Ig n fs) fun r => r = 0 := by
  unfold Ig
  refine .bind' (.eq (hn.check) ?_)
  rw [if_neg (by simp), if_neg (by simp; omega)]
  have hc : Ok (Ra fs (fun x => Nr x)) fun r => r = false := by
   unfold Ra Qg
   refine .bind (Q := fun r => r = -1) (.bind' (.forL (fun _ _ => True) (fun _ => False) trivial ?_ (fun _ _ => .pure rfl) (fun _ h => h.elim))) (by rintro _ rfl; exact .pure (by simp))
   intro k x _ G _
   have hk := (gs G).1
   have W := h.vd k (by omega)
   rw [h.rp.get k (by omega)] at G
   cases G
   unfold Qg.B2 Nr
   dsimp only
   rw [Hw W]
   exact .pure trivial
  refine .bind hc ?_
  rintro _ rfl
  unfold Ig.J1
  rw [if_neg (by simp)]
  refine .bind' (.forL (fun _ _ => True) (fun _ => False) trivial ?_ (fun _ _ => .pure rfl) (fun _ h => h.elim))
  intro k x _ G _
  have hk := (gs G).1
  have W := h.vd k (by omega)
  obtain ⟨s, Y⟩ := D1 (l := n.Segments) (k := k) (by omega)
  have M := h.cap k s Y
  rw [h.rp.get k (by omega)] at G
  cases G
  unfold Ig.B3
  rw [Te W, Option.bind_some, Bd Y, Option.bind_some, Cs]
  dsimp only
  rw [if_neg (by simp [M])]
  exact .pure trivial
 obtain ⟨r, Z, rfl⟩ := this
 exact Z
theorem Rr (G : Ln n p g) (h : Fil n fs F0) : Ok (Lq n fs p g) fun q => q.2 = 0 ∧ ∃ od, Gp n p = some od ∧ Topo n p od ∧ (∀ v : Nat, v < n.Nodes.length → (v : Int) ∈ od) ∧ q.1 = some ⟨n, p, g, od, fs, [], []⟩ := by
 have s1 := G.net.segs1
 have hl := h.rp.len
 obtain ⟨od, Z, o2, Y⟩ := Hg G.net G.flow.rl
 have Y := Y.resolve_right fun hn => hn.2 G.flow.acyc
 unfold Lq
 refine .bind' (.eq (iK G.net h) ?_)
 rw [if_neg (by simp)]
 unfold Ve
 refine .bind' (.bind' (.eq (Sj G.net G.flow) ?_))
 rw [if_neg (by simp)]
 refine .bind' (.eq Z (.pure ?_))
 rw [if_neg (by simp), if_neg (by simp [G.gl])]
 refine .bind' (.eq (Eh (P := G5) (fun k x M => rfl)) ?_)
 rw [bP fun k x M => by
  have := G.gb x (mg M)
  unfold G5; simp; omega]
 unfold Lq.J1
 rw [if_neg (by simp)]
 refine .bind (Q := fun r => r = fs) (.forS (fun k st => st = fs.take k) rfl ?_ fun st h => by rw [h, List.take_length]) ?_
 ·rintro k x _ M rfl
  have hk := (gs M).1
  have hv := (h.vd k (by omega)).len
  have W := M
  rw [h.rp.get k (by omega)] at W
  cases W
  unfold Lq.B3
  refine .bind' (.eq (Hz (by omega)) (.bind' (.app (by simp; omega) (.pure ?_))))
  rw [List.take_add_one, M]; rfl
 ·rintro _ rfl
  exact .pure ⟨rfl, od, Z, o2, Y, rfl⟩
theorem mP (Z : Ln n p g) (h : Fil n fs F0) : Ok (Js n fs p g) fun q => ∃ od, Gp n p = some od ∧ Topo n p od ∧ (∀ v : Nat, v < n.Nodes.length → (v : Int) ∈ od) ∧ TickA n p g F0 od q := by
 unfold Js
 refine .bind (Rr Z h) ?_
 rintro ⟨_, _⟩ ⟨rfl, od, o1, Y, o3, rfl⟩
 show Ok (Option.bind (Ih ⟨n, p, g, od, fs, [], []⟩) _) _
 refine .bind (Zz Z Y h.rp h.vd) ?_
 rintro ⟨qc, qf, qg, qo⟩ G
 rcases G with ⟨G, W⟩ | ⟨G, M, q1, q2⟩
 ·dsimp only at G; subst G; rw [if_pos (by simp)]; exact .pure ⟨od, o1, Y, o3, .inl ⟨W, rfl⟩⟩
 ·dsimp only at G; subst G; rw [if_neg (by simp)]
  exact .pure ⟨od, o1, Y, o3, .inr ⟨M, rfl, q1.fills, q1.out⟩⟩
end
theorem iB {a b c : Int} : Co a b c = true ↔ b ≤ a ∧ a ≤ c := by simp [Co]
theorem Dx {a b c : Int} : (!(Co a b c)) = true ↔ ¬ (b ≤ a ∧ a ≤ c) := by rw [← iB]; simp
theorem bE {x : Bt} : Ok (Qw x) fun r => r = true ↔ Ly x := by
 have Z : ¬ (1 ≤ x.size ∧ x.size ≤ 12 ∧ Ma (ch x 0)) → Ok (Qw.J1 x true) fun r => r = true ↔ Ly x := fun h => by
  unfold Qw.J1
  exact .pure ⟨fun h => (by cases h), fun hn => absurd hn.1 h⟩
 unfold Qw
 refine Bf (fun h => Z (by omega)) fun h1 => Bf (fun h => Z (by omega)) fun h2 => ?_
 refine .bind' (.eq (Pq (k := 0) (by omega)) (Bf (fun h => Z (fun hl => by have := hl.2.2; unfold Ma at this; dsimp only at h; omega)) fun M => ?_))
 dsimp only at M ⊢
 by_cases h4 : ch x 0 > 122
 ·rw [decide_eq_true h4]; exact Z (fun hl => by have := hl.2.2; unfold Ma at this; omega)
 rw [decide_eq_false h4]
 unfold Qw.J1
 refine Cw (fun h => by cases h) fun _ => ?_
 refine .bind (Q := fun o : Bool ⊕ Unit => (o = .inl false ∧ ∃ k, k < x.size ∧ ¬ (Ma (ch x k) ∨ (48 ≤ ch x k ∧ ch x k ≤ 57) ∨ ch x k = 45)) ∨ (o = .inr () ∧ ∀ k, k < x.size → Ma (ch x k) ∨ (48 ≤ ch x k ∧ ch x k ≤ 57) ∨ ch x k = 45)) ?_ ?_
 ·refine .loop (fun i : Int => 0 ≤ i ∧ i ≤ (x.size : Int) ∧ ∀ k : Nat, (k : Int) < i → Ma (ch x k) ∨ (48 ≤ ch x k ∧ ch x k ≤ 57) ∨ ch x k = 45) (fun i => x.size - i.toNat) ⟨by omega, by omega, fun k h => by omega⟩ (by omega) ?_
  rintro i ⟨i0, i1, i2⟩
  obtain ⟨i, rfl⟩ := Gl i0
  unfold Qw.B3
  refine Bf (fun hlt => .bind' (.eq (Pq (by omega)) ?_)) fun h => .pure (.inr ⟨rfl, fun k hk => i2 k (by omega)⟩)
  have Y : Ma (ch x i) ∨ (48 ≤ ch x i ∧ ch x i ≤ 57) ∨ ch x i = 45 → Ok (Qw.J4 i false) (Sum.elim (fun j : Int => (0 ≤ j ∧ j ≤ (x.size : Int) ∧ ∀ k : Nat, (k : Int) < j → Ma (ch x k) ∨ (48 ≤ ch x k ∧ ch x k ≤ 57) ∨ ch x k = 45) ∧ x.size - j.toNat < x.size - (i : Int).toNat) fun o : Bool ⊕ Unit => (o = .inl false ∧ ∃ k, k < x.size ∧ ¬ (Ma (ch x k) ∨ (48 ≤ ch x k ∧ ch x k ≤ 57) ∨ ch x k = 45)) ∨ (o = .inr () ∧ ∀ k, k < x.size → Ma (ch x k) ∨ (48 ≤ ch x k ∧ ch x k ≤ 57) ∨ ch x k = 45)) := fun hg => by
   unfold Qw.J4
   refine Cw (fun h => by cases h) fun _ => .pure ?_
   rw [Bp (by omega)]
   refine ⟨⟨by omega, by omega, fun k hk => ?_⟩, by omega⟩
   by_cases hki : k = i
   ·subst hki; exact hg
   ·exact i2 k (by omega)
  have W : ¬ (Ma (ch x i) ∨ (48 ≤ ch x i ∧ ch x i ≤ 57) ∨ ch x i = 45) → Ok (Qw.J4 i true) (Sum.elim (fun j : Int => (0 ≤ j ∧ j ≤ (x.size : Int) ∧ ∀ k : Nat, (k : Int) < j → Ma (ch x k) ∨ (48 ≤ ch x k ∧ ch x k ≤ 57) ∨ ch x k = 45) ∧ x.size - j.toNat < x.size - (i : Int).toNat) fun o : Bool ⊕ Unit => (o = .inl false ∧ ∃ k, k < x.size ∧ ¬ (Ma (ch x k) ∨ (48 ≤ ch x k ∧ ch x k ≤ 57) ∨ ch x k = 45)) ∨ (o = .inr () ∧ ∀ k, k < x.size → Ma (ch x k) ∨ (48 ≤ ch x k ∧ ch x k ≤ 57) ∨ ch x k = 45)) := fun hg => by
   unfold Qw.J4
   exact Cw (fun _ => .pure (.inl ⟨rfl, i, by omega, hg⟩)) fun h => by cases h
  have G : (ch x i < 48 ∨ 57 < ch x i) → ¬ Ma (ch x i) → Ok (Qw.J4 i (ch x i != 45)) _ := fun h1 h2 => by
   by_cases M : ch x i = 45
   ·rw [M]; exact Y (.inr (.inr M))
   ·rw [show (ch x i != 45) = true by simpa using M]; exact W (fun h => h.elim h2 fun h => h.elim (fun h => by omega) M)
  dsimp only
  refine Bf (fun h5 => Bf (fun h6 => G (by omega) (by unfold Ma; omega)) fun h6 => Bf (fun h7 => G (by omega) (by unfold Ma; omega)) fun h7 => Y (by omega)) fun h5 => Bf (fun h6 => Bf (fun h7 => G (by omega) (by unfold Ma; omega)) fun h7 => Bf (fun h8 => G (by omega) (by unfold Ma; omega)) fun h8 => Y (by omega)) fun h6 => Y (by unfold Ma; omega)
 ·rintro _ (⟨rfl, k, hk, h⟩ | ⟨rfl, h⟩)
  ·exact .pure ⟨fun h => (by cases h), fun hn => absurd (hn.2 k hk) h⟩
  ·unfold Qw.J2
   exact .pure ⟨fun _ => ⟨⟨by omega, by omega, by unfold Ma; omega⟩, h⟩, fun _ => rfl⟩
theorem kZ {l : List Bt} (hl : l.length ≤ 1000000) : Ok (Rg l) fun r => r = true ↔ pC l := by
 unfold Rg
 refine .bind (rE (d := true) (P := fO l) fun k x G => ?_) ?_
 ·have hk := (gs G).1
  unfold Rg.B2
  refine .bind (aL (k := k) (d := true) (P := fun y => x.toList = y.toList) (by omega) hl (fun i y Z Y => ?_) ?_) ?_
  ·unfold Rg.B4
   refine Bf (fun _ => .bind' (.eq (Bd Y) (Cw (fun h => .pure (.inl ⟨Mg.1 h, rfl⟩)) fun h => .pure (.inr ⟨fun W => ?_, rfl⟩)))) fun h => by omega
   rw [Mg.2 W] at h; cases h
  ·unfold Rg.B4
   rw [if_neg (by simp)]
  ·rintro _ (⟨h, rfl⟩ | ⟨h, rfl⟩)
   ·exact .pure (.inl ⟨h, rfl⟩)
   ·exact .pure (.inr ⟨h, rfl⟩)
 ·rintro _ (⟨h, rfl⟩ | ⟨h, rfl⟩)
  ·exact .pure ⟨fun _ => h, fun _ => rfl⟩
  ·exact .pure ⟨fun h => (by cases h), fun ⟨k, x, G, M⟩ => absurd M (h k x G)⟩
theorem oB {s : Sg} (h2 : 2 ≤ s.Points.length ∧ s.Points.length ≤ 1000) : Ok (Qv s) fun r => r = true ↔ PipeOk s := by
 obtain ⟨p0, pl, e0, el, i0, il⟩ := aF h2
 have Y : (PipeOk s → False) → Ok (Qv.J1 s true) fun r => r = true ↔ PipeOk s := fun h => by
  unfold Qv.J1; exact .pure ⟨fun h => (by cases h), fun G => absurd G h⟩
 unfold Qv
 refine C5 (Q := s.From = s.To) (by simp) (fun h => Y fun G => G.ends h) fun a1 => C5 Dx (fun h => Y fun G => h G.cap) fun a2 => C5 Dx (fun h => Y fun G => h G.resist) fun a3 => C5 Dx (fun h => Y fun G => h G.wave) fun a4 => ?_
 rw [i0, il]
 refine .bind' (.pure (C5 (Q := p0.At ≠ 0) (by simp) (fun h => Y fun G => h (G.first _ e0)) fun h0 => .bind' (.pure ?_)))
 dsimp only
 by_cases hl : pl.At = s.Capacity
 ·rw [show (pl.At != s.Capacity) = false by simpa using hl]
  unfold Qv.J1
  refine Cw (fun h => by cases h) fun _ => .bind (rE (d := false) (P := La s) fun k p G => ?_) ?_
  ·have Z : ∀ b : Bool, (b = true ↔ La s k p) → Ok (Qv.J4 b) fun o => (La s k p ∧ o = .inr false) ∨ (¬ La s k p ∧ o = .inl ()) := fun b h => by unfold Qv.J4; exact .test h
   unfold Qv.B3
   refine Bf (fun h0 => ?_) fun h0 => C5 Dx (fun h => Z _ ⟨fun _ => .inl fun W => h W.1, fun _ => rfl⟩) fun h1 => Z _ ?_
   ·obtain ⟨q, hq, hi⟩ := Z4 h2.2 G (by omega)
    refine .bind' (.eq hi (Bf (fun h => Z _ ⟨fun _ => .inr ⟨q, by omega, hq, h⟩, fun _ => rfl⟩) fun h => C5 Dx (fun h => Z _ ⟨fun _ => .inl fun W => h W.1, fun _ => rfl⟩) fun h1 => Z _ ?_))
    rw [Dx]
    refine ⟨fun h => .inl fun W => h W.2, fun M h3 => ?_⟩
    have := (aH ⟨Classical.not_not.1 h1, h3⟩ (by omega) hq).1 M
    dsimp only at h; omega
   ·rw [Dx]
    refine ⟨fun h => .inl fun W => h W.2, fun M h3 => ?_⟩
    rcases M with M | ⟨q, hk, _⟩
    ·exact M ⟨Classical.not_not.1 h1, h3⟩
    ·omega
  ·rintro _ (⟨⟨k, p, G, M⟩, rfl⟩ | ⟨h, rfl⟩)
   ·exact .pure ⟨fun h => (by cases h), fun h => absurd M (h.pts k p G)⟩
   ·refine .pure ⟨fun _ => ⟨a1, Classical.not_not.1 a2, Classical.not_not.1 a3, Classical.not_not.1 a4, fun p G => ?_, fun p G => ?_, h⟩, fun _ => rfl⟩
    ·rw [e0] at G; cases G; exact Classical.not_not.1 h0
    ·rw [el] at G; cases G; exact hl
 ·rw [show (pl.At != s.Capacity) = true by simpa using hl]
  exact Y fun G => hl (G.last _ el)
theorem Za {n : Nw} (h1 : n.Segments.length ≤ 1000) (h2 : n.Ports.length ≤ 1000) (G : n.Stations.length ≤ 1000) : Ok (Qx n) fun r => r.l = eY n := by
 unfold Qx
 refine .bind (Kk (g := (·.Name)) (fun _ _ _ => rfl) h1) ?_
 rintro _ rfl
 unfold Qx.J1
 refine .bind (Kk (g := (·.Name)) (fun _ _ _ => rfl) h2) ?_
 rintro _ rfl
 unfold Qx.J2
 refine .bind (Kk (g := (·.Name)) (fun _ _ _ => rfl) G) ?_
 rintro _ rfl
 unfold Qx.J3
 exact .pure rfl
theorem gX {n : Nw} : Ok (Jn n) (NetRes n) := by
 unfold Jn
 refine C5 (Q := ¬ (1 ≤ n.Nodes.length ∧ n.Nodes.length ≤ 24 ∧ n.Segments.length ≤ 32 ∧ n.Ports.length ≤ 24 ∧ n.Stations.length ≤ 12)) (by simp only [Bool.or_eq_true, Dx, decide_eq_true_eq]; omega) (fun h => .pure (.inl ⟨fun Y => h Y.1, rfl⟩)) fun h0 => ?_
 refine .bind (rE (d := 4) (P := fun _ s => ¬ P1 s) fun k s G => ?_) ?_
 ·unfold Jn.B24 P1
  exact .test (by rw [Dx]; omega)
 rintro _ (⟨⟨k, s, G, h⟩, rfl⟩ | ⟨h1, rfl⟩)
 ·exact .pure (.inl ⟨fun Y => h (Y.2 k s G), rfl⟩)
 have Y : Lim n := ⟨Classical.not_not.1 h0, fun k s G => Classical.not_not.1 (h1 k s G)⟩
 have hnl := Y.1
 have hn := Y.sane
 simp only [Sum.elim_inl]
 unfold Jn.J1
 refine .bind (Za hn.segs hn.ports hn.sts) fun r hr => .bind (Mm (d := 3) (P := fun k => ∃ l, (eY n)[k]? = some l ∧ Yw l) fun k W => ?_) ?_
 ·obtain ⟨l, g1, g2⟩ := Zq hr W
  unfold Jn.B21
  refine .bind' (.eq (Bd g1) (.bind (rE (d := 3) (P := fun _ x => ¬ Ly x) fun j x hx => ?_) ?_))
  ·unfold Jn.B23
   exact .bind bE fun b hb => .test (by rw [← hb]; simp)
  ·rintro _ (⟨h, rfl⟩ | ⟨h, rfl⟩)
   ·exact .pure (.inl ⟨⟨l, g2, h⟩, rfl⟩)
   ·refine .pure (.inr ⟨fun ⟨m, g3, j, x, hx, hm⟩ => ?_, rfl⟩)
    rw [g2] at g3; cases g3; exact h j x hx hm
 rintro _ (⟨h, rfl⟩ | ⟨h, rfl⟩)
 ·exact .pure (.inr ⟨Y, .inl ⟨h, rfl⟩⟩)
 have hf : ¬ Kb n := fun ⟨k, W, h'⟩ => h k W h'
 simp only [Sum.elim_inl]
 unfold Jn.J2
 refine .bind (Mm (d := 7) (P := fun k => ∃ l, (eY n)[k]? = some l ∧ pC l) fun k W => ?_) ?_
 ·obtain ⟨l, g1, g2⟩ := Zq hr W
  unfold Jn.B20
  have hll : l.length ≤ 1000000 := by
   have := mg g2
   simp only [eY, List.mem_cons, List.not_mem_nil, or_false] at this
   rcases this with rfl | rfl | rfl | rfl <;> simp <;> omega
  refine .bind' (.eq (Bd g1) (.bind (kZ hll) fun b hb => .test ?_))
  rw [hb]
  exact ⟨fun h => ⟨l, g2, h⟩, fun ⟨m, g3, h⟩ => by rw [g2] at g3; cases g3; exact h⟩
 rintro _ (⟨h, rfl⟩ | ⟨h2, rfl⟩)
 ·exact .pure (.inr ⟨Y, .inr ⟨hf, .inl ⟨.inl h, rfl⟩⟩⟩)
 simp only [Sum.elim_inl]
 unfold Jn.J3
 refine .bind (rE (d := 7) (P := Yv n.Stations) fun k x hx => ?_) ?_
 ·have W := (gs hx).1
  unfold Jn.B17
  refine .bind (aL (l := n.Stations) (k := k) (d := 7) (P := fun y => x.Node = y.Node) (by omega) (by omega) (fun i y hi hy => ?_) ?_) ?_
  ·unfold Jn.B19
   exact Bf (fun _ => .bind' (.eq (Bd hy) (Dk (fun h => .pure (.inl ⟨h, rfl⟩)) fun h => .pure (.inr ⟨h, rfl⟩)))) fun h => by omega
  ·unfold Jn.B19
   rw [if_neg (by simp)]
  ·rintro _ (⟨h, rfl⟩ | ⟨h, rfl⟩)
   ·exact .pure (.inl ⟨h, rfl⟩)
   ·exact .pure (.inr ⟨h, rfl⟩)
 rintro _ (⟨h, rfl⟩ | ⟨h3, rfl⟩)
 ·exact .pure (.inr ⟨Y, .inr ⟨hf, .inl ⟨.inr h, rfl⟩⟩⟩)
 have ht : ¬ (Qc n ∨ Qb n) := by
  rintro (⟨k, W, h⟩ | ⟨k, x, hx, h⟩)
  ·exact h2 k W h
  ·exact h3 k x hx h
 have unk : ¬ P2 n → NetRes n 8 := fun h => .inr ⟨Y, .inr ⟨hf, .inr ⟨ht, .inl ⟨h, rfl⟩⟩⟩⟩
 have e : wr ((n.Nodes.length : Int) - 1) = (n.Nodes.length : Int) - 1 := Bp (by omega)
 have M : ∀ k : Int, (!(Co k 0 ((n.Nodes.length : Int) - 1))) = true ↔ ¬ At n k := fun k => by rw [Dx]; unfold At; omega
 simp only [Sum.elim_inl]
 unfold Jn.J4
 refine .bind (rE (d := 8) (P := fun _ s => ¬ (At n s.From ∧ At n s.To)) fun k s G => ?_) ?_
 ·unfold Jn.B16
  refine .test ?_
  rw [e, Bool.or_eq_true, M, M]
  exact ⟨fun h hc => h.elim (fun h => h hc.1) fun h => h hc.2, fun h => Classical.byContradiction fun hc => h ⟨Classical.byContradiction fun h => hc (.inl h), Classical.byContradiction fun h => hc (.inr h)⟩⟩
 rintro _ (⟨⟨k, s, G, h⟩, rfl⟩ | ⟨k1, rfl⟩)
 ·exact .pure (unk fun W => h (W.1 k s G))
 simp only [Sum.elim_inl]
 unfold Jn.J5
 refine .bind (rE (d := 8) (P := fun _ s => ¬ At n s.Node) fun k s G => ?_) ?_
 ·unfold Jn.B15
  exact .test (by rw [e]; exact M _)
 rintro _ (⟨⟨k, s, G, h⟩, rfl⟩ | ⟨k2, rfl⟩)
 ·exact .pure (unk fun W => h (W.2.1 k s G))
 simp only [Sum.elim_inl]
 unfold Jn.J6
 refine .bind (rE (d := 8) (P := fun _ s => ¬ At n s.Node) fun k s G => ?_) ?_
 ·unfold Jn.B14
  exact .test (by rw [e]; exact M _)
 rintro _ (⟨⟨k, s, G, h⟩, rfl⟩ | ⟨k3, rfl⟩)
 ·exact .pure (unk fun W => h (W.2.2 k s G))
 have W : P2 n := ⟨fun k s G => Classical.not_not.1 (k1 k s G), fun k s G => Classical.not_not.1 (k2 k s G), fun k s G => Classical.not_not.1 (k3 k s G)⟩
 have Z : ¬ Proper n → NetRes n 9 := fun h => .inr ⟨Y, .inr ⟨hf, .inr ⟨ht, .inr ⟨W, .inl ⟨h, rfl⟩⟩⟩⟩⟩
 simp only [Sum.elim_inl]
 unfold Jn.J7
 refine .bind (rE (d := 9) (P := fun _ s => ¬ PipeOk s) fun k s G => ?_) ?_
 ·unfold Jn.B13
  exact .bind (oB (Y.pts G)) fun b hb => .test (by rw [← hb]; simp)
 rintro _ (⟨⟨k, s, G, h⟩, rfl⟩ | ⟨p1, rfl⟩)
 ·exact .pure (Z fun hp => h (hp.segs k s G))
 simp only [Sum.elim_inl]
 unfold Jn.J8
 refine .bind (rE (d := 9) (P := fun _ s => ¬ (0 ≤ s.Pressure ∧ s.Pressure ≤ 100000000)) fun k s G => ?_) ?_
 ·unfold Jn.B12
  exact .test Dx
 rintro _ (⟨⟨k, s, G, h⟩, rfl⟩ | ⟨p2, rfl⟩)
 ·exact .pure (Z fun hp => h (hp.ports k s G))
 simp only [Sum.elim_inl]
 unfold Jn.J9
 refine .bind (rE (d := 9) (P := fun _ s => ¬ StnOk s) fun k s G => ?_) ?_
 ·unfold Jn.B11
  refine .test ?_
  simp only [Bool.or_eq_true, Dx]
  exact ⟨fun h G => h.elim (fun h => h G.head) fun h => h.elim (fun h => h G.fall) fun h => h G.suction, fun h => Classical.byContradiction fun hn => h ⟨by omega, by omega, by omega⟩⟩
 rintro _ (⟨⟨k, s, G, h⟩, rfl⟩ | ⟨p3, rfl⟩)
 ·exact .pure (Z fun hp => h (hp.sts k s G))
 simp only [Sum.elim_inl]
 unfold Jn.J10
 refine C5 (Q := ¬ ((-100000 ≤ n.Vapour ∧ n.Vapour ≤ 100000000) ∧ 0 ≤ n.Settle ∧ n.Settle ≤ 100)) (by rw [Bool.or_eq_true, Dx, Dx]; omega) (fun h => .pure (Z fun hp => h ⟨hp.vapour, hp.settle⟩)) fun h => ?_
 have h := Classical.not_not.1 h
 exact .pure (.inr ⟨Y, .inr ⟨hf, .inr ⟨ht, .inr ⟨W, .inr ⟨⟨fun k s G => Classical.not_not.1 (p1 k s G), fun k s G => Classical.not_not.1 (p2 k s G), fun k s G => Classical.not_not.1 (p3 k s G), h.1, h.2⟩, rfl⟩⟩⟩⟩⟩)
theorem Tt (n : Nw) : ∃ r, Fy n = some r ∧ Jn n = some r ∧ NetRes n r := by
 obtain ⟨r, M, G⟩ := Z7 (n := n)
 obtain ⟨Z, W, Y⟩ := gX (n := n)
 obtain rfl := G.uniq Y
 exact ⟨r, M, W, G⟩
theorem pK {x : Int} (h : -1000000 ≤ x ∧ x ≤ 1000000) : Gn x = max x (-x) := by
 unfold Gn
 rw [Bp (by omega), Int.zero_sub]
theorem Jz {s : Sg} {r : Int} : Ik s r = Bo s r := rfl
structure Sum16 (b : Int) (st : Int × Int) (d : Int) : Prop where
 come : 0 ≤ st.1 ∧ st.1 ≤ b
 leave : 0 ≤ st.2 ∧ st.2 ≤ b
 diff : st.1 - st.2 = d
theorem aW {n : Nw} (hn : NetC n) {p : Plan} (h4 : p.Rates.length = n.Segments.length) (h5 : p.Ports.length = n.Ports.length) (hr : ∀ (k : Nat) (r : Int), p.Rates[k]? = some r → -1000 ≤ r ∧ r ≤ 1000)
  (hp : ∀ (k : Nat) (x : Int), p.Ports[k]? = some x → -1000 ≤ x ∧ x ≤ 1000) (v : Nat) : Ok (Qz n p (v : Int)) fun r => r.1 - r.2 = Gr (wt n v) p.Rates + Gr (wp n v) p.Ports := by
 have h2 := hn.segs1; have h3 := hn.ports1
 unfold Qz
 refine .bind (.forS (fun k (st : Int × Int) => Sum16 (1000 * k) st (Gr (wt n v) (p.Rates.take k))) ⟨by simp, by simp, by simp [Kl]⟩ ?_ fun st h => h) ?_
 ·rintro k s ⟨a, b⟩ hs ⟨i1, i2, i3⟩
  dsimp only at i1 i2 i3
  have hkl := (gs hs).1
  have G : p.Rates[k]? = some p.Rates[k] := gq (by omega)
  have Z := hr k _ G
  have he := (hn.segs k s hs).1
  have W := Gb (w := wt n v) (a := ind s.To v - ind s.From v) (by unfold wt; rw [List.getElem?_map, hs]; rfl) G
  generalize p.Rates[k] = r at G Z W
  unfold Qz.B5
  refine .bind' (.eq (Bd G) (Dk (fun h0 => ?_) fun h0 => ?_))
  ·dsimp only at h0
   subst h0
   unfold Qz.J6
   rw [W]
   exact .pure ⟨by dsimp only; omega, by dsimp only; omega, by simp; omega⟩
  dsimp only at h0 ⊢
  have ha := pK (x := r) (by omega)
  rw [ha]
  have j7 : ∀ (j : Int), 0 ≤ j ∧ j ≤ 1000 * k + 1000 → ∀ l : Int, l = ind (Bo s r).1 v → j = b + max r (-r) * l → Ok (Qz.J7 (v : Int) s (a, b) (k, r) j) fun st => Sum16 (1000 * ((k + 1 : Nat) : Int)) st (Gr (wt n v) (p.Rates.take (k + 1))) := by
   intro j hj l hl hjl
   unfold Qz.J7 Qz.J6
   dsimp only
   rw [ha, Jz]
   have fin : ∀ c : Int, c = ind (Bo s r).2 v → a + max r (-r) * c - j = Gr (wt n v) (p.Rates.take (k + 1)) := by
    intro c hc
    subst hc; subst hl; subst hjl
    rw [W]
    rcases Vb (s := s) h0 with ⟨e, hr0⟩ | ⟨e, hr0⟩
    ·rw [e]
     dsimp only
     rw [show max r (-r) = -r by omega, Int.neg_mul, Int.neg_mul, Int.sub_mul, Int.mul_comm r, Int.mul_comm r]; omega
    ·rw [e]
     dsimp only
     rw [show max r (-r) = r by omega, Int.sub_mul, Int.mul_comm r, Int.mul_comm r]; omega
   refine Dk (fun M => .pure ?_) fun M => .pure ?_
   ·rw [Bp (by omega)]
    have := fin 1 (by rw [M, Hy])
    exact ⟨by dsimp only; omega, by dsimp only; omega, by dsimp only; omega⟩
   ·have := fin 0 (by rw [Gm M])
    exact ⟨by dsimp only; omega, by dsimp only; omega, by dsimp only; omega⟩
  rw [Jz]
  refine Dk (fun M => j7 _ ?_ 1 (by rw [M, Hy]) ?_) fun M => j7 _ ?_ 0 (by rw [Gm M]) ?_
  ·rw [Bp (by omega)]; omega
  ·rw [Bp (by omega)]; omega
  ·omega
  ·omega
 ·rintro ⟨a, b⟩ Y
  rw [List.take_of_length_le (by omega)] at Y
  unfold Qz.J1
  refine .bind (.forS (fun k (st : Int × Int) => Sum16 (32000 + 1000 * k) st (Gr (wt n v) p.Rates + Gr (wp n v) (p.Ports.take k))) ⟨by have := Y.come; dsimp only at this ⊢; omega, by have := Y.leave; dsimp only at this ⊢; omega, by have := Y.diff; dsimp only at this ⊢; simp [Kl]; omega⟩ ?_ fun st h => h) ?_
  ·rintro k s ⟨a, b⟩ hs ⟨i1, i2, i3⟩
   dsimp only at i1 i2 i3
   have hkl := (gs hs).1
   have G : p.Ports[k]? = some p.Ports[k] := gq (by omega)
   have Z := hp k _ G
   have W := Gb (w := wp n v) (a := ind s.Node v) (by unfold wp; rw [List.getElem?_map, hs]; rfl) G
   generalize p.Ports[k] = r at G Z W
   unfold Qz.B3 Qz.J4
   refine Dk (fun M => .bind' (.eq (Bd G) (.pure ?_))) fun M => .pure ?_
   ·rw [M, Hy] at W
    dsimp only
    rw [Bp (x := 0 - r) (by omega), Bp (by omega), Bp (by omega), W]
    exact ⟨by dsimp only; omega, by dsimp only; omega, by dsimp only; omega⟩
   ·rw [Gm M] at W
    rw [W]
    exact ⟨by dsimp only; omega, by dsimp only; omega, by dsimp only; omega⟩
  ·rintro ⟨a, b⟩ Y
   rw [List.take_of_length_le (by omega)] at Y
   unfold Qz.J2
   exact .pure Y.diff
theorem oF {n : Nw} (hn : NetC n) {p : Plan} (h4 : p.Rates.length = n.Segments.length) {out : Li} {there : List Bool} (iT : There n p out there) :
  Ok (forS (Jt.B3 n p (out, there)) 0 n.Nodes (-1)) fun k : Int => (k = -1 ∧ ∀ j : Nat, there[j]? = some false → Ew n p there j) ∨ ∃ j : Nat, k = (j : Int) ∧ there[j]? = some false ∧ (∀ i s r, Flw n p i s r → (Bo s r).2 = (j : Int) → (Bo s r).1 ∈ out) ∧ ∀ i : Nat, i < j → there[i]? = some false → Ew n p there i := by
 have h1 := hn.nodes; have h2 := hn.segs1; have i1 := iT.len
 refine .forS (fun m (k : Int) => (k = -1 ∧ ∀ j : Nat, j < m → there[j]? = some false → Ew n p there j) ∨ ∃ j : Nat, k = (j : Int) ∧ there[j]? = some false ∧ (∀ i s r, Flw n p i s r → (Bo s r).2 = (j : Int) → (Bo s r).1 ∈ out) ∧ ∀ i : Nat, i < j → there[i]? = some false → Ew n p there i) (.inl ⟨rfl, fun j h => absurd h (Nat.not_lt_zero _)⟩) ?_ ?_
 ·intro k x st hx M
  have hkl := (gs hx).1
  have ht : there[k]? = some there[k] := gq (by omega)
  unfold Jt.B3
  refine .bind' (.eq (Bd ht) ?_)
  refine .bind (Q := fun b => (b = true → there[k]? = some false ∧ ∀ (i : Nat) s r, i < n.Segments.length → Flw n p i s r → (Bo s r).2 = (k : Int) → (Bo s r).1 ∈ out) ∧ (b = false → there[k]? = some false → Ew n p there k)) ?_ ?_
  ·refine .forS (fun m (b : Bool) => (b = true → there[k]? = some false ∧ ∀ (i : Nat) s r, i < m → Flw n p i s r → (Bo s r).2 = (k : Int) → (Bo s r).1 ∈ out) ∧ (b = false → there[k]? = some false → Ew n p there k)) ?_ ?_ fun b h => h
   ·refine ⟨fun hb => ⟨by rw [ht]; simpa using hb, fun i _ _ h => absurd h (Nat.not_lt_zero _)⟩, fun hb G => ?_⟩
    rw [ht] at G; simp at G; simp [G] at hb
   ·intro i s b hs hb
    have hil := (gs hs).1
    obtain ⟨r, hr⟩ : ∃ ζ, p.Rates[i]? = some ζ := ⟨_, gq (by omega)⟩
    have he := (hn.segs i s hs).1
    have Y : b = true → (r ≠ 0 → (Bo s r).2 = (k : Int) → (Bo s r).1 ∈ out) → there[k]? = some false ∧ ∀ (j : Nat) s r, j < i + 1 → Flw n p j s r → (Bo s r).2 = (k : Int) → (Bo s r).1 ∈ out := fun Z hq => by
     obtain ⟨q1, q2⟩ := hb.1 Z
     refine ⟨q1, fun j s' r' hj G W => ?_⟩
     by_cases hji : j = i
     ·subst hji
      have e1 := G.seg; have e2 := G.rate
      rw [hs] at e1; cases e1
      rw [hr] at e2; cases e2
      exact hq G.ne W
     ·exact q2 j s' r' (by omega) G W
    unfold Jt.B6 Jt.J7
    refine .bind' (.eq (Bd hr) (Fc (fun aa => Cw (fun Z => Fc (fun W => .pure ⟨fun _ => Y Z fun _ h => absurd h W, fun h => by cases h⟩) fun W => ?_) fun hbf => .pure ⟨fun h => (by cases h), fun _ => hb.2 hbf⟩) fun aa => .pure ⟨fun h => Y h fun h0 => absurd aa h0, hb.2⟩))
    dsimp only at aa W ⊢
    rw [Jz] at W
    have hfr : 0 ≤ (Bo s r).1 ∧ (Bo s r).1 < (n.Nodes.length : Int) := by
     unfold Bo
     split <;> dsimp only <;> omega
    rw [Jz]
    refine .bind' (.ix' hfr.1 (by omega) fun f y G hy => .pure ⟨fun hyt => Y Z fun _ _ => ?_, fun hyf _ => ⟨i, s, r, f, hs, hr, aa, W, G, ?_⟩⟩)
    ·dsimp only at hy hyt
     rw [G]; exact (iT.mem f).1 (by rw [hy, hyt])
    ·dsimp only at hy hyf
     rw [hy, hyf]
  ·rintro b ⟨b1, b2⟩
   unfold Jt.J5 Jt.J4
   refine Cw (fun h => ?_) fun hno => .pure ?_
   ·simp at h
    rcases M with ⟨rfl, M⟩ | ⟨j, rfl, _⟩
    ·obtain ⟨q1, q2⟩ := b1 h.1
     exact .pure (.inr ⟨k, rfl, q1, fun i s r G => q2 i s r (gs G.seg).1 G, M⟩)
    ·exact absurd h.2 (by omega)
   ·rcases M with ⟨rfl, M⟩ | M
    ·refine .inl ⟨rfl, fun j hj G => ?_⟩
     by_cases hjk : j = k
     ·subst hjk
      simp at hno
      exact b2 hno G
     ·exact M j (by omega) G
    ·exact .inr M
 ·rintro k (⟨rfl, h⟩ | h)
  ·exact .inl ⟨rfl, fun j hj => h j (by have := (gs hj).1; omega) hj⟩
  ·exact .inr h
theorem Hr {n : Nw} (hn : NetC n) {p : Plan} (h4 : p.Rates.length = n.Segments.length) : Ok (Jt n p) fun r => Topo n p r ∧ ((∀ v : Nat, v < n.Nodes.length → (v : Int) ∈ r) ∨ ((∃ v : Nat, v < n.Nodes.length ∧ (v : Int) ∉ r) ∧ ¬ Lg n p)) := by
 have h1 := hn.nodes
 unfold Jt
 refine .bind' (.mk n.Nodes.length rfl (by omega) ?_)
 refine .bind (Q := fun r : Li => Topo n p r ∧ ((∀ v : Nat, v < n.Nodes.length → (v : Int) ∈ r) ∨ ((∃ v : Nat, v < n.Nodes.length ∧ (v : Int) ∉ r) ∧ ¬ Lg n p))) ?_ fun r hr => .pure hr
 refine .loop (fun Y : Li × List Bool => There n p Y.1 Y.2) (fun Y => n.Nodes.length - cnt Y.2) (.nil n p) (by dsimp only; omega) ?_
 rintro ⟨out, G⟩ W
 dsimp only at W
 have i1 := W.len
 have hc := P9 G
 unfold Jt.B1
 refine .bind (oF hn h4 W) fun k hk => ?_
 unfold Jt.J2
 rcases hk with ⟨rfl, hb⟩ | ⟨j, rfl, M, aa, ab⟩
 ·exact Bf (fun _ => .pure ⟨W.topo, W.fin hb⟩) fun h0 => absurd (by decide) h0
 refine Bf (fun h => by omega) fun _ => ?_
 have := W.short
 refine .bind' (.app (by simp; omega) (.bind' (.eq (Bd M) (.pure ?_))))
 have hcs := V7 M
 have Z := P9 (G.set j true)
 simp at Z
 exact ⟨W.step M aa ab, by dsimp only; omega⟩
theorem Y7 {n : Nw} (Z : NetC n) {p : Plan} (W : p.Rates.length = n.Segments.length) : Ok (Jt n p) fun r => r.length = n.Nodes.length → Lg n p :=
 (Hr Z W).mono fun r ⟨M, G⟩ hl => by
  rcases G with G | ⟨⟨v, hv, Y⟩, G⟩
  ·exact M.acyc G
  ·have := Xf M.rng M.nodup hv Y; omega
theorem Sy {n : Nw} (Y : NetC n) {p : Plan} (W : p.Rates.length = n.Segments.length) (G : Lg n p) : Ok (Jt n p) fun r => r.length = n.Nodes.length :=
 (Hr Y W).mono fun r ⟨M, Z⟩ => Mx M.rng M.nodup (Z.resolve_right fun h => h.2 G)
theorem Y8 {n : Nw} (M : NetC n) {p : Plan} (h : FlowOk n p) : Jt n p = Gp n p := by
 obtain ⟨r, h1, Z, hr⟩ := Hr M h.rl
 obtain ⟨r', W, G, Y⟩ := Hg M h.rl
 have f := Mx Z.rng Z.nodup (hr.resolve_right fun M => M.2 h.acyc)
 have f' := Mx G.rng G.nodup (Y.resolve_right fun M => M.2 h.acyc)
 rw [h1, W, Z.uniq G (by omega)]
theorem bK {n : Nw} (Y : NetC n) (h12 : Jn n = some 0) {p : Plan} : Ok (Lp n p) (FlowRes n p) := by
 have h1 := Y.nodes; have h2 := Y.segs1; have h3 := Y.ports1
 unfold Lp
 refine .bind' (.eq h12 (Fc (fun h => absurd rfl h) fun _ => C5 (Q := ¬ Yf n p) (by unfold Yf; simp; omega) (fun h => .pure (.inl ⟨h, rfl⟩)) fun M => ?_))
 have M := Classical.not_not.1 M
 have l1 := M.1; have l2 := M.2.1
 have hsk : ∀ (k : Nat) (r : Int), p.Rates[k]? = some r → ∃ s, n.Segments[k]? = some s := fun k r G => ⟨_, gq (by have := (gs G).1; omega)⟩
 refine .bind (rE (d := 1) (P := fun k r => ∃ s, n.Segments[k]? = some s ∧ ¬ P0 s r) fun k r G => ?_) ?_
 ·obtain ⟨s, Z⟩ := hsk k r G
  have hc := (Y.segs k s Z).2
  unfold Lp.B6
  refine .bind' (.eq (Bd Z) (.test ?_))
  dsimp only
  rw [Bp (by omega), Bool.or_eq_true, decide_eq_true_eq, decide_eq_true_eq]
  refine ⟨fun h => ⟨s, Z, fun W => by unfold P0 at W; omega⟩, fun ⟨s', hs', h⟩ => ?_⟩
  rw [Z] at hs'; cases hs'
  unfold P0 at h; omega
 rintro _ (⟨⟨k, r, G, s, Z, h⟩, rfl⟩ | ⟨h, rfl⟩)
 ·exact .pure (.inr ⟨M, .inl ⟨fun W => h (W k r s G Z), rfl⟩⟩)
 have W : Rng n p := fun k r s G Z => Classical.not_not.1 fun Y => h k r G ⟨s, Z, Y⟩
 simp only [Sum.elim_inl]
 unfold Lp.J1
 refine .bind (rE (d := 1) (P := fun _ x => ¬ (-1000 ≤ x ∧ x ≤ 1000)) fun k x hx => ?_) ?_
 ·unfold Lp.B5
  exact .test (by simp; omega)
 rintro _ (⟨⟨k, x, hx, h⟩, rfl⟩ | ⟨h, rfl⟩)
 ·exact .pure (.inr ⟨M, .inr ⟨W, .inl ⟨fun hp => h (hp k x hx), rfl⟩⟩⟩)
 have hp : pP p := fun k x hx => Classical.not_not.1 (h k x hx)
 simp only [Sum.elim_inl]
 unfold Lp.J2
 refine .bind (rE (d := 12) (P := fun k _ => Gr (wt n (k : Int)) p.Rates + Gr (wp n (k : Int)) p.Ports ≠ 0) fun k x hx => ?_) ?_
 ·unfold Lp.B4
  exact .bind (aW Y l1 l2 (W.all M) hp k) fun r G => .test (by rw [← G]; simp; omega)
 rintro _ (⟨⟨k, x, hx, h⟩, rfl⟩ | ⟨h, rfl⟩)
 ·exact .pure (.inr ⟨M, .inr ⟨W, .inr ⟨hp, .inl ⟨fun hb => h (hb k (gs hx).1), rfl⟩⟩⟩⟩)
 have hb : Bal n p := fun v hv => Classical.not_not.1 (h v _ (gq hv))
 simp only [Sum.elim_inl]
 unfold Lp.J3
 by_cases ha : Lg n p
 ·exact .bind (Sy Y l1 ha) fun r G => Fc (fun h => by omega) fun _ => .pure (.inr ⟨M, .inr ⟨W, .inr ⟨hp, .inr ⟨hb, .inr ⟨ha, rfl⟩⟩⟩⟩⟩)
 ·exact .bind (Y7 Y l1) fun r G => Fc (fun h => .pure (.inr ⟨M, .inr ⟨W, .inr ⟨hp, .inr ⟨hb, .inl ⟨ha, rfl⟩⟩⟩⟩⟩)) fun h => absurd (G (by omega)) ha
theorem Xi (n : Nw) (p : Plan) : ∃ r, Lr n p = some r ∧ Lp n p = some r ∧ (r = 0 → NetC n ∧ FlowOk n p) := by
 obtain ⟨e, Y, Z, h3⟩ := Tt n
 by_cases G : e = 0
 ·subst G
  have M := h3.c Y
  obtain ⟨r, g1, W⟩ := aD M (p := p)
  obtain ⟨r', g3, g4⟩ := bK M Z (p := p)
  obtain rfl := W.uniq g4
  exact ⟨r, g1, g3, fun h => by subst h; exact ⟨M, W.flow M⟩⟩
 ·refine ⟨e, ?_, ?_, fun h => absurd h G⟩
  ·unfold Lr
   rw [Y, Option.bind_some, if_pos (by simpa using G)]
  ·unfold Lp
   rw [Z, Option.bind_some, if_pos (by simpa using G)]
theorem Wt {f : List Piece} (hl : f.length ≤ 10000000) : Lk f = some f.reverse := by
 have : Ok (Lk f) fun r => r = f.reverse := by
  unfold Lk
  rw [Bp (by omega)]
  refine .bind (Q := fun r => r = f.reverse) (.loop (fun M => ∃ k : Nat, k ≤ f.length ∧ M.2 = (k : Int) - 1 ∧ M.1 = (f.drop k).reverse) (fun M => (M.2 + 1).toNat) ⟨f.length, by omega, rfl, by simp⟩ (by dsimp only; omega) ?_) (by rintro _ rfl; exact .pure rfl)
  rintro ⟨o, i⟩ ⟨k, hk, G, Y⟩
  dsimp only at G Y
  subst G; subst Y
  unfold Lk.B2
  refine Bf (fun h => ?_) fun h => .pure ?_
  ·dsimp only at h ⊢
   obtain ⟨j, rfl⟩ : ∃ j, k = j + 1 := ⟨k - 1, by omega⟩
   obtain ⟨x, W⟩ := D1 (l := f) (k := j) (by omega)
   rw [show ((j + 1 : Nat) : Int) - 1 = (j : Int) by omega]
   refine .bind' (.eq (Bd W) (.bind' (.app (by simp; omega) (.pure ⟨⟨j, by omega, ?_, ?_⟩, ?_⟩))))
   ·dsimp only; rw [Bp (by omega)]
   ·dsimp only
    have Z := (gs W).1
    have e : f.drop j = x :: f.drop (j + 1) := by
     rw [List.drop_eq_getElem_cons Z]; congr 1
     exact (gs W).2
    rw [e]; simp
   ·dsimp only; rw [Bp (by omega)]; omega
  ·dsimp only at h ⊢
   obtain rfl : k = 0 := by omega
   simp
 obtain ⟨r, G, rfl⟩ := this
 exact G
theorem lD {f : List Piece} (hf : ∀ p, p ∈ f → 0 ≤ p.Volume) (hl : vol f ≤ 100000000) (hlen : f.length ≤ 10000000) {m : Nat} (hm : m ≤ 100000000) : Jp f (m : Int) = some (Ci ((lit f).take m), Ci ((lit f).drop m)) := by
 have : Ok (Jp f (m : Int)) fun r => r = (Ci ((lit f).take m), Ci ((lit f).drop m)) := by
  unfold Jp
  refine .bind (Q := fun Y : Int × List Piece × List Piece => (lit Y.2.1 = (lit f).take m ∧ (∀ p, p ∈ Y.2.1 → 0 ≤ p.Volume)) ∧ (lit Y.2.2 = (lit f).drop m ∧ ∀ p, p ∈ Y.2.2 → 0 ≤ p.Volume))
   (.forS (fun k Y => Y.1 = ((m - (lit (f.take k)).length : Nat) : Int) ∧ Y.2.1.length = k ∧ Y.2.2.length = k ∧ (lit Y.2.1 = (lit (f.take k)).take m ∧ (∀ p, p ∈ Y.2.1 → 0 ≤ p.Volume)) ∧ (lit Y.2.2 = (lit (f.take k)).drop m ∧ ∀ p, p ∈ Y.2.2 → 0 ≤ p.Volume))
    ⟨by simp [E1], rfl, rfl, by simp [E1], by simp [E1]⟩ ?_ ?_) ?_
  ·rintro k x ⟨rem, a, b⟩ hx ⟨h0, ha, hb, ⟨Z, G⟩, h2, M⟩
   dsimp only at h0 ha hb Z G h2 M
   subst h0
   have hx0 := hf x (mg hx)
   have hxv := Im hf (mg hx)
   have hkl := (gs hx).1
   have hlk : lit (f.take (k + 1)) = lit (f.take k) ++ List.replicate x.Volume.toNat x.Batch := by
    rw [List.take_add_one, hx]; simp [Dr, Ea]
   unfold Jp.B2
   dsimp only
   refine .bind' (.app (by simp; omega) (.bind' (.app (by simp; omega) ?_)))
   unfold Jp.J3
   rw [Bp (by omega), Bp (by omega)]
   refine .pure ⟨?_, by simp [ha], by simp [hb], ⟨?_, ?_⟩, ?_, ?_⟩
   ·dsimp only; rw [hlk, List.length_append, List.length_replicate]; omega
   ·dsimp only; rw [Dr, Ea, Z, hlk, List.take_append]
    congr 1
    rw [List.take_replicate]; dsimp only; congr 1; omega
   ·intro p W
    rcases List.mem_append.1 W with W | W
    ·exact G p W
    ·simp at W; subst W; dsimp only; omega
   ·dsimp only; rw [Dr, Ea, h2, hlk, List.drop_append]
    congr 1
    rw [List.drop_replicate]; dsimp only; congr 1; omega
   ·intro p W
    rcases List.mem_append.1 W with W | W
    ·exact M p W
    ·simp at W; subst W; dsimp only; omega
  ·rintro ⟨_, a, b⟩ ⟨_, _, _, ⟨Z, G⟩, h2, M⟩
   rw [List.take_length] at Z h2
   exact ⟨⟨Z, G⟩, h2, M⟩
  ·rintro ⟨_, a, b⟩ ⟨⟨Z, G⟩, h2, M⟩
   dsimp only at Z G h2 M
   have hl' := En hf
   have va := En G
   have vb := En M
   rw [Z, List.length_take] at va
   rw [h2, List.length_drop] at vb
   unfold Jp.J1
   dsimp only
   refine .bind' (.eq (G9 G (by omega)) (.bind' (.eq (G9 M (by omega)) (.pure ?_))))
   rw [Z, h2]
 obtain ⟨r, Z, rfl⟩ := this
 exact Z
theorem oE {R got : Li} {C : Nat → Int} (hg : ∀ i, i < R.length → got[i]? = some (C i)) (hr : ∀ (k : Nat) (x : Int), R[k]? = some x → 1 ≤ x ∧ x ≤ 1000) (hC : ∀ i, i < R.length → 0 ≤ C i ∧ C i ≤ 1000)
  (h0 : R ≠ []) : Q9 R got = some (bs R C R.length : Int) := by
 refine kO ?_
 unfold Q9
 refine .bind' (.forS (fun k Z => (k = 0 ∧ Z = -1) ∨ 0 < k ∧ Z = (bs R C k : Int)) (.inl ⟨rfl, rfl⟩) ?_ ?_)
 ·intro k x Z hx hI
  have hk := (gs hx).1
  have hgd : R.getD k 0 = x := by rw [List.getD_eq_getElem?_getD, hx]; rfl
  have hx1 := hr k x hx
  have hCk := hC k hk
  unfold Q9.B2
  refine Bf (fun _ => ?_) fun h => by omega
  rcases hI with ⟨rfl, rfl⟩ | ⟨h1, rfl⟩
  ·refine Bf (fun _ => ?_) fun h => absurd (by omega) h
   unfold Q9.J4
   rw [if_pos rfl]
   refine .pure (.inr ⟨by omega, ?_⟩)
   simp [bs]
  ·refine Bf (fun h => by omega) fun _ => ?_
   obtain ⟨k, rfl⟩ : ∃ j, k = j + 1 := ⟨k - 1, by omega⟩
   have G : bs R C (k + 1) < R.length := by have := Px R C k; omega
   have W : R[bs R C (k + 1)]? = some R[bs R C (k + 1)] := gq G
   have Y : R.getD (bs R C (k + 1)) 0 = R[bs R C (k + 1)] := by rw [List.getD_eq_getElem?_getD, W]; rfl
   have hrb := hr _ _ W
   have aa := hC _ G
   generalize R[bs R C (k + 1)] = rb at W Y hrb
   have m1 : 0 ≤ (C (k + 1) + 1) * rb ∧ (C (k + 1) + 1) * rb ≤ 1001 * 1000 := ⟨Int.mul_nonneg (by omega) (by omega), Int.mul_le_mul (by omega) (by omega) (by omega) (by omega)⟩
   have m2 : 0 ≤ (C (bs R C (k + 1)) + 1) * x ∧ (C (bs R C (k + 1)) + 1) * x ≤ 1001 * 1000 := ⟨Int.mul_nonneg (by omega) (by omega), Int.mul_le_mul (by omega) (by omega) (by omega) (by omega)⟩
   have e : bs R C (k + 1 + 1) = if (C (k + 1) + 1) * R.getD (bs R C (k + 1)) 0 < (C (bs R C (k + 1)) + 1) * R.getD (k + 1) 0 then k + 1 else bs R C (k + 1) := rfl
   rw [Y, hgd] at e
   generalize bs R C (k + 1) = b at e G W aa m2
   refine .bind' (.eq (Bd (hg (k + 1) (by omega))) (.bind' (.eq (Bd W) (.bind' (.eq (Bd (hg b (by omega))) ?_)))))
   dsimp only
   rw [Bp (by omega : _ ≤ C (k + 1) + 1 ∧ _), Bp (by omega : _ ≤ C b + 1 ∧ _), Bp (by omega), Bp (by omega)]
   unfold Q9.J4
   rw [e]
   refine Bf (fun M => .pure (.inr ⟨by omega, ?_⟩)) fun M => .pure (.inr ⟨by omega, ?_⟩)
   ·rw [if_pos (by simpa using M)]
   ·rw [if_neg (by simpa using M)]
 ·intro Z hI
  have : R.length ≠ 0 := fun h => h0 (List.length_eq_zero_iff.1 h)
  rcases hI with ⟨h1, _⟩ | ⟨_, rfl⟩
  ·omega
  ·exact .pure rfl
structure Handed (R : List Int) (k : Nat) (X : List Int) (st : List (List Piece) × List Int) : Prop where
 gl : st.2.length = R.length
 got : ∀ i, i < R.length → st.2[i]? = some ((dl R X.length).count i : Int)
 sl : st.1.length = R.length
 sh : ∀ (i : Nat) (s : List Piece), st.1[i]? = some s → Share k (Hu i (dl R X.length) X) s
theorem Zb {l : List Piece} {R : Li} (hv : ∀ p, p ∈ l → 0 ≤ p.Batch ∧ p.Batch < 1000 ∧ 1 ≤ p.Volume ∧ p.Volume ≤ 1000000) (hr : ∀ (k : Nat) (x : Int), R[k]? = some x → 1 ≤ x ∧ x ≤ 1000) (Y : vol l ≤ R.sum) (hvl : vol l ≤ 1000000)
  (hl64 : R.length ≤ 64) {k : Nat} {p : Piece} (hp : l[k]? = some p) {st : List (List Piece) × Li} (h : Handed R k (lit (l.take k)) st) : Ok (Vm.B4 R k p st) (Handed R (k + 1) (lit (l.take (k + 1)))) := by
 obtain ⟨S, got⟩ := st
 obtain ⟨h4, h5, h6, h7⟩ := h
 dsimp only at h4 h5 h6 h7
 have hpv := hv p (mg hp)
 have nn : ∀ q, q ∈ l → 0 ≤ q.Volume := fun q G => by have := hv q G; omega
 have hkl := (gs hp).1
 have hll := V3 fun q G => (hv q G).2.2.1
 have hlk : lit (l.take (k + 1)) = lit (l.take k) ++ List.replicate p.Volume.toNat p.Batch := by
  rw [List.take_add_one, hp]; simp [Dr, Ea]
 have htot : ((lit (l.take k)).length : Int) + p.Volume ≤ vol l := by
  have e1 := En (f := l.take k) fun q G => nn q (List.mem_of_mem_take G)
  have e2 := Fa hp
  have e3 := F8 (f := l.drop (k + 1)) fun q G => nn q (List.mem_of_mem_drop G)
  have e4 : vol l = vol (l.take (k + 1)) + vol (l.drop (k + 1)) := by rw [← Fm, List.take_append_drop]
  omega
 obtain ⟨d, hd, d1⟩ := Ys R (lit (l.take k)).length p.Volume.toNat
 have h1 := Jd R (lit (l.take k)).length
 have h0 : R ≠ [] := by rintro rfl; simp at Y; omega
 have cnt : ∀ m : Nat, (m : Int) ≤ vol l → ∀ i, i < R.length → 0 ≤ ((dl R m).count i : Int) ∧ ((dl R m).count i : Int) ≤ 1000 := fun m hm i hi => by
  have e1 := (aO (fun k x h => (hr k x h).1) m (by omega)).le i _ (gq hi)
  have e2 := hr i _ (gq hi)
  omega
 generalize hc : dl R (lit (l.take k)).length = c at h5 h7 hd h1
 unfold Vm.B4
 refine .bind' (.app (by simp; omega) ?_)
 rw [List.nil_append]
 refine .bind (Q := fun q : Li => q.length = R.length ∧ ∀ i, i < R.length → q[i]? = some ((c ++ d).count i : Int))
  (.loop (fun st => ∃ j : Nat, st.2 = (j : Int) ∧ (j : Int) ≤ p.Volume ∧ st.1.length = R.length ∧ ∀ i, i < R.length → st.1[i]? = some ((dl R ((lit (l.take k)).length + j)).count i : Int)) (fun st => (p.Volume - st.2).toNat)
   ⟨0, rfl, by omega, h4, fun i hi => by rw [Nat.add_zero, hc]; exact h5 i hi⟩ (by dsimp only; omega) ?_) ?_
 ·rintro ⟨gt, _⟩ ⟨j, rfl, hj, g1, Z⟩
  dsimp only at g1 Z
  unfold Vm.B8
  dsimp only
  refine Bf (fun aa => ?_) fun aa => .pure ?_
  ·refine .bind' (.eq (oE Z hr (cnt _ (by omega)) h0) ?_)
   have ac : bs R (fun i => ((dl R ((lit (l.take k)).length + j)).count i : Int)) R.length < R.length := by
    cases h : R.length with
    | zero => exact absurd (List.length_eq_zero_iff.1 h) h0
    | succ k => exact Px R _ k
   have e : dl R ((lit (l.take k)).length + (j + 1)) = dl R ((lit (l.take k)).length + j) ++ [bs R (fun i => ((dl R ((lit (l.take k)).length + j)).count i : Int)) R.length] := rfl
   have hcb := cnt _ (by omega : (((lit (l.take k)).length + j : Nat) : Int) ≤ vol l) _ ac
   generalize bs R (fun i => ((dl R ((lit (l.take k)).length + j)).count i : Int)) R.length = b at ac e hcb
   refine .bind' (.eq (Bd (Z b ac)) (.pure ⟨⟨j + 1, ?_, by omega, by simp [g1], fun i hi => ?_⟩, ?_⟩))
   ·dsimp only; rw [Bp (by omega)]; omega
   ·dsimp only
    rw [E2, e, List.count_append, List.count_singleton]
    by_cases ab : b = i
    ·subst ab
     rw [if_pos ⟨rfl, by omega⟩, Bp (by omega)]
     simp
    ·rw [if_neg (fun h => ab h.1), Z i hi]
     simp [ab]
   ·dsimp only; rw [Bp (by omega)]; omega
  ·obtain rfl : j = p.Volume.toNat := by omega
   rw [hd] at Z
   exact ⟨g1, Z⟩
 rintro gt ⟨g1, Z⟩
 have hdl : ((lit (l.take k)).length + p.Volume.toNat : Nat) = (lit (l.take (k + 1))).length := by rw [hlk, List.length_append, List.length_replicate]
 have hcd := cnt _ (by omega : (((lit (l.take k)).length + p.Volume.toNat : Nat) : Int) ≤ vol l)
 rw [hd] at hcd
 unfold Vm.J6
 dsimp only
 refine .bind (Q := fun r : List (List Piece) => r.length = R.length ∧ ∀ (i : Nat) (s : List Piece), r[i]? = some s → Share (k + 1) (Hu i (c ++ d) (lit (l.take (k + 1)))) s)
  (.forS (fun j r => r.length = R.length ∧ ∀ (i : Nat) (s : List Piece), r[i]? = some s → if i < j then Share (k + 1) (Hu i (c ++ d) (lit (l.take (k + 1)))) s else Share k (Hu i c (lit (l.take k))) s)
   ⟨h6, fun i s Y => by rw [if_neg (by omega)]; exact h7 i s Y⟩ ?_ ?_) ?_
 ·rintro j x r hx ⟨r1, r2⟩
  have hj := (gs hx).1
  have Y : r[j]? = some r[j] := gq (by omega)
  generalize r[j] = s at Y
  have W := r2 j s Y
  rw [if_neg (by omega)] at W
  unfold Vm.B7
  refine .bind' (.eq (Bd Y) (.bind' (.eq (Bd (Z j hj)) (.bind' (.eq (Bd (h5 j hj)) (.bind' (.app (by have := W.len; simp; omega) (.pure ?_))))))))
  dsimp only
  have hcj := hcd j hj
  have e : wr (((c ++ d).count j : Int) - (c.count j : Int)) = (d.count j : Int) := by
   rw [List.count_append] at hcj ⊢
   rw [Bp (by omega)]; omega
  rw [e]
  refine ⟨by simp [r1], fun i s' M => ?_⟩
  rw [E2] at M
  by_cases hij : j = i
  ·subst hij
   rw [if_pos ⟨rfl, by omega⟩] at M
   cases M
   rw [if_pos (by omega)]
   refine ⟨by simp [W.len], fun q G => ?_, ?_⟩
   ·rcases List.mem_append.1 G with G | G
    ·exact W.bat q G
    ·simp at G; subst G; dsimp only
     rw [List.count_append] at hcj; omega
   ·rw [Dr, Ea, W.lit, hlk, Vz j c d _ _ h1]
    congr 1
    rw [← d1, Vy]
    dsimp only
    rw [show ((d.count j : Int).toNat) = d.count j by omega]
  ·rw [if_neg (fun h => hij h.1)] at M
   have := r2 i s' M
   by_cases aa : i < j
   ·rw [if_pos aa] at this; rw [if_pos (by omega)]; exact this
   ·rw [if_neg aa] at this; rw [if_neg (by omega)]; exact this
 ·rintro r ⟨r1, r2⟩
  refine ⟨r1, fun i s Y => ?_⟩
  have := r2 i s Y
  have hil := (gs Y).1
  rw [if_pos (by omega)] at this; exact this
 ·rintro r ⟨r1, r2⟩
  unfold Vm.J5
  have e : dl R (lit (l.take (k + 1))).length = c ++ d := by rw [← hdl, hd]
  refine .pure ⟨g1, by rw [e]; exact Z, r1, by rw [e]; exact r2⟩
theorem oP {S R : Li} (hl : R.length ≤ 64) (hr : ∀ (k : Nat) (x : Int), R[k]? = some x → 1 ≤ x ∧ x ≤ 1000) (hb : S6 S) (W : (S.length : Int) ≤ R.sum) (hS : S.length ≤ 1000000) :
  Ok (Vm (Ci S) R) fun r => r.length = R.length ∧ ∀ i, i < R.length → r[i]? = some (Ci (Hu i (dl R S.length) S)) := by
 have hv : ∀ p, p ∈ Ci S → 0 ≤ p.Batch ∧ p.Batch < 1000 ∧ 1 ≤ p.Volume ∧ p.Volume ≤ 1000000 := fun p Y => by
  have h1 := (D9 S).pos p Y
  have h2 := Im (f := Ci S) (fun q hq => by have := (D9 S).pos q hq; omega) Y
  rw [Cs] at h2
  have := hb _ (Ti Y)
  omega
 unfold Vm
 refine .bind' (.mk R.length rfl (by omega) (.bind' (.mk R.length rfl (by omega) ?_)))
 refine .bind (Q := Handed R (Ci S).length S) (.forS (fun k st => Handed R k (lit ((Ci S).take k)) st) ?_ ?_ fun st h => by rw [List.take_length, C9] at h; exact h) ?_
 ·refine ⟨by simp, fun i hi => ?_, by simp, fun i s W => ?_⟩
  ·dsimp only; rw [List.getElem?_replicate, if_pos hi]; simp [E1, dl]
  ·dsimp only at W
   rw [List.getElem?_replicate] at W
   split at W
   ·cases W; exact ⟨rfl, by simp, by simp [E1, Hu]⟩
   ·cases W
 ·intro k p st Y hst
  exact Zb hv hr (by rw [Cs]; exact W) (by rw [Cs]; omega) hl Y hst
 ·rintro ⟨T, got⟩ ⟨h4, h5, h6, h7⟩
  dsimp only at h6 h7
  have h1 := Jd R S.length
  have hf := (aO (fun k x h => (hr k x h).1) S.length W).le
  generalize dl R S.length = c at h7 h1 hf
  unfold Vm.J1
  dsimp only
  refine .bind (Q := fun r : List (List Piece) => r.length = R.length ∧ ∀ i, i < R.length → r[i]? = some (Ci (Hu i c S))) (.forJ (fun j r => r.length = R.length ∧ ∀ (i : Nat) (s : List Piece), r[i]? = some s → if i < j then s = Ci (Hu i c S) else Share (Ci S).length (Hu i c S) s) ⟨h6, fun i s W => by rw [if_neg (by omega)]; exact h7 i s W⟩ ?_ ?_) fun r hr => .pure hr
  ·rintro j r hj ⟨r1, r2⟩
   have hj' : j < R.length := by omega
   have Z : r[j]? = some r[j] := gq (by omega)
   generalize r[j] = s at Z
   have M := r2 j s Z
   rw [if_neg (by omega)] at M
   have hx : R[j]? = some R[j] := gq hj'
   have e1 := hf j _ hx
   have e2 := hr j _ hx
   have e3 := En fun p Y => (M.bat p Y).2.2.1
   rw [M.lit, Pl j c _ h1] at e3
   unfold Vm.B3
   refine .bind' (.eq (Bd Z) (.bind' (.eq (G9 (f := s) (fun p Y => (M.bat p Y).2.2.1) (by omega)) (.pure ?_))))
   rw [M.lit]
   refine ⟨by simp [r1], fun i s' G => ?_⟩
   dsimp only at G
   rw [E2] at G
   by_cases aa : j = i
   ·subst aa
    rw [if_pos ⟨rfl, by omega⟩] at G
    cases G
    rw [if_pos (by omega)]
   ·rw [if_neg (fun h => aa h.1)] at G
    have := r2 i s' G
    by_cases ab : i < j
    ·rw [if_pos ab] at this; rw [if_pos (by omega)]; exact this
    ·rw [if_neg ab] at this; rw [if_neg (by omega)]; exact this
  ·rintro r ⟨r1, r2⟩
   refine ⟨r1, fun i hi => ?_⟩
   have hg : r[i]? = some r[i] := gq (by omega)
   have := r2 i _ hg
   rw [if_pos (by omega)] at this
   rw [← this]
   exact hg
theorem Z1 {F I : Li} {b : Bool} (W : F.length ≤ 1000000) (Z : I.length ≤ 1000000) : Vn (Ci F) (Ci I) b = some (if b = true then (Ci ((F ++ I).drop I.length), Ci ((F ++ I).take I.length)) else (Ci ((I ++ F).take F.length), Ci ((I ++ F).drop F.length))) := by
 have M : ∀ X : Li, ∀ p, p ∈ Ci X → 0 ≤ p.Volume := fun X p hp => by have := (D9 X).pos p hp; omega
 have l1 := Fo F; have l2 := Fo I
 have G : ∀ {X Y : Li}, X.length ≤ 1000000 → Y.length ≤ 1000000 → ∀ {m : Nat}, m ≤ 1000000 → Jp (Ci X ++ Ci Y) (m : Int) = some (Ci ((X ++ Y).take m), Ci ((X ++ Y).drop m)) := fun {X Y} hX hY m hm => by
  have := Fo X; have := Fo Y
  rw [lD (fun p hp => (List.mem_append.1 hp).elim (M X p) (M Y p)) (by rw [Fm, Cs, Cs]; omega) (by rw [List.length_append]; omega) (by omega), Dr, C9, C9]
 unfold Vn
 cases b
 ·rw [if_neg (by simp), Ga (by simp; omega), Option.bind_some, List.nil_append, Ga (by omega), Option.bind_some, Rl (M F) (by rw [Cs]; omega), Option.bind_some, Cs, G Z W W, Option.bind_some]
  rfl
 ·rw [if_pos rfl, Ga (by simp; omega), Option.bind_some, List.nil_append, Ga (by omega), Option.bind_some, Rl (M I) (by rw [Cs]; omega), Option.bind_some, Cs, G W Z Z, Option.bind_some]
  rfl
def Kv (c : Nat → Option Int) (j : Nat) (A B : Nat → Li) : Nat → Li := fun i => if (c i).isSome = true ∧ (sl c i).length < j then A i else B i
theorem Nz {c : Nat → Option Int} {A B : Nat → Li} {m j : Nat} {y : Nat × Int} (M : (sl c m)[j]? = some y) {i : Nat} (hi : i < m) : Kv c (j + 1) A B i = Kt (Kv c j A B) y.1 (A y.1) i := by
 have Y := Oy M
 have hp := Nh M
 unfold Kv Kt
 by_cases e : i = y.1
 ·subst e; rw [if_pos rfl, if_pos ⟨by rw [Y.2]; rfl, by omega⟩]
 ·rw [if_neg e]
  dsimp only
  by_cases G : (c i).isSome = true ∧ (sl c i).length < j
  ·rw [if_pos G, if_pos ⟨G.1, by omega⟩]
  ·rw [if_neg G, if_neg]
   rintro ⟨W, h4⟩
   refine G ⟨W, ?_⟩
   obtain ⟨z, hz⟩ := Option.isSome_iff_exists.1 W
   have := K0 hi hz
   have : (sl c i).length ≠ j := fun Z => by
    rw [Z, M] at this; cases this; exact e rfl
   omega
theorem Wr {c : Nat → Option Int} {A B : Nat → Li} {m j : Nat} {y : Nat × Int} (G : (sl c m)[j]? = some y) : Kv c j A B y.1 = B y.1 := by
 have M := Nh G
 unfold Kv
 rw [if_neg (by omega)]
theorem Rj {c : Nat → Option Int} {A B : Nat → Li} {m i : Nat} (hi : i < m) : (if (c i).isSome = true then A i else B i) = Kv c (sl c m).length A B i := by
 unfold Kv
 cases h : c i with
 | none => rfl
 | some a =>
  have := (gs (K0 hi h)).1
  simp [this]
section
variable {n : Nw} {p : Plan} {g od : Li} {fs gws os : List (List Piece)} {F0 : Nat → Li} {s : T3}
structure Gat (X : List Int) (c : Nat → Option Int) (k m : Nat) (st : List Piece) (ix : List Int) : Prop where
 nn : ∀ q, q ∈ st → 0 ≤ q.Volume
 lit : lit st = X
 len : st.length ≤ m
 ix : ix = (sl c k).map fun x => (x.1 : Int)
theorem lM (hL : Ln n p g) (kk : Nat) (v : Int) : Ok (forS (Jh.B22 p g (kk, v)) 0 n.Ports ([], [], [])) fun st => Gat ((sl (cP n p v true) n.Ports.length).flatMap fun x => List.replicate x.2.toNat (g.getD x.1 0)) (cP n p v false) n.Ports.length 24 st.1 st.2.2 ∧ st.2.1 = (sl (cP n p v false) n.Ports.length).map (·.2) := by
 have s2 := hL.net.ports1
 refine .forS (fun k st => Gat ((sl (cP n p v true) k).flatMap fun x => List.replicate x.2.toNat (g.getD x.1 0)) (cP n p v false) k k st.1 st.2.2 ∧ st.2.1 = (sl (cP n p v false) k).map (·.2)) ⟨⟨by simp, rfl, by simp, rfl⟩, rfl⟩ ?_ fun st h => ⟨⟨h.1.nn, h.1.lit, by have := h.1.len; omega, h.1.ix⟩, h.2⟩
 rintro k x ⟨S, R, I⟩ hx ⟨⟨h1, h2, h3, h4⟩, h5⟩
 dsimp only at h1 h2 h3 h4 h5
 subst h4 h5
 have hk := (gs hx).1
 obtain ⟨r, hr⟩ := D1 (l := p.Ports) (k := k) (by have := hL.flow.pl; omega)
 obtain ⟨b, hb⟩ := D1 (l := g) (k := k) (by have := hL.gl; omega)
 have hr1 := hL.flow.prt k r hr
 have W := Wo (v := v) (b := true) hx hr
 have M := Wo (v := v) (b := false) hx hr
 have l1 := G2 (cP n p v false) k
 unfold Jh.B22 Jh.J26 Jh.J24 Jh.J25 Jh.J23
 dsimp only
 have G : sl (cP n p v true) (k + 1) = sl (cP n p v true) k → sl (cP n p v false) (k + 1) = sl (cP n p v false) k → Ok (some (S, (sl (cP n p v false) k).map (·.2), (sl (cP n p v false) k).map fun x => (x.1 : Int)) : Option (List Piece × Li × Li)) fun st => Gat ((sl (cP n p v true) (k + 1)).flatMap fun x => List.replicate x.2.toNat (g.getD x.1 0)) (cP n p v false) (k + 1) (k + 1) st.1 st.2.2 ∧ st.2.1 = (sl (cP n p v false) (k + 1)).map (·.2) := fun e1 e2 => by
  rw [e1]
  exact .pure ⟨⟨h1, h2, by dsimp only; omega, by rw [e2]⟩, by rw [e2]⟩
 by_cases Z : x.Node = v
 ·simp only [show (x.Node == v) = true by simp [Z], if_true, Bd hr, Bd hb, Option.bind_some]
  rcases Int.lt_trichotomy r 0 with h | h | h
  ·rw [if_neg (fun h => by have := h.2.2; simp at this; omega)] at W
   rw [if_pos ⟨Z, by omega, by simp; omega⟩] at M
   rw [if_neg (by simp; omega), if_pos (by simp; omega)]
   refine .bind' (.app (by simp; omega) (.bind' (.app (by simp; omega) (.pure ⟨⟨h1, by rw [Dv W]; exact h2, by dsimp only; omega, ?_⟩, ?_⟩))))
   ·dsimp only; rw [Er M]; simp
   ·dsimp only; rw [Er M, Bp (by omega)]; simp; omega
  ·rw [if_neg (fun h' => h'.2.1 h)] at W M
   rw [if_neg (by simp; omega), if_neg (by simp; omega)]
   exact G (Dv W) (Dv M)
  ·rw [if_pos ⟨Z, by omega, by simp; omega⟩] at W
   rw [if_neg (fun h => by have := h.2.2; simp at this; omega)] at M
   rw [if_pos (by simp; omega)]
   refine .bind' (.app (by simp; omega) ?_)
   rw [if_neg (by simp; omega)]
   refine .pure ⟨⟨fun q Y => ?_, ?_, by simp; omega, by rw [Dv M]⟩, by rw [Dv M]⟩
   ·rcases List.mem_append.1 Y with Y | Y
    ·exact h1 q Y
    ·simp at Y; subst Y; dsimp only; omega
   ·rw [Er W, Dr, h2, Ea, List.flatMap_append, List.flatMap_singleton, List.getD_eq_getElem?_getD, hb]
    dsimp only [Option.getD]
    rw [show max r (-r) = r by omega]
 ·rw [if_neg (fun h => Z h.1)] at W M
  simp only [show (x.Node == v) = false by simp [Z], Bool.false_eq_true, if_false]
  exact G (Dv W) (Dv M)
theorem nW (hL : Ln n p g) (kk : Nat) (v : Int) {st0 : List (List Piece) × List (List Piece) × List (List Piece) × Bool} {G : Nat → Li} (hG : Rp n.Segments.length st0.2.2.1 G) (bG : ∀ i, i < n.Segments.length → (G i).length ≤ 1000) {S0 : List Piece} {R0 X0 : Li}
  (n0 : ∀ q, q ∈ S0 → 0 ≤ q.Volume) (l0 : lit S0 = X0) (m0 : S0.length ≤ 24) (r0 : R0.length ≤ 24) :
  Ok (forS (Jh.B19 p st0 (kk, v)) 0 n.Segments (S0, R0, [])) fun st => Gat (X0 ++ (sl (cS n p v true) n.Segments.length).flatMap fun x => G x.1) (cS n p v false) n.Segments.length 100000 st.1 st.2.2 ∧ st.2.1 = R0 ++ (sl (cS n p v false) n.Segments.length).map (·.2) := by
 have s1 := hL.net.segs1
 refine .forS (fun k st => Gat (X0 ++ (sl (cS n p v true) k).flatMap fun x => G x.1) (cS n p v false) k (24 + 1000 * k) st.1 st.2.2 ∧ st.2.1 = R0 ++ (sl (cS n p v false) k).map (·.2)) ⟨⟨n0, by simp [sl, l0], by dsimp only; omega, rfl⟩, by simp [sl]⟩ ?_ fun st h => ⟨⟨h.1.nn, h.1.lit, by have := h.1.len; omega, h.1.ix⟩, h.2⟩
 rintro k x ⟨S, R, I⟩ hx ⟨⟨h1, h2, h3, h4⟩, h5⟩
 dsimp only at h1 h2 h3 h4 h5
 subst h4 h5
 have hk := (gs hx).1
 obtain ⟨r, hr⟩ := D1 (l := p.Rates) (k := k) (by have := hL.flow.rl; omega)
 have hr1 := hL.flow.rng k r x hr hx
 have W := S8 (v := v) (b := true) hx hr
 have M := S8 (v := v) (b := false) hx hr
 rw [if_pos rfl] at W
 rw [if_neg (by simp : ¬ (false = true))] at M
 have l1 := G2 (cS n p v false) k
 have g1 := bG k hk
 have g2 := Fo (G k)
 unfold Jh.B19 Jh.J21 Jh.J20
 dsimp only
 refine .bind' (.eq (Bd hr) ?_)
 dsimp only
 have ea : Gn r = max r (-r) := by unfold Gn; rw [Bp (by omega)]; omega
 rw [Jz, ea]
 have two : ∀ (T : List Piece), (∀ q, q ∈ T → 0 ≤ q.Volume) → lit T = X0 ++ (sl (cS n p v true) (k + 1)).flatMap (fun x => G x.1) → T.length ≤ 24 + 1000 * (k + 1) → r ≠ 0 →
   Ok (if ((Bo x r).1 == v) = true then Option.bind (Cy (R0 ++ (sl (cS n p v false) k).map (·.2)) ([max r (-r)] : Li)) fun aa => Option.bind (Cy ((sl (cS n p v false) k).map fun x => (x.1 : Int)) ([(k : Int)] : Li)) fun ab => some (T, aa, ab) else some (T, R0 ++ (sl (cS n p v false) k).map (·.2), (sl (cS n p v false) k).map fun x => (x.1 : Int)))
    fun st => Gat (X0 ++ (sl (cS n p v true) (k + 1)).flatMap fun x => G x.1) (cS n p v false) (k + 1) (24 + 1000 * (k + 1)) st.1 st.2.2 ∧ st.2.1 = R0 ++ (sl (cS n p v false) (k + 1)).map (·.2) := fun T t1 t2 t3 Y => by
  refine Dk (fun Z => ?_) fun Z => ?_
  ·rw [if_pos ⟨Y, Z⟩] at M
   refine .bind' (.app (by simp; omega) (.bind' (.app (by simp; omega) (.pure ⟨⟨t1, t2, t3, ?_⟩, ?_⟩))))
   ·dsimp only; rw [Er M]; simp
   ·dsimp only; rw [Er M]; simp
  ·rw [if_neg (fun h => Z h.2)] at M
   rw [Dv M]
   exact .pure ⟨⟨t1, t2, t3, by rw [Dv M]⟩, rfl⟩
 refine Dk (fun Y => ?_) fun Y => Dk (fun Z => ?_) fun Z => ?_
 ·rw [if_neg (fun h => h.1 Y)] at W M
  rw [Dv W, Dv M]
  exact .pure ⟨⟨h1, h2, by dsimp only; omega, by rw [Dv M]⟩, rfl⟩
 ·rw [if_pos ⟨Y, Z⟩] at W
  refine .bind' (.eq (Bd (hG.get k hk)) (.bind' (.app (by dsimp only; omega) (two _ (fun q hq => ?_) ?_ (by rw [List.length_append]; dsimp only; omega) Y))))
  ·rcases List.mem_append.1 hq with hq | hq
   ·exact h1 q hq
   ·have := (D9 (G k)).pos q hq; omega
  ·rw [Er W, Dr, h2, C9, List.flatMap_append, List.flatMap_singleton, List.append_assoc]
 ·rw [if_neg (fun h => Z h.2)] at W
  exact two S h1 (by rw [Dv W]; exact h2) (by omega) Y
theorem oA {S I : List (List Piece)} {m j : Nat} {F G : Nat → Li} {i : Nat} {r : Int} {X : Li} {jA jB : List Piece × Li × Li} {dealt : List (List Piece)} (W : Rp m S F) (Y : Rp m I G) (hi : i < m)
  (h1 : jB.2.2[j]? = some (i : Int)) (h2 : dealt[jA.2.2.length + j]? = some (Ci X)) (hlen : jA.2.2.length + j ≤ 1000) (h3 : p.Rates[i]? = some r) (lF : (F i).length ≤ 1000000) (Z : X.length ≤ 1000000) :
  Ok (Jh.B15 p jA jB dealt j (S, I)) fun q => Rp m q.1 (Kt F i (fl r (F i) X)) ∧ Rp m q.2 (Kt G i (gv r (F i) X)) := by
 have lr := Fo (F i); have lx := Fo X
 unfold Jh.B15
 refine .bind' (.eq (Bd h1) ?_)
 rw [Bp (by omega), show ((jA.2.2.length : Int) + (j : Int)) = ((jA.2.2.length + j : Nat) : Int) by omega]
 refine .bind' (.eq (Bd h2) (.bind' (.eq (Bd h3) ?_)))
 dsimp only
 unfold Jh.J16 Jh.J17
 by_cases M : r < 0
 ·rw [if_neg (by simp [M])]
  refine .bind' (.eq (Bd (W.get i hi)) ?_)
  dsimp only
  rw [show decide (r < 0) = true by simp [M], Z1 lF Z, Option.bind_some, if_pos rfl, if_neg (by simp)]
  refine .bind' (.eq (Bd (Y.get i hi)) (.pure ⟨?_, ?_⟩))
  ·have := W.set (i := i) (fl r (F i) X)
   simpa [fl, qu, M] using this
  ·have := Y.set (i := i) (gv r (F i) X)
   simpa [gv, qu, M] using this
 ·rw [if_pos (by simp [M])]
  refine .bind' (.eq (Wt (by omega)) ?_)
  rw [Ip]
  refine .bind' (.eq (Bd (W.get i hi)) ?_)
  dsimp only
  have e1 : (X.reverse ++ F i).take (F i).length = fl r (F i) X := by
   unfold fl qu
   rw [if_neg M, if_neg M, List.reverse_drop, List.reverse_append, List.reverse_reverse, List.length_append, List.length_reverse]
   congr 1; omega
  have e2 : ((X.reverse ++ F i).drop (F i).length).reverse = gv r (F i) X := by
   unfold gv qu
   rw [if_neg M, List.reverse_drop, List.reverse_append, List.reverse_reverse, List.length_append, List.length_reverse]
   congr 1; omega
  rw [show decide (r < 0) = false by simp [M], Z1 lF (by rw [List.length_reverse]; exact Z), Option.bind_some]
  simp only [Bool.false_eq_true, if_false, Bool.not_false, if_true]
  have lo := Fo ((X.reverse ++ F i).drop (F i).length)
  refine .bind' (.eq (Wt (by rw [List.length_drop, List.length_append, List.length_reverse] at lo; omega)) (.bind' (.eq (Bd (Y.get i hi)) (.pure ⟨?_, ?_⟩))))
  ·dsimp only; rw [e1]; exact W.set _
  ·dsimp only; rw [Ip, e2]; exact Y.set _
theorem oC (hL : Ln n p g) {v : Nat} (hv : v < n.Nodes.length) {kk : Nat} {st : List (List Piece) × List (List Piece) × List (List Piece) × Bool} (hs : Left n s (st.1, st.2.2.1, st.2.1)) (lF : ∀ i, i < n.Segments.length → (s.1 i).length ≤ 1000000)
  (bG : ∀ i, i < n.Segments.length → S6 (s.2.1 i) ∧ (s.2.1 i).length ≤ 1000) (lG : ∀ i a, i < n.Segments.length → cS n p (v : Int) true i = some a → ((s.2.1 i).length : Int) = a) :
  Ok (Option.bind (forS (Jh.B22 p g (kk, (v : Int))) 0 n.Ports ([], [], [])) fun M => Jh.J12 n p st (kk, (v : Int)) (M.1, M.2.1, M.2.2))
   fun q => Left n (nd n p g s v) (q.1, q.2.2.1, q.2.1) ∧ (q.2.2.2 = true ↔ (st.2.2.2 = true ∨ 200 < (Ci (Ei n p g s.2.1 v)).length)) := by
 obtain ⟨hF, hG, hO⟩ := hs
 obtain ⟨F, G, O⟩ := s
 obtain ⟨nx, po, gi, lo⟩ := st
 dsimp only at hF hG hO bG lG lF
 have s1 := hL.net.segs1; have s2 := hL.net.ports1
 have hp := hL.flow
 have hbat := Rn (v := (v : Int)) hL fun i W => (bG i W).1
 have lP := G2 (cP n p v false) n.Ports.length
 have lS := G2 (cS n p v false) n.Segments.length
 obtain ⟨hsum, hRl, hsl⟩ := Mt hL hv lG
 refine .bind (lM hL kk (v : Int)) ?_
 rintro ⟨S, R, I⟩ ⟨⟨a1, a2, a3, a4⟩, a5⟩
 dsimp only at a1 a2 a3 a4 a5
 unfold Jh.J12
 dsimp only
 refine .bind (nW hL kk (v : Int) (st0 := (nx, po, gi, lo)) hG (fun i W => (bG i W).2) a1 a2 a3 (by rw [a5, List.length_map]; omega)) ?_
 rintro ⟨S', R', I'⟩ ⟨⟨b1, b2, b3, b4⟩, b5⟩
 dsimp only at b1 b2 b3 b4 b5
 have hR : R' = Fw n p v := by rw [b5, a5]; rfl
 change lit S' = Ei n p g G v at b2
 have hvS : vol S' = ((Ei n p g G v).length : Int) := by rw [← En b1, b2]
 unfold Jh.J13
 dsimp only
 refine .bind' (.eq (G9 b1 (by omega)) ?_)
 rw [b2]
 have fin : ∀ b : Bool, (b || decide (((Ci (Ei n p g G v)).length : Int) > 200)) = true ↔ (b = true ∨ 200 < (Ci (Ei n p g G v)).length) := fun b => by rw [Bool.or_eq_true, decide_eq_true_eq]; exact or_congr Iff.rfl (by omega)
 refine Dk (fun he => ?_) fun hne => ?_
 ·have hS : Ei n p g G v = [] := Sf.1 (List.length_eq_zero_iff.1 (by omega))
  obtain ⟨hP, hSg⟩ := Xb hL (v := v) (by rw [hsum, hS]; rfl)
  unfold Jh.J11
  refine .pure ⟨⟨hF.congr fun i W => ?_, hG.congr fun i W => ?_, hO.congr fun k hk => ?_⟩, fin lo⟩
  ·dsimp only [nd]; rw [hSg i W]; rfl
  ·dsimp only [nd]; rw [hSg i W]; rfl
  ·dsimp only [nd]; rw [hP k hk]; rfl
 rw [hR]
 refine .bind (oP (by omega) (Hx hp v) hbat (by omega) (by omega)) ?_
 rintro dt ⟨d1, d2⟩
 refine .bind (Q := fun r : List (List Piece) => Rp n.Ports.length r (Kv (cP n p v false) (sl (cP n p v false) n.Ports.length).length (zP n p v (Ei n p g G v)) O))
  (.forJ (fun j r => Rp n.Ports.length r (Kv (cP n p v false) j (zP n p v (Ei n p g G v)) O)) (hO.congr fun k hk => by unfold Kv; rw [if_neg (by omega)]) ?_ fun r Z => by rw [a4, List.length_map] at Z; exact Z) ?_
 ·intro j r hj Z
  rw [a4, List.length_map] at hj
  obtain ⟨y, Y⟩ := D1 hj
  obtain ⟨y1, y2⟩ := Oy Y
  have hr' := Z.get y.1 y1
  have hz : dt[j]? = some (Ci (zP n p v (Ei n p g G v) y.1)) := by
   have h := d2 j (by rw [Ms]; omega)
   rw [h, zP, Nh Y]
  unfold Jh.B18
  dsimp only
  refine .bind' (.eq (Bd (k := j) (x := (y.1 : Int)) (by rw [a4, List.getElem?_map, Y]; rfl)) (.bind' (.eq (Bd hz) (.bind' (.eq (Bd hr') (.pure ?_))))))
  exact (Z.set (i := y.1) _).congr fun i W => Nz Y W
 intro po' hpo
 unfold Jh.J14
 dsimp only
 refine .bind (Q := fun r : List (List Piece) × List (List Piece) => Rp n.Segments.length r.1 (Kv (cS n p v false) (sl (cS n p v false) n.Segments.length).length (fun i => fl (p.Rates.getD i 0) (F i) (zS n p v (Ei n p g G v) i)) F) ∧ Rp n.Segments.length r.2 (Kv (cS n p v false) (sl (cS n p v false) n.Segments.length).length (fun i => gv (p.Rates.getD i 0) (F i) (zS n p v (Ei n p g G v) i)) G))
  (.forJ (fun j r => Rp n.Segments.length r.1 (Kv (cS n p v false) j (fun i => fl (p.Rates.getD i 0) (F i) (zS n p v (Ei n p g G v) i)) F) ∧ Rp n.Segments.length r.2 (Kv (cS n p v false) j (fun i => gv (p.Rates.getD i 0) (F i) (zS n p v (Ei n p g G v) i)) G)) ⟨hF.congr fun k hk => by unfold Kv; rw [if_neg (by omega)], hG.congr fun k hk => by unfold Kv; rw [if_neg (by omega)]⟩ ?_ fun r Z => by rw [b4, List.length_map] at Z; exact Z) ?_
 ·rintro j ⟨r1, r2⟩ hj ⟨aa, ab⟩
  dsimp only at aa ab
  rw [b4, List.length_map] at hj
  obtain ⟨y, Y⟩ := D1 hj
  obtain ⟨y1, y2⟩ := Oy Y
  have hIl : I.length = (sl (cP n p v false) n.Ports.length).length := by rw [a4, List.length_map]
  obtain ⟨r, Z⟩ := D1 (l := p.Rates) (k := y.1) (by have := hp.rl; omega)
  have hgd : p.Rates.getD y.1 0 = r := by rw [List.getD_eq_getElem?_getD, Z]; rfl
  have hz : dt[I.length + j]? = some (Ci (zS n p v (Ei n p g G v) y.1)) := by
   have h := d2 (I.length + j) (by rw [Ms]; omega)
   rw [h, zS, Nh Y, hIl]
  have lz := Yg hp hsum y1 y2
  have hc := Yt hp y2
  have := oA (p := p) (jA := (S, R, I)) (jB := (S', Fw n p v, I')) (dealt := dt) (j := j) (X := zS n p v (Ei n p g G v) y.1) aa ab y1 (by rw [b4, List.getElem?_map, Y]; rfl) hz (by dsimp only; omega) Z (by rw [Wr Y]; exact lF y.1 y1) (by omega)
  rw [Wr Y] at this
  refine this.mono fun q hq => ⟨hq.1.congr fun i W => ?_, hq.2.congr fun i W => ?_⟩
  ·rw [Nz Y W, hgd]
  ·rw [Nz Y W, hgd]
 rintro ⟨r1, r2⟩ ⟨aa, ab⟩
 dsimp only at aa ab
 unfold Jh.J11
 refine .pure ⟨⟨aa.congr fun i W => ?_, ab.congr fun i W => ?_, hpo.congr fun k hk => ?_⟩, fin lo⟩
 ·exact Rj (A := fun i => fl (p.Rates.getD i 0) (F i) (zS n p v (Ei n p g G v) i)) W
 ·exact Rj (A := fun i => gv (p.Rates.getD i 0) (F i) (zS n p v (Ei n p g G v) i)) W
 ·exact Rj hk
end
def fA (f : List Piece) (k : Nat) (p : Piece) : Prop := (0 ≤ p.Batch ∧ p.Batch < 1000) ∧ 1 ≤ p.Volume ∧ p.Volume ≤ 1000000 ∧ ∀ q, 0 < k → f[k - 1]? = some q → q.Batch ≠ p.Batch
theorem U9 {f : List Piece} : Vd f ↔ f.length ≤ 200 ∧ (∀ (k : Nat) (p : Piece), f[k]? = some p → fA f k p) ∧ vol f ≤ 1000000 := by
 constructor
 ·intro h
  refine ⟨h.len, fun k p G => ?_, h.vol⟩
  have := h.piece (mg G)
  exact ⟨⟨this.1, this.2.1⟩, this.2.2.1, this.2.2.2, fun q h0 Z => h.can.ne (k - 1) q p Z (by rw [show k - 1 + 1 = k by omega]; exact G)⟩
 ·rintro ⟨h1, M, h3⟩
  refine ⟨h1, ⟨fun p G => ?_, fun i p q G Z => ?_⟩, fun b W => ?_, h3⟩
  ·obtain ⟨k, Y⟩ := List.getElem?_of_mem G
   exact (M k p Y).2.1
  ·exact (M (i + 1) q Z).2.2.2 p (by omega) G
  ·obtain ⟨p, G, W⟩ := List.mem_flatMap.1 W
   obtain ⟨_, rfl⟩ := List.mem_replicate.1 W
   obtain ⟨k, Y⟩ := List.getElem?_of_mem G
   exact (M k p Y).1
theorem aU (f : List Piece) : Ok (Hm f) fun r => r = true ↔ Vd f := by
 unfold Hm
 refine Bf (fun h => .pure ?_) fun hl => ?_
 ·simp only [Bool.false_eq_true, false_iff]
  intro W; have := W.len; omega
 refine .bind (rE (d := false) (P := fun k p => ¬ fA f k p) fun k x hx => ?_) ?_
 ·have e : ∀ b : Bool, (b = true ↔ ¬ fA f k x) → Ok (Hm.J3 b) fun o => (¬ fA f k x ∧ o = .inr false) ∨ (¬ ¬ fA f k x ∧ o = .inl ()) := fun b hb => .test hb
  have hkl := (gs hx).1
  unfold Hm.B2
  have l1 : Ho x = true ↔ (0 ≤ x.Batch ∧ x.Batch < 1000) ∧ 0 ≤ x.Volume ∧ x.Volume ≤ 1000000 := by unfold Ho; simp; omega
  refine aM (fun h => e _ ?_) fun h => ?_
  ·rw [← Bool.not_eq_true, l1] at h
   simp only [true_iff]
   intro G; exact h ⟨G.1, by have := G.2.1; omega, G.2.2.1⟩
  have h := l1.1 h
  refine Dk (fun h0 => e _ ?_) fun h0 => Bf (fun hk => ?_) fun hk => e _ ?_
  ·simp only [true_iff]
   intro G; have := G.2.1; omega
  ·rw [Bp (by omega)]
   refine .bind' (.ix' (by omega) (by omega) fun j y hj hy => e _ ?_)
   obtain rfl : j = k - 1 := by omega
   simp only [beq_iff_eq]
   refine ⟨fun Z G => G.2.2.2 y (by omega) hy Z, fun hn => Classical.byContradiction fun Z => hn ⟨h.1, by omega, h.2.2, fun q _ hq => ?_⟩⟩
   rw [hy] at hq; cases hq; exact Z
  ·simp only [Bool.false_eq_true, false_iff, Classical.not_not]
   exact ⟨h.1, by omega, h.2.2, fun q h0 => by omega⟩
 rintro _ (⟨⟨k, p, G, hn⟩, rfl⟩ | ⟨h, rfl⟩)
 ·refine .pure ?_
  simp only [Bool.false_eq_true, false_iff]
  intro W; exact hn ((U9.1 W).2.1 k p G)
 ·have M : ∀ (k : Nat) (p : Piece), f[k]? = some p → fA f k p := fun k p G => Classical.not_not.1 (h k p G)
  have Y : ∀ p, p ∈ f → 0 ≤ p.Volume ∧ p.Volume ≤ 1000000 := fun p G => by
   obtain ⟨k, hk⟩ := List.getElem?_of_mem G
   have := (M k p hk).2; omega
  have W : vol f ≤ 1000000 * f.length := by
   clear M h hl
   induction f with
   | nil => simp [vol]
   | cons a l ih => rw [Ju, List.length_cons]; have := ih fun p G => Y p (by simp [G]); have := Y a (by simp); omega
  simp only [Sum.elim_inl]
  unfold Hm.J1
  refine .bind' (.eq (Jv (fun p G => (Y p G).1) (by omega)) (.pure ?_))
  rw [decide_eq_true_eq, U9]
  exact ⟨fun W => ⟨by omega, M, W⟩, fun W => W.2.2⟩
theorem Xx (f : List Piece) : Ok (Vl f) fun r => r = true ↔ Vd f := by
 unfold Vl
 refine Bf (fun h => .pure ?_) fun hl => ?_
 ·simp only [Bool.false_eq_true, false_iff]
  intro W; have := W.len; omega
 refine .bind' (.forL (fun k st => st = vol (f.take k) ∧ ∀ (j : Nat) (p : Piece), j < k → f[j]? = some p → fA f j p) (fun b => b = false ∧ ¬ Vd f) ⟨rfl, fun j p h => absurd h (Nat.not_lt_zero _)⟩ ?_ ?_ ?_)
 ·rintro k x _ hx ⟨rfl, hI⟩
  have hkl := (gs hx).1
  have M : ¬ fA f k x → ∀ st, Ok (Vl.J3 x st true) (Sum.elim (fun st => st = vol (f.take (k + 1)) ∧ ∀ (j : Nat) (p : Piece), j < k + 1 → f[j]? = some p → fA f j p) fun b => b = false ∧ ¬ Vd f) := fun hn st => .pure ⟨rfl, fun W => hn ((U9.1 W).2.1 k x hx)⟩
  have Y : fA f k x → Ok (Vl.J3 x (vol (f.take k)) false) (Sum.elim (fun st => st = vol (f.take (k + 1)) ∧ ∀ (j : Nat) (p : Piece), j < k + 1 → f[j]? = some p → fA f j p) fun b => b = false ∧ ¬ Vd f) := fun G => by
   have pos : ∀ (m : Nat) (l : List Piece), (∀ (j : Nat) (p : Piece), l[j]? = some p → 0 ≤ p.Volume ∧ p.Volume ≤ 1000000) → 0 ≤ vol l ∧ vol l ≤ 1000000 * l.length := fun _ l => by
    induction l with
    | nil => intro _; simp [vol]
    | cons a l ih => intro h; rw [Ju, List.length_cons]; have := ih fun j p Z => h (j + 1) p (by simpa using Z); have := h 0 a rfl; omega
   have W := pos 0 (f.take k) fun j p Z => by
    rw [List.getElem?_take] at Z
    split at Z
    ·rename_i hjk
     have := (hI j p hjk Z).2; omega
    ·cases Z
   rw [List.length_take] at W
   have := G.2
   refine .pure ⟨?_, fun j p Z hjp => ?_⟩
   ·rw [Bp (by omega), Fa hx]
   ·by_cases e : j = k
    ·subst e; rw [hx] at hjp; cases hjp; exact G
    ·exact hI j p (by omega) hjp
  unfold Vl.B2
  have l1 : Jr x.Batch = true ↔ 0 ≤ x.Batch ∧ x.Batch < 1000 := by unfold Jr; simp
  refine aM (fun h => ?_) fun h => ?_
  ·rw [← Bool.not_eq_true, l1] at h
   exact M (fun G => h G.1) _
  have h := l1.1 h
  refine Bf (fun h0 => M (fun G => by have := G.2.1; omega) _) fun h0 => Bf (fun h1 => M (fun G => by have := G.2.2.1; omega) _) fun h1 => Bf (fun hk => ?_) fun hk => Y ⟨h, by omega, by omega, fun q h0 => by omega⟩
  rw [Bp (by omega)]
  refine .bind' (.ix' (by omega) (by omega) fun j y Z hy => ?_)
  obtain rfl : j = k - 1 := by omega
  dsimp only
  cases hb : (x.Batch == y.Batch) with
  | true => exact M (fun G => G.2.2.2 y (by omega) hy (by simpa using (beq_iff_eq.1 hb).symm)) _
  | false => exact Y ⟨h, by omega, by omega, fun q _ hq => by rw [hy] at hq; cases hq; intro he; rw [he] at hb; simp at hb⟩
 ·rintro _ ⟨rfl, hI⟩
  simp only [Sum.elim_inl]
  unfold Vl.J1
  rw [List.take_length]
  refine .pure ?_
  rw [decide_eq_true_eq, U9]
  exact ⟨fun W => ⟨by omega, fun k p G => hI k p (gs G).1 G, W⟩, fun W => W.2.2⟩
 ·rintro _ ⟨rfl, hn⟩
  exact .pure (by simp only [Bool.false_eq_true, false_iff]; exact hn)
theorem fR (i : Nat) : ∀ (c : List Nat) (X : Li), (Hu i c X).length ≤ X.length
 | [], _ => by simp [Hu]
 | _ :: _, [] => by simp [Hu]
 | c :: cs, x :: xs => by
  have := fR i cs xs
  simp only [Hu]
  split <;> simp <;> omega
section
variable {n : Nw} {p : Plan} {g od : Li} {fs : List (List Piece)} {F0 : Nat → Li}
def P4 (fs : List (List Piece)) : Prop := ∀ (k : Nat) (f : List Piece), fs[k]? = some f → Vd f
def Vv (n : Nw) (fs : List (List Piece)) : Prop := ∀ (k : Nat) (f : List Piece) (s : Sg), fs[k]? = some f → n.Segments[k]? = some s → vol f = s.Capacity
def FilRes (n : Nw) (fs : List (List Piece)) (e r : Int) : Prop := (e ≠ 0 ∧ r = e) ∨ (e = 0 ∧ ((fs.length ≠ n.Segments.length ∧ r = 9) ∨ (fs.length = n.Segments.length ∧ ((¬ P4 fs ∧ r = 9) ∨ (P4 fs ∧ ((¬ Vv n fs ∧ r = 14) ∨ (Vv n fs ∧ r = 0)))))))
theorem FilRes.uniq {e r r' : Int} (h : FilRes n fs e r) (Z : FilRes n fs e r') : r = r' := by
 rcases h with ⟨a, rfl⟩ | ⟨a, ⟨b, rfl⟩ | ⟨b, ⟨c, rfl⟩ | ⟨c, ⟨d, rfl⟩ | ⟨d, rfl⟩⟩⟩⟩ <;>
  rcases Z with ⟨G, rfl⟩ | ⟨G, ⟨M, rfl⟩ | ⟨M, ⟨W, rfl⟩ | ⟨W, ⟨Y, rfl⟩ | ⟨Y, rfl⟩⟩⟩⟩ <;> first | rfl | contradiction
theorem Xp {B : Nat → List Piece → Unit → Option (Unit ⊕ Int)} (hl : fs.length = n.Segments.length) (hv : P4 fs) (Z : ∀ (k : Nat) (f : List Piece) (s : Sg), fs[k]? = some f → n.Segments[k]? = some s → B k f () = if (vol f != s.Capacity) = true then some (.inr 14) else some (.inl ())) :
  Ok (forL B 0 fs ()) fun o => (¬ Vv n fs ∧ o = .inr 14) ∨ (Vv n fs ∧ o = .inl ()) := by
 have hs : ∀ (k : Nat) (f : List Piece), fs[k]? = some f → ∃ s, n.Segments[k]? = some s := fun k f G => D1 (by have := (gs G).1; omega)
 refine (rE (d := 14) (P := fun k f => ∃ s, n.Segments[k]? = some s ∧ vol f ≠ s.Capacity) fun k f G => ?_).mono ?_
 ·obtain ⟨s, M⟩ := hs k f G
  rw [Z k f s G M]
  refine .test ?_
  rw [bne_iff_ne]
  exact ⟨fun h => ⟨s, M, h⟩, fun ⟨s', Y, h⟩ => by rw [M] at Y; cases Y; exact h⟩
 ·rintro o (⟨⟨k, f, G, s, M, W⟩, rfl⟩ | ⟨h, rfl⟩)
  ·exact .inl ⟨fun hc => W (hc k f s G M), rfl⟩
  ·exact .inr ⟨fun k f s G M => Classical.not_not.1 fun W => h k f G ⟨s, M, W⟩, rfl⟩
theorem gD (n : Nw) (fs : List (List Piece)) : ∃ r, Ig n fs = some r ∧ Nq n fs = some r ∧ (r = 0 → NetC n ∧ ∃ F0, Fil n fs F0) := by
 obtain ⟨e, n1, n2, n3⟩ := Tt n
 have A : Ok (Ig n fs) (FilRes n fs e) := by
  unfold Ig
  refine .bind' (.eq n1 (Fc (fun h => .pure (.inl ⟨h, rfl⟩)) fun W => Fc (fun h => .pure (.inr ⟨W, .inl ⟨by omega, rfl⟩⟩)) fun hl => ?_))
  refine .bind (Q := fun b => b = true ↔ ¬ P4 fs) ?_ fun b Y => ?_
  ·unfold Ra Qg
   refine .bind (Q := fun r : Int => 0 ≤ r ↔ ¬ P4 fs) (.bind' (.forL (fun k _ => ∀ (j : Nat) (f : List Piece), j < k → fs[j]? = some f → Vd f) (fun b => 0 ≤ b ∧ ¬ P4 fs) (fun j f h => absurd h (Nat.not_lt_zero _)) ?_ ?_ ?_)) fun r hr => .pure (by rw [decide_eq_true_eq]; exact hr)
   ·intro k f _ G hI
    unfold Qg.B2 Nr
    refine .bind (Q := fun b => b = true ↔ ¬ Vd f) (.bind (aU f) fun b Y => .pure (by rw [Bool.not_eq_true', ← Bool.not_eq_true, Y])) fun b Y => ?_
    refine Cw (fun h => .pure ⟨by omega, fun ha => Y.1 h (ha k f G)⟩) fun h => .pure fun j f' hj Z => ?_
    by_cases e : j = k
    ·subst e; rw [G] at Z; cases Z
     exact Classical.not_not.1 fun hn => by rw [Y.2 hn] at h; cases h
    ·exact hI j f' (by omega) Z
   ·intro _ hI
    exact .pure ⟨fun h => by omega, fun hn => absurd (fun k f G => hI k f (gs G).1 G) hn⟩
   ·rintro b ⟨h1, h2⟩
    exact .pure ⟨fun _ => h2, fun _ => h1⟩
  ·unfold Ig.J1
   refine C5 Y (fun h => .pure (.inr ⟨W, .inr ⟨by omega, .inl ⟨h, rfl⟩⟩⟩)) fun M => ?_
   have M := Classical.not_not.1 M
   refine .bind (Xp (n := n) (by omega) M fun k f s G hk => ?_) ?_
   ·unfold Ig.B3
    rw [Te (M k f G), Option.bind_some, Bd hk, Option.bind_some]
   ·rintro _ (⟨h, rfl⟩ | ⟨h, rfl⟩)
    ·exact .pure (.inr ⟨W, .inr ⟨by omega, .inr ⟨M, .inl ⟨h, rfl⟩⟩⟩⟩)
    ·exact .pure (.inr ⟨W, .inr ⟨by omega, .inr ⟨M, .inr ⟨h, rfl⟩⟩⟩⟩)
 have B : Ok (Nq n fs) (FilRes n fs e) := by
  unfold Nq
  refine .bind' (.eq n2 (Fc (fun h => .pure (.inl ⟨h, rfl⟩)) fun W => Fc (fun h => .pure (.inr ⟨W, .inl ⟨by omega, rfl⟩⟩)) fun hl => ?_))
  refine .bind (rE (d := 9) (P := fun k f => ¬ Vd f) fun k f G => ?_) ?_
  ·unfold Nq.B4
   exact .bind (Xx f) fun b Y => .test (by rw [Bool.not_eq_true', ← Bool.not_eq_true, Y])
  ·rintro _ (⟨⟨k, f, G, hn⟩, rfl⟩ | ⟨h, rfl⟩)
   ·exact .pure (.inr ⟨W, .inr ⟨by omega, .inl ⟨fun M => hn (M k f G), rfl⟩⟩⟩)
   have M : P4 fs := fun k f G => Classical.not_not.1 (h k f G)
   simp only [Sum.elim_inl]
   unfold Nq.J1
   refine .bind (Xp (n := n) (by omega) M fun k f s G hk => ?_) ?_
   ·unfold Nq.B3
    have := (M k f G).vol
    rw [Rl (M k f G).nn (by omega), Option.bind_some, Bd hk, Option.bind_some]
   ·rintro _ (⟨h, rfl⟩ | ⟨h, rfl⟩)
    ·exact .pure (.inr ⟨W, .inr ⟨by omega, .inr ⟨M, .inl ⟨h, rfl⟩⟩⟩⟩)
    ·exact .pure (.inr ⟨W, .inr ⟨by omega, .inr ⟨M, .inr ⟨h, rfl⟩⟩⟩⟩)
 obtain ⟨r, a1, a2⟩ := A
 obtain ⟨r', b1, b2⟩ := B
 obtain rfl := a2.uniq b2
 refine ⟨r, a1, b1, ?_⟩
 rintro rfl
 rcases a2 with ⟨a, b⟩ | ⟨W, ⟨_, h⟩ | ⟨hl, ⟨_, h⟩ | ⟨M, ⟨_, h⟩ | ⟨hc, _⟩⟩⟩⟩
 ·exact absurd b.symm a
 ·cases h
 ·cases h
 ·cases h
 subst W
 have gv : ∀ i, i < n.Segments.length → ∃ f, fs[i]? = some f ∧ fs.getD i [] = f := fun i hi => by
  obtain ⟨f, G⟩ := D1 (l := fs) (k := i) (by omega)
  exact ⟨f, G, by rw [List.getD_eq_getElem?_getD, G]; rfl⟩
 refine ⟨n3.c n1, fun i => lit (fs.getD i []), ⟨⟨hl, fun i hi => ?_⟩, fun i hi => ?_, fun i s hs => ?_⟩⟩
 ·obtain ⟨f, G, e⟩ := gv i hi
  rw [e, Pm (M i f G).can]; exact G
 ·obtain ⟨f, G, e⟩ := gv i hi
  rw [e, Pm (M i f G).can]; exact M i f G
 ·obtain ⟨f, G, e⟩ := gv i (gs hs).1
  rw [e, En (M i f G).nn]; exact hc i f s G hs
theorem Rv (n : Nw) (fs : List (List Piece)) (p : Plan) (g : Li) : ∃ r, Jm n fs p g = some r ∧ (r ≠ 0 ∧ Lq n fs p g = some (none, r) ∨ r = 0 ∧ Ln n p g ∧ ∃ F0, Fil n fs F0) := by
 obtain ⟨e, h1, h2, h3⟩ := gD n fs
 obtain ⟨f, g1, g2, g3⟩ := Xi n p
 unfold Jm Lq Ve
 rw [h1, h2, g1, g2]
 simp only [Option.bind_some]
 have G : ∀ {x : Int}, x ≠ 0 → (x != 0) = true := fun h => by simpa using h
 by_cases W : e = 0
 case neg => exact ⟨e, by simp only [G W, if_true], .inl ⟨W, by simp only [G W, if_true]⟩⟩
 subst W
 by_cases Y : f = 0
 case neg => exact ⟨f, by simp only [bne_self_eq_false, Bool.false_eq_true, if_false, G Y, if_true], .inl ⟨Y, by simp only [bne_self_eq_false, Bool.false_eq_true, if_false, G Y, if_true, Option.bind_some]⟩⟩
 subst Y
 obtain ⟨hn, F0, hF⟩ := h3 rfl
 obtain ⟨_, hp⟩ := g3 rfl
 obtain ⟨od, o1, _⟩ := Hg hn hp.rl
 simp only [bne_self_eq_false, Bool.false_eq_true, if_false, o1, Option.bind_some]
 by_cases hl : g.length = n.Ports.length
 case neg =>
  have M : ((g.length : Int) != (n.Ports.length : Int)) = true := by simp; omega
  exact ⟨9, by simp only [M, if_true], .inl ⟨by simp, by simp only [M, if_true]; rfl⟩⟩
 have M : ((g.length : Int) != (n.Ports.length : Int)) = false := by simp; omega
 simp only [M, Bool.false_eq_true, if_false]
 have ac : Ok (forL Jm.B2 0 g ()) fun o => ((∃ (k : Nat) (x : Int), g[k]? = some x ∧ ¬ (0 ≤ x ∧ x < 1000)) ∧ o = .inr 9) ∨ ((∀ (k : Nat) (x : Int), g[k]? = some x → ¬ ¬ (0 ≤ x ∧ x < 1000)) ∧ o = .inl ()) :=
  rE (d := 9) (P := fun _ x => ¬ (0 ≤ x ∧ x < 1000)) fun k x hx => by
   unfold Jm.B2 Jr
   exact .test (by simp; omega)
 have Z : Jf g (fun x => some (G5 x)) = some (g.any G5) := Eh (P := G5) fun k x hx => rfl
 have ab : g.any G5 = true ↔ ∃ (k : Nat) (x : Int), g[k]? = some x ∧ ¬ (0 ≤ x ∧ x < 1000) := It fun k x _ => by unfold G5; simp; omega
 rw [Z, Option.bind_some]
 obtain ⟨o, k1, k2⟩ := ac
 rw [k1, Option.bind_some]
 rcases k2 with ⟨M, rfl⟩ | ⟨M, rfl⟩
 ·refine ⟨9, rfl, .inl ⟨by simp, ?_⟩⟩
  unfold Lq.J1
  rw [ab.2 M]; rfl
 ·refine ⟨0, rfl, .inr ⟨rfl, ⟨hn, hp, hl, fun b aa => ?_⟩, F0, hF⟩⟩
  obtain ⟨k, hk⟩ := List.getElem?_of_mem aa
  exact Classical.not_not.1 (M k b hk)
theorem pX {f : Nat → Bool → Option Bool} {m : Nat} {M : Bool} (Q : Nat → Prop) (h : ∀ i st, i < m → Ok (f i st) fun b => b = true ↔ (st = true ∨ Q i)) : Ok (forJ f 0 m M) fun b => b = true ↔ (M = true ∨ ∃ i, i < m ∧ Q i) := by
 refine .forJ (fun k st => st = true ↔ (M = true ∨ ∃ i, i < k ∧ Q i)) (by simp) (fun k st hk W => (h k st hk).mono fun b Y => ?_) fun _ h => h
 rw [Y, W]
 constructor
 ·rintro ((h | ⟨i, Z, G⟩) | h)
  ·exact .inl h
  ·exact .inr ⟨i, by omega, G⟩
  ·exact .inr ⟨k, by omega, h⟩
 ·rintro (h | ⟨i, Z, G⟩)
  ·exact .inl (.inl h)
  ·by_cases e : i = k
   ·subst e; exact .inr G
   ·exact .inl (.inr ⟨i, by omega, G⟩)
theorem Tg (Z : Ln n p g) (hr : Jm n fs p g = some 0) (h : Fil n fs F0) (ho : Gp n p = some od) (ht : Topo n p od) : Ok (Jh n fs p g) (TickA n p g F0 od) := by
 have s1 := Z.net.segs1; have s2 := Z.net.ports1
 have hfl := h.rp.len
 have bF : ∀ i, i < n.Segments.length → S6 (F0 i) := fun i G => by have := (h.vd i G).bat; rw [C9] at this; exact this
 have lF : ∀ i, i < n.Segments.length → (F0 i).length ≤ 1000000 := fun i G => by have := (h.vd i G).vol; rw [Cs] at this; omega
 have hord : Vq n p = some (od, 0) := by
  obtain ⟨f, g1, g2, _⟩ := Xi n p
  rw [Sj Z.net Z.flow] at g1; cases g1
  unfold Vq
  rw [g2, Option.bind_some, if_neg (by simp), Y8 Z.net Z.flow, ho]; rfl
 unfold Jh
 refine .bind' (.eq hr ?_)
 rw [if_neg (by simp)]
 refine .bind' (.mk fs.length rfl (by omega) (.bind' (.mk n.Ports.length rfl (by omega) ?_)))
 unfold Jh.J1
 refine .bind' (.mk fs.length rfl (by omega) ?_)
 dsimp only
 rw [hfl]
 have ab : ∀ m : Nat, Rp m (List.replicate m []) fun _ => [] := fun m => ⟨by simp, fun i G => by rw [List.getElem?_replicate, if_pos G]; rfl⟩
 refine .bind (Q := fun r => Rp n.Segments.length r F0) (.forS (fun k r => Rp n.Segments.length r fun i => if i < k then F0 i else []) ((ab _).congr fun i _ => by rw [if_neg (by omega)]) ?_ fun r hr => hr.congr fun i G => by rw [if_pos (by omega)]) ?_
 ·intro k f r hf hrr
  have hk := (gs hf).1
  have e := h.rp.get k (by omega)
  rw [hf] at e; cases e
  have := (h.vd k (by omega)).len
  unfold Jh.B27
  refine .bind' (.app (by simp; omega) (.bind' (.eq (Bd (hrr.get k (by omega))) (.pure ?_))))
  dsimp only
  rw [List.nil_append]
  refine (hrr.set (i := k) (F0 k)).congr fun i G => ?_
  unfold Kt
  by_cases e : i = k
  ·subst e; rw [if_pos rfl, if_pos (by omega)]
  ·rw [if_neg e]
   dsimp only
   by_cases h2 : i < k
   ·rw [if_pos h2, if_pos (by omega)]
   ·rw [if_neg h2, if_neg (by omega)]
 intro nx hnx
 unfold Jh.J2
 refine .bind' (.eq hord ?_)
 dsimp only
 refine .bind (Q := fun M : List (List Piece) × List (List Piece) × List (List Piece) × Bool => Left n (rn n p g F0 od) (M.1, M.2.2.1, M.2.1) ∧ (M.2.2.2 = true ↔ ∃ (j : Nat) (v : Int), j < od.length ∧ od[j]? = some v ∧ 200 < (Ci (Ei n p g (rn n p g F0 (od.take j)).2.1 v)).length))
  (.forJ (fun k M => Left n (rn n p g F0 (od.take k)) (M.1, M.2.2.1, M.2.1) ∧ (M.2.2.2 = true ↔ ∃ (j : Nat) (v : Int), j < k ∧ od[j]? = some v ∧ 200 < (Ci (Ei n p g (rn n p g F0 (od.take j)).2.1 v)).length)) ⟨⟨hnx, ab _, ab _⟩, by simp⟩ ?_ fun M h => by rw [List.take_length] at h; exact h) ?_
 ·rintro k M hk ⟨h1, h2⟩
  obtain ⟨v, W⟩ := D1 hk
  have G := Ni Z ht bF k (by omega)
  obtain ⟨v0, v1⟩ := ht.rng v (mg W)
  have hs := ht.topo k v W
  obtain ⟨w, rfl⟩ := Gl v0
  unfold Jh.B10
  refine .bind' (.eq (Bd W) ?_)
  refine (oC Z (by omega) h1 (fun i aa => by rw [G.lF]; exact lF i aa) (fun i aa => ⟨G.bG i aa, G.len1000 Z aa⟩) (G.lG hs)).mono fun q hq => ⟨?_, ?_⟩
  ·rw [List.take_add_one, W]
   show Left n (rn n p g F0 (od.take k ++ [(w : Int)])) _
   rw [In]; exact hq.1
  ·rw [hq.2, h2]
   constructor
   ·rintro (⟨j, x, hj, Y⟩ | Y)
    ·exact ⟨j, x, by omega, Y⟩
    ·exact ⟨k, w, by omega, W, Y⟩
   ·rintro ⟨j, x, hj, Y, hlt⟩
    by_cases e : j = k
    ·subst e; rw [W] at Y; cases Y; exact .inr hlt
    ·exact .inl ⟨j, x, by omega, Y, hlt⟩
 rintro ⟨a, b, c, lo⟩ ⟨⟨e1, e2, e3⟩, hlo⟩
 dsimp only at e1 e2 e3 hlo
 unfold Jh.J3
 dsimp only
 rw [e1.len]
 refine .bind (pX (fun i => 200 < (Ci ((rn n p g F0 od).1 i)).length ∨ 200 < (Ci ((rn n p g F0 od).2.1 i)).length) fun i M G => ?_) fun l2 hl2 => ?_
 ·unfold Jh.B8 Jh.J9
  refine Cw (fun h => .pure (by simp [h])) fun h => ?_
  refine .bind' (.eq (Bd (e1.get i G)) (Bf (fun h => .pure ?_) fun h => .bind' (.eq (Bd (e2.get i G)) (.pure ?_))))
  ·dsimp only at h; simp; exact .inr (.inl (by omega))
  ·dsimp only at h ⊢; rw [decide_eq_true_eq]; constructor
   ·intro h'; exact .inr (.inr (by omega))
   ·rintro (h' | h' | h')
    ·simp_all
    ·omega
    ·omega
 unfold Jh.J4
 dsimp only
 rw [e3.len]
 refine .bind (pX (fun i => 200 < (Ci ((rn n p g F0 od).2.2 i)).length) fun i M G => ?_) fun l3 hl3 => ?_
 ·unfold Jh.B6 Jh.J7
  refine Cw (fun h => .pure (by simp [h])) fun h => .bind' (.eq (Bd (e3.get i G)) (.pure ?_))
  dsimp only; rw [decide_eq_true_eq]; constructor
  ·intro h'; exact .inr (by omega)
  ·rintro (h' | h')
   ·simp_all
   ·omega
 have hall : l3 = true ↔ Lng n p g F0 od := by
  rw [hl3, hl2, hlo]
  constructor
  ·rintro ((⟨j, v, _, W, Y⟩ | h) | h)
   ·exact ⟨.inl ⟨j, v, W, Y⟩⟩
   ·exact ⟨.inr (.inl h)⟩
   ·exact ⟨.inr (.inr h)⟩
  ·rintro ⟨⟨j, v, W, Y⟩ | h | h⟩
   ·exact .inl (.inl ⟨j, v, (gs W).1, W, Y⟩)
   ·exact .inl (.inr h)
   ·exact .inr h
 unfold Jh.J5
 exact C5 hall (fun h => .pure (.inl ⟨h, rfl⟩)) fun h => .pure (.inr ⟨h, rfl, e1, e3⟩)
theorem P5 (M : Ln n p g) (G : Topo n p od) (bF : ∀ i, i < n.Segments.length → S6 (F0 i)) : ∀ k, k ≤ od.length → ∀ j, ((rn n p g F0 (od.take k)).2.2 j).length ≤ 56000
 | 0, _, j => by simp [rn]
 | k + 1, hk, j => by
  obtain ⟨v, W⟩ := D1 (l := od) (k := k) (by omega)
  have Y := G.rng v (mg W)
  have h := Ni M G bF k (by omega)
  have ih := P5 M G bF k (by omega) j
  have Z := G.topo k v W
  obtain ⟨w, rfl⟩ := Gl Y.1
  obtain ⟨_, _, h3⟩ := Mt M (v := w) (by omega) (h.lG Z)
  rw [List.take_add_one, W]
  show ((rn n p g F0 (od.take k ++ [(w : Int)])).2.2 j).length ≤ 56000
  rw [In]
  dsimp only [nd]
  split
  ·exact Nat.le_trans (fR _ _ _) (by omega)
  ·exact ih
theorem gN (n : Nw) (fs : List (List Piece)) (p : Plan) (g : Li) : ∃ q, Js n fs p g = some q ∧ Jh n fs p g = some q ∧ (q.2.2 = 0 → q.2.1.length = n.Ports.length ∧ ∀ f, f ∈ q.2.1 → (∀ x, x ∈ f → 1 ≤ x.Volume) ∧ vol f ≤ 56000) := by
 obtain ⟨r, Z, ⟨G, h2⟩ | ⟨rfl, W, F0, M⟩⟩ := Rv n fs p g
 ·refine ⟨([], [], r), ?_, ?_, fun h => absurd h G⟩
  ·unfold Js
   rw [h2, Option.bind_some]
   unfold pB
   dsimp only
   rw [if_pos (by simpa using G)]
  ·unfold Jh
   rw [Z, Option.bind_some, if_pos (by simpa using G)]
 ·obtain ⟨q, a1, od, o1, o2, o3, a2⟩ := mP W M
  obtain ⟨q', b1, Y⟩ := Tg W Z M o1 o2
  rw [a1, b1, a2.uniq Y]
  refine ⟨q', rfl, rfl, fun G => ?_⟩
  rcases Y with ⟨_, rfl⟩ | ⟨_, _, _, c⟩
  ·cases G
  ·refine ⟨c.len, fun f hf => ?_⟩
   obtain ⟨k, hk⟩ := List.getElem?_of_mem hf
   have e := c.get k (by rw [← c.len]; exact (gs hk).1)
   rw [hk] at e; cases e
   have := P5 W o2 (F0 := F0) (fun i hi => by have := (M.vd i hi).bat; rw [C9] at this; exact this) od.length (by omega) k
   rw [List.take_length] at this
   exact ⟨(D9 _).pos, by rw [Cs]; omega⟩
theorem lB (n : Nw) (fs : List (List Piece)) (p : Plan) (g : Li) : ∃ q, Js n fs p g = some q ∧ Jh n fs p g = some q := by
 obtain ⟨q, G, M, _⟩ := gN n fs p g
 exact ⟨q, G, M⟩
end
section
variable {n : Nw} {p : Plan} {g od : Li} {fs gws os : List (List Piece)} {F0 F A : Nat → Li}
theorem Xj (hL : Ln n p g) (ht : Topo n p od) (h : Fil n fs F) (hn : ¬ Lng n p g F od) {W : List (List Piece)} (hq : Rp n.Segments.length W (rn n p g F od).1) : Fil n W (rn n p g F od).1 := by
 have Y : ∀ i, i < n.Segments.length → S6 (F i) := fun i M => by have := (h.vd i M).bat; rw [C9] at this; exact this
 have M := Ni hL ht Y od.length (by omega)
 rw [List.take_length] at M
 refine ⟨hq, fun i G => Wq (Nat.not_lt.1 fun Z => hn ⟨.inr (.inl ⟨i, G, .inl Z⟩)⟩) (M.bF i G) ?_, fun i s hs => by rw [M.lF]; exact h.cap i s hs⟩
 rw [M.lF]
 have := (h.vd i G).vol
 rw [Cs] at this; omega
inductive Tk (n : Network) (p : Plan) (g od : List Int) (F0 : Nat → List Int) : Nat → (Nat → List Int) → (Nat → List Int) → Prop
 | zero : Tk n p g od F0 0 F0 (fun _ => [])
 | succ {k : Nat} {F A : Nat → Li} : Tk n p g od F0 k F A → ¬ Lng n p g F od → (∀ j, j < n.Ports.length → (Ci (A j ++ (rn n p g F od).2.2 j)).length ≤ 200) → Tk n p g od F0 (k + 1) (rn n p g F od).1 (fun j => A j ++ (rn n p g F od).2.2 j)
def kV (n : Nw) (p : Plan) (g od : Li) (F A : Nat → Li) : Prop := Lng n p g F od ∨ ∃ j, j < n.Ports.length ∧ 200 < (Ci (A j ++ (rn n p g F od).2.2 j)).length
theorem Tk.det {k : Nat} {F A F' A' : Nat → Li} (h : Tk n p g od F0 k F A) (G : Tk n p g od F0 k F' A') : F = F' ∧ A = A' := by
 induction h generalizing F' A' with
 | zero => cases G; exact ⟨rfl, rfl⟩
 | succ h _ _ ih =>
  cases G with
  | succ G _ _ => obtain ⟨rfl, rfl⟩ := ih G; exact ⟨rfl, rfl⟩
theorem Tk.pre {t : Nat} {F A : Nat → Li} (h : Tk n p g od F0 t F A) {k : Nat} (W : k < t) : ∃ F' A', Tk n p g od F0 k F' A' ∧ ¬ kV n p g od F' A' := by
 induction h with
 | zero => omega
 | @succ m F A h h1 h2 ih =>
  by_cases e : k = m
  ·subst e
   refine ⟨F, A, h, ?_⟩
   rintro (G | ⟨j, M, G⟩)
   ·exact h1 G
   ·have := h2 j M; omega
  ·exact ih (by omega)
def RunA (n : Nw) (p : Plan) (g od : Li) (F0 : Nat → Li) (t : Nat) (q : List (List Piece) × List (List Piece) × Int) : Prop :=
 ((∃ k F A, k < t ∧ Tk n p g od F0 k F A ∧ kV n p g od F A) ∧ q = ([], [], 4)) ∨ ∃ F A, Tk n p g od F0 t F A ∧ q.2.2 = 0 ∧ Rp n.Segments.length q.1 F ∧ Rp n.Ports.length q.2.1 A
theorem RunA.uniq {t : Nat} {q q' : List (List Piece) × List (List Piece) × Int} (h : RunA n p g od F0 t q) (h' : RunA n p g od F0 t q') : q = q' := by
 have no : ∀ {F A k F' A'}, Tk n p g od F0 t F A → k < t → Tk n p g od F0 k F' A' → ¬ kV n p g od F' A' := fun {F A k F' A'} ha hk hb => by
  obtain ⟨F2, A2, W, Y⟩ := ha.pre hk
  obtain ⟨rfl, rfl⟩ := W.det hb
  exact Y
 rcases h with ⟨⟨k, F, A, hk, W, Y⟩, rfl⟩ | ⟨F, A, W, Y, h3, h4⟩ <;> rcases h' with ⟨⟨k', F', A', hk', G, M⟩, rfl⟩ | ⟨F', A', G, M, Z, aa⟩
 ·rfl
 ·exact absurd Y (no G hk W)
 ·exact absurd M (no W hk' G)
 ·obtain ⟨rfl, rfl⟩ := W.det G
  obtain ⟨x, y, z⟩ := q
  obtain ⟨x', y', z'⟩ := q'
  dsimp only at Y h3 h4 M Z aa
  rw [h3.det Z, h4.det aa, Y, M]
theorem bJ {X O : Nat → Li} {k m : Nat} {st : List (List Piece)} (W : k < m) (h : Rp m st fun j => if j < k then X j ++ O j else X j) : Rp m (st.set k (Ci (X k ++ O k))) fun j => if j < k + 1 then X j ++ O j else X j := by
 refine (h.set (i := k) _).congr fun i M => ?_
 unfold Kt
 by_cases e : i = k
 ·subst e; rw [if_pos rfl, if_pos (by omega)]
 ·rw [if_neg e]
  dsimp only
  by_cases G : i < k
  ·rw [if_pos G, if_pos (by omega)]
  ·rw [if_neg G, if_neg (by omega)]
theorem nC {f : Nat → List (List Piece) → Option (List (List Piece) ⊕ (List (List Piece) × List (List Piece) × Int))} {X O : Nat → Li} {m : Nat} {st : List (List Piece)} (hX : Rp m st X)
  (hf : ∀ (k : Nat) (st : List (List Piece)), k < m → st[k]? = some (Ci (X k)) → f k st = if decide (((Ci (X k ++ O k)).length : Int) > 200) = true then some (.inr ([], [], 4)) else some (.inl (st.set k (Ci (X k ++ O k))))) :
  Ok (forI f 0 m st) (Sum.elim (fun st => Rp m st (fun j => X j ++ O j) ∧ ∀ j, j < m → (Ci (X j ++ O j)).length ≤ 200) fun d => d = ([], [], 4) ∧ ∃ j, j < m ∧ 200 < (Ci (X j ++ O j)).length) := by
 refine .forI (fun k st => (Rp m st fun j => if j < k then X j ++ O j else X j) ∧ ∀ j, j < k → (Ci (X j ++ O j)).length ≤ 200) (fun d => d = ([], [], 4) ∧ ∃ j, j < m ∧ 200 < (Ci (X j ++ O j)).length) ⟨hX.congr fun j _ => by rw [if_neg (by omega)], fun j Y => by omega⟩ ?_ (fun st h => ⟨h.1.congr fun j Y => by rw [if_pos (by omega)], h.2⟩) fun _ h => h
 rintro k st G ⟨M, Z⟩
 have W := M.get k G
 rw [if_neg (by omega)] at W
 rw [hf k st G W]
 refine Bf (fun h => .pure ⟨rfl, k, G, by omega⟩) fun h => .pure ⟨bJ G M, fun j Y => ?_⟩
 by_cases e : j = k
 ·subst e; omega
 ·exact Z j (by omega)
theorem Tk.len (M : Ln n p g) (W : Topo n p od) {k : Nat} (h : Tk n p g od F0 k F A) (G : ∀ {k F A}, Tk n p g od F0 k F A → ∀ i, i < n.Segments.length → S6 (F i)) (j : Nat) : (A j).length ≤ 56000 * k := by
 induction h with
 | zero => simp
 | @succ k F A h _ _ ih =>
  have := P5 M W (G h) od.length (by omega) j
  rw [List.take_length] at this
  rw [List.length_append]; omega
theorem Va (M : Ln n p g) (W : Topo n p od) (G : ∀ i, i < n.Segments.length → S6 (F0 i)) {k : Nat} {F A : Nat → Li} (h : Tk n p g od F0 k F A) : ∀ i, i < n.Segments.length → S6 (F i) := by
 induction h with
 | zero => exact G
 | @succ k F A _ _ _ ih =>
  have := Ni M W ih od.length (by omega)
  rw [List.take_length] at this
  exact this.bF
theorem Y3 : Ih ⟨n, p, g, od, fs, gws, os⟩ = Ih ⟨n, p, g, od, fs, [], []⟩ := rfl
theorem oX (M : Ln n p g) (h : Fil n fs F0) {t : Nat} (ht : t ≤ 400) : Ok (Jq n fs p g (t : Int)) fun q => ∃ od, Gp n p = some od ∧ Topo n p od ∧ RunA n p g od F0 t q := by
 have s2 := M.net.ports1
 unfold Jq
 rw [if_neg (by simp; omega)]
 refine .bind (Rr M h) ?_
 rintro ⟨_, _⟩ ⟨rfl, od, o1, W, o3, rfl⟩
 have b0 : ∀ i, i < n.Segments.length → S6 (F0 i) := fun i hi => by have := (h.vd i hi).bat; rw [C9] at this; exact this
 show Ok (Option.bind (Su (n.Ports.length : Int) ([] : List Piece)) _) _
 refine .bind' (.mk n.Ports.length rfl (by omega) (.bind' (.chk (by omega) ?_)))
 rw [show ((t : Int).toNat) = t by omega]
 refine .bind' (.forI (fun k st => ∃ F A, Tk n p g od F0 k F A ∧ Fil n st.1 F ∧ Rp n.Ports.length st.2.2.2 A) (fun q => (∃ k F A, k < t ∧ Tk n p g od F0 k F A ∧ kV n p g od F A) ∧ q = ([], [], 4)) ⟨F0, _, .zero, h, ⟨by simp, fun i hi => by rw [List.getElem?_replicate, if_pos hi]; rfl⟩⟩ ?_ ?_ fun q G => .pure ⟨od, o1, W, .inl G⟩)
 ·rintro k ⟨f1, g1, o1', a1⟩ hk ⟨F, A, Y, Z, h2⟩
  dsimp only at Z h2
  obtain ⟨⟨qc, qf, qg, qo⟩, hq1, G⟩ := Zz (gws := []) (os := []) M W Z.rp Z.vd
  have lA := Y.len M W (Va M W b0)
  have lO := P5 M W (Va M W b0 Y) od.length (by omega)
  rw [List.take_length] at lO
  unfold Jq.B4
  dsimp only
  rw [Y3]
  refine .bind' (.eq hq1 ?_)
  rcases G with ⟨G, hov⟩ | ⟨G, aa, q1, q2⟩
  ·dsimp only at G; subst G
   rw [if_pos (by simp)]
   exact .pure ⟨⟨k, F, A, hk, Y, .inl hov⟩, rfl⟩
  ·dsimp only at G; subst G
   rw [if_neg (by simp)]
   obtain ⟨e1, e2, e3⟩ := q1
   dsimp only at e1 e2 e3 ⊢
   rw [e3.len]
   refine .bind (nC (O := (rn n p g F od).2.2) h2 fun j st hj hst => ?_) ?_
   ·unfold Jq.B6
    have := lA j; have := lO j
    rw [Bd (e3.get j hj), Option.bind_some, Bd hst, Option.bind_some, Rz (D9 _).pos (by rw [Cs]; omega), Option.bind_some, C9]
    dsimp only
    rw [Bd (x := Ci (A j ++ (rn n p g F od).2.2 j)) (by rw [E2, if_pos ⟨rfl, (gs hst).1⟩]), Option.bind_some]
   ·rintro (st | d) hs
    ·exact .pure ⟨_, _, Y.succ aa hs.2, Xj M W Z aa e1, hs.1⟩
    ·obtain ⟨rfl, hs⟩ := hs
     exact .pure ⟨⟨k, F, A, hk, Y, .inr hs⟩, rfl⟩
 ·rintro ⟨f1, g1, o1', a1⟩ ⟨F, A, Y, Z, h2⟩
  exact .pure ⟨od, o1, W, .inr ⟨F, A, Y, rfl, Z.rp, h2⟩⟩
theorem gU (M : Ln n p g) (hr : Jm n fs p g = some 0) (h : Fil n fs F0) (ho : Gp n p = some od) (o2 : Topo n p od) {t : Nat} (ht : t ≤ 400) : Ok (Jj n fs p g (t : Int)) (RunA n p g od F0 t) := by
 have s2 := M.net.ports1
 have b0 : ∀ i, i < n.Segments.length → S6 (F0 i) := fun i hi => by have := (h.vd i hi).bat; rw [C9] at this; exact this
 unfold Jj
 rw [if_neg (by simp; omega)]
 refine .bind' (.eq hr ?_)
 rw [if_neg (by simp)]
 refine .bind' (.mk n.Ports.length rfl (by omega) ?_)
 refine .bind (.loop (P := Sum.elim (RunA n p g od F0 t) fun G => RunA n p g od F0 t (G.1, G.2, 0)) (fun G : List (List Piece) × List (List Piece) × Int => ∃ (k : Nat) (F A : Nat → Li), k ≤ t ∧ G.2.2 = (k : Int) ∧ Tk n p g od F0 k F A ∧ Fil n G.1 F ∧ Rp n.Ports.length G.2.1 A) (fun G => ((t : Int) - G.2.2).toNat) ⟨0, F0, _, by omega, rfl, .zero, h, ⟨by simp, fun i hi => by rw [List.getElem?_replicate, if_pos hi]; rfl⟩⟩ (by dsimp only; omega) ?_) ?_
 ·rintro ⟨f1, a1, _⟩ ⟨k, F, A, hk, rfl, Z, hf, h2⟩
  dsimp only at hf h2
  unfold Jj.B2
  refine Bf (fun Y => ?_) fun Y => .pure ?_
  ·dsimp only at Y ⊢
   have hk : k < t := by omega
   have hr' : Jm n f1 p g = some 0 := by
    obtain ⟨r, e1, ⟨e0, e2⟩ | ⟨rfl, _⟩⟩ := Rv n f1 p g
    ·obtain ⟨q, q1, q2, _⟩ := Rr M hf
     rw [q1] at e2; cases e2
     exact absurd q2 e0
    ·exact e1
   obtain ⟨⟨qf, qo, qc⟩, hq1, hq⟩ := Tg M hr' hf ho o2
   have lA := Z.len M o2 (Va M o2 b0)
   have lO := P5 M o2 (Va M o2 b0 Z) od.length (by omega)
   rw [List.take_length] at lO
   refine .bind' (.eq hq1 ?_)
   rcases hq with ⟨hov, hq⟩ | ⟨hno, hq, e1, e3⟩
   ·cases hq
    rw [if_pos (by simp)]
    exact .pure (.inl ⟨⟨k, F, A, hk, Z, .inl hov⟩, rfl⟩)
   ·dsimp only at hq e1 e3; subst hq
    rw [if_neg (by simp), h2.len]
    refine .bind (nC (O := (rn n p g F od).2.2) h2 fun j G hj hst => ?_) ?_
    ·unfold Jj.B4
     have := lA j; have := lO j
     have nn : ∀ X : Li, ∀ p, p ∈ Ci X → 0 ≤ p.Volume := fun X p hp => by have := (D9 X).pos p hp; omega
     have r1 := Fo (A j); have r2 := Fo ((rn n p g F od).2.2 j)
     rw [Bd hst, Option.bind_some, Ga (by simp; omega), Option.bind_some, Bd (e3.get j hj), Option.bind_some, List.nil_append, Ga (by dsimp only; omega), Option.bind_some,
      G9 (fun p hp => (List.mem_append.1 hp).elim (nn _ p) (nn _ p)) (by rw [Fm, Cs, Cs]; omega), Option.bind_some, Dr, C9, C9]
     dsimp only
     rw [Bd (x := Ci (A j ++ (rn n p g F od).2.2 j)) (by rw [E2, if_pos ⟨rfl, (gs hst).1⟩]), Option.bind_some]
    ·rintro (G | d) W
     ·unfold Jj.J3
      refine .pure ⟨⟨k + 1, _, _, by omega, ?_, Z.succ hno W.2, Xj M o2 hf hno e1, W.1⟩, ?_⟩
      ·dsimp only; rw [Bp (by omega)]; omega
      ·dsimp only; rw [Bp (by omega)]; omega
     ·obtain ⟨rfl, W⟩ := W
      exact .pure (.inl ⟨⟨k, F, A, hk, Z, .inr W⟩, rfl⟩)
  ·dsimp only at Y
   obtain rfl : k = t := by omega
   exact .inr ⟨F, A, Z, rfl, hf.rp, h2⟩
 ·rintro (q | G) W
  ·exact .pure W
  ·unfold Jj.J1
   exact .pure W
theorem nX (n : Nw) (fs : List (List Piece)) (p : Plan) (g : Li) (t : Int) : ∃ q, Jq n fs p g t = some q ∧ Jj n fs p g t = some q := by
 by_cases ht : 0 ≤ t ∧ t ≤ 400
 case neg =>
  have e : (decide (t < 0) || decide (t > 400)) = true := by simp; omega
  refine ⟨([], [], 1), ?_, ?_⟩
  ·unfold Jq; rw [if_pos e]
  ·unfold Jj; rw [if_pos e]
 obtain ⟨t, rfl⟩ := Gl ht.1
 obtain ⟨r, M, ⟨G, h2⟩ | ⟨rfl, Y, F0, W⟩⟩ := Rv n fs p g
 ·refine ⟨([], [], r), ?_, ?_⟩
  ·unfold Jq
   rw [if_neg (by simp; omega), h2, Option.bind_some]
   unfold pB
   dsimp only
   rw [if_pos (by simpa using G)]
  ·unfold Jj
   rw [if_neg (by simp; omega), M, Option.bind_some, if_pos (by simpa using G)]
 ·obtain ⟨q, Z, od, o1, o2, a2⟩ := oX Y W (t := t) (by omega)
  obtain ⟨q', b1, b2⟩ := gU Y M W o1 o2 (t := t) (by omega)
  rw [Z, b1, a2.uniq b2]
  exact ⟨q', rfl, rfl⟩
end
end Go.Proofs.YtaoclefkknloiaaGreat
