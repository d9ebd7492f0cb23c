/- Plain proofs. No condition. -/
import Derived.Test.YtaoclefkknloiaaGreatZvP1
import Derived.Test.YtaoclefkknloiaaGreatZvP0
import Derived.Test.YtaoclefkknloiaaGreatZvD
set_option maxRecDepth 100000
namespace Go.Proofs.YtaoclefkknloiaaGreat
set_option linter.unusedVariables false
set_option linter.unusedSimpArgs false
open Go.Aw
def rn (n : Nw) (p : Plan) (g : Li) (F0 : Nat → Li) (l : Li) : T3 := l.foldl (nd n p g) (F0, fun _ => [], fun _ => [])
structure Inv (n : Network) (p : Plan) (F0 : Nat → List Int) (l : List Int) (s : T3) : Prop where
 bF : ∀ i, i < n.Segments.length → bZ (s.1 i)
 bG : ∀ i, i < n.Segments.length → bZ (s.2.1 i)
 lF : ∀ i, (s.1 i).length = (F0 i).length
 gl : ∀ i sg r, Flw n p i sg r → (Bn sg r).1 ∈ l → ((s.2.1 i).length : Int) = max r (-r)
 g0 : ∀ i, i < n.Segments.length → (∀ sg r, Flw n p i sg r → (Bn sg r).1 ∉ l) → s.2.1 i = []
section
variable {n : Nw} {p : Plan} {g od : Li} {fs gws os : List (List Piece)} {F0 : Nat → Li} {s : T3} {l : Li}
theorem Ir {v : Int} : rn n p g F0 (l ++ [v]) = nd n p g (rn n p g F0 l) v := by simp [rn, List.foldl_append]
theorem lE {v : Int} {b : Bool} {i : Nat} {s : Sg} {r : Int} (h : Flw n p i s r) : cS n p v b i = if (if b = true then (Bn s r).2 else (Bn s r).1) = v then some (max r (-r)) else none := by
 rw [T6 h.seg h.rate]
 by_cases e : (if b = true then (Bn s r).2 else (Bn s r).1) = v
 ·rw [if_pos ⟨h.ne, e⟩, if_pos e]
 ·rw [if_neg (fun h => e h.2), if_neg e]
theorem Flw.lt {i : Nat} {s : Sg} {r : Int} (h : Flw n p i s r) : i < n.Segments.length := (gs h.seg).1
theorem Inv.len1000 (Y : Ln n p g) (h : Inv n p F0 l s) {i : Nat} (hi : i < n.Segments.length) : (s.2.1 i).length ≤ 1000 := by
 by_cases M : ∃ G r, Flw n p i G r ∧ (Bn G r).1 ∈ l
 ·obtain ⟨G, r, M, W⟩ := M
  have Z := h.gl i G r M W
  have h2 := Y.flow.rng i r G M.rate M.seg
  omega
 ·rw [h.g0 i hi fun G r O W => M ⟨G, r, O, W⟩]; simp
theorem Inv.lG (h : Inv n p F0 l s) {v : Int} (G : ∀ i sg r, Flw n p i sg r → (Bn sg r).2 = v → (Bn sg r).1 ∈ l) : ∀ i a, i < n.Segments.length → cS n p v true i = some a → ((s.2.1 i).length : Int) = a := fun i a hi hc => by
 obtain ⟨sg, r, hf, he, rfl⟩ := Ml hc
 rw [if_pos rfl] at he
 exact h.gl i sg r hf (G i sg r hf he)
theorem Inv.next (hL : Ln n p g) (h : Inv n p F0 l s) {v : Nat} (hv : v < n.Nodes.length) (hs : ∀ i sg r, Flw n p i sg r → (Bn sg r).2 = (v : Int) → (Bn sg r).1 ∈ l) : Inv n p F0 (l ++ [(v : Int)]) (nd n p g s v) := by
 have hb := Sj (v := (v : Int)) hL h.bG
 obtain ⟨aa, _, _⟩ := Mt hL hv (h.lG hs)
 refine ⟨fun i Y => ?_, fun i Y => ?_, fun i => ?_, fun i sg r W O => ?_, fun i Y Z => ?_⟩ <;> dsimp only [nd]
 ·split
  ·intro b G
   rcases kZ G with G | G
   ·exact h.bF i Y b G
   ·exact hb b (Mg G)
  ·exact h.bF i Y
 ·split
  ·intro b G
   rcases sJ G with G | G
   ·exact h.bF i Y b G
   ·exact hb b (Mg G)
  ·exact h.bG i Y
 ·split
  ·rw [lA, h.lF]
  ·exact h.lF i
 ·have M := lE (v := (v : Int)) (b := false) W
  rw [if_neg (by simp : ¬ (false = true))] at M
  by_cases e : (Bn sg r).1 = v
  ·rw [if_pos e] at M
   rw [if_pos (by rw [M]; rfl), sK]
   exact Z8 hL.flow aa W.lt M
  ·rw [if_neg e] at M
   rw [if_neg (by rw [M]; simp)]
   refine h.gl i sg r W ?_
   rcases List.mem_append.1 O with O | O
   ·exact O
   ·simp at O; exact absurd O e
 ·have M : cS n p v false i = none := by
   cases M : cS n p v false i with
   | none => rfl
   | some a =>
    obtain ⟨sg, r, W, he, _⟩ := Ml M
    rw [if_neg (by simp : ¬ (false = true))] at he
    exact absurd (by rw [he]; simp) (Z sg r W)
  rw [if_neg (by rw [M]; simp)]
  exact h.g0 i Y fun sg r W O => Z sg r W (by simp [O])
theorem Wb (O : Ln n p g) (G : Topo n p od) (bF : ∀ i, i < n.Segments.length → bZ (F0 i)) : ∀ k, k ≤ od.length → Inv n p F0 (od.take k) (rn n p g F0 (od.take k))
 | 0, _ => ⟨bF, fun i _ b W => absurd W (by simp [rn]), fun _ => rfl, fun i sg r _ h => absurd h (by simp), fun _ _ _ => rfl⟩
 | k + 1, hk => by
  obtain ⟨v, M⟩ := Cn (l := od) (k := k) (by omega)
  have Y := G.rng v (mg M)
  have h := Wb O G bF k (by omega)
  have Z := G.topo k v M
  obtain ⟨w, rfl⟩ := Et Y.1
  rw [List.take_add_one, M]
  show Inv n p F0 (od.take k ++ [(w : Int)]) (rn n p g F0 (od.take k ++ [(w : Int)]))
  rw [Ir]
  exact h.next O (by omega) Z
theorem pA {v : Int} {i : Nat} {a : Int} (hc : cS n p v false i = some a) : ∀ G : Li, v ∉ G → (rn n p g F0 (l ++ v :: G)).1 i = (nd n p g (rn n p g F0 l) v).1 i ∧ (rn n p g F0 (l ++ v :: G)).2.1 i = (nd n p g (rn n p g F0 l) v).2.1 i := by
 intro G
 induction G using Mo with
 | h0 => intro _; rw [Ir]; exact ⟨rfl, rfl⟩
 | h1 b x ih =>
  intro W
  obtain ⟨h1, Y⟩ := ih fun h => W (by simp [h])
  have M : cS n p x false i = none := by
   obtain ⟨sg, r, Z, O, _⟩ := Ml hc
   rw [lE Z]
   rw [if_neg (by simp : ¬ (false = true))] at O ⊢
   rw [if_neg]
   rintro rfl
   exact W (by simp [O])
  have e : l ++ v :: (b ++ [x]) = (l ++ v :: b) ++ [x] := by simp
  rw [e, Ir, ← h1, ← Y]
  dsimp only [nd]
  rw [M]
  exact ⟨rfl, rfl⟩
structure Lng (n : Network) (p : Plan) (g : List Int) (F0 : Nat → List Int) (od : List Int) : Prop where
 any : (∃ (k : Nat) (v : Int), od[k]? = some v ∧ 200 < (Cm (Eg n p g (rn n p g F0 (od.take k)).2.1 v)).length) ∨ (∃ i, i < n.Segments.length ∧ (200 < (Cm ((rn n p g F0 od).1 i)).length ∨ 200 < (Cm ((rn n p g F0 od).2.1 i)).length)) ∨ ∃ k, k < n.Ports.length ∧ 200 < (Cm ((rn n p g F0 od).2.2 k)).length
theorem oE (Z : Topo n p od) {k : Nat} {v : Int} (hv : od[k]? = some v) (h : Over n p g (rn n p g F0 (od.take k)) v) : Lng n p g F0 od := by
 rcases h with h | ⟨i, a, O, M, h⟩
 ·exact ⟨.inl ⟨k, v, hv, h⟩⟩
 ·have W := (gs hv).1
  have e : od.take k ++ v :: od.drop (k + 1) = od := by
   rw [← (gs hv).2, ← List.drop_eq_getElem_cons W, List.take_append_drop]
  have G := Z.nodup
  rw [← e] at G
  have Y := (List.nodup_cons.1 (List.nodup_append.1 G).2.1).1
  have := pA (n := n) (p := p) (g := g) (F0 := F0) (l := od.take k) M (od.drop (k + 1)) Y
  rw [e] at this
  rw [← this.1, ← this.2] at h
  exact ⟨.inr (.inl ⟨i, O, h⟩)⟩
def TickA (n : Nw) (p : Plan) (g : Li) (F0 : Nat → Li) (od : Li) (q : List (List Piece) × List (List Piece) × Int) : Prop :=
 Lng n p g F0 od ∧ q = ([], [], 4) ∨ ¬ Lng n p g F0 od ∧ q.2.2 = 0 ∧ Rp n.Segments.length q.1 (rn n p g F0 od).1 ∧ Rp n.Ports.length q.2.1 (rn n p g F0 od).2.2
theorem TickA.uniq {q q' : List (List Piece) × List (List Piece) × Int} (h : TickA n p g F0 od q) (h' : TickA n p g F0 od q') : q = q' := by
 rcases h with ⟨a, rfl⟩ | ⟨a, b, c, d⟩ <;> rcases h' with ⟨G, rfl⟩ | ⟨G, M, O, W⟩
 ·rfl
 ·exact absurd a G
 ·exact absurd G a
 ·obtain ⟨x, y, z⟩ := q
  obtain ⟨Y, Z, z'⟩ := q'
  dsimp only at b c d M O W
  rw [c.det O, d.det W, b, M]
theorem oW (hL : Ln n p g) (ht : Topo n p od) (hF : Rp n.Segments.length fs F0) (vF : ∀ i, i < n.Segments.length → Vd (Cm (F0 i))) :
  Ok (Nx ⟨n, p, g, od, fs, gws, os⟩) fun q => q.1 = 4 ∧ Lng n p g F0 od ∨ q.1 = 0 ∧ ¬ Lng n p g F0 od ∧ Left n (rn n p g F0 od) q.2 ∧ Tame n (rn n p g F0 od) := by
 have s1 := hL.net.segs1; have s2 := hL.net.ports1
 have bF : ∀ i, i < n.Segments.length → bZ (F0 i) := fun i G => by have := (vF i G).bat; rw [D2] at this; exact this
 have rep : ∀ m : Nat, Rp m (List.replicate m []) fun _ => [] := fun m => ⟨by simp, fun i G => by rw [List.getElem?_replicate, if_pos G]; rfl⟩
 unfold Nx
 refine .bind' (.mk n.Segments.length rfl (by omega) (.bind' (.mk n.Ports.length rfl (by omega) ?_)))
 unfold Nx.J1
 refine .bind' (.forL (fun k st => (∀ (j : Nat) (v : Int), j < k → od[j]? = some v → (Cm (Eg n p g (rn n p g F0 (od.take j)).2.1 v)).length ≤ 200) ∧ Left n (rn n p g F0 (od.take k)) st ∧ Tame n (rn n p g F0 (od.take k))) (fun q => q.1 = 4 ∧ Lng n p g F0 od)
  ⟨fun j v hj _ => absurd hj (by omega), ⟨hF, rep _, rep _⟩, ⟨vF, fun i G => by simp [rn, Iu], fun k hk => by simp [rn, Iu]⟩⟩ ?_ ?_ fun q M => .pure (.inl M))
 ·rintro k v ⟨f1, g1, o1⟩ O ⟨h0, Z, W⟩
  have hkl : k < od.length := (gs O).1
  have G := Wb hL ht bF k (by omega)
  obtain ⟨v0, v1⟩ := ht.rng v (mg O)
  have hs := ht.topo k v O
  have hov := fun h => oE (n := n) (p := p) (g := g) (F0 := F0) ht O h
  obtain ⟨w, rfl⟩ := Et v0
  unfold Nx.B3
  refine .bind (pJ (od := od) hL (by omega) Z W (fun i hi' => ⟨G.bG i hi', G.len1000 hL hi'⟩) (G.lG hs)) ?_
  rintro ⟨qc, qq⟩ M
  rcases M with ⟨M, ho⟩ | ⟨M, q0, q1, q2⟩
  ·dsimp only at M
   rw [if_pos (by simp [M])]
   exact .pure ⟨M, hov ho⟩
  ·dsimp only at M
   rw [if_neg (by simp [M])]
   rw [List.take_add_one, O]
   refine .pure ⟨fun j v hj Y => ?_, by show Left n (rn n p g F0 (od.take k ++ [(w : Int)])) _; rw [Ir]; exact q1, by show Tame n (rn n p g F0 (od.take k ++ [(w : Int)])); rw [Ir]; exact q2⟩
   by_cases e : j = k
   ·subst e; rw [O] at Y; cases Y; exact q0
   ·exact h0 j v (by omega) Y
 ·rintro ⟨f1, g1, o1⟩ ⟨h0, Z, W⟩
  rw [List.take_length] at Z W
  change Left n (rn n p g F0 od) _ at Z
  change Tame n (rn n p g F0 od) at W
  refine .pure (.inr ⟨rfl, ?_, Z, W⟩)
  rintro ⟨⟨k, v, O, h⟩ | ⟨i, G, h | h⟩ | ⟨k, hk, h⟩⟩
  ·have := h0 k v (gs O).1 O; omega
  ·have := (W.vd i G).len; omega
  ·have := W.gl i G; omega
  ·have := W.ol k hk; omega
structure Fil (n : Network) (fs : List (List Piece)) (F : Nat → List Int) : Prop where
 rp : Rp n.Segments.length fs F
 vd : ∀ i, i < n.Segments.length → Vd (Cm (F i))
 cap : ∀ (i : Nat) (s : Sg), n.Segments[i]? = some s → ((F i).length : Int) = s.Capacity
theorem mP (hn : NetC n) (h : Fil n fs F0) : Hl n fs = some 0 := by
 have hl := h.rp.len
 have : Ok (Hl n fs) fun r => r = 0 := by
  unfold Hl
  refine .bind' (.eq (hn.check) ?_)
  rw [if_neg (by simp), if_neg (by simp; omega)]
  have Z : Ok (Ry fs (fun x => N0 x)) fun r => r = false := by
   unfold Ry Qt
   refine .bind (Q := fun r => r = -1) (.bind' (.forL (fun _ _ => True) (fun _ => False) trivial ?_ (fun _ _ => .pure rfl) (fun _ h => h.elim))) (by rintro _ rfl; exact .pure (by simp))
   intro k x _ G _
   have hk := (gs G).1
   have O := h.vd k (by omega)
   rw [h.rp.get k (by omega)] at G
   cases G
   unfold Qt.B2 N0
   dsimp only
   rw [Hx O]
   exact .pure trivial
  refine .bind Z ?_
  rintro _ rfl
  unfold Hl.J1
  rw [if_neg (by simp)]
  refine .bind' (.forL (fun _ _ => True) (fun _ => False) trivial ?_ (fun _ _ => .pure rfl) (fun _ h => h.elim))
  intro k x _ G _
  have hk := (gs G).1
  have O := h.vd k (by omega)
  obtain ⟨s, W⟩ := Cn (l := n.Segments) (k := k) (by omega)
  have M := h.cap k s W
  rw [h.rp.get k (by omega)] at G
  cases G
  unfold Hl.B3
  rw [Ua O, Option.bind_some, A1 W, Option.bind_some, C5]
  dsimp only
  rw [if_neg (by simp [M])]
  exact .pure trivial
 obtain ⟨r, Y, rfl⟩ := this
 exact Y
theorem lQ (G : Ln n p g) (h : Fil n fs F0) : Ok (Nr n fs p g) fun q => q.2 = 0 ∧ ∃ od, Hm n p = some od ∧ Topo n p od ∧ (∀ v : Nat, v < n.Nodes.length → (v : Int) ∈ od) ∧ q.1 = some ⟨n, p, g, od, fs, [], []⟩ := by
 have s1 := G.net.segs1
 have hl := h.rp.len
 obtain ⟨od, Y, o2, W⟩ := He G.net G.flow.rl
 have W := W.resolve_right fun hn => hn.2 G.flow.acyc
 unfold Nr
 refine .bind' (.eq (mP G.net h) ?_)
 rw [if_neg (by simp)]
 unfold Wg
 refine .bind' (.bind' (.eq (Tg G.net G.flow) ?_))
 rw [if_neg (by simp)]
 refine .bind' (.eq Y (.pure ?_))
 rw [if_neg (by simp), if_neg (by simp [G.gl])]
 refine .bind' (.eq (Ef (P := G3) (fun k x M => rfl)) ?_)
 rw [eW fun k x M => by
  have := G.gb x (mg M)
  unfold G3; simp; omega]
 unfold Nr.J1
 rw [if_neg (by simp)]
 refine .bind (Q := fun r => r = fs) (.forS (fun k Z => Z = fs.take k) rfl ?_ fun Z h => by rw [h, List.take_length]) ?_
 ·rintro k x _ M rfl
  have hk := (gs M).1
  have hv := (h.vd k (by omega)).len
  have O := M
  rw [h.rp.get k (by omega)] at O
  cases O
  unfold Nr.B3
  refine .bind' (.eq (H7 (by omega)) (.bind' (.app (by simp; omega) (.pure ?_))))
  rw [List.take_add_one, M]; rfl
 ·rintro _ rfl
  exact .pure ⟨rfl, od, Y, o2, W, rfl⟩
theorem qG (Y : Ln n p g) (h : Fil n fs F0) : Ok (Jt n fs p g) fun q => ∃ od, Hm n p = some od ∧ Topo n p od ∧ (∀ v : Nat, v < n.Nodes.length → (v : Int) ∈ od) ∧ TickA n p g F0 od q := by
 unfold Jt
 refine .bind (lQ Y h) ?_
 rintro ⟨_, _⟩ ⟨rfl, od, Z, W, o3, rfl⟩
 show Ok (Option.bind (Nx ⟨n, p, g, od, fs, [], []⟩) _) _
 refine .bind (oW Y W h.rp h.vd) ?_
 rintro ⟨qc, qf, qg, qo⟩ G
 rcases G with ⟨G, O⟩ | ⟨G, M, q1, q2⟩
 ·dsimp only at G; subst G; rw [if_pos (by simp)]; exact .pure ⟨od, Z, W, o3, .inl ⟨O, rfl⟩⟩
 ·dsimp only at G; subst G; rw [if_neg (by simp)]
  exact .pure ⟨od, Z, W, o3, .inr ⟨M, rfl, q1.fills, q1.out⟩⟩
end
theorem mG {a b c : Int} : Co a b c = true ↔ b ≤ a ∧ a ≤ c := by simp [Co]
theorem D4 {a b c : Int} : (!(Co a b c)) = true ↔ ¬ (b ≤ a ∧ a ≤ c) := by rw [← mG]; simp
theorem eM {x : Bt} : Ok (Rm x) fun r => r = true ↔ L0 x := by
 have Y : ¬ (1 ≤ x.size ∧ x.size ≤ 12 ∧ Ma (ch x 0)) → Ok (Rm.J1 x true) fun r => r = true ↔ L0 x := fun h => by
  unfold Rm.J1
  exact .pure ⟨fun h => (by cases h), fun hn => absurd hn.1 h⟩
 unfold Rm
 refine A8 (fun h => Y (by omega)) fun h1 => A8 (fun h => Y (by omega)) fun h2 => ?_
 refine .bind' (.eq (P4 (k := 0) (by omega)) (A8 (fun h => Y (fun hl => by have := hl.2.2; unfold Ma at this; dsimp only at h; omega)) fun M => ?_))
 dsimp only at M ⊢
 by_cases h4 : ch x 0 > 122
 ·rw [decide_eq_true h4]; exact Y (fun hl => by have := hl.2.2; unfold Ma at this; omega)
 rw [decide_eq_false h4]
 unfold Rm.J1
 refine Bo (fun h => by cases h) fun _ => ?_
 refine .bind (Q := fun o : Bool ⊕ Unit => (o = .inl false ∧ ∃ k, k < x.size ∧ ¬ (Ma (ch x k) ∨ (48 ≤ ch x k ∧ ch x k ≤ 57) ∨ ch x k = 45)) ∨ (o = .inr () ∧ ∀ k, k < x.size → Ma (ch x k) ∨ (48 ≤ ch x k ∧ ch x k ≤ 57) ∨ ch x k = 45)) ?_ ?_
 ·refine .loop (fun i : Int => 0 ≤ i ∧ i ≤ (x.size : Int) ∧ ∀ k : Nat, (k : Int) < i → Ma (ch x k) ∨ (48 ≤ ch x k ∧ ch x k ≤ 57) ∨ ch x k = 45) (fun i => x.size - i.toNat) ⟨by omega, by omega, fun k h => by omega⟩ (by omega) ?_
  rintro i ⟨i0, i1, i2⟩
  obtain ⟨i, rfl⟩ := Et i0
  unfold Rm.B3
  refine A8 (fun hlt => .bind' (.eq (P4 (by omega)) ?_)) fun h => .pure (.inr ⟨rfl, fun k hk => i2 k (by omega)⟩)
  have W : Ma (ch x i) ∨ (48 ≤ ch x i ∧ ch x i ≤ 57) ∨ ch x i = 45 → Ok (Rm.J4 i false) (Sum.elim (fun j : Int => (0 ≤ j ∧ j ≤ (x.size : Int) ∧ ∀ k : Nat, (k : Int) < j → Ma (ch x k) ∨ (48 ≤ ch x k ∧ ch x k ≤ 57) ∨ ch x k = 45) ∧ x.size - j.toNat < x.size - (i : Int).toNat) fun o : Bool ⊕ Unit => (o = .inl false ∧ ∃ k, k < x.size ∧ ¬ (Ma (ch x k) ∨ (48 ≤ ch x k ∧ ch x k ≤ 57) ∨ ch x k = 45)) ∨ (o = .inr () ∧ ∀ k, k < x.size → Ma (ch x k) ∨ (48 ≤ ch x k ∧ ch x k ≤ 57) ∨ ch x k = 45)) := fun hg => by
   unfold Rm.J4
   refine Bo (fun h => by cases h) fun _ => .pure ?_
   rw [Be (by omega)]
   refine ⟨⟨by omega, by omega, fun k hk => ?_⟩, by omega⟩
   by_cases hki : k = i
   ·subst hki; exact hg
   ·exact i2 k (by omega)
  have O : ¬ (Ma (ch x i) ∨ (48 ≤ ch x i ∧ ch x i ≤ 57) ∨ ch x i = 45) → Ok (Rm.J4 i true) (Sum.elim (fun j : Int => (0 ≤ j ∧ j ≤ (x.size : Int) ∧ ∀ k : Nat, (k : Int) < j → Ma (ch x k) ∨ (48 ≤ ch x k ∧ ch x k ≤ 57) ∨ ch x k = 45) ∧ x.size - j.toNat < x.size - (i : Int).toNat) fun o : Bool ⊕ Unit => (o = .inl false ∧ ∃ k, k < x.size ∧ ¬ (Ma (ch x k) ∨ (48 ≤ ch x k ∧ ch x k ≤ 57) ∨ ch x k = 45)) ∨ (o = .inr () ∧ ∀ k, k < x.size → Ma (ch x k) ∨ (48 ≤ ch x k ∧ ch x k ≤ 57) ∨ ch x k = 45)) := fun hg => by
   unfold Rm.J4
   exact Bo (fun _ => .pure (.inl ⟨rfl, i, by omega, hg⟩)) fun h => by cases h
  have G : (ch x i < 48 ∨ 57 < ch x i) → ¬ Ma (ch x i) → Ok (Rm.J4 i (ch x i != 45)) _ := fun h1 h2 => by
   by_cases M : ch x i = 45
   ·rw [M]; exact W (.inr (.inr M))
   ·rw [show (ch x i != 45) = true by simpa using M]; exact O (fun h => h.elim h2 fun h => h.elim (fun h => by omega) M)
  dsimp only
  refine A8 (fun h5 => A8 (fun Z => G (by omega) (by unfold Ma; omega)) fun Z => A8 (fun h7 => G (by omega) (by unfold Ma; omega)) fun h7 => W (by omega)) fun h5 => A8 (fun Z => A8 (fun h7 => G (by omega) (by unfold Ma; omega)) fun h7 => A8 (fun h8 => G (by omega) (by unfold Ma; omega)) fun h8 => W (by omega)) fun Z => W (by unfold Ma; omega)
 ·rintro _ (⟨rfl, k, hk, h⟩ | ⟨rfl, h⟩)
  ·exact .pure ⟨fun h => (by cases h), fun hn => absurd (hn.2 k hk) h⟩
  ·unfold Rm.J2
   exact .pure ⟨fun _ => ⟨⟨by omega, by omega, by unfold Ma; omega⟩, h⟩, fun _ => rfl⟩
theorem oV {l : List Bt} (hl : l.length ≤ 1000000) : Ok (Sa l) fun r => r = true ↔ sT l := by
 unfold Sa
 refine .bind (uX (d := true) (P := kJ l) fun k x G => ?_) ?_
 ·have Z := (gs G).1
  unfold Sa.B2
  refine .bind (dP (k := k) (d := true) (P := fun y => x.toList = y.toList) (by omega) hl (fun i y Y W => ?_) ?_) ?_
  ·unfold Sa.B4
   refine A8 (fun _ => .bind' (.eq (A1 W) (Bo (fun h => .pure (.inl ⟨Mh.1 h, rfl⟩)) fun h => .pure (.inr ⟨fun O => ?_, rfl⟩)))) fun h => by omega
   rw [Mh.2 O] at h; cases h
  ·unfold Sa.B4
   rw [if_neg (by simp)]
  ·rintro _ (⟨h, rfl⟩ | ⟨h, rfl⟩)
   ·exact .pure (.inl ⟨h, rfl⟩)
   ·exact .pure (.inr ⟨h, rfl⟩)
 ·rintro _ (⟨h, rfl⟩ | ⟨h, rfl⟩)
  ·exact .pure ⟨fun _ => h, fun _ => rfl⟩
  ·exact .pure ⟨fun h => (by cases h), fun ⟨k, x, G, M⟩ => absurd M (h k x G)⟩
theorem rV {s : Sg} (h2 : 2 ≤ s.Points.length ∧ s.Points.length ≤ 1000) : Ok (Rl s) fun r => r = true ↔ PipeOk s := by
 obtain ⟨p0, pl, e0, el, i0, il⟩ := dG h2
 have W : (PipeOk s → False) → Ok (Rl.J1 s true) fun r => r = true ↔ PipeOk s := fun h => by
  unfold Rl.J1; exact .pure ⟨fun h => (by cases h), fun G => absurd G h⟩
 unfold Rl
 refine Cw (Q := s.From = s.To) (by simp) (fun h => W fun G => G.ends h) fun a1 => Cw D4 (fun h => W fun G => h G.cap) fun a2 => Cw D4 (fun h => W fun G => h G.resist) fun a3 => Cw D4 (fun h => W fun G => h G.wave) fun a4 => ?_
 rw [i0, il]
 refine .bind' (.pure (Cw (Q := p0.At ≠ 0) (by simp) (fun h => W fun G => h (G.first _ e0)) fun h0 => .bind' (.pure ?_)))
 dsimp only
 by_cases Z : pl.At = s.Capacity
 ·rw [show (pl.At != s.Capacity) = false by simpa using Z]
  unfold Rl.J1
  refine Bo (fun h => by cases h) fun _ => .bind (uX (d := false) (P := Ld s) fun k p G => ?_) ?_
  ·have Y : ∀ b : Bool, (b = true ↔ Ld s k p) → Ok (Rl.J4 b) fun o => (Ld s k p ∧ o = .inr false) ∨ (¬ Ld s k p ∧ o = .inl ()) := fun b h => by unfold Rl.J4; exact .test h
   unfold Rl.B3
   refine A8 (fun h0 => ?_) fun h0 => Cw D4 (fun h => Y _ ⟨fun _ => .inl fun O => h O.1, fun _ => rfl⟩) fun h1 => Y _ ?_
   ·obtain ⟨q, hq, hi⟩ := cW h2.2 G (by omega)
    refine .bind' (.eq hi (A8 (fun h => Y _ ⟨fun _ => .inr ⟨q, by omega, hq, h⟩, fun _ => rfl⟩) fun h => Cw D4 (fun h => Y _ ⟨fun _ => .inl fun O => h O.1, fun _ => rfl⟩) fun h1 => Y _ ?_))
    rw [D4]
    refine ⟨fun h => .inl fun O => h O.2, fun M h3 => ?_⟩
    have := (dJ ⟨Classical.not_not.1 h1, h3⟩ (by omega) hq).1 M
    dsimp only at h; omega
   ·rw [D4]
    refine ⟨fun h => .inl fun O => h O.2, fun M h3 => ?_⟩
    rcases M with M | ⟨q, hk, _⟩
    ·exact M ⟨Classical.not_not.1 h1, h3⟩
    ·omega
  ·rintro _ (⟨⟨k, p, G, M⟩, rfl⟩ | ⟨h, rfl⟩)
   ·exact .pure ⟨fun h => (by cases h), fun h => absurd M (h.pts k p G)⟩
   ·refine .pure ⟨fun _ => ⟨a1, Classical.not_not.1 a2, Classical.not_not.1 a3, Classical.not_not.1 a4, fun p G => ?_, fun p G => ?_, h⟩, fun _ => rfl⟩
    ·rw [e0] at G; cases G; exact Classical.not_not.1 h0
    ·rw [el] at G; cases G; exact Z
 ·rw [show (pl.At != s.Capacity) = true by simpa using Z]
  exact W fun G => Z (G.last _ el)
theorem bD {n : Nw} (h1 : n.Segments.length ≤ 1000) (h2 : n.Ports.length ≤ 1000) (G : n.Stations.length ≤ 1000) : Ok (Rn n) fun r => r.l = jP n := by
 unfold Rn
 refine .bind (Kj (g := (·.Name)) (fun _ _ _ => rfl) h1) ?_
 rintro _ rfl
 unfold Rn.J1
 refine .bind (Kj (g := (·.Name)) (fun _ _ _ => rfl) h2) ?_
 rintro _ rfl
 unfold Rn.J2
 refine .bind (Kj (g := (·.Name)) (fun _ _ _ => rfl) G) ?_
 rintro _ rfl
 unfold Rn.J3
 exact .pure rfl
theorem lY {n : Nw} : Ok (Hq n) (NetRes n) := by
 unfold Hq
 refine Cw (Q := ¬ (1 ≤ n.Nodes.length ∧ n.Nodes.length ≤ 24 ∧ n.Segments.length ≤ 32 ∧ n.Ports.length ≤ 24 ∧ n.Stations.length ≤ 12)) (by simp only [Bool.or_eq_true, D4, decide_eq_true_eq]; omega) (fun h => .pure (.inl ⟨fun W => h W.1, rfl⟩)) fun h0 => ?_
 refine .bind (uX (d := 4) (P := fun _ s => ¬ Qf s) fun k s G => ?_) ?_
 ·unfold Hq.B24 Qf
  exact .test (by rw [D4]; omega)
 rintro _ (⟨⟨k, s, G, h⟩, rfl⟩ | ⟨h1, rfl⟩)
 ·exact .pure (.inl ⟨fun W => h (W.2 k s G), rfl⟩)
 have W : Lim n := ⟨Classical.not_not.1 h0, fun k s G => Classical.not_not.1 (h1 k s G)⟩
 have hnl := W.1
 have hn := W.sane
 simp only [Sum.elim_inl]
 unfold Hq.J1
 refine .bind (bD hn.segs hn.ports hn.sts) fun r hr => .bind (Mn (d := 3) (P := fun k => ∃ l, (jP n)[k]? = some l ∧ aN l) fun k O => ?_) ?_
 ·obtain ⟨l, g1, g2⟩ := cD hr O
  unfold Hq.B21
  refine .bind' (.eq (A1 g1) (.bind (uX (d := 3) (P := fun _ x => ¬ L0 x) fun j x hx => ?_) ?_))
  ·unfold Hq.B23
   exact .bind eM fun b hb => .test (by rw [← hb]; simp)
  ·rintro _ (⟨h, rfl⟩ | ⟨h, rfl⟩)
   ·exact .pure (.inl ⟨⟨l, g2, h⟩, rfl⟩)
   ·refine .pure (.inr ⟨fun ⟨m, g3, j, x, hx, hm⟩ => ?_, rfl⟩)
    rw [g2] at g3; cases g3; exact h j x hx hm
 rintro _ (⟨h, rfl⟩ | ⟨h, rfl⟩)
 ·exact .pure (.inr ⟨W, .inl ⟨h, rfl⟩⟩)
 have hf : ¬ Kb n := fun ⟨k, O, h'⟩ => h k O h'
 simp only [Sum.elim_inl]
 unfold Hq.J2
 refine .bind (Mn (d := 7) (P := fun k => ∃ l, (jP n)[k]? = some l ∧ sT l) fun k O => ?_) ?_
 ·obtain ⟨l, g1, g2⟩ := cD hr O
  unfold Hq.B20
  have hll : l.length ≤ 1000000 := by
   have := mg g2
   simp only [jP, List.mem_cons, List.not_mem_nil, or_false] at this
   rcases this with rfl | rfl | rfl | rfl <;> simp <;> omega
  refine .bind' (.eq (A1 g1) (.bind (oV hll) fun b hb => .test ?_))
  rw [hb]
  exact ⟨fun h => ⟨l, g2, h⟩, fun ⟨m, g3, h⟩ => by rw [g2] at g3; cases g3; exact h⟩
 rintro _ (⟨h, rfl⟩ | ⟨h2, rfl⟩)
 ·exact .pure (.inr ⟨W, .inr ⟨hf, .inl ⟨.inl h, rfl⟩⟩⟩)
 simp only [Sum.elim_inl]
 unfold Hq.J3
 refine .bind (uX (d := 7) (P := aM n.Stations) fun k x hx => ?_) ?_
 ·have O := (gs hx).1
  unfold Hq.B17
  refine .bind (dP (l := n.Stations) (k := k) (d := 7) (P := fun y => x.Node = y.Node) (by omega) (by omega) (fun i y hi hy => ?_) ?_) ?_
  ·unfold Hq.B19
   exact A8 (fun _ => .bind' (.eq (A1 hy) (Dc (fun h => .pure (.inl ⟨h, rfl⟩)) fun h => .pure (.inr ⟨h, rfl⟩)))) fun h => by omega
  ·unfold Hq.B19
   rw [if_neg (by simp)]
  ·rintro _ (⟨h, rfl⟩ | ⟨h, rfl⟩)
   ·exact .pure (.inl ⟨h, rfl⟩)
   ·exact .pure (.inr ⟨h, rfl⟩)
 rintro _ (⟨h, rfl⟩ | ⟨h3, rfl⟩)
 ·exact .pure (.inr ⟨W, .inr ⟨hf, .inl ⟨.inr h, rfl⟩⟩⟩)
 have ht : ¬ (Qp n ∨ Qo n) := by
  rintro (⟨k, O, h⟩ | ⟨k, x, hx, h⟩)
  ·exact h2 k O h
  ·exact h3 k x hx h
 have aa : ¬ Qg n → NetRes n 8 := fun h => .inr ⟨W, .inr ⟨hf, .inr ⟨ht, .inl ⟨h, rfl⟩⟩⟩⟩
 have e : wr ((n.Nodes.length : Int) - 1) = (n.Nodes.length : Int) - 1 := Be (by omega)
 have M : ∀ k : Int, (!(Co k 0 ((n.Nodes.length : Int) - 1))) = true ↔ ¬ At n k := fun k => by rw [D4]; unfold At; omega
 simp only [Sum.elim_inl]
 unfold Hq.J4
 refine .bind (uX (d := 8) (P := fun _ s => ¬ (At n s.From ∧ At n s.To)) fun k s G => ?_) ?_
 ·unfold Hq.B16
  refine .test ?_
  rw [e, Bool.or_eq_true, M, M]
  exact ⟨fun h hc => h.elim (fun h => h hc.1) fun h => h hc.2, fun h => Classical.byContradiction fun hc => h ⟨Classical.byContradiction fun h => hc (.inl h), Classical.byContradiction fun h => hc (.inr h)⟩⟩
 rintro _ (⟨⟨k, s, G, h⟩, rfl⟩ | ⟨k1, rfl⟩)
 ·exact .pure (aa fun O => h (O.1 k s G))
 simp only [Sum.elim_inl]
 unfold Hq.J5
 refine .bind (uX (d := 8) (P := fun _ s => ¬ At n s.Node) fun k s G => ?_) ?_
 ·unfold Hq.B15
  exact .test (by rw [e]; exact M _)
 rintro _ (⟨⟨k, s, G, h⟩, rfl⟩ | ⟨k2, rfl⟩)
 ·exact .pure (aa fun O => h (O.2.1 k s G))
 simp only [Sum.elim_inl]
 unfold Hq.J6
 refine .bind (uX (d := 8) (P := fun _ s => ¬ At n s.Node) fun k s G => ?_) ?_
 ·unfold Hq.B14
  exact .test (by rw [e]; exact M _)
 rintro _ (⟨⟨k, s, G, h⟩, rfl⟩ | ⟨k3, rfl⟩)
 ·exact .pure (aa fun O => h (O.2.2 k s G))
 have O : Qg n := ⟨fun k s G => Classical.not_not.1 (k1 k s G), fun k s G => Classical.not_not.1 (k2 k s G), fun k s G => Classical.not_not.1 (k3 k s G)⟩
 have Y : ¬ Proper n → NetRes n 9 := fun h => .inr ⟨W, .inr ⟨hf, .inr ⟨ht, .inr ⟨O, .inl ⟨h, rfl⟩⟩⟩⟩⟩
 simp only [Sum.elim_inl]
 unfold Hq.J7
 refine .bind (uX (d := 9) (P := fun _ s => ¬ PipeOk s) fun k s G => ?_) ?_
 ·unfold Hq.B13
  exact .bind (rV (W.pts G)) fun b hb => .test (by rw [← hb]; simp)
 rintro _ (⟨⟨k, s, G, h⟩, rfl⟩ | ⟨p1, rfl⟩)
 ·exact .pure (Y fun Z => h (Z.segs k s G))
 simp only [Sum.elim_inl]
 unfold Hq.J8
 refine .bind (uX (d := 9) (P := fun _ s => ¬ (0 ≤ s.Pressure ∧ s.Pressure ≤ 100000000)) fun k s G => ?_) ?_
 ·unfold Hq.B12
  exact .test D4
 rintro _ (⟨⟨k, s, G, h⟩, rfl⟩ | ⟨p2, rfl⟩)
 ·exact .pure (Y fun Z => h (Z.ports k s G))
 simp only [Sum.elim_inl]
 unfold Hq.J9
 refine .bind (uX (d := 9) (P := fun _ s => ¬ StnOk s) fun k s G => ?_) ?_
 ·unfold Hq.B11
  refine .test ?_
  simp only [Bool.or_eq_true, D4]
  exact ⟨fun h G => h.elim (fun h => h G.head) fun h => h.elim (fun h => h G.fall) fun h => h G.suction, fun h => Classical.byContradiction fun hn => h ⟨by omega, by omega, by omega⟩⟩
 rintro _ (⟨⟨k, s, G, h⟩, rfl⟩ | ⟨p3, rfl⟩)
 ·exact .pure (Y fun Z => h (Z.sts k s G))
 simp only [Sum.elim_inl]
 unfold Hq.J10
 refine Cw (Q := ¬ ((-100000 ≤ n.Vapour ∧ n.Vapour ≤ 100000000) ∧ 0 ≤ n.Settle ∧ n.Settle ≤ 100)) (by rw [Bool.or_eq_true, D4, D4]; omega) (fun h => .pure (Y fun Z => h ⟨Z.vapour, Z.settle⟩)) fun h => ?_
 have h := Classical.not_not.1 h
 exact .pure (.inr ⟨W, .inr ⟨hf, .inr ⟨ht, .inr ⟨O, .inr ⟨⟨fun k s G => Classical.not_not.1 (p1 k s G), fun k s G => Classical.not_not.1 (p2 k s G), fun k s G => Classical.not_not.1 (p3 k s G), h.1, h.2⟩, rfl⟩⟩⟩⟩⟩)
theorem Kn (n : Nw) : ∃ r, Fe n = some r ∧ Hq n = some r ∧ NetRes n r := by
 obtain ⟨r, M, G⟩ := cZ (n := n)
 obtain ⟨Y, O, W⟩ := lY (n := n)
 obtain rfl := G.uniq W
 exact ⟨r, M, O, G⟩
theorem tH {x : Int} (h : -1000000 ≤ x ∧ x ≤ 1000000) : Gp x = max x (-x) := by
 unfold Gp
 rw [Be (by omega), Int.zero_sub]
theorem Jz {s : Sg} {r : Int} : Im s r = Bn s r := rfl
structure Sum16 (b : Int) (st : Int × Int) (d : Int) : Prop where
 come : 0 ≤ st.1 ∧ st.1 ≤ b
 leave : 0 ≤ st.2 ∧ st.2 ≤ b
 diff : st.1 - st.2 = d
theorem eC {n : Nw} (hn : NetC n) {p : Plan} (h4 : p.Rates.length = n.Segments.length) (h5 : p.Ports.length = n.Ports.length) (hr : ∀ (k : Nat) (r : Int), p.Rates[k]? = some r → -1000 ≤ r ∧ r ≤ 1000)
  (hp : ∀ (k : Nat) (x : Int), p.Ports[k]? = some x → -1000 ≤ x ∧ x ≤ 1000) (v : Nat) : Ok (Rs n p (v : Int)) fun r => r.1 - r.2 = Gr (wt n v) p.Rates + Gr (wp n v) p.Ports := by
 have h2 := hn.segs1; have h3 := hn.ports1
 unfold Rs
 refine .bind (.forS (fun k (Z : Int × Int) => Sum16 (1000 * k) Z (Gr (wt n v) (p.Rates.take k))) ⟨by simp, by simp, by simp [Kk]⟩ ?_ fun Z h => h) ?_
 ·rintro k s ⟨a, b⟩ hs ⟨i1, i2, i3⟩
  dsimp only at i1 i2 i3
  have hkl := (gs hs).1
  have G : p.Rates[k]? = some p.Rates[k] := gq (by omega)
  have Y := hr k _ G
  have he := (hn.segs k s hs).1
  have O := Gc (w := wt n v) (a := ind s.To v - ind s.From v) (by unfold wt; rw [List.getElem?_map, hs]; rfl) G
  generalize p.Rates[k] = r at G Y O
  unfold Rs.B5
  refine .bind' (.eq (A1 G) (Dc (fun h0 => ?_) fun h0 => ?_))
  ·dsimp only at h0
   subst h0
   unfold Rs.J6
   rw [O]
   exact .pure ⟨by dsimp only; omega, by dsimp only; omega, by simp; omega⟩
  dsimp only at h0 ⊢
  have ha := tH (x := r) (by omega)
  rw [ha]
  have j7 : ∀ (j : Int), 0 ≤ j ∧ j ≤ 1000 * k + 1000 → ∀ l : Int, l = ind (Bn s r).1 v → j = b + max r (-r) * l → Ok (Rs.J7 (v : Int) s (a, b) (k, r) j) fun Z => Sum16 (1000 * ((k + 1 : Nat) : Int)) Z (Gr (wt n v) (p.Rates.take (k + 1))) := by
   intro j hj l hl hjl
   unfold Rs.J7 Rs.J6
   dsimp only
   rw [ha, Jz]
   have fin : ∀ c : Int, c = ind (Bn s r).2 v → a + max r (-r) * c - j = Gr (wt n v) (p.Rates.take (k + 1)) := by
    intro c hc
    subst hc; subst hl; subst hjl
    rw [O]
    rcases lB (s := s) h0 with ⟨e, hr0⟩ | ⟨e, hr0⟩
    ·rw [e]
     dsimp only
     rw [show max r (-r) = -r by omega, Int.neg_mul, Int.neg_mul, Int.sub_mul, Int.mul_comm r, Int.mul_comm r]; omega
    ·rw [e]
     dsimp only
     rw [show max r (-r) = r by omega, Int.sub_mul, Int.mul_comm r, Int.mul_comm r]; omega
   refine Dc (fun M => .pure ?_) fun M => .pure ?_
   ·rw [Be (by omega)]
    have := fin 1 (by rw [M, H5])
    exact ⟨by dsimp only; omega, by dsimp only; omega, by dsimp only; omega⟩
   ·have := fin 0 (by rw [Gn M])
    exact ⟨by dsimp only; omega, by dsimp only; omega, by dsimp only; omega⟩
  rw [Jz]
  refine Dc (fun M => j7 _ ?_ 1 (by rw [M, H5]) ?_) fun M => j7 _ ?_ 0 (by rw [Gn M]) ?_
  ·rw [Be (by omega)]; omega
  ·rw [Be (by omega)]; omega
  ·omega
  ·omega
 ·rintro ⟨a, b⟩ W
  rw [List.take_of_length_le (by omega)] at W
  unfold Rs.J1
  refine .bind (.forS (fun k (Z : Int × Int) => Sum16 (32000 + 1000 * k) Z (Gr (wt n v) p.Rates + Gr (wp n v) (p.Ports.take k))) ⟨by have := W.come; dsimp only at this ⊢; omega, by have := W.leave; dsimp only at this ⊢; omega, by have := W.diff; dsimp only at this ⊢; simp [Kk]; omega⟩ ?_ fun Z h => h) ?_
  ·rintro k s ⟨a, b⟩ hs ⟨i1, i2, i3⟩
   dsimp only at i1 i2 i3
   have hkl := (gs hs).1
   have G : p.Ports[k]? = some p.Ports[k] := gq (by omega)
   have Y := hp k _ G
   have O := Gc (w := wp n v) (a := ind s.Node v) (by unfold wp; rw [List.getElem?_map, hs]; rfl) G
   generalize p.Ports[k] = r at G Y O
   unfold Rs.B3 Rs.J4
   refine Dc (fun M => .bind' (.eq (A1 G) (.pure ?_))) fun M => .pure ?_
   ·rw [M, H5] at O
    dsimp only
    rw [Be (x := 0 - r) (by omega), Be (by omega), Be (by omega), O]
    exact ⟨by dsimp only; omega, by dsimp only; omega, by dsimp only; omega⟩
   ·rw [Gn M] at O
    rw [O]
    exact ⟨by dsimp only; omega, by dsimp only; omega, by dsimp only; omega⟩
  ·rintro ⟨a, b⟩ W
   rw [List.take_of_length_le (by omega)] at W
   unfold Rs.J2
   exact .pure W.diff
theorem rZ {n : Nw} (hn : NetC n) {p : Plan} (h4 : p.Rates.length = n.Segments.length) {out : Li} {there : List Bool} (iT : There n p out there) :
  Ok (forS (Ju.B3 n p (out, there)) 0 n.Nodes (-1)) fun k : Int => (k = -1 ∧ ∀ j : Nat, there[j]? = some false → E2 n p there j) ∨ ∃ j : Nat, k = (j : Int) ∧ there[j]? = some false ∧ (∀ i s r, Flw n p i s r → (Bn s r).2 = (j : Int) → (Bn s r).1 ∈ out) ∧ ∀ i : Nat, i < j → there[i]? = some false → E2 n p there i := by
 have h1 := hn.nodes; have h2 := hn.segs1; have i1 := iT.len
 refine .forS (fun m (k : Int) => (k = -1 ∧ ∀ j : Nat, j < m → there[j]? = some false → E2 n p there j) ∨ ∃ j : Nat, k = (j : Int) ∧ there[j]? = some false ∧ (∀ i s r, Flw n p i s r → (Bn s r).2 = (j : Int) → (Bn s r).1 ∈ out) ∧ ∀ i : Nat, i < j → there[i]? = some false → E2 n p there i) (.inl ⟨rfl, fun j h => absurd h (Nat.not_lt_zero _)⟩) ?_ ?_
 ·intro k x st hx M
  have hkl := (gs hx).1
  have ht : there[k]? = some there[k] := gq (by omega)
  unfold Ju.B3
  refine .bind' (.eq (A1 ht) ?_)
  refine .bind (Q := fun b => (b = true → there[k]? = some false ∧ ∀ (i : Nat) s r, i < n.Segments.length → Flw n p i s r → (Bn s r).2 = (k : Int) → (Bn s r).1 ∈ out) ∧ (b = false → there[k]? = some false → E2 n p there k)) ?_ ?_
  ·refine .forS (fun m (b : Bool) => (b = true → there[k]? = some false ∧ ∀ (i : Nat) s r, i < m → Flw n p i s r → (Bn s r).2 = (k : Int) → (Bn s r).1 ∈ out) ∧ (b = false → there[k]? = some false → E2 n p there k)) ?_ ?_ fun b h => h
   ·refine ⟨fun hb => ⟨by rw [ht]; simpa using hb, fun i _ _ h => absurd h (Nat.not_lt_zero _)⟩, fun hb G => ?_⟩
    rw [ht] at G; simp at G; simp [G] at hb
   ·intro i s b hs hb
    have hil := (gs hs).1
    obtain ⟨r, hr⟩ : ∃ ζ, p.Rates[i]? = some ζ := ⟨_, gq (by omega)⟩
    have he := (hn.segs i s hs).1
    have W : b = true → (r ≠ 0 → (Bn s r).2 = (k : Int) → (Bn s r).1 ∈ out) → there[k]? = some false ∧ ∀ (j : Nat) s r, j < i + 1 → Flw n p j s r → (Bn s r).2 = (k : Int) → (Bn s r).1 ∈ out := fun Y hq => by
     obtain ⟨q1, q2⟩ := hb.1 Y
     refine ⟨q1, fun j s' r' hj G O => ?_⟩
     by_cases hji : j = i
     ·subst hji
      have e1 := G.seg; have e2 := G.rate
      rw [hs] at e1; cases e1
      rw [hr] at e2; cases e2
      exact hq G.ne O
     ·exact q2 j s' r' (by omega) G O
    unfold Ju.B6 Ju.J7
    refine .bind' (.eq (A1 hr) (Ec (fun Z => Bo (fun Y => Ec (fun O => .pure ⟨fun _ => W Y fun _ h => absurd h O, fun h => by cases h⟩) fun O => ?_) fun hbf => .pure ⟨fun h => (by cases h), fun _ => hb.2 hbf⟩) fun Z => .pure ⟨fun h => W h fun h0 => absurd Z h0, hb.2⟩))
    dsimp only at Z O ⊢
    rw [Jz] at O
    have hfr : 0 ≤ (Bn s r).1 ∧ (Bn s r).1 < (n.Nodes.length : Int) := by
     unfold Bn
     split <;> dsimp only <;> omega
    rw [Jz]
    refine .bind' (.ix' hfr.1 (by omega) fun f y G hy => .pure ⟨fun hyt => W Y fun _ _ => ?_, fun hyf _ => ⟨i, s, r, f, hs, hr, Z, O, G, ?_⟩⟩)
    ·dsimp only at hy hyt
     rw [G]; exact (iT.mem f).1 (by rw [hy, hyt])
    ·dsimp only at hy hyf
     rw [hy, hyf]
  ·rintro b ⟨b1, b2⟩
   unfold Ju.J5 Ju.J4
   refine Bo (fun h => ?_) fun hno => .pure ?_
   ·simp at h
    rcases M with ⟨rfl, M⟩ | ⟨j, rfl, _⟩
    ·obtain ⟨q1, q2⟩ := b1 h.1
     exact .pure (.inr ⟨k, rfl, q1, fun i s r G => q2 i s r (gs G.seg).1 G, M⟩)
    ·exact absurd h.2 (by omega)
   ·rcases M with ⟨rfl, M⟩ | M
    ·refine .inl ⟨rfl, fun j hj G => ?_⟩
     by_cases hjk : j = k
     ·subst hjk
      simp at hno
      exact b2 hno G
     ·exact M j (by omega) G
    ·exact .inr M
 ·rintro k (⟨rfl, h⟩ | h)
  ·exact .inl ⟨rfl, fun j hj => h j (by have := (gs hj).1; omega) hj⟩
  ·exact .inr h
theorem Hr {n : Nw} (hn : NetC n) {p : Plan} (h4 : p.Rates.length = n.Segments.length) : Ok (Ju n p) fun r => Topo n p r ∧ ((∀ v : Nat, v < n.Nodes.length → (v : Int) ∈ r) ∨ ((∃ v : Nat, v < n.Nodes.length ∧ (v : Int) ∉ r) ∧ ¬ Lh n p)) := by
 have h1 := hn.nodes
 unfold Ju
 refine .bind' (.mk n.Nodes.length rfl (by omega) ?_)
 refine .bind (Q := fun r : Li => Topo n p r ∧ ((∀ v : Nat, v < n.Nodes.length → (v : Int) ∈ r) ∨ ((∃ v : Nat, v < n.Nodes.length ∧ (v : Int) ∉ r) ∧ ¬ Lh n p))) ?_ fun r hr => .pure hr
 refine .loop (fun W : Li × List Bool => There n p W.1 W.2) (fun W => n.Nodes.length - cnt W.2) (.nil n p) (by dsimp only; omega) ?_
 rintro ⟨out, G⟩ O
 dsimp only at O
 have i1 := O.len
 have hc := Qm G
 unfold Ju.B1
 refine .bind (rZ hn h4 O) fun k hk => ?_
 unfold Ju.J2
 rcases hk with ⟨rfl, hb⟩ | ⟨j, rfl, M, Z, aa⟩
 ·exact A8 (fun _ => .pure ⟨O.topo, O.fin hb⟩) fun h0 => absurd (by decide) h0
 refine A8 (fun h => by omega) fun _ => ?_
 have := O.short
 refine .bind' (.app (by simp; omega) (.bind' (.eq (A1 M) (.pure ?_))))
 have hcs := Xn M
 have Y := Qm (G.set j true)
 simp at Y
 exact ⟨O.step M Z aa, by dsimp only; omega⟩
theorem bA {n : Nw} (Y : NetC n) {p : Plan} (O : p.Rates.length = n.Segments.length) : Ok (Ju n p) fun r => r.length = n.Nodes.length → Lh n p :=
 (Hr Y O).mono fun r ⟨M, G⟩ hl => by
  rcases G with G | ⟨⟨v, Z, W⟩, G⟩
  ·exact M.acyc G
  ·have := Yz M.rng M.nodup Z W; omega
theorem Ty {n : Nw} (W : NetC n) {p : Plan} (O : p.Rates.length = n.Segments.length) (G : Lh n p) : Ok (Ju n p) fun r => r.length = n.Nodes.length :=
 (Hr W O).mono fun r ⟨M, Y⟩ => My M.rng M.nodup (Y.resolve_right fun h => h.2 G)
theorem bB {n : Nw} (M : NetC n) {p : Plan} (h : FlowOk n p) : Ju n p = Hm n p := by
 obtain ⟨r, Z, Y, hr⟩ := Hr M h.rl
 obtain ⟨r', O, G, W⟩ := He M h.rl
 have f := My Y.rng Y.nodup (hr.resolve_right fun M => M.2 h.acyc)
 have f' := My G.rng G.nodup (W.resolve_right fun M => M.2 h.acyc)
 rw [Z, O, Y.uniq G (by omega)]
theorem eQ {n : Nw} (W : NetC n) (h12 : Hq n = some 0) {p : Plan} : Ok (Jj n p) (FlowRes n p) := by
 have h1 := W.nodes; have h2 := W.segs1; have h3 := W.ports1
 unfold Jj
 refine .bind' (.eq h12 (Ec (fun h => absurd rfl h) fun _ => Cw (Q := ¬ Z7 n p) (by unfold Z7; simp; omega) (fun h => .pure (.inl ⟨h, rfl⟩)) fun M => ?_))
 have M := Classical.not_not.1 M
 have l1 := M.1; have l2 := M.2.1
 have hsk : ∀ (k : Nat) (r : Int), p.Rates[k]? = some r → ∃ s, n.Segments[k]? = some s := fun k r G => ⟨_, gq (by have := (gs G).1; omega)⟩
 refine .bind (uX (d := 1) (P := fun k r => ∃ s, n.Segments[k]? = some s ∧ ¬ Qe s r) fun k r G => ?_) ?_
 ·obtain ⟨s, Y⟩ := hsk k r G
  have hc := (W.segs k s Y).2
  unfold Jj.B6
  refine .bind' (.eq (A1 Y) (.test ?_))
  dsimp only
  rw [Be (by omega), Bool.or_eq_true, decide_eq_true_eq, decide_eq_true_eq]
  refine ⟨fun h => ⟨s, Y, fun O => by unfold Qe at O; omega⟩, fun ⟨s', hs', h⟩ => ?_⟩
  rw [Y] at hs'; cases hs'
  unfold Qe at h; omega
 rintro _ (⟨⟨k, r, G, s, Y, h⟩, rfl⟩ | ⟨h, rfl⟩)
 ·exact .pure (.inr ⟨M, .inl ⟨fun O => h (O k r s G Y), rfl⟩⟩)
 have O : Rng n p := fun k r s G Y => Classical.not_not.1 fun W => h k r G ⟨s, Y, W⟩
 simp only [Sum.elim_inl]
 unfold Jj.J1
 refine .bind (uX (d := 1) (P := fun _ x => ¬ (-1000 ≤ x ∧ x ≤ 1000)) fun k x Z => ?_) ?_
 ·unfold Jj.B5
  exact .test (by simp; omega)
 rintro _ (⟨⟨k, x, Z, h⟩, rfl⟩ | ⟨h, rfl⟩)
 ·exact .pure (.inr ⟨M, .inr ⟨O, .inl ⟨fun hp => h (hp k x Z), rfl⟩⟩⟩)
 have hp : tN p := fun k x Z => Classical.not_not.1 (h k x Z)
 simp only [Sum.elim_inl]
 unfold Jj.J2
 refine .bind (uX (d := 12) (P := fun k _ => Gr (wt n (k : Int)) p.Rates + Gr (wp n (k : Int)) p.Ports ≠ 0) fun k x Z => ?_) ?_
 ·unfold Jj.B4
  exact .bind (eC W l1 l2 (O.all M) hp k) fun r G => .test (by rw [← G]; simp; omega)
 rintro _ (⟨⟨k, x, Z, h⟩, rfl⟩ | ⟨h, rfl⟩)
 ·exact .pure (.inr ⟨M, .inr ⟨O, .inr ⟨hp, .inl ⟨fun hb => h (hb k (gs Z).1), rfl⟩⟩⟩⟩)
 have hb : Bal n p := fun v hv => Classical.not_not.1 (h v _ (gq hv))
 simp only [Sum.elim_inl]
 unfold Jj.J3
 by_cases ha : Lh n p
 ·exact .bind (Ty W l1 ha) fun r G => Ec (fun h => by omega) fun _ => .pure (.inr ⟨M, .inr ⟨O, .inr ⟨hp, .inr ⟨hb, .inr ⟨ha, rfl⟩⟩⟩⟩⟩)
 ·exact .bind (bA W l1) fun r G => Ec (fun h => .pure (.inr ⟨M, .inr ⟨O, .inr ⟨hp, .inr ⟨hb, .inl ⟨ha, rfl⟩⟩⟩⟩⟩)) fun h => absurd (G (by omega)) ha
theorem S3 (n : Nw) (p : Plan) : ∃ r, Lt n p = some r ∧ Jj n p = some r ∧ (r = 0 → NetC n ∧ FlowOk n p) := by
 obtain ⟨e, W, Y, h3⟩ := Kn n
 by_cases G : e = 0
 ·subst G
  have M := h3.c W
  obtain ⟨r, Z, O⟩ := dF M (p := p)
  obtain ⟨r', g3, g4⟩ := eQ M Y (p := p)
  obtain rfl := O.uniq g4
  exact ⟨r, Z, g3, fun h => by subst h; exact ⟨M, O.flow M⟩⟩
 ·refine ⟨e, ?_, ?_, fun h => absurd h G⟩
  ·unfold Lt
   rw [W, Option.bind_some, if_pos (by simpa using G)]
  ·unfold Jj
   rw [Y, Option.bind_some, if_pos (by simpa using G)]
theorem Yf {f : List Piece} (hl : f.length ≤ 10000000) : Lm f = some f.reverse := by
 have : Ok (Lm f) fun r => r = f.reverse := by
  unfold Lm
  rw [Be (by omega)]
  refine .bind (Q := fun r => r = f.reverse) (.loop (fun M => ∃ k : Nat, k ≤ f.length ∧ M.2 = (k : Int) - 1 ∧ M.1 = (f.drop k).reverse) (fun M => (M.2 + 1).toNat) ⟨f.length, by omega, rfl, by simp⟩ (by dsimp only; omega) ?_) (by rintro _ rfl; exact .pure rfl)
  rintro ⟨o, i⟩ ⟨k, Z, G, W⟩
  dsimp only at G W
  subst G; subst W
  unfold Lm.B2
  refine A8 (fun h => ?_) fun h => .pure ?_
  ·dsimp only at h ⊢
   obtain ⟨j, rfl⟩ : ∃ j, k = j + 1 := ⟨k - 1, by omega⟩
   obtain ⟨x, O⟩ := Cn (l := f) (k := j) (by omega)
   rw [show ((j + 1 : Nat) : Int) - 1 = (j : Int) by omega]
   refine .bind' (.eq (A1 O) (.bind' (.app (by simp; omega) (.pure ⟨⟨j, by omega, ?_, ?_⟩, ?_⟩))))
   ·dsimp only; rw [Be (by omega)]
   ·dsimp only
    have Y := (gs O).1
    have e : f.drop j = x :: f.drop (j + 1) := by
     rw [List.drop_eq_getElem_cons Y]; congr 1
     exact (gs O).2
    rw [e]; simp
   ·dsimp only; rw [Be (by omega)]; omega
  ·dsimp only at h ⊢
   obtain rfl : k = 0 := by omega
   simp
 obtain ⟨r, G, rfl⟩ := this
 exact G
theorem oY {f : List Piece} (hf : ∀ p, p ∈ f → 0 ≤ p.Volume) (hl : vol f ≤ 100000000) (hlen : f.length ≤ 10000000) {m : Nat} (hm : m ≤ 100000000) : Jr f (m : Int) = some (Cm ((lit f).take m), Cm ((lit f).drop m)) := by
 have : Ok (Jr f (m : Int)) fun r => r = (Cm ((lit f).take m), Cm ((lit f).drop m)) := by
  unfold Jr
  refine .bind (Q := fun W : Int × List Piece × List Piece => (lit W.2.1 = (lit f).take m ∧ (∀ p, p ∈ W.2.1 → 0 ≤ p.Volume)) ∧ (lit W.2.2 = (lit f).drop m ∧ ∀ p, p ∈ W.2.2 → 0 ≤ p.Volume))
   (.forS (fun k W => W.1 = ((m - (lit (f.take k)).length : Nat) : Int) ∧ W.2.1.length = k ∧ W.2.2.length = k ∧ (lit W.2.1 = (lit (f.take k)).take m ∧ (∀ p, p ∈ W.2.1 → 0 ≤ p.Volume)) ∧ (lit W.2.2 = (lit (f.take k)).drop m ∧ ∀ p, p ∈ W.2.2 → 0 ≤ p.Volume))
    ⟨by simp [Em], rfl, rfl, by simp [Em], by simp [Em]⟩ ?_ ?_) ?_
  ·rintro k x ⟨rem, a, b⟩ hx ⟨h0, ha, hb, ⟨Y, G⟩, Z, M⟩
   dsimp only at h0 ha hb Y G Z M
   subst h0
   have hx0 := hf x (mg hx)
   have hxv := Iq hf (mg hx)
   have hkl := (gs hx).1
   have aa : lit (f.take (k + 1)) = lit (f.take k) ++ List.replicate x.Volume.toNat x.Batch := by
    rw [List.take_add_one, hx]; simp [Db, Dz]
   unfold Jr.B2
   dsimp only
   refine .bind' (.app (by simp; omega) (.bind' (.app (by simp; omega) ?_)))
   unfold Jr.J3
   rw [Be (by omega), Be (by omega)]
   refine .pure ⟨?_, by simp [ha], by simp [hb], ⟨?_, ?_⟩, ?_, ?_⟩
   ·dsimp only; rw [aa, List.length_append, List.length_replicate]; omega
   ·dsimp only; rw [Db, Dz, Y, aa, List.take_append]
    congr 1
    rw [List.take_replicate]; dsimp only; congr 1; omega
   ·intro p O
    rcases List.mem_append.1 O with O | O
    ·exact G p O
    ·simp at O; subst O; dsimp only; omega
   ·dsimp only; rw [Db, Dz, Z, aa, List.drop_append]
    congr 1
    rw [List.drop_replicate]; dsimp only; congr 1; omega
   ·intro p O
    rcases List.mem_append.1 O with O | O
    ·exact M p O
    ·simp at O; subst O; dsimp only; omega
  ·rintro ⟨_, a, b⟩ ⟨_, _, _, ⟨Y, G⟩, Z, M⟩
   rw [List.take_length] at Y Z
   exact ⟨⟨Y, G⟩, Z, M⟩
  ·rintro ⟨_, a, b⟩ ⟨⟨Y, G⟩, Z, M⟩
   dsimp only at Y G Z M
   have hl' := D3 hf
   have va := D3 G
   have vb := D3 M
   rw [Y, List.length_take] at va
   rw [Z, List.length_drop] at vb
   unfold Jr.J1
   dsimp only
   refine .bind' (.eq (Iz G (by omega)) (.bind' (.eq (Iz M (by omega)) (.pure ?_))))
   rw [Y, Z]
 obtain ⟨r, Y, rfl⟩ := this
 exact Y
theorem rY {R got : Li} {C : Nat → Int} (hg : ∀ i, i < R.length → got[i]? = some (C i)) (hr : ∀ (k : Nat) (x : Int), R[k]? = some x → 1 ≤ x ∧ x ≤ 1000) (hC : ∀ i, i < R.length → 0 ≤ C i ∧ C i ≤ 1000)
  (h0 : R ≠ []) : Rx R got = some (bs R C R.length : Int) := by
 refine Z5 ?_
 unfold Rx
 refine .bind' (.forS (fun k Y => (k = 0 ∧ Y = -1) ∨ 0 < k ∧ Y = (bs R C k : Int)) (.inl ⟨rfl, rfl⟩) ?_ ?_)
 ·intro k x Y hx hI
  have hk := (gs hx).1
  have hgd : R.getD k 0 = x := by rw [List.getD_eq_getElem?_getD, hx]; rfl
  have hx1 := hr k x hx
  have hCk := hC k hk
  unfold Rx.B2
  refine A8 (fun _ => ?_) fun h => by omega
  rcases hI with ⟨rfl, rfl⟩ | ⟨h1, rfl⟩
  ·refine A8 (fun _ => ?_) fun h => absurd (by omega) h
   unfold Rx.J4
   rw [if_pos rfl]
   refine .pure (.inr ⟨by omega, ?_⟩)
   simp [bs]
  ·refine A8 (fun h => by omega) fun _ => ?_
   obtain ⟨k, rfl⟩ : ∃ j, k = j + 1 := ⟨k - 1, by omega⟩
   have G : bs R C (k + 1) < R.length := by have := Qb R C k; omega
   have O : R[bs R C (k + 1)]? = some R[bs R C (k + 1)] := gq G
   have W : R.getD (bs R C (k + 1)) 0 = R[bs R C (k + 1)] := by rw [List.getD_eq_getElem?_getD, O]; rfl
   have hrb := hr _ _ O
   have Z := hC _ G
   generalize R[bs R C (k + 1)] = rb at O W hrb
   have m1 : 0 ≤ (C (k + 1) + 1) * rb ∧ (C (k + 1) + 1) * rb ≤ 1001 * 1000 := ⟨Int.mul_nonneg (by omega) (by omega), Int.mul_le_mul (by omega) (by omega) (by omega) (by omega)⟩
   have m2 : 0 ≤ (C (bs R C (k + 1)) + 1) * x ∧ (C (bs R C (k + 1)) + 1) * x ≤ 1001 * 1000 := ⟨Int.mul_nonneg (by omega) (by omega), Int.mul_le_mul (by omega) (by omega) (by omega) (by omega)⟩
   have e : bs R C (k + 1 + 1) = if (C (k + 1) + 1) * R.getD (bs R C (k + 1)) 0 < (C (bs R C (k + 1)) + 1) * R.getD (k + 1) 0 then k + 1 else bs R C (k + 1) := rfl
   rw [W, hgd] at e
   generalize bs R C (k + 1) = b at e G O Z m2
   refine .bind' (.eq (A1 (hg (k + 1) (by omega))) (.bind' (.eq (A1 O) (.bind' (.eq (A1 (hg b (by omega))) ?_)))))
   dsimp only
   rw [Be (by omega : _ ≤ C (k + 1) + 1 ∧ _), Be (by omega : _ ≤ C b + 1 ∧ _), Be (by omega), Be (by omega)]
   unfold Rx.J4
   rw [e]
   refine A8 (fun M => .pure (.inr ⟨by omega, ?_⟩)) fun M => .pure (.inr ⟨by omega, ?_⟩)
   ·rw [if_pos (by simpa using M)]
   ·rw [if_neg (by simpa using M)]
 ·intro Y hI
  have : R.length ≠ 0 := fun h => h0 (List.length_eq_zero_iff.1 h)
  rcases hI with ⟨h1, _⟩ | ⟨_, rfl⟩
  ·omega
  ·exact .pure rfl
structure Handed (R : List Int) (k : Nat) (X : List Int) (st : List (List Piece) × List Int) : Prop where
 gl : st.2.length = R.length
 got : ∀ i, i < R.length → st.2[i]? = some ((dl R X.length).count i : Int)
 sl : st.1.length = R.length
 sh : ∀ (i : Nat) (s : List Piece), st.1[i]? = some s → Share k (Hu i (dl R X.length) X) s
theorem bH {l : List Piece} {R : Li} (hv : ∀ p, p ∈ l → 0 ≤ p.Batch ∧ p.Batch < 1000 ∧ 1 ≤ p.Volume ∧ p.Volume ≤ 1000000) (hr : ∀ (k : Nat) (x : Int), R[k]? = some x → 1 ≤ x ∧ x ≤ 1000) (W : vol l ≤ R.sum) (hvl : vol l ≤ 1000000)
  (hl64 : R.length ≤ 64) {k : Nat} {p : Piece} (hp : l[k]? = some p) {st : List (List Piece) × Li} (h : Handed R k (lit (l.take k)) st) : Ok (Wu.B4 R k p st) (Handed R (k + 1) (lit (l.take (k + 1)))) := by
 obtain ⟨S, got⟩ := st
 obtain ⟨h4, h5, h6, h7⟩ := h
 dsimp only at h4 h5 h6 h7
 have hpv := hv p (mg hp)
 have nn : ∀ q, q ∈ l → 0 ≤ q.Volume := fun q G => by have := hv q G; omega
 have hkl := (gs hp).1
 have hll := P3 fun q G => (hv q G).2.2.1
 have hlk : lit (l.take (k + 1)) = lit (l.take k) ++ List.replicate p.Volume.toNat p.Batch := by
  rw [List.take_add_one, hp]; simp [Db, Dz]
 have htot : ((lit (l.take k)).length : Int) + p.Volume ≤ vol l := by
  have e1 := D3 (f := l.take k) fun q G => nn q (List.mem_of_mem_take G)
  have e2 := D8 hp
  have e3 := Eu (f := l.drop (k + 1)) fun q G => nn q (List.mem_of_mem_drop G)
  have e4 : vol l = vol (l.take (k + 1)) + vol (l.drop (k + 1)) := by rw [← Ev, List.take_append_drop]
  omega
 obtain ⟨d, hd, d1⟩ := aJ R (lit (l.take k)).length p.Volume.toNat
 have h1 := Jh R (lit (l.take k)).length
 have h0 : R ≠ [] := by rintro rfl; simp at W; omega
 have cnt : ∀ m : Nat, (m : Int) ≤ vol l → ∀ i, i < R.length → 0 ≤ ((dl R m).count i : Int) ∧ ((dl R m).count i : Int) ≤ 1000 := fun m hm i hi => by
  have e1 := (dT (fun k x h => (hr k x h).1) m (by omega)).le i _ (gq hi)
  have e2 := hr i _ (gq hi)
  omega
 generalize hc : dl R (lit (l.take k)).length = c at h5 h7 hd h1
 unfold Wu.B4
 refine .bind' (.app (by simp; omega) ?_)
 rw [List.nil_append]
 refine .bind (Q := fun q : Li => q.length = R.length ∧ ∀ i, i < R.length → q[i]? = some ((c ++ d).count i : Int))
  (.loop (fun st => ∃ j : Nat, st.2 = (j : Int) ∧ (j : Int) ≤ p.Volume ∧ st.1.length = R.length ∧ ∀ i, i < R.length → st.1[i]? = some ((dl R ((lit (l.take k)).length + j)).count i : Int)) (fun st => (p.Volume - st.2).toNat)
   ⟨0, rfl, by omega, h4, fun i hi => by rw [Nat.add_zero, hc]; exact h5 i hi⟩ (by dsimp only; omega) ?_) ?_
 ·rintro ⟨gt, _⟩ ⟨j, rfl, hj, g1, Y⟩
  dsimp only at g1 Y
  unfold Wu.B8
  dsimp only
  refine A8 (fun Z => ?_) fun Z => .pure ?_
  ·refine .bind' (.eq (rY Y hr (cnt _ (by omega)) h0) ?_)
   have ab : bs R (fun i => ((dl R ((lit (l.take k)).length + j)).count i : Int)) R.length < R.length := by
    cases h : R.length with
    | zero => exact absurd (List.length_eq_zero_iff.1 h) h0
    | succ k => exact Qb R _ k
   have e : dl R ((lit (l.take k)).length + (j + 1)) = dl R ((lit (l.take k)).length + j) ++ [bs R (fun i => ((dl R ((lit (l.take k)).length + j)).count i : Int)) R.length] := rfl
   have hcb := cnt _ (by omega : (((lit (l.take k)).length + j : Nat) : Int) ≤ vol l) _ ab
   generalize bs R (fun i => ((dl R ((lit (l.take k)).length + j)).count i : Int)) R.length = b at ab e hcb
   refine .bind' (.eq (A1 (Y b ab)) (.pure ⟨⟨j + 1, ?_, by omega, by simp [g1], fun i hi => ?_⟩, ?_⟩))
   ·dsimp only; rw [Be (by omega)]; omega
   ·dsimp only
    rw [Fp, e, List.count_append, List.count_singleton]
    by_cases aa : b = i
    ·subst aa
     rw [if_pos ⟨rfl, by omega⟩, Be (by omega)]
     simp
    ·rw [if_neg (fun h => aa h.1), Y i hi]
     simp [aa]
   ·dsimp only; rw [Be (by omega)]; omega
  ·obtain rfl : j = p.Volume.toNat := by omega
   rw [hd] at Y
   exact ⟨g1, Y⟩
 rintro gt ⟨g1, Y⟩
 have hdl : ((lit (l.take k)).length + p.Volume.toNat : Nat) = (lit (l.take (k + 1))).length := by rw [hlk, List.length_append, List.length_replicate]
 have hcd := cnt _ (by omega : (((lit (l.take k)).length + p.Volume.toNat : Nat) : Int) ≤ vol l)
 rw [hd] at hcd
 unfold Wu.J6
 dsimp only
 refine .bind (Q := fun r : List (List Piece) => r.length = R.length ∧ ∀ (i : Nat) (s : List Piece), r[i]? = some s → Share (k + 1) (Hu i (c ++ d) (lit (l.take (k + 1)))) s)
  (.forS (fun j r => r.length = R.length ∧ ∀ (i : Nat) (s : List Piece), r[i]? = some s → if i < j then Share (k + 1) (Hu i (c ++ d) (lit (l.take (k + 1)))) s else Share k (Hu i c (lit (l.take k))) s)
   ⟨h6, fun i s W => by rw [if_neg (by omega)]; exact h7 i s W⟩ ?_ ?_) ?_
 ·rintro j x r hx ⟨r1, r2⟩
  have hj := (gs hx).1
  have W : r[j]? = some r[j] := gq (by omega)
  generalize r[j] = s at W
  have O := r2 j s W
  rw [if_neg (by omega)] at O
  unfold Wu.B7
  refine .bind' (.eq (A1 W) (.bind' (.eq (A1 (Y j hj)) (.bind' (.eq (A1 (h5 j hj)) (.bind' (.app (by have := O.len; simp; omega) (.pure ?_))))))))
  dsimp only
  have hcj := hcd j hj
  have e : wr (((c ++ d).count j : Int) - (c.count j : Int)) = (d.count j : Int) := by
   rw [List.count_append] at hcj ⊢
   rw [Be (by omega)]; omega
  rw [e]
  refine ⟨by simp [r1], fun i s' M => ?_⟩
  rw [Fp] at M
  by_cases hij : j = i
  ·subst hij
   rw [if_pos ⟨rfl, by omega⟩] at M
   cases M
   rw [if_pos (by omega)]
   refine ⟨by simp [O.len], fun q G => ?_, ?_⟩
   ·rcases List.mem_append.1 G with G | G
    ·exact O.bat q G
    ·simp at G; subst G; dsimp only
     rw [List.count_append] at hcj; omega
   ·rw [Db, Dz, O.lit, hlk, Xf j c d _ _ h1]
    congr 1
    rw [← d1, Xe]
    dsimp only
    rw [show ((d.count j : Int).toNat) = d.count j by omega]
  ·rw [if_neg (fun h => hij h.1)] at M
   have := r2 i s' M
   by_cases Z : i < j
   ·rw [if_pos Z] at this; rw [if_pos (by omega)]; exact this
   ·rw [if_neg Z] at this; rw [if_neg (by omega)]; exact this
 ·rintro r ⟨r1, r2⟩
  refine ⟨r1, fun i s W => ?_⟩
  have := r2 i s W
  have hil := (gs W).1
  rw [if_pos (by omega)] at this; exact this
 ·rintro r ⟨r1, r2⟩
  unfold Wu.J5
  have e : dl R (lit (l.take (k + 1))).length = c ++ d := by rw [← hdl, hd]
  refine .pure ⟨g1, by rw [e]; exact Y, r1, by rw [e]; exact r2⟩
theorem sI {S R : Li} (hl : R.length ≤ 64) (hr : ∀ (k : Nat) (x : Int), R[k]? = some x → 1 ≤ x ∧ x ≤ 1000) (hb : bZ S) (O : (S.length : Int) ≤ R.sum) (hS : S.length ≤ 1000000) :
  Ok (Wu (Cm S) R) fun r => r.length = R.length ∧ ∀ i, i < R.length → r[i]? = some (Cm (Hu i (dl R S.length) S)) := by
 have hv : ∀ p, p ∈ Cm S → 0 ≤ p.Batch ∧ p.Batch < 1000 ∧ 1 ≤ p.Volume ∧ p.Volume ≤ 1000000 := fun p W => by
  have h1 := (El S).pos p W
  have h2 := Iq (f := Cm S) (fun q hq => by have := (El S).pos q hq; omega) W
  rw [C5] at h2
  have := hb _ (Ue W)
  omega
 unfold Wu
 refine .bind' (.mk R.length rfl (by omega) (.bind' (.mk R.length rfl (by omega) ?_)))
 refine .bind (Q := Handed R (Cm S).length S) (.forS (fun k st => Handed R k (lit ((Cm S).take k)) st) ?_ ?_ fun st h => by rw [List.take_length, D2] at h; exact h) ?_
 ·refine ⟨by simp, fun i hi => ?_, by simp, fun i s O => ?_⟩
  ·dsimp only; rw [List.getElem?_replicate, if_pos hi]; simp [Em, dl]
  ·dsimp only at O
   rw [List.getElem?_replicate] at O
   split at O
   ·cases O; exact ⟨rfl, by simp, by simp [Em, Hu]⟩
   ·cases O
 ·intro k p st W hst
  exact bH hv hr (by rw [C5]; exact O) (by rw [C5]; omega) hl W hst
 ·rintro ⟨T, got⟩ ⟨h4, h5, h6, h7⟩
  dsimp only at h6 h7
  have h1 := Jh R S.length
  have hf := (dT (fun k x h => (hr k x h).1) S.length O).le
  generalize dl R S.length = c at h7 h1 hf
  unfold Wu.J1
  dsimp only
  refine .bind (Q := fun r : List (List Piece) => r.length = R.length ∧ ∀ i, i < R.length → r[i]? = some (Cm (Hu i c S))) (.forJ (fun j r => r.length = R.length ∧ ∀ (i : Nat) (s : List Piece), r[i]? = some s → if i < j then s = Cm (Hu i c S) else Share (Cm S).length (Hu i c S) s) ⟨h6, fun i s O => by rw [if_neg (by omega)]; exact h7 i s O⟩ ?_ ?_) fun r hr => .pure hr
  ·rintro j r hj ⟨r1, r2⟩
   have hj' : j < R.length := by omega
   have Y : r[j]? = some r[j] := gq (by omega)
   generalize r[j] = s at Y
   have M := r2 j s Y
   rw [if_neg (by omega)] at M
   have hx : R[j]? = some R[j] := gq hj'
   have e1 := hf j _ hx
   have e2 := hr j _ hx
   have e3 := D3 fun p W => (M.bat p W).2.2.1
   rw [M.lit, Py j c _ h1] at e3
   unfold Wu.B3
   refine .bind' (.eq (A1 Y) (.bind' (.eq (Iz (f := s) (fun p W => (M.bat p W).2.2.1) (by omega)) (.pure ?_))))
   rw [M.lit]
   refine ⟨by simp [r1], fun i s' G => ?_⟩
   dsimp only at G
   rw [Fp] at G
   by_cases Z : j = i
   ·subst Z
    rw [if_pos ⟨rfl, by omega⟩] at G
    cases G
    rw [if_pos (by omega)]
   ·rw [if_neg (fun h => Z h.1)] at G
    have := r2 i s' G
    by_cases aa : i < j
    ·rw [if_pos aa] at this; rw [if_pos (by omega)]; exact this
    ·rw [if_neg aa] at this; rw [if_neg (by omega)]; exact this
  ·rintro r ⟨r1, r2⟩
   refine ⟨r1, fun i hi => ?_⟩
   have hg : r[i]? = some r[i] := gq (by omega)
   have := r2 i _ hg
   rw [if_pos (by omega)] at this
   rw [← this]
   exact hg
theorem cT {F I : Li} {b : Bool} (O : F.length ≤ 1000000) (W : I.length ≤ 1000000) : Wv (Cm F) (Cm I) b = some (if b = true then (Cm ((F ++ I).drop I.length), Cm ((F ++ I).take I.length)) else (Cm ((I ++ F).take F.length), Cm ((I ++ F).drop F.length))) := by
 have M : ∀ X : Li, ∀ p, p ∈ Cm X → 0 ≤ p.Volume := fun X p Z => by have := (El X).pos p Z; omega
 have l1 := Gt F; have l2 := Gt I
 have G : ∀ {X Y : Li}, X.length ≤ 1000000 → Y.length ≤ 1000000 → ∀ {m : Nat}, m ≤ 1000000 → Jr (Cm X ++ Cm Y) (m : Int) = some (Cm ((X ++ Y).take m), Cm ((X ++ Y).drop m)) := fun {X Y} hX hY m hm => by
  have := Gt X; have := Gt Y
  rw [oY (fun p Z => (List.mem_append.1 Z).elim (M X p) (M Y p)) (by rw [Ev, C5, C5]; omega) (by rw [List.length_append]; omega) (by omega), Db, D2, D2]
 unfold Wv
 cases b
 ·rw [if_neg (by simp), F9 (by simp; omega), Option.bind_some, List.nil_append, F9 (by omega), Option.bind_some, Si (M F) (by rw [C5]; omega), Option.bind_some, C5, G W O O, Option.bind_some]
  rfl
 ·rw [if_pos rfl, F9 (by simp; omega), Option.bind_some, List.nil_append, F9 (by omega), Option.bind_some, Si (M I) (by rw [C5]; omega), Option.bind_some, C5, G O W W, Option.bind_some]
  rfl
def Kx (c : Nat → Option Int) (j : Nat) (A B : Nat → Li) : Nat → Li := fun i => if (c i).isSome = true ∧ (sl c i).length < j then A i else B i
theorem Of {c : Nat → Option Int} {A B : Nat → Li} {m j : Nat} {y : Nat × Int} (M : (sl c m)[j]? = some y) {i : Nat} (hi : i < m) : Kx c (j + 1) A B i = La (Kx c j A B) y.1 (A y.1) i := by
 have W := Pk M
 have hp := Nk M
 unfold Kx La
 by_cases e : i = y.1
 ·subst e; rw [if_pos rfl, if_pos ⟨by rw [W.2]; rfl, by omega⟩]
 ·rw [if_neg e]
  dsimp only
  by_cases G : (c i).isSome = true ∧ (sl c i).length < j
  ·rw [if_pos G, if_pos ⟨G.1, by omega⟩]
  ·rw [if_neg G, if_neg]
   rintro ⟨O, h4⟩
   refine G ⟨O, ?_⟩
   obtain ⟨z, Z⟩ := Option.isSome_iff_exists.1 O
   have := Lb hi Z
   have : (sl c i).length ≠ j := fun Y => by
    rw [Y, M] at this; cases this; exact e rfl
   omega
theorem Yc {c : Nat → Option Int} {A B : Nat → Li} {m j : Nat} {y : Nat × Int} (G : (sl c m)[j]? = some y) : Kx c j A B y.1 = B y.1 := by
 have M := Nk G
 unfold Kx
 rw [if_neg (by omega)]
theorem Sd {c : Nat → Option Int} {A B : Nat → Li} {m i : Nat} (hi : i < m) : (if (c i).isSome = true then A i else B i) = Kx c (sl c m).length A B i := by
 unfold Kx
 cases h : c i with
 | none => rfl
 | some a =>
  have := (gs (Lb hi h)).1
  simp [this]
section
variable {n : Nw} {p : Plan} {g od : Li} {fs gws os : List (List Piece)} {F0 : Nat → Li} {s : T3}
structure Gat (X : List Int) (c : Nat → Option Int) (k m : Nat) (st : List Piece) (ix : List Int) : Prop where
 nn : ∀ q, q ∈ st → 0 ≤ q.Volume
 lit : lit st = X
 len : st.length ≤ m
 ix : ix = (sl c k).map fun x => (x.1 : Int)
theorem pF (hL : Ln n p g) (kk : Nat) (v : Int) : Ok (forS (Fx.B22 p g (kk, v)) 0 n.Ports ([], [], [])) fun st => Gat ((sl (cP n p v true) n.Ports.length).flatMap fun x => List.replicate x.2.toNat (g.getD x.1 0)) (cP n p v false) n.Ports.length 24 st.1 st.2.2 ∧ st.2.1 = (sl (cP n p v false) n.Ports.length).map (·.2) := by
 have s2 := hL.net.ports1
 refine .forS (fun k st => Gat ((sl (cP n p v true) k).flatMap fun x => List.replicate x.2.toNat (g.getD x.1 0)) (cP n p v false) k k st.1 st.2.2 ∧ st.2.1 = (sl (cP n p v false) k).map (·.2)) ⟨⟨by simp, rfl, by simp, rfl⟩, rfl⟩ ?_ fun st h => ⟨⟨h.1.nn, h.1.lit, by have := h.1.len; omega, h.1.ix⟩, h.2⟩
 rintro k x ⟨S, R, I⟩ hx ⟨⟨Z, h2, h3, h4⟩, h5⟩
 dsimp only at Z h2 h3 h4 h5
 subst h4 h5
 have hk := (gs hx).1
 obtain ⟨r, hr⟩ := Cn (l := p.Ports) (k := k) (by have := hL.flow.pl; omega)
 obtain ⟨b, hb⟩ := Cn (l := g) (k := k) (by have := hL.gl; omega)
 have hr1 := hL.flow.prt k r hr
 have O := X8 (v := v) (b := true) hx hr
 have M := X8 (v := v) (b := false) hx hr
 have l1 := Gz (cP n p v false) k
 unfold Fx.B22 Fx.J26 Fx.J24 Fx.J25 Fx.J23
 dsimp only
 have G : sl (cP n p v true) (k + 1) = sl (cP n p v true) k → sl (cP n p v false) (k + 1) = sl (cP n p v false) k → Ok (some (S, (sl (cP n p v false) k).map (·.2), (sl (cP n p v false) k).map fun x => (x.1 : Int)) : Option (List Piece × Li × Li)) fun st => Gat ((sl (cP n p v true) (k + 1)).flatMap fun x => List.replicate x.2.toNat (g.getD x.1 0)) (cP n p v false) (k + 1) (k + 1) st.1 st.2.2 ∧ st.2.1 = (sl (cP n p v false) (k + 1)).map (·.2) := fun e1 e2 => by
  rw [e1]
  exact .pure ⟨⟨Z, h2, by dsimp only; omega, by rw [e2]⟩, by rw [e2]⟩
 by_cases Y : x.Node = v
 ·simp only [show (x.Node == v) = true by simp [Y], if_true, A1 hr, A1 hb, Option.bind_some]
  rcases Int.lt_trichotomy r 0 with h | h | h
  ·rw [if_neg (fun h => by have := h.2.2; simp at this; omega)] at O
   rw [if_pos ⟨Y, by omega, by simp; omega⟩] at M
   rw [if_neg (by simp; omega), if_pos (by simp; omega)]
   refine .bind' (.app (by simp; omega) (.bind' (.app (by simp; omega) (.pure ⟨⟨Z, by rw [Dy O]; exact h2, by dsimp only; omega, ?_⟩, ?_⟩))))
   ·dsimp only; rw [Ew M]; simp
   ·dsimp only; rw [Ew M, Be (by omega)]; simp; omega
  ·rw [if_neg (fun h' => h'.2.1 h)] at O M
   rw [if_neg (by simp; omega), if_neg (by simp; omega)]
   exact G (Dy O) (Dy M)
  ·rw [if_pos ⟨Y, by omega, by simp; omega⟩] at O
   rw [if_neg (fun h => by have := h.2.2; simp at this; omega)] at M
   rw [if_pos (by simp; omega)]
   refine .bind' (.app (by simp; omega) ?_)
   rw [if_neg (by simp; omega)]
   refine .pure ⟨⟨fun q W => ?_, ?_, by simp; omega, by rw [Dy M]⟩, by rw [Dy M]⟩
   ·rcases List.mem_append.1 W with W | W
    ·exact Z q W
    ·simp at W; subst W; dsimp only; omega
   ·rw [Ew O, Db, h2, Dz, List.flatMap_append, List.flatMap_singleton, List.getD_eq_getElem?_getD, hb]
    dsimp only [Option.getD]
    rw [show max r (-r) = r by omega]
 ·rw [if_neg (fun h => Y h.1)] at O M
  simp only [show (x.Node == v) = false by simp [Y], Bool.false_eq_true, if_false]
  exact G (Dy O) (Dy M)
theorem rQ (hL : Ln n p g) (kk : Nat) (v : Int) {st0 : List (List Piece) × List (List Piece) × List (List Piece) × Bool} {G : Nat → Li} (hG : Rp n.Segments.length st0.2.2.1 G) (bG : ∀ i, i < n.Segments.length → (G i).length ≤ 1000) {S0 : List Piece} {R0 X0 : Li}
  (n0 : ∀ q, q ∈ S0 → 0 ≤ q.Volume) (l0 : lit S0 = X0) (m0 : S0.length ≤ 24) (r0 : R0.length ≤ 24) :
  Ok (forS (Fx.B19 p st0 (kk, v)) 0 n.Segments (S0, R0, [])) fun st => Gat (X0 ++ (sl (cS n p v true) n.Segments.length).flatMap fun x => G x.1) (cS n p v false) n.Segments.length 100000 st.1 st.2.2 ∧ st.2.1 = R0 ++ (sl (cS n p v false) n.Segments.length).map (·.2) := by
 have s1 := hL.net.segs1
 refine .forS (fun k st => Gat (X0 ++ (sl (cS n p v true) k).flatMap fun x => G x.1) (cS n p v false) k (24 + 1000 * k) st.1 st.2.2 ∧ st.2.1 = R0 ++ (sl (cS n p v false) k).map (·.2)) ⟨⟨n0, by simp [sl, l0], by dsimp only; omega, rfl⟩, by simp [sl]⟩ ?_ fun st h => ⟨⟨h.1.nn, h.1.lit, by have := h.1.len; omega, h.1.ix⟩, h.2⟩
 rintro k x ⟨S, R, I⟩ hx ⟨⟨h1, h2, h3, h4⟩, h5⟩
 dsimp only at h1 h2 h3 h4 h5
 subst h4 h5
 have hk := (gs hx).1
 obtain ⟨r, hr⟩ := Cn (l := p.Rates) (k := k) (by have := hL.flow.rl; omega)
 have hr1 := hL.flow.rng k r x hr hx
 have O := T6 (v := v) (b := true) hx hr
 have M := T6 (v := v) (b := false) hx hr
 rw [if_pos rfl] at O
 rw [if_neg (by simp : ¬ (false = true))] at M
 have l1 := Gz (cS n p v false) k
 have g1 := bG k hk
 have g2 := Gt (G k)
 unfold Fx.B19 Fx.J21 Fx.J20
 dsimp only
 refine .bind' (.eq (A1 hr) ?_)
 dsimp only
 have ea : Gp r = max r (-r) := by unfold Gp; rw [Be (by omega)]; omega
 rw [Jz, ea]
 have two : ∀ (T : List Piece), (∀ q, q ∈ T → 0 ≤ q.Volume) → lit T = X0 ++ (sl (cS n p v true) (k + 1)).flatMap (fun x => G x.1) → T.length ≤ 24 + 1000 * (k + 1) → r ≠ 0 →
   Ok (if ((Bn x r).1 == v) = true then Option.bind (Cp (R0 ++ (sl (cS n p v false) k).map (·.2)) ([max r (-r)] : Li)) fun Z => Option.bind (Cp ((sl (cS n p v false) k).map fun x => (x.1 : Int)) ([(k : Int)] : Li)) fun aa => some (T, Z, aa) else some (T, R0 ++ (sl (cS n p v false) k).map (·.2), (sl (cS n p v false) k).map fun x => (x.1 : Int)))
    fun st => Gat (X0 ++ (sl (cS n p v true) (k + 1)).flatMap fun x => G x.1) (cS n p v false) (k + 1) (24 + 1000 * (k + 1)) st.1 st.2.2 ∧ st.2.1 = R0 ++ (sl (cS n p v false) (k + 1)).map (·.2) := fun T t1 t2 t3 W => by
  refine Dc (fun Y => ?_) fun Y => ?_
  ·rw [if_pos ⟨W, Y⟩] at M
   refine .bind' (.app (by simp; omega) (.bind' (.app (by simp; omega) (.pure ⟨⟨t1, t2, t3, ?_⟩, ?_⟩))))
   ·dsimp only; rw [Ew M]; simp
   ·dsimp only; rw [Ew M]; simp
  ·rw [if_neg (fun h => Y h.2)] at M
   rw [Dy M]
   exact .pure ⟨⟨t1, t2, t3, by rw [Dy M]⟩, rfl⟩
 refine Dc (fun W => ?_) fun W => Dc (fun Y => ?_) fun Y => ?_
 ·rw [if_neg (fun h => h.1 W)] at O M
  rw [Dy O, Dy M]
  exact .pure ⟨⟨h1, h2, by dsimp only; omega, by rw [Dy M]⟩, rfl⟩
 ·rw [if_pos ⟨W, Y⟩] at O
  refine .bind' (.eq (A1 (hG.get k hk)) (.bind' (.app (by dsimp only; omega) (two _ (fun q hq => ?_) ?_ (by rw [List.length_append]; dsimp only; omega) W))))
  ·rcases List.mem_append.1 hq with hq | hq
   ·exact h1 q hq
   ·have := (El (G k)).pos q hq; omega
  ·rw [Ew O, Db, h2, D2, List.flatMap_append, List.flatMap_singleton, List.append_assoc]
 ·rw [if_neg (fun h => Y h.2)] at O
  exact two S h1 (by rw [Dy O]; exact h2) (by omega) W
theorem rU {S I : List (List Piece)} {m j : Nat} {F G : Nat → Li} {i : Nat} {r : Int} {X : Li} {jA jB : List Piece × Li × Li} {dealt : List (List Piece)} (O : Rp m S F) (W : Rp m I G) (hi : i < m)
  (h1 : jB.2.2[j]? = some (i : Int)) (h2 : dealt[jA.2.2.length + j]? = some (Cm X)) (hlen : jA.2.2.length + j ≤ 1000) (h3 : p.Rates[i]? = some r) (lF : (F i).length ≤ 1000000) (Y : X.length ≤ 1000000) :
  Ok (Fx.B15 p jA jB dealt j (S, I)) fun q => Rp m q.1 (La F i (fl r (F i) X)) ∧ Rp m q.2 (La G i (gv r (F i) X)) := by
 have lr := Gt (F i); have lx := Gt X
 unfold Fx.B15
 refine .bind' (.eq (A1 h1) ?_)
 rw [Be (by omega), show ((jA.2.2.length : Int) + (j : Int)) = ((jA.2.2.length + j : Nat) : Int) by omega]
 refine .bind' (.eq (A1 h2) (.bind' (.eq (A1 h3) ?_)))
 dsimp only
 unfold Fx.J16 Fx.J17
 by_cases M : r < 0
 ·rw [if_neg (by simp [M])]
  refine .bind' (.eq (A1 (O.get i hi)) ?_)
  dsimp only
  rw [show decide (r < 0) = true by simp [M], cT lF Y, Option.bind_some, if_pos rfl, if_neg (by simp)]
  refine .bind' (.eq (A1 (W.get i hi)) (.pure ⟨?_, ?_⟩))
  ·have := O.set (i := i) (fl r (F i) X)
   simpa [fl, qu, M] using this
  ·have := W.set (i := i) (gv r (F i) X)
   simpa [gv, qu, M] using this
 ·rw [if_pos (by simp [M])]
  refine .bind' (.eq (Yf (by omega)) ?_)
  rw [Is]
  refine .bind' (.eq (A1 (O.get i hi)) ?_)
  dsimp only
  have Z : (X.reverse ++ F i).take (F i).length = fl r (F i) X := by
   unfold fl qu
   rw [if_neg M, if_neg M, List.reverse_drop, List.reverse_append, List.reverse_reverse, List.length_append, List.length_reverse]
   congr 1; omega
  have e2 : ((X.reverse ++ F i).drop (F i).length).reverse = gv r (F i) X := by
   unfold gv qu
   rw [if_neg M, List.reverse_drop, List.reverse_append, List.reverse_reverse, List.length_append, List.length_reverse]
   congr 1; omega
  rw [show decide (r < 0) = false by simp [M], cT lF (by rw [List.length_reverse]; exact Y), Option.bind_some]
  simp only [Bool.false_eq_true, if_false, Bool.not_false, if_true]
  have lo := Gt ((X.reverse ++ F i).drop (F i).length)
  refine .bind' (.eq (Yf (by rw [List.length_drop, List.length_append, List.length_reverse] at lo; omega)) (.bind' (.eq (A1 (W.get i hi)) (.pure ⟨?_, ?_⟩))))
  ·dsimp only; rw [Z]; exact O.set _
  ·dsimp only; rw [Is, e2]; exact W.set _
theorem rW (hL : Ln n p g) {v : Nat} (hv : v < n.Nodes.length) {kk : Nat} {st : List (List Piece) × List (List Piece) × List (List Piece) × Bool} (hs : Left n s (st.1, st.2.2.1, st.2.1)) (lF : ∀ i, i < n.Segments.length → (s.1 i).length ≤ 1000000)
  (bG : ∀ i, i < n.Segments.length → bZ (s.2.1 i) ∧ (s.2.1 i).length ≤ 1000) (lG : ∀ i a, i < n.Segments.length → cS n p (v : Int) true i = some a → ((s.2.1 i).length : Int) = a) :
  Ok (Option.bind (forS (Fx.B22 p g (kk, (v : Int))) 0 n.Ports ([], [], [])) fun M => Fx.J12 n p st (kk, (v : Int)) (M.1, M.2.1, M.2.2))
   fun q => Left n (nd n p g s v) (q.1, q.2.2.1, q.2.1) ∧ (q.2.2.2 = true ↔ (st.2.2.2 = true ∨ 200 < (Cm (Eg n p g s.2.1 v)).length)) := by
 obtain ⟨hF, hG, hO⟩ := hs
 obtain ⟨F, G, O⟩ := s
 obtain ⟨nx, po, gi, lo⟩ := st
 dsimp only at hF hG hO bG lG lF
 have s1 := hL.net.segs1; have s2 := hL.net.ports1
 have hp := hL.flow
 have hbat := Sj (v := (v : Int)) hL fun i W => (bG i W).1
 have lP := Gz (cP n p v false) n.Ports.length
 have lS := Gz (cS n p v false) n.Segments.length
 obtain ⟨hsum, hRl, hsl⟩ := Mt hL hv lG
 refine .bind (pF hL kk (v : Int)) ?_
 rintro ⟨S, R, I⟩ ⟨⟨a1, a2, a3, a4⟩, a5⟩
 dsimp only at a1 a2 a3 a4 a5
 unfold Fx.J12
 dsimp only
 refine .bind (rQ hL kk (v : Int) (st0 := (nx, po, gi, lo)) hG (fun i W => (bG i W).2) a1 a2 a3 (by rw [a5, List.length_map]; omega)) ?_
 rintro ⟨S', R', I'⟩ ⟨⟨b1, b2, b3, b4⟩, b5⟩
 dsimp only at b1 b2 b3 b4 b5
 have hR : R' = Fu n p v := by rw [b5, a5]; rfl
 change lit S' = Eg n p g G v at b2
 have hvS : vol S' = ((Eg n p g G v).length : Int) := by rw [← D3 b1, b2]
 unfold Fx.J13
 dsimp only
 refine .bind' (.eq (Iz b1 (by omega)) ?_)
 rw [b2]
 have fin : ∀ b : Bool, (b || decide (((Cm (Eg n p g G v)).length : Int) > 200)) = true ↔ (b = true ∨ 200 < (Cm (Eg n p g G v)).length) := fun b => by rw [Bool.or_eq_true, decide_eq_true_eq]; exact or_congr Iff.rfl (by omega)
 refine Dc (fun he => ?_) fun hne => ?_
 ·have hS : Eg n p g G v = [] := Te.1 (List.length_eq_zero_iff.1 (by omega))
  obtain ⟨hP, hSg⟩ := Yu hL (v := v) (by rw [hsum, hS]; rfl)
  unfold Fx.J11
  refine .pure ⟨⟨hF.congr fun i W => ?_, hG.congr fun i W => ?_, hO.congr fun k hk => ?_⟩, fin lo⟩
  ·dsimp only [nd]; rw [hSg i W]; rfl
  ·dsimp only [nd]; rw [hSg i W]; rfl
  ·dsimp only [nd]; rw [hP k hk]; rfl
 rw [hR]
 refine .bind (sI (by omega) (Hz hp v) hbat (by omega) (by omega)) ?_
 rintro dt ⟨d1, d2⟩
 refine .bind (Q := fun r : List (List Piece) => Rp n.Ports.length r (Kx (cP n p v false) (sl (cP n p v false) n.Ports.length).length (zP n p v (Eg n p g G v)) O))
  (.forJ (fun j r => Rp n.Ports.length r (Kx (cP n p v false) j (zP n p v (Eg n p g G v)) O)) (hO.congr fun k hk => by unfold Kx; rw [if_neg (by omega)]) ?_ fun r Z => by rw [a4, List.length_map] at Z; exact Z) ?_
 ·intro j r hj Z
  rw [a4, List.length_map] at hj
  obtain ⟨y, Y⟩ := Cn hj
  obtain ⟨y1, y2⟩ := Pk Y
  have hr' := Z.get y.1 y1
  have hz : dt[j]? = some (Cm (zP n p v (Eg n p g G v) y.1)) := by
   have h := d2 j (by rw [Ms]; omega)
   rw [h, zP, Nk Y]
  unfold Fx.B18
  dsimp only
  refine .bind' (.eq (A1 (k := j) (x := (y.1 : Int)) (by rw [a4, List.getElem?_map, Y]; rfl)) (.bind' (.eq (A1 hz) (.bind' (.eq (A1 hr') (.pure ?_))))))
  exact (Z.set (i := y.1) _).congr fun i W => Of Y W
 intro po' hpo
 unfold Fx.J14
 dsimp only
 refine .bind (Q := fun r : List (List Piece) × List (List Piece) => Rp n.Segments.length r.1 (Kx (cS n p v false) (sl (cS n p v false) n.Segments.length).length (fun i => fl (p.Rates.getD i 0) (F i) (zS n p v (Eg n p g G v) i)) F) ∧ Rp n.Segments.length r.2 (Kx (cS n p v false) (sl (cS n p v false) n.Segments.length).length (fun i => gv (p.Rates.getD i 0) (F i) (zS n p v (Eg n p g G v) i)) G))
  (.forJ (fun j r => Rp n.Segments.length r.1 (Kx (cS n p v false) j (fun i => fl (p.Rates.getD i 0) (F i) (zS n p v (Eg n p g G v) i)) F) ∧ Rp n.Segments.length r.2 (Kx (cS n p v false) j (fun i => gv (p.Rates.getD i 0) (F i) (zS n p v (Eg n p g G v) i)) G)) ⟨hF.congr fun k hk => by unfold Kx; rw [if_neg (by omega)], hG.congr fun k hk => by unfold Kx; rw [if_neg (by omega)]⟩ ?_ fun r Z => by rw [b4, List.length_map] at Z; exact Z) ?_
 ·rintro j ⟨r1, r2⟩ hj ⟨aa, ab⟩
  dsimp only at aa ab
  rw [b4, List.length_map] at hj
  obtain ⟨y, Y⟩ := Cn hj
  obtain ⟨y1, y2⟩ := Pk Y
  have hIl : I.length = (sl (cP n p v false) n.Ports.length).length := by rw [a4, List.length_map]
  obtain ⟨r, Z⟩ := Cn (l := p.Rates) (k := y.1) (by have := hp.rl; omega)
  have hgd : p.Rates.getD y.1 0 = r := by rw [List.getD_eq_getElem?_getD, Z]; rfl
  have hz : dt[I.length + j]? = some (Cm (zS n p v (Eg n p g G v) y.1)) := by
   have h := d2 (I.length + j) (by rw [Ms]; omega)
   rw [h, zS, Nk Y, hIl]
  have lz := Z8 hp hsum y1 y2
  have hc := aK hp y2
  have := rU (p := p) (jA := (S, R, I)) (jB := (S', Fu n p v, I')) (dealt := dt) (j := j) (X := zS n p v (Eg n p g G v) y.1) aa ab y1 (by rw [b4, List.getElem?_map, Y]; rfl) hz (by dsimp only; omega) Z (by rw [Yc Y]; exact lF y.1 y1) (by omega)
  rw [Yc Y] at this
  refine this.mono fun q hq => ⟨hq.1.congr fun i W => ?_, hq.2.congr fun i W => ?_⟩
  ·rw [Of Y W, hgd]
  ·rw [Of Y W, hgd]
 rintro ⟨r1, r2⟩ ⟨aa, ab⟩
 dsimp only at aa ab
 unfold Fx.J11
 refine .pure ⟨⟨aa.congr fun i W => ?_, ab.congr fun i W => ?_, hpo.congr fun k hk => ?_⟩, fin lo⟩
 ·exact Sd (A := fun i => fl (p.Rates.getD i 0) (F i) (zS n p v (Eg n p g G v) i)) W
 ·exact Sd (A := fun i => gv (p.Rates.getD i 0) (F i) (zS n p v (Eg n p g G v) i)) W
 ·exact Sd hk
end
def jR (f : List Piece) (k : Nat) (p : Piece) : Prop := (0 ≤ p.Batch ∧ p.Batch < 1000) ∧ 1 ≤ p.Volume ∧ p.Volume ≤ 1000000 ∧ ∀ q, 0 < k → f[k - 1]? = some q → q.Batch ≠ p.Batch
theorem V9 {f : List Piece} : Vd f ↔ f.length ≤ 200 ∧ (∀ (k : Nat) (p : Piece), f[k]? = some p → jR f k p) ∧ vol f ≤ 1000000 := by
 constructor
 ·intro h
  refine ⟨h.len, fun k p G => ?_, h.vol⟩
  have := h.piece (mg G)
  exact ⟨⟨this.1, this.2.1⟩, this.2.2.1, this.2.2.2, fun q h0 Y => h.can.ne (k - 1) q p Y (by rw [show k - 1 + 1 = k by omega]; exact G)⟩
 ·rintro ⟨Z, M, h3⟩
  refine ⟨Z, ⟨fun p G => ?_, fun i p q G Y => ?_⟩, fun b O => ?_, h3⟩
  ·obtain ⟨k, W⟩ := List.getElem?_of_mem G
   exact (M k p W).2.1
  ·exact (M (i + 1) q Y).2.2.2 p (by omega) G
  ·obtain ⟨p, G, O⟩ := List.mem_flatMap.1 O
   obtain ⟨_, rfl⟩ := List.mem_replicate.1 O
   obtain ⟨k, W⟩ := List.getElem?_of_mem G
   exact (M k p W).1
theorem Ub (f : List Piece) : Ok (G1 f) fun r => r = true ↔ Vd f := by
 unfold G1
 refine A8 (fun h => .pure ?_) fun hl => ?_
 ·simp only [Bool.false_eq_true, false_iff]
  intro O; have := O.len; omega
 refine .bind (uX (d := false) (P := fun k p => ¬ jR f k p) fun k x hx => ?_) ?_
 ·have e : ∀ b : Bool, (b = true ↔ ¬ jR f k x) → Ok (G1.J3 b) fun o => (¬ jR f k x ∧ o = .inr false) ∨ (¬ ¬ jR f k x ∧ o = .inl ()) := fun b hb => .test hb
  have hkl := (gs hx).1
  unfold G1.B2
  have l1 : Ho x = true ↔ (0 ≤ x.Batch ∧ x.Batch < 1000) ∧ 0 ≤ x.Volume ∧ x.Volume ≤ 1000000 := by unfold Ho; simp; omega
  refine P8 (fun h => e _ ?_) fun h => ?_
  ·rw [← Bool.not_eq_true, l1] at h
   simp only [true_iff]
   intro G; exact h ⟨G.1, by have := G.2.1; omega, G.2.2.1⟩
  have h := l1.1 h
  refine Dc (fun h0 => e _ ?_) fun h0 => A8 (fun Z => ?_) fun Z => e _ ?_
  ·simp only [true_iff]
   intro G; have := G.2.1; omega
  ·rw [Be (by omega)]
   refine .bind' (.ix' (by omega) (by omega) fun j y hj hy => e _ ?_)
   obtain rfl : j = k - 1 := by omega
   simp only [beq_iff_eq]
   refine ⟨fun Y G => G.2.2.2 y (by omega) hy Y, fun hn => Classical.byContradiction fun Y => hn ⟨h.1, by omega, h.2.2, fun q _ hq => ?_⟩⟩
   rw [hy] at hq; cases hq; exact Y
  ·simp only [Bool.false_eq_true, false_iff, Classical.not_not]
   exact ⟨h.1, by omega, h.2.2, fun q h0 => by omega⟩
 rintro _ (⟨⟨k, p, G, hn⟩, rfl⟩ | ⟨h, rfl⟩)
 ·refine .pure ?_
  simp only [Bool.false_eq_true, false_iff]
  intro O; exact hn ((V9.1 O).2.1 k p G)
 ·have M : ∀ (k : Nat) (p : Piece), f[k]? = some p → jR f k p := fun k p G => Classical.not_not.1 (h k p G)
  have W : ∀ p, p ∈ f → 0 ≤ p.Volume ∧ p.Volume ≤ 1000000 := fun p G => by
   obtain ⟨k, Z⟩ := List.getElem?_of_mem G
   have := (M k p Z).2; omega
  have O : vol f ≤ 1000000 * f.length := by
   clear M h hl
   induction f with
   | nil => simp [vol]
   | cons a l ih => rw [Hw, List.length_cons]; have := ih fun p G => W p (by simp [G]); have := W a (by simp); omega
  simp only [Sum.elim_inl]
  unfold G1.J1
  refine .bind' (.eq (Jv (fun p G => (W p G).1) (by omega)) (.pure ?_))
  rw [decide_eq_true_eq, V9]
  exact ⟨fun O => ⟨by omega, M, O⟩, fun O => O.2.2⟩
theorem Po (f : List Piece) : Ok (Re f) fun r => r = true ↔ Vd f := by
 unfold Re
 refine A8 (fun h => .pure ?_) fun hl => ?_
 ·simp only [Bool.false_eq_true, false_iff]
  intro O; have := O.len; omega
 refine .bind' (.forL (fun k Z => Z = vol (f.take k) ∧ ∀ (j : Nat) (p : Piece), j < k → f[j]? = some p → jR f j p) (fun b => b = false ∧ ¬ Vd f) ⟨rfl, fun j p h => absurd h (Nat.not_lt_zero _)⟩ ?_ ?_ ?_)
 ·rintro k x _ hx ⟨rfl, hI⟩
  have hkl := (gs hx).1
  have M : ¬ jR f k x → ∀ Z, Ok (Re.J3 x Z true) (Sum.elim (fun Z => Z = vol (f.take (k + 1)) ∧ ∀ (j : Nat) (p : Piece), j < k + 1 → f[j]? = some p → jR f j p) fun b => b = false ∧ ¬ Vd f) := fun hn Z => .pure ⟨rfl, fun O => hn ((V9.1 O).2.1 k x hx)⟩
  have W : jR f k x → Ok (Re.J3 x (vol (f.take k)) false) (Sum.elim (fun Z => Z = vol (f.take (k + 1)) ∧ ∀ (j : Nat) (p : Piece), j < k + 1 → f[j]? = some p → jR f j p) fun b => b = false ∧ ¬ Vd f) := fun G => by
   have pos : ∀ (m : Nat) (l : List Piece), (∀ (j : Nat) (p : Piece), l[j]? = some p → 0 ≤ p.Volume ∧ p.Volume ≤ 1000000) → 0 ≤ vol l ∧ vol l ≤ 1000000 * l.length := fun _ l => by
    induction l with
    | nil => intro _; simp [vol]
    | cons a l ih => intro h; rw [Hw, List.length_cons]; have := ih fun j p Y => h (j + 1) p (by simpa using Y); have := h 0 a rfl; omega
   have O := pos 0 (f.take k) fun j p Y => by
    rw [List.getElem?_take] at Y
    split at Y
    ·rename_i hjk
     have := (hI j p hjk Y).2; omega
    ·cases Y
   rw [List.length_take] at O
   have := G.2
   refine .pure ⟨?_, fun j p Y aa => ?_⟩
   ·rw [Be (by omega), D8 hx]
   ·by_cases e : j = k
    ·subst e; rw [hx] at aa; cases aa; exact G
    ·exact hI j p (by omega) aa
  unfold Re.B2
  have l1 : Js x.Batch = true ↔ 0 ≤ x.Batch ∧ x.Batch < 1000 := by unfold Js; simp
  refine P8 (fun h => ?_) fun h => ?_
  ·rw [← Bool.not_eq_true, l1] at h
   exact M (fun G => h G.1) _
  have h := l1.1 h
  refine A8 (fun h0 => M (fun G => by have := G.2.1; omega) _) fun h0 => A8 (fun h1 => M (fun G => by have := G.2.2.1; omega) _) fun h1 => A8 (fun hk => ?_) fun hk => W ⟨h, by omega, by omega, fun q h0 => by omega⟩
  rw [Be (by omega)]
  refine .bind' (.ix' (by omega) (by omega) fun j y Y hy => ?_)
  obtain rfl : j = k - 1 := by omega
  dsimp only
  cases hb : (x.Batch == y.Batch) with
  | true => exact M (fun G => G.2.2.2 y (by omega) hy (by simpa using (beq_iff_eq.1 hb).symm)) _
  | false => exact W ⟨h, by omega, by omega, fun q _ hq => by rw [hy] at hq; cases hq; intro he; rw [he] at hb; simp at hb⟩
 ·rintro _ ⟨rfl, hI⟩
  simp only [Sum.elim_inl]
  unfold Re.J1
  rw [List.take_length]
  refine .pure ?_
  rw [decide_eq_true_eq, V9]
  exact ⟨fun O => ⟨by omega, fun k p G => hI k p (gs G).1 G, O⟩, fun O => O.2.2⟩
 ·rintro _ ⟨rfl, hn⟩
  exact .pure (by simp only [Bool.false_eq_true, false_iff]; exact hn)
theorem kN (i : Nat) : ∀ (c : List Nat) (X : Li), (Hu i c X).length ≤ X.length
 | [], _ => by simp [Hu]
 | _ :: _, [] => by simp [Hu]
 | c :: cs, x :: xs => by
  have := kN i cs xs
  simp only [Hu]
  split <;> simp <;> omega
section
variable {n : Nw} {p : Plan} {g od : Li} {fs : List (List Piece)} {F0 : Nat → Li}
def Qi (fs : List (List Piece)) : Prop := ∀ (k : Nat) (f : List Piece), fs[k]? = some f → Vd f
def Xa (n : Nw) (fs : List (List Piece)) : Prop := ∀ (k : Nat) (f : List Piece) (s : Sg), fs[k]? = some f → n.Segments[k]? = some s → vol f = s.Capacity
def FilRes (n : Nw) (fs : List (List Piece)) (e r : Int) : Prop := (e ≠ 0 ∧ r = e) ∨ (e = 0 ∧ ((fs.length ≠ n.Segments.length ∧ r = 9) ∨ (fs.length = n.Segments.length ∧ ((¬ Qi fs ∧ r = 9) ∨ (Qi fs ∧ ((¬ Xa n fs ∧ r = 14) ∨ (Xa n fs ∧ r = 0)))))))
theorem FilRes.uniq {e r r' : Int} (h : FilRes n fs e r) (h' : FilRes n fs e r') : r = r' := by
 rcases h with ⟨a, rfl⟩ | ⟨a, ⟨b, rfl⟩ | ⟨b, ⟨c, rfl⟩ | ⟨c, ⟨d, rfl⟩ | ⟨d, rfl⟩⟩⟩⟩ <;>
  rcases h' with ⟨G, rfl⟩ | ⟨G, ⟨M, rfl⟩ | ⟨M, ⟨O, rfl⟩ | ⟨O, ⟨W, rfl⟩ | ⟨W, rfl⟩⟩⟩⟩ <;> first | rfl | contradiction
theorem Zc {B : Nat → List Piece → Unit → Option (Unit ⊕ Int)} (hl : fs.length = n.Segments.length) (hv : Qi fs) (Y : ∀ (k : Nat) (f : List Piece) (s : Sg), fs[k]? = some f → n.Segments[k]? = some s → B k f () = if (vol f != s.Capacity) = true then some (.inr 14) else some (.inl ())) :
  Ok (forL B 0 fs ()) fun o => (¬ Xa n fs ∧ o = .inr 14) ∨ (Xa n fs ∧ o = .inl ()) := by
 have hs : ∀ (k : Nat) (f : List Piece), fs[k]? = some f → ∃ s, n.Segments[k]? = some s := fun k f G => Cn (by have := (gs G).1; omega)
 refine (uX (d := 14) (P := fun k f => ∃ s, n.Segments[k]? = some s ∧ vol f ≠ s.Capacity) fun k f G => ?_).mono ?_
 ·obtain ⟨s, M⟩ := hs k f G
  rw [Y k f s G M]
  refine .test ?_
  rw [bne_iff_ne]
  exact ⟨fun h => ⟨s, M, h⟩, fun ⟨s', W, h⟩ => by rw [M] at W; cases W; exact h⟩
 ·rintro o (⟨⟨k, f, G, s, M, O⟩, rfl⟩ | ⟨h, rfl⟩)
  ·exact .inl ⟨fun Z => O (Z k f s G M), rfl⟩
  ·exact .inr ⟨fun k f s G M => Classical.not_not.1 fun O => h k f G ⟨s, M, O⟩, rfl⟩
theorem aG (n : Nw) (fs : List (List Piece)) : ∃ r, Hl n fs = some r ∧ Lw n fs = some r ∧ (r = 0 → NetC n ∧ ∃ F0, Fil n fs F0) := by
 obtain ⟨e, n1, n2, n3⟩ := Kn n
 have A : Ok (Hl n fs) (FilRes n fs e) := by
  unfold Hl
  refine .bind' (.eq n1 (Ec (fun h => .pure (.inl ⟨h, rfl⟩)) fun O => Ec (fun h => .pure (.inr ⟨O, .inl ⟨by omega, rfl⟩⟩)) fun hl => ?_))
  refine .bind (Q := fun b => b = true ↔ ¬ Qi fs) ?_ fun b W => ?_
  ·unfold Ry Qt
   refine .bind (Q := fun r : Int => 0 ≤ r ↔ ¬ Qi fs) (.bind' (.forL (fun k _ => ∀ (j : Nat) (f : List Piece), j < k → fs[j]? = some f → Vd f) (fun b => 0 ≤ b ∧ ¬ Qi fs) (fun j f h => absurd h (Nat.not_lt_zero _)) ?_ ?_ ?_)) fun r hr => .pure (by rw [decide_eq_true_eq]; exact hr)
   ·intro k f _ G hI
    unfold Qt.B2 N0
    refine .bind (Q := fun b => b = true ↔ ¬ Vd f) (.bind (Ub f) fun b W => .pure (by rw [Bool.not_eq_true', ← Bool.not_eq_true, W])) fun b W => ?_
    refine Bo (fun h => .pure ⟨by omega, fun ha => W.1 h (ha k f G)⟩) fun h => .pure fun j f' hj Y => ?_
    by_cases e : j = k
    ·subst e; rw [G] at Y; cases Y
     exact Classical.not_not.1 fun Z => by rw [W.2 Z] at h; cases h
    ·exact hI j f' (by omega) Y
   ·intro _ hI
    exact .pure ⟨fun h => by omega, fun Z => absurd (fun k f G => hI k f (gs G).1 G) Z⟩
   ·rintro b ⟨h1, h2⟩
    exact .pure ⟨fun _ => h2, fun _ => h1⟩
  ·unfold Hl.J1
   refine Cw W (fun h => .pure (.inr ⟨O, .inr ⟨by omega, .inl ⟨h, rfl⟩⟩⟩)) fun M => ?_
   have M := Classical.not_not.1 M
   refine .bind (Zc (n := n) (by omega) M fun k f s G hk => ?_) ?_
   ·unfold Hl.B3
    rw [Ua (M k f G), Option.bind_some, A1 hk, Option.bind_some]
   ·rintro _ (⟨h, rfl⟩ | ⟨h, rfl⟩)
    ·exact .pure (.inr ⟨O, .inr ⟨by omega, .inr ⟨M, .inl ⟨h, rfl⟩⟩⟩⟩)
    ·exact .pure (.inr ⟨O, .inr ⟨by omega, .inr ⟨M, .inr ⟨h, rfl⟩⟩⟩⟩)
 have B : Ok (Lw n fs) (FilRes n fs e) := by
  unfold Lw
  refine .bind' (.eq n2 (Ec (fun h => .pure (.inl ⟨h, rfl⟩)) fun O => Ec (fun h => .pure (.inr ⟨O, .inl ⟨by omega, rfl⟩⟩)) fun hl => ?_))
  refine .bind (uX (d := 9) (P := fun k f => ¬ Vd f) fun k f G => ?_) ?_
  ·unfold Lw.B4
   exact .bind (Po f) fun b W => .test (by rw [Bool.not_eq_true', ← Bool.not_eq_true, W])
  ·rintro _ (⟨⟨k, f, G, Z⟩, rfl⟩ | ⟨h, rfl⟩)
   ·exact .pure (.inr ⟨O, .inr ⟨by omega, .inl ⟨fun M => Z (M k f G), rfl⟩⟩⟩)
   have M : Qi fs := fun k f G => Classical.not_not.1 (h k f G)
   simp only [Sum.elim_inl]
   unfold Lw.J1
   refine .bind (Zc (n := n) (by omega) M fun k f s G hk => ?_) ?_
   ·unfold Lw.B3
    have := (M k f G).vol
    rw [Si (M k f G).nn (by omega), Option.bind_some, A1 hk, Option.bind_some]
   ·rintro _ (⟨h, rfl⟩ | ⟨h, rfl⟩)
    ·exact .pure (.inr ⟨O, .inr ⟨by omega, .inr ⟨M, .inl ⟨h, rfl⟩⟩⟩⟩)
    ·exact .pure (.inr ⟨O, .inr ⟨by omega, .inr ⟨M, .inr ⟨h, rfl⟩⟩⟩⟩)
 obtain ⟨r, a1, a2⟩ := A
 obtain ⟨r', b1, b2⟩ := B
 obtain rfl := a2.uniq b2
 refine ⟨r, a1, b1, ?_⟩
 rintro rfl
 rcases a2 with ⟨a, b⟩ | ⟨O, ⟨_, h⟩ | ⟨hl, ⟨_, h⟩ | ⟨M, ⟨_, h⟩ | ⟨hc, _⟩⟩⟩⟩
 ·exact absurd b.symm a
 ·cases h
 ·cases h
 ·cases h
 subst O
 have gv : ∀ i, i < n.Segments.length → ∃ f, fs[i]? = some f ∧ fs.getD i [] = f := fun i hi => by
  obtain ⟨f, G⟩ := Cn (l := fs) (k := i) (by omega)
  exact ⟨f, G, by rw [List.getD_eq_getElem?_getD, G]; rfl⟩
 refine ⟨n3.c n1, fun i => lit (fs.getD i []), ⟨⟨hl, fun i hi => ?_⟩, fun i hi => ?_, fun i s hs => ?_⟩⟩
 ·obtain ⟨f, G, e⟩ := gv i hi
  rw [e, Pz (M i f G).can]; exact G
 ·obtain ⟨f, G, e⟩ := gv i hi
  rw [e, Pz (M i f G).can]; exact M i f G
 ·obtain ⟨f, G, e⟩ := gv i (gs hs).1
  rw [e, D3 (M i f G).nn]; exact hc i f s G hs
theorem lV (n : Nw) (fs : List (List Piece)) (p : Plan) (g : Li) : ∃ r, Rh n fs p g = some r ∧ (r ≠ 0 ∧ Nr n fs p g = some (none, r) ∨ r = 0 ∧ Ln n p g ∧ ∃ F0, Fil n fs F0) := by
 obtain ⟨e, h1, h2, h3⟩ := aG n fs
 obtain ⟨f, g1, g2, g3⟩ := S3 n p
 unfold Rh Nr Wg
 rw [h1, h2, g1, g2]
 simp only [Option.bind_some]
 have G : ∀ {x : Int}, x ≠ 0 → (x != 0) = true := fun h => by simpa using h
 by_cases O : e = 0
 case neg => exact ⟨e, by simp only [G O, if_true], .inl ⟨O, by simp only [G O, if_true]⟩⟩
 subst O
 by_cases W : f = 0
 case neg => exact ⟨f, by simp only [bne_self_eq_false, Bool.false_eq_true, if_false, G W, if_true], .inl ⟨W, by simp only [bne_self_eq_false, Bool.false_eq_true, if_false, G W, if_true, Option.bind_some]⟩⟩
 subst W
 obtain ⟨hn, F0, hF⟩ := h3 rfl
 obtain ⟨_, hp⟩ := g3 rfl
 obtain ⟨od, o1, _⟩ := He hn hp.rl
 simp only [bne_self_eq_false, Bool.false_eq_true, if_false, o1, Option.bind_some]
 by_cases hl : g.length = n.Ports.length
 case neg =>
  have M : ((g.length : Int) != (n.Ports.length : Int)) = true := by simp; omega
  exact ⟨9, by simp only [M, if_true], .inl ⟨by simp, by simp only [M, if_true]; rfl⟩⟩
 have M : ((g.length : Int) != (n.Ports.length : Int)) = false := by simp; omega
 simp only [M, Bool.false_eq_true, if_false]
 have ab : Ok (forL Rh.B2 0 g ()) fun o => ((∃ (k : Nat) (x : Int), g[k]? = some x ∧ ¬ (0 ≤ x ∧ x < 1000)) ∧ o = .inr 9) ∨ ((∀ (k : Nat) (x : Int), g[k]? = some x → ¬ ¬ (0 ≤ x ∧ x < 1000)) ∧ o = .inl ()) :=
  uX (d := 9) (P := fun _ x => ¬ (0 ≤ x ∧ x < 1000)) fun k x hx => by
   unfold Rh.B2 Js
   exact .test (by simp; omega)
 have Y : Jk g (fun x => some (G3 x)) = some (g.any G3) := Ef (P := G3) fun k x hx => rfl
 have aa : g.any G3 = true ↔ ∃ (k : Nat) (x : Int), g[k]? = some x ∧ ¬ (0 ≤ x ∧ x < 1000) := Iw fun k x _ => by unfold G3; simp; omega
 rw [Y, Option.bind_some]
 obtain ⟨o, k1, k2⟩ := ab
 rw [k1, Option.bind_some]
 rcases k2 with ⟨M, rfl⟩ | ⟨M, rfl⟩
 ·refine ⟨9, rfl, .inl ⟨by simp, ?_⟩⟩
  unfold Nr.J1
  rw [aa.2 M]; rfl
 ·refine ⟨0, rfl, .inr ⟨rfl, ⟨hn, hp, hl, fun b Z => ?_⟩, F0, hF⟩⟩
  obtain ⟨k, hk⟩ := List.getElem?_of_mem Z
  exact Classical.not_not.1 (M k b hk)
theorem tR {f : Nat → Bool → Option Bool} {m : Nat} {M : Bool} (Q : Nat → Prop) (h : ∀ i st, i < m → Ok (f i st) fun b => b = true ↔ (st = true ∨ Q i)) : Ok (forJ f 0 m M) fun b => b = true ↔ (M = true ∨ ∃ i, i < m ∧ Q i) := by
 refine .forJ (fun k st => st = true ↔ (M = true ∨ ∃ i, i < k ∧ Q i)) (by simp) (fun k st Z O => (h k st Z).mono fun b W => ?_) fun _ h => h
 rw [W, O]
 constructor
 ·rintro ((h | ⟨i, Y, G⟩) | h)
  ·exact .inl h
  ·exact .inr ⟨i, by omega, G⟩
  ·exact .inr ⟨k, by omega, h⟩
 ·rintro (h | ⟨i, Y, G⟩)
  ·exact .inl (.inl h)
  ·by_cases e : i = k
   ·subst e; exact .inr G
   ·exact .inl (.inr ⟨i, by omega, G⟩)
theorem eB (Y : Ln n p g) (hr : Rh n fs p g = some 0) (h : Fil n fs F0) (ho : Hm n p = some od) (ht : Topo n p od) : Ok (Fx n fs p g) (TickA n p g F0 od) := by
 have s1 := Y.net.segs1; have s2 := Y.net.ports1
 have hfl := h.rp.len
 have bF : ∀ i, i < n.Segments.length → bZ (F0 i) := fun i G => by have := (h.vd i G).bat; rw [D2] at this; exact this
 have lF : ∀ i, i < n.Segments.length → (F0 i).length ≤ 1000000 := fun i G => by have := (h.vd i G).vol; rw [C5] at this; omega
 have hord : Wz n p = some (od, 0) := by
  obtain ⟨f, g1, g2, _⟩ := S3 n p
  rw [Tg Y.net Y.flow] at g1; cases g1
  unfold Wz
  rw [g2, Option.bind_some, if_neg (by simp), bB Y.net Y.flow, ho]; rfl
 unfold Fx
 refine .bind' (.eq hr ?_)
 rw [if_neg (by simp)]
 refine .bind' (.mk fs.length rfl (by omega) (.bind' (.mk n.Ports.length rfl (by omega) ?_)))
 unfold Fx.J1
 refine .bind' (.mk fs.length rfl (by omega) ?_)
 dsimp only
 rw [hfl]
 have aa : ∀ m : Nat, Rp m (List.replicate m []) fun _ => [] := fun m => ⟨by simp, fun i G => by rw [List.getElem?_replicate, if_pos G]; rfl⟩
 refine .bind (Q := fun r => Rp n.Segments.length r F0) (.forS (fun k r => Rp n.Segments.length r fun i => if i < k then F0 i else []) ((aa _).congr fun i _ => by rw [if_neg (by omega)]) ?_ fun r hr => hr.congr fun i G => by rw [if_pos (by omega)]) ?_
 ·intro k f r hf hrr
  have hk := (gs hf).1
  have e := h.rp.get k (by omega)
  rw [hf] at e; cases e
  have := (h.vd k (by omega)).len
  unfold Fx.B27
  refine .bind' (.app (by simp; omega) (.bind' (.eq (A1 (hrr.get k (by omega))) (.pure ?_))))
  dsimp only
  rw [List.nil_append]
  refine (hrr.set (i := k) (F0 k)).congr fun i G => ?_
  unfold La
  by_cases e : i = k
  ·subst e; rw [if_pos rfl, if_pos (by omega)]
  ·rw [if_neg e]
   dsimp only
   by_cases h2 : i < k
   ·rw [if_pos h2, if_pos (by omega)]
   ·rw [if_neg h2, if_neg (by omega)]
 intro nx hnx
 unfold Fx.J2
 refine .bind' (.eq hord ?_)
 dsimp only
 refine .bind (Q := fun M : List (List Piece) × List (List Piece) × List (List Piece) × Bool => Left n (rn n p g F0 od) (M.1, M.2.2.1, M.2.1) ∧ (M.2.2.2 = true ↔ ∃ (j : Nat) (v : Int), j < od.length ∧ od[j]? = some v ∧ 200 < (Cm (Eg n p g (rn n p g F0 (od.take j)).2.1 v)).length))
  (.forJ (fun k M => Left n (rn n p g F0 (od.take k)) (M.1, M.2.2.1, M.2.1) ∧ (M.2.2.2 = true ↔ ∃ (j : Nat) (v : Int), j < k ∧ od[j]? = some v ∧ 200 < (Cm (Eg n p g (rn n p g F0 (od.take j)).2.1 v)).length)) ⟨⟨hnx, aa _, aa _⟩, by simp⟩ ?_ fun M h => by rw [List.take_length] at h; exact h) ?_
 ·rintro k M hk ⟨h1, h2⟩
  obtain ⟨v, O⟩ := Cn hk
  have G := Wb Y ht bF k (by omega)
  obtain ⟨v0, v1⟩ := ht.rng v (mg O)
  have hs := ht.topo k v O
  obtain ⟨w, rfl⟩ := Et v0
  unfold Fx.B10
  refine .bind' (.eq (A1 O) ?_)
  refine (rW Y (by omega) h1 (fun i Z => by rw [G.lF]; exact lF i Z) (fun i Z => ⟨G.bG i Z, G.len1000 Y Z⟩) (G.lG hs)).mono fun q hq => ⟨?_, ?_⟩
  ·rw [List.take_add_one, O]
   show Left n (rn n p g F0 (od.take k ++ [(w : Int)])) _
   rw [Ir]; exact hq.1
  ·rw [hq.2, h2]
   constructor
   ·rintro (⟨j, x, hj, W⟩ | W)
    ·exact ⟨j, x, by omega, W⟩
    ·exact ⟨k, w, by omega, O, W⟩
   ·rintro ⟨j, x, hj, W, hlt⟩
    by_cases e : j = k
    ·subst e; rw [O] at W; cases W; exact .inr hlt
    ·exact .inl ⟨j, x, by omega, W, hlt⟩
 rintro ⟨a, b, c, lo⟩ ⟨⟨e1, e2, e3⟩, hlo⟩
 dsimp only at e1 e2 e3 hlo
 unfold Fx.J3
 dsimp only
 rw [e1.len]
 refine .bind (tR (fun i => 200 < (Cm ((rn n p g F0 od).1 i)).length ∨ 200 < (Cm ((rn n p g F0 od).2.1 i)).length) fun i M G => ?_) fun l2 hl2 => ?_
 ·unfold Fx.B8 Fx.J9
  refine Bo (fun h => .pure (by simp [h])) fun h => ?_
  refine .bind' (.eq (A1 (e1.get i G)) (A8 (fun h => .pure ?_) fun h => .bind' (.eq (A1 (e2.get i G)) (.pure ?_))))
  ·dsimp only at h; simp; exact .inr (.inl (by omega))
  ·dsimp only at h ⊢; rw [decide_eq_true_eq]; constructor
   ·intro h'; exact .inr (.inr (by omega))
   ·rintro (h' | h' | h')
    ·simp_all
    ·omega
    ·omega
 unfold Fx.J4
 dsimp only
 rw [e3.len]
 refine .bind (tR (fun i => 200 < (Cm ((rn n p g F0 od).2.2 i)).length) fun i M G => ?_) fun l3 hl3 => ?_
 ·unfold Fx.B6 Fx.J7
  refine Bo (fun h => .pure (by simp [h])) fun h => .bind' (.eq (A1 (e3.get i G)) (.pure ?_))
  dsimp only; rw [decide_eq_true_eq]; constructor
  ·intro h'; exact .inr (by omega)
  ·rintro (h' | h')
   ·simp_all
   ·omega
 have hall : l3 = true ↔ Lng n p g F0 od := by
  rw [hl3, hl2, hlo]
  constructor
  ·rintro ((⟨j, v, _, O, W⟩ | h) | h)
   ·exact ⟨.inl ⟨j, v, O, W⟩⟩
   ·exact ⟨.inr (.inl h)⟩
   ·exact ⟨.inr (.inr h)⟩
  ·rintro ⟨⟨j, v, O, W⟩ | h | h⟩
   ·exact .inl (.inl ⟨j, v, (gs O).1, O, W⟩)
   ·exact .inl (.inr h)
   ·exact .inr h
 unfold Fx.J5
 exact Cw hall (fun h => .pure (.inl ⟨h, rfl⟩)) fun h => .pure (.inr ⟨h, rfl, e1, e3⟩)
theorem kP (M : Ln n p g) (G : Topo n p od) (bF : ∀ i, i < n.Segments.length → bZ (F0 i)) : ∀ k, k ≤ od.length → ∀ j, ((rn n p g F0 (od.take k)).2.2 j).length ≤ 56000
 | 0, _, j => by simp [rn]
 | k + 1, hk, j => by
  obtain ⟨v, O⟩ := Cn (l := od) (k := k) (by omega)
  have W := G.rng v (mg O)
  have h := Wb M G bF k (by omega)
  have Z := kP M G bF k (by omega) j
  have Y := G.topo k v O
  obtain ⟨w, rfl⟩ := Et W.1
  obtain ⟨_, _, h3⟩ := Mt M (v := w) (by omega) (h.lG Y)
  rw [List.take_add_one, O]
  show ((rn n p g F0 (od.take k ++ [(w : Int)])).2.2 j).length ≤ 56000
  rw [Ir]
  dsimp only [nd]
  split
  ·exact Nat.le_trans (kN _ _ _) (by omega)
  ·exact Z
theorem Yg (n : Nw) (fs : List (List Piece)) (p : Plan) (g : Li) : ∃ q, Jt n fs p g = some q ∧ Fx n fs p g = some q ∧ (q.2.2 = 0 → q.2.1.length = n.Ports.length ∧ ∀ f, f ∈ q.2.1 → (∀ x, x ∈ f → 1 ≤ x.Volume) ∧ vol f ≤ 56000) := by
 obtain ⟨r, Y, ⟨G, h2⟩ | ⟨rfl, O, F0, M⟩⟩ := lV n fs p g
 ·refine ⟨([], [], r), ?_, ?_, fun h => absurd h G⟩
  ·unfold Jt
   rw [h2, Option.bind_some]
   unfold tL
   dsimp only
   rw [if_pos (by simpa using G)]
  ·unfold Fx
   rw [Y, Option.bind_some, if_pos (by simpa using G)]
 ·obtain ⟨q, a1, od, o1, o2, o3, a2⟩ := qG O M
  obtain ⟨q', b1, W⟩ := eB O Y M o1 o2
  rw [a1, b1, a2.uniq W]
  refine ⟨q', rfl, rfl, fun G => ?_⟩
  rcases W with ⟨_, rfl⟩ | ⟨_, _, _, c⟩
  ·cases G
  ·refine ⟨c.len, fun f hf => ?_⟩
   obtain ⟨k, Z⟩ := List.getElem?_of_mem hf
   have e := c.get k (by rw [← c.len]; exact (gs Z).1)
   rw [Z] at e; cases e
   have := kP O o2 (F0 := F0) (fun i hi => by have := (M.vd i hi).bat; rw [D2] at this; exact this) od.length (by omega) k
   rw [List.take_length] at this
   exact ⟨(El _).pos, by rw [C5]; omega⟩
end
end Go.Proofs.YtaoclefkknloiaaGreat
