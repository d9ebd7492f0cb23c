/- Plain proofs. No condition. -/
import Derived.Test.YtkhcdkioehdndaaGreatDoorZwP0
import Derived.Test.YtkhcdkioehdndaaGreatDoorZwB1
import Derived.ProofKit
import Derived.SizedLaws
import Derived.Carry
import Derived.OpenShut
import Derived.ChangeSame
import Derived.LaidMore
import Derived.MakeChecks
import Derived.Stop.Joined
set_option maxRecDepth 100000
namespace Go.Proofs.YtkhcdkioehdndaaGreatDoor
set_option linter.unusedVariables false
set_option linter.unusedSimpArgs false
open Go.Aw
theorem Vh {f : List Piece} (h : ∀ p, p ∈ f → 1 ≤ p.Volume) {b : Int} {k k' : Nat} (h1 : Br (f.take k) < b) (h2 : b ≤ Br (f.take (k + 1))) (G : Br (f.take k') < b) (M : b ≤ Br (f.take (k' + 1))) : k = k' := by
 rcases Nat.lt_trichotomy k k' with D | D | D
 ·have := Ln h (show k + 1 ≤ k' from D); omega
 ·exact D
 ·have := Ln h (show k' + 1 ≤ k from D); omega
theorem Pq {D : List Point} (ha : Zm D) {b : Int} {p p' : Nat} {u v G v' : Point} (h1 : D[p]? = some u) (h2 : D[p + 1]? = some v) (M : D[p']? = some G) (h4 : D[p' + 1]? = some v')
  (b1 : u.At < b) (Z : b ≤ v.At) (b3 : G.At < b) (b4 : b ≤ v'.At) : p = p' := by
 have Y : ∀ {p p' : Nat} {v G : Point}, D[p + 1]? = some v → D[p']? = some G → b ≤ v.At → G.At < b → p < p' → False := by
  intro p p' v G h2 M Z b3 hp
  rcases Nat.lt_or_ge (p + 1) p' with h | h
  ·have := ha _ _ _ _ h h2 M; omega
  ·have : p' = p + 1 := by omega
   subst this
   rw [h2] at M; cases M; omega
 rcases Nat.lt_trichotomy p p' with O | O | O
 ·exact (Y h2 M Z b3 O).elim
 ·exact O
 ·exact (Y h4 h1 b4 b1 O).elim
theorem PointsOk.map {cap : Int} {l : List Point} (h : PointsOk cap l) {g : Point → Point} (Y : ∀ p, (g p).At = p.At) (hH : ∀ p, p ∈ l → -500 ≤ (g p).Height ∧ (g p).Height ≤ 5000)
  (hL : ∀ p, p ∈ l → 0 ≤ (g p).Limit ∧ (g p).Limit ≤ 100000000) : PointsOk cap (l.map g) := by
 have D : ∀ {i : Nat} {p : Point}, (l.map g)[i]? = some p → ∃ q, l[i]? = some q ∧ g q = p := fun {i p} hi => by simpa using hi
 have O : ∀ {p : Point}, p ∈ l.map g → ∃ q, q ∈ l ∧ g q = p := fun {p} hi => by simpa using hi
 refine ⟨by rw [List.length_map]; exact h.len, fun p G => ?_, fun p G => ?_, fun i p q G hq => ?_, fun p G => ?_, fun p G => ?_⟩
 ·obtain ⟨q, M, rfl⟩ := D G
  rw [Y]; exact h.first q M
 ·rw [List.length_map] at G
  obtain ⟨q, M, rfl⟩ := D G
  rw [Y]; exact h.last q M
 ·obtain ⟨q1, M, rfl⟩ := D G
  obtain ⟨q2, Z, rfl⟩ := D hq
  rw [Y, Y]; exact h.up i q1 q2 M Z
 ·obtain ⟨q, M, rfl⟩ := O G
  exact hH q M
 ·obtain ⟨q, M, rfl⟩ := O G
  exact hL q M
def Jd (h : Int) (p : Point) : Point := { p with Height := h }
def Cy (h : Int) (s : Sg) : Sg := { s with Points := s.Points.map (Jd h) }
theorem C3 (h : Int) (s : Sg) (f : List Piece) : E9 (Cy h s) f = E9 s f := by
 unfold E9 Cy
 rw [show (s.Points.map (Jd h)).map (·.At) = s.Points.map (·.At) by rw [List.map_map]; rfl]
theorem Rj {h : Int} (G : -500 ≤ h ∧ h ≤ 5000) {s : Sg} (D : SegG s) : SegG (Cy h s) :=
 ⟨D.name, D.cap, D.resist, D.wave, D.points.map (fun _ => rfl) (fun _ _ => G) D.points.limit⟩
theorem IsPart.flat {h : Int} {s : Sg} {f : List Piece} {l : List Product} {i : Nat} {x y : gradient_part} (hs : SegG s) (hf : FillOk s.Capacity f) (hx : IsPart s f l i x) (hy : IsPart (Cy h s) f l i y) : y = flat x := by
 obtain ⟨a, b, p, u, v, k, y0, h1, h2, h3, h4, h5, h6, h7, h8, h9, O, rfl⟩ := hx
 obtain ⟨a', b', p', u', v', k', y1, g1, g2, g3, g4, g5, g6, g7, g8, g9, D, rfl⟩ := hy
 rw [C3, h1] at g1; cases g1
 rw [C3, h2] at g2; cases g2
 obtain ⟨Y, G, rfl⟩ : ∃ Y, s.Points[p']? = some Y ∧ Jd h Y = u' := by simpa [Cy] using g3
 obtain ⟨Z, M, rfl⟩ : ∃ Z, s.Points[p' + 1]? = some Z ∧ Jd h Z = v' := by simpa [Cy] using g4
 obtain rfl := Pq hs.points.asc h3 h4 G M h5 h6 g5 g6
 rw [h3] at G; cases G
 rw [h4] at M; cases M
 obtain rfl := Vh (fun p hp => hf.vol p hp) h7 h8 g7 g8
 rw [O] at D; cases D
 simp [Jd, Go.Proofs.YtkhcdkioehdndaaGreatDoor.flat]
theorem Ps {h : Int} {s : Sg} {f : List Piece} {l : List Product} {W V : List gradient_part} (Y : SegG s) (hf : FillOk s.Capacity f) (O : Parts s f l W) (M : Parts (Cy h s) f l V) : V = W.map flat := by
 have Z : V.length = W.length := by have := O.len; have := M.len; rw [C3] at this; omega
 apply List.ext_getElem?
 intro i
 by_cases hi : i < W.length
 ·have D : W[i]? = some (W[i]'hi) := gq _
  have G : V[i]? = some (V[i]'(by omega)) := gq _
  rw [G, List.getElem?_map, D, (O.all _ _ D).flat Y hf (M.all _ _ G)]; rfl
 ·rw [List.getElem?_eq_none (by omega), List.getElem?_eq_none (by simp; omega)]
theorem Vd {s : Sg} {x : gradient_part} (G : 0 ≤ s.Resist) (D : PartOk s x) {q q' : Int} (M : 1 ≤ q) (h : q ≤ q') : 0 ≤ O7 s q x ∧ O7 s q x ≤ O7 s q' x := by
 have O := D.length; have Y := D.friction
 have a : 0 ≤ s.Resist * x.liquid.Friction := Int.mul_nonneg G (by omega)
 have b : s.Resist * x.liquid.Friction * q ≤ s.Resist * x.liquid.Friction * q' := Int.mul_le_mul_of_nonneg_left h a
 have c : 0 ≤ s.Resist * x.liquid.Friction * q := Int.mul_nonneg a (by omega)
 have d : s.Resist * x.liquid.Friction * q * q ≤ s.Resist * x.liquid.Friction * q' * q' := Int.mul_le_mul b h (by omega) (by omega)
 unfold O7
 exact ⟨Int.mul_nonneg (Int.mul_nonneg c (by omega)) (by omega), Int.mul_le_mul_of_nonneg_right d (by omega)⟩
theorem Ih {s : Sg} {x : gradient_part} (hc : 1 ≤ s.Capacity) (hr : 0 ≤ s.Resist) (hx : PartOk s x) (Z : x.height = 0) {q G : Int} (Y : 1 ≤ q) (h : q ≤ G) :
  0 ≤ lo s q x ∧ 0 ≤ hi s q x ∧ lo s q x ≤ lo s G x ∧ hi s q x ≤ hi s G x := by
 have D : 0 < P9 s := by unfold P9; omega
 have hz : Qv x = 0 := by unfold Qv; rw [Z]; simp
 obtain ⟨M, O⟩ := Vd hr hx Y h
 unfold lo hi
 rw [hz, Xn, Wy]
 have a := Lv D M; have b := Q8 D M; have c := Xo D O; have d := Wz D O
 omega
theorem Lf (l : Li) (a b : Int) (ha : 0 ≤ a ∧ a ≤ 65535) (hb : 0 ≤ b ∧ b ≤ 65535) : Mm l a b = some true := by
 have : Ok (Mm l a b) fun x => x = true := by
  unfold Mm
  refine .bind (Yr l) fun d hd => .bind (Uw hd) ?_
  rintro ⟨s, f, bs, p, d2⟩ ⟨D, hd2⟩
  dsimp only at D hd2 ⊢
  have e1 : forJ Mm.B6 0 s.Points.length s.Points = some (s.Points.map (Jd 7)) := Qo _ fun k m x G hm => by
   unfold Mm.B6
   rw [B8 hm]; rfl
  refine .bind' (.eq e1 ?_)
  obtain ⟨l, hl1, hl2, hl3⟩ := Yw D.fill D.bats
  obtain ⟨W, hW, hP, hA⟩ := Of D.seg D.fill D.prods hl1 hl2 hl3
  obtain ⟨V, hV, Y, hAV⟩ := Of (Rj (h := 7) (by decide) D.seg) D.fill D.prods hl1 hl2 hl3
  have hVW := Ps D.seg D.fill hW hV
  have Z : ∀ x, x ∈ V → x.height = 0 := fun x G => by
   rw [hVW] at G
   obtain ⟨y, _, rfl⟩ := List.mem_map.1 G
   rfl
  have hc := D.seg.cap
  have hr := D.seg.resist
  have hpl := D.seg.points.len
  have hfl := D.fill.len
  have hbl := M4 s f
  have hb2 := M2 D.seg.points hc.1 D.fill
  have M : ∀ q O : Int, 1 ≤ q → q ≤ O → O ≤ 1000 → Ok (Mm.J2 (s, f, bs, p, d2) (s.Points.map (Jd 7)) (q, O)) fun x => x = true := by
   intro q O h0 h h9
   unfold Mm.J2
   dsimp only
   refine .bind' (.eq (hAV q ⟨5000000, 5000000⟩ (by omega) (by omega) (by omega) (by decide) (by decide) (by decide)) (.bind' (.eq (hAV O ⟨5000000, 5000000⟩ (by omega) (by omega) (by omega) (by decide) (by decide) (by decide)) ?_)))
   refine Bn (fun h => ?_) fun _ => ?_
   ·simp [Ly, C3] at h; omega
   have lv : ∀ (q : Int), 1 ≤ q → ∀ i, i < (E9 s f).length → (Jf (Cy 7 s) f V q ⟨5000000, 5000000⟩)[i]? = some (Wn (Cy 7 s) q ⟨5000000, 5000000⟩ (E9 s f) V i) := fun q hq i hi => by
    rw [Ro _ _ _ _ _ (by rw [C3]; exact hi)]
    unfold Yl Kl T7 Yi
    rw [if_neg (by omega), if_neg (by omega), if_neg (by omega), if_neg (by omega), C3]
   have mono : ∀ i, Ce (lo (Cy 7 s) q) (V.take i) ≤ Ce (lo (Cy 7 s) O) (V.take i) ∧ Ce (hi (Cy 7 s) q) (V.take i) ≤ Ce (hi (Cy 7 s) O) (V.take i) := fun i =>
    ⟨Kf fun x G => (Ih (s := Cy 7 s) hc.1 hr.1 (Y x (List.mem_of_mem_take G)) (Z x (List.mem_of_mem_take G)) h0 h).2.2.1, Kf fun x G => (Ih (s := Cy 7 s) hc.1 hr.1 (Y x (List.mem_of_mem_take G)) (Z x (List.mem_of_mem_take G)) h0 h).2.2.2⟩
   refine .bind' (.forI (fun _ _ => True) (fun _ => False) trivial ?_ ?_ fun _ h => h.elim)
   ·intro i _ aa _
    rw [Ly, C3] at aa
    have no : Ok (Mm.J5 false) (Sum.elim (fun _ : Unit => True) fun _ : Bool => False) := by
     unfold Mm.J5; exact .pure trivial
    obtain ⟨m1, m2⟩ := mono i
    unfold Mm.B4
    refine .bind' (.eq (B8 (lv O (by omega) i aa)) (.bind' (.eq (B8 (lv q h0 i aa)) ?_)))
    unfold Wn
    dsimp only
    refine Bd (fun h => by omega) fun _ => Bd (fun h => by omega) fun _ => Bd (fun hi0 => ?_) fun _ => no
    have hVl := hV.len
    rw [C3] at hVl
    have hv : V[i - 1]? = some (V[i - 1]'(by omega)) := gq _
    have s1 := Fo (lo (Cy 7 s) q) hv
    have s2 := Fo (hi (Cy 7 s) q) hv
    have hm := mg hv
    obtain ⟨n1, n2, -⟩ := Ih (s := Cy 7 s) hc.1 hr.1 (Y _ hm) (Z _ hm) h0 h
    rw [show i - 1 + 1 = i by omega] at s1 s2
    rw [A0 (by omega), show ((i : Int) - 1) = ((i - 1 : Nat) : Int) by omega]
    refine .bind' (.eq (B8 (lv q h0 (i - 1) (by omega))) ?_)
    unfold Wn
    dsimp only
    refine Bd (fun h => by omega) fun _ => ?_
    rw [decide_eq_false (by omega)]
    exact no
   ·intro _ _
    simp only [Sum.elim_inl]
    unfold Mm.J3
    rw [Xt]; exact .pure rfl
  unfold Mm.J1
  rw [A0 (x := a) (by omega), A0 (x := b) (by omega)]
  have t : ∀ x : Int, 0 ≤ x → 0 ≤ x.tmod 1000 ∧ x.tmod 1000 ≤ 999 := fun x G => by
   have := Int.tmod_lt_of_pos x (b := 1000) (by decide)
   have := Int.tmod_nonneg 1000 G
   omega
  have t1 := t (min a b) (by omega); have t2 := t (max a b) (by omega)
  rw [A0 (x := 1 + (min a b).tmod 1000) (by omega), A0 (x := 1 + (max a b).tmod 1000) (by omega)]
  exact Bd (fun h => M _ _ (by omega) (by omega) (by omega)) fun h => M _ _ (by omega) (by omega) (by omega)
 obtain ⟨x, h, rfl⟩ := this
 exact h
end Go.Proofs.YtkhcdkioehdndaaGreatDoor
namespace Go.Aw
set_option linter.unusedVariables false
set_option linter.unusedSimpArgs false
open Go.ChangeShapes Go.WideShapes Go.ChangeAt Go.RowKit
section
variable {H : Type} {enc : TypeId × Value → H} {P : Program}
theorem Gf (hl : laidOutB P = true) {W W' : World} (hb : Below W.heap.size W W') : ∀ {G : List TypeId} {vs : List Value} {ds : List (DataW H)} {D : List MemPlace},
  (∀ t, t ∈ G → P.readableRec t = true ∧ t < P.types.size) → (∀ x, x ∈ D → x.block < W.heap.size) → DataW.TrodAll enc P W 0 (fun _ => true) true G vs ds D →
  DataW.TrodAll enc P W' 0 (fun b => decide (b < W.heap.size)) true G vs ds D
 | [], vs, ds, D, _, _, h => by
  cases vs <;> cases ds <;> simp [DataW.TrodAll] at h ⊢
  exact h
 | t :: G, vs, ds, D, ht, hlt, h => by
  obtain ⟨v, vs', d, Z, p, q, rfl, rfl, rfl, h1, h2⟩ := trodAll_cons h
  have Y := ht t (by simp)
  exact ⟨p, q, Below.trod hl Y.1 Y.2 h1 hb (fun x O => hlt x (by simp [O])), Gf hl hb (fun t M => ht t (by simp [M])) (fun x O => hlt x (by simp [O])) h2, rfl⟩
theorem Vc {f : Func} {s : ChangeSpec} {W W' : World} {args : Array Value} {ds : List (DataW H)} {p : List MemPlace} {t : TypeId} (hW : DataW.Whole enc P f.params.toList s.vars false W args.toList ds [] (p ++ []))
  (hA : DataW.TrodAll enc P W 0 (fun _ => true) true f.params.toList args.toList ds p)
  (M : (s.fn H (ds ++ [])).results = [.lit (.bool true)]) (D : (s.fn H (ds ++ [])).args = ds) (hv : (s.fn H (ds ++ [])).vars = []) (Z : s.vars = [])
  (O : f.resultTypes.toList = [t]) (hu : P.underlying t = some .bool) (hl : laidOutB P = true) (G : ∀ t, t ∈ f.params.toList → P.readableRec t = true ∧ t < P.types.size)
  (hb : Below W.heap.size W W') : s.post enc P f false true false false W args (.bool true) W' := by
 have Y : ∀ x, x ∈ p → x.block < W.heap.size := fun x hx => hW.lt x (by simp [hx])
 have aa : f.resultTypes.size = 1 := by rw [← Array.length_toList, O]; rfl
 refine ⟨ds, [], p ++ [], [], p, [], hW, ?_, ?_, ?_, hb.frame _, fun h => by cases h⟩
 ·rw [M, O, aa]
  exact trodAll_mk1 (shut_bool hu true)
 ·rw [D]
  exact Gf hl hb G Y hA
 ·rw [hv, Z]; rfl
def Zc (k : IntKind) (l : Li) : T := .list 1 (l.map fun n => [.v (.int k n)])
theorem Rf {t e : TypeId} {k : IntKind} {W : World} {base : Nat} {r : Reach} {v : Value} {d : DataW H} {ps : List MemPlace} (ht : P.underlying t = some (.slice e)) (he : P.underlying e = some (.int k)) (hc : P.cellsOf e = 1)
  (hval : Value.okWide P W r base t v) (h : DataW.Trod enc P W 0 (fun _ => true) true t v d ps) :
  ∃ l : Li, (l.length ≤ Fl → VR (fun b => W.heap[b]?) v (Zc k l)) ∧ (∀ n, n ∈ l → (Lit.int k n).wf = true) ∧ (l = [] ∨ ∃ Z spare, d = .slice Z spare ∧ l.length = Z.length) := by
 obtain ⟨a0, len, cap, rfl⟩ := okWide_slice ht hval
 obtain ⟨fuel, hf⟩ := h
 rcases open_ints ht he hc hf with ⟨D, O⟩ | ⟨a, len', cap', Y, D, _, hl, hm, hz, O, aa, hwz⟩
 ·simp [Value.cells] at D
  obtain ⟨rfl, rfl, rfl⟩ := D
  exact ⟨[], fun _ => .empty _ _ _, by simp, .inl rfl⟩
 ·simp [Value.cells] at D
  obtain ⟨rfl, rfl, rfl⟩ := D
  simp only [Prod.mk.injEq] at O
  obtain ⟨rfl, rfl⟩ := O
  simp only [if_true] at hz
  have ah : (Y.take len).length = len := by simp; omega
  refine ⟨Y.take len, fun ai => ?_, fun n hn => hwz n (List.mem_of_mem_take hn), .inr ⟨_, _, rfl, by simp [lits]⟩⟩
  by_cases hl0 : len = 0
  ·subst hl0; simp only [List.take_zero, Zc, List.map_nil]; exact .empty _ _ _
  ·obtain ⟨b, G, spot⟩ := a
   have af : spot = none := by simpa [Addr.add] using World.cell?_spot (aa 0 (by omega))
   subst af
   have M : ∀ i, i < Y.length → W.cell? ⟨b, G + i, none⟩ = some (.int k (Y.getD i 0)) := fun i hi => by rw [← Ch]; exact aa i hi
   have ad := M 0 (by omega)
   have D : ∃ cs ty fr, W.heap[b]? = some (.cells cs ty fr) := by
    unfold World.cell? at ad
    split at ad
    ·rename_i c ty fr hh; exact ⟨_, _, _, hh⟩
    ·cases ad
   obtain ⟨cs, ty, fr, hh⟩ := D
   have ac : ∀ i, i < Y.length → cs[G + i]? = some (.int k (Y.getD i 0)) := fun i hi => by
    have := M i hi
    simpa [World.cell?, hh] using this
   have ab : ((Y.take len).map fun n => [T.v (.int k n)]).length = len := by rw [List.length_map, ah]
   have hbig : G + len ≤ cs.size := by
    have := (Array.getElem?_eq_some_iff.1 (ac (len - 1) (by omega))).1
    omega
   have ae : ∀ i e, ((Y.take len).map fun n => [T.v (.int k n)])[i]? = some e → ∀ (j : Nat) (x : T), e[j]? = some x → j = 0 ∧ x = .v (.int k (Y.getD i 0)) ∧ cs.getD (G + i * 1 + j) undef = .int k (Y.getD i 0) := by
    intro i e he j x O
    simp only [List.getElem?_map, Option.map_eq_some_iff] at he
    obtain ⟨n, hn, rfl⟩ := he
    have ag := (gs hn).1
    rw [ah] at ag
    rw [List.getElem?_take_of_lt ag] at hn
    have hj : j = 0 := by have := (gs O).1; simp at this; exact this
    subst hj
    simp at O
    have hzi : Y.getD i 0 = n := by simp [List.getD, hn]
    refine ⟨rfl, by rw [hzi]; exact O.symm, ?_⟩
    rw [Array.getD_eq_getD_getElem?, show G + i * 1 + 0 = G + i by omega, ac i (by omega)]; rfl
   have := VR.list (H := fun b => W.heap[b]?) b G cap 1 ((Y.take len).map fun n => [T.v (.int k n)]) cs ty fr hh (by rw [ab]; exact hl) (by rw [List.length_map]; exact ai) (by rw [ab]; omega)
    (fun i e he => by simp only [List.getElem?_map, Option.map_eq_some_iff] at he; obtain ⟨n, _, rfl⟩ := he; rfl)
    (fun i e he j x O => by rw [(ae i e he j x O).2.2]; rfl) (fun i e he j x O => by rw [(ae i e he j x O).2.2, (ae i e he j x O).2.1]; exact .v _)
   rw [ab] at this
   exact this
end
theorem Uf {n : Int} (h : (Lit.int .u16 n).wf = true) : 0 ≤ n ∧ n ≤ 65535 := by
 have D : IntKind.u16.min = 0 := rfl
 have G : IntKind.u16.max = 65535 := rfl
 simp only [Lit.wf, Bool.and_eq_true, decide_eq_true_eq] at h
 omega
theorem Rk {E : Env} {f : FuncId} {O : List T} {W : World} {args : Array Value} (G : Q7 fun b => W.heap[b]?) (hc : ACalls E f O [] fun x _ => x = .v (.bool true)) (hsz : args.size = O.length)
  (hv : ∀ (i : Nat) (x : T), O[i]? = some x → VR (fun b => W.heap[b]?) (args.getD i undef) x) : Calls E.P f args W fun e W' => e = .returned (.bool true) ∧ Below W.heap.size W W' := by
 refine (hc.2 (fun b => W.heap[b]?) W args hsz hv ⟨fun _ _ h => h, G⟩ (by simp) (by simp)).mono ?_
 rintro e w' ⟨v, x, fp', H', rfl, rfl, M, _, _, _, _, hs, ⟨Y, Z, e3⟩, D⟩
 refine ⟨by rw [M.v_eq], ⟨Y, Z, e3, hs, fun k hk => (D k hk (by simp)).1⟩⟩
section
variable {H : Type} {enc : TypeId × Value → H} {P : Program} {w : World} {base : Nat} {spare : Nat → Bool} {held : Bool} {fuel : Nat} {t e i : TypeId} {cs : List Value} {p : List MemPlace}
theorem Fq {M O : Field} (ht : P.underlying t = some (.struct #[M, O])) (o0 : M.offset = 0) (o1 : O.offset = 1) (y0 : M.type = i) (y1 : O.type = i) (hi : P.underlying i = some (.int .i64)) (hc : P.cellsOf i = 1) (Y : P.cellsOf t = 2)
  {x : DataW H × List MemPlace} {a b : Int} (Z : x.1 = .agg [.lit (.int .i64 a), .lit (.int .i64 b)]) (h : DataW.trod enc P w base spare held fuel t cs = some x) : cs = [.int .i64 a, .int .i64 b] := by
 obtain ⟨z0, z1, n, rfl, hl, h0, h1⟩ := trod_struct2 ht h
 rw [Y] at hl
 rw [y0] at h0
 rw [y1] at h1
 obtain ⟨m0, D, rfl, _⟩ := DataW.trod_int hi h0
 obtain ⟨m1, G, rfl, _⟩ := DataW.trod_int hi h1
 rw [hc, o0] at D
 rw [hc, o1] at G
 simp only [DataW.agg.injEq, List.cons.injEq, DataW.lit.injEq, Lit.int.injEq, true_and, and_true] at Z
 match cs, hl with
 | [c0, c1], _ =>
  simp at D G
  rw [D, G, Z.1, Z.2]
theorem Oo {f0 f1 : Field} (ht : P.underlying t = some (.array 4 e)) (he : P.underlying e = some (.struct #[f0, f1])) (M : f0.offset = 0) (O : f1.offset = 1) (Y : f0.type = i) (Z : f1.type = i) (hi : P.underlying i = some (.int .i64)) (hc : P.cellsOf i = 1) (D : P.cellsOf e = 2) (hca : P.cellsOf t = 8)
  {a0 a1 a2 a3 a4 a5 a6 a7 : Int}
  (h : DataW.trod enc P w base spare held fuel t cs = some (.agg [.agg [.lit (.int .i64 a0), .lit (.int .i64 a1)], .agg [.lit (.int .i64 a2), .lit (.int .i64 a3)], .agg [.lit (.int .i64 a4), .lit (.int .i64 a5)], .agg [.lit (.int .i64 a6), .lit (.int .i64 a7)]], p)) :
  cs = [a0, a1, a2, a3, a4, a5, a6, a7].map fun n => .int .i64 n := by
 obtain ⟨xs, m, _, hx, hl, hn, G⟩ := DataW.trod_array ht h
 rw [hca] at hl
 match xs, hn with
 | [x0, x1, x2, x3], _ =>
  simp only [Prod.mk.injEq, DataW.agg.injEq, List.map_cons, List.map_nil, List.cons.injEq, and_true] at hx
  obtain ⟨⟨g0, g1, g2, g3⟩, _⟩ := hx
  have k0 := Fq he M O Y Z hi hc D g0.symm (by simpa using G 0 (by decide))
  have k1 := Fq he M O Y Z hi hc D g1.symm (by simpa using G 1 (by decide))
  have k2 := Fq he M O Y Z hi hc D g2.symm (by simpa using G 2 (by decide))
  have k3 := Fq he M O Y Z hi hc D g3.symm (by simpa using G 3 (by decide))
  rw [D] at k0 k1 k2 k3
  match cs, hl with
  | [c0, c1, c2, c3, c4, c5, c6, c7], _ =>
   simp at k0 k1 k2 k3
   simp [k0, k1, k2, k3]
theorem Xi {W : World} {n : String} {cs : Array Value} {l : Li} (hn : P.globalNamed n = some 0) (h : W.var? P n = some cs) (O : cs.toList = l.map fun n => .int .i64 n) (aa : gl = [(0, l.map fun n => .v (.int .i64 n))]) : Q7 fun b => W.heap[b]? := by
 have Z : ∃ Y M, W.heap[0]? = some (.cells cs Y M) := by
  simp only [World.var?, hn, Option.bind_some] at h
  split at h
  ·rename_i c Y M hh; cases h; exact ⟨Y, M, hh⟩
  ·cases h
 obtain ⟨Y, M, Z⟩ := Z
 intro b m hm
 rw [aa] at hm
 simp only [List.mem_cons, List.not_mem_nil, or_false, Prod.mk.injEq] at hm
 obtain ⟨rfl, rfl⟩ := hm
 have D : ∀ (j : Nat) (x : T), (l.map fun n => T.v (.int .i64 n))[j]? = some x → ∃ n, x = .v (.int .i64 n) ∧ cs.getD (0 + j) undef = .int .i64 n := by
  intro j x G
  simp only [List.getElem?_map, Option.map_eq_some_iff] at G
  obtain ⟨n, hn, rfl⟩ := G
  refine ⟨n, rfl, ?_⟩
  have : cs.toList[j]? = some (.int .i64 n) := by rw [O]; simp [hn]
  rw [Array.getElem?_toList] at this
  rw [Nat.zero_add, Array.getD_eq_getD_getElem?, this]; rfl
 refine .eptr 0 0 _ cs Y M Z ?_ (fun j x G => ?_) fun j x G => ?_
 ·have := congrArg List.length O
  simp at this
  simp; omega
 ·obtain ⟨n, _, h⟩ := D j x G
  rw [h]; rfl
 ·obtain ⟨n, rfl, h⟩ := D j x G
  rw [h]; exact .v _
end
end Go.Aw
