/- A program logic over the model. No condition. -/
import Derived.Test.YtodeekicjiengaaGreatDoorYwB0
import Derived.Laws.IdiomStrings
set_option maxRecDepth 100000
namespace Go.Aw
set_option linter.unusedVariables false
set_option linter.defProp false
set_option linter.unusedSimpArgs false
section
variable {E : Env} {n : Nat} {C : Ctx} {σ : St} {dst : Option Tmp} {ty : TypeId} {pos : String} {aft : Array Edge} {g : Option (Nat × Bool)}
theorem AR.fold {H : GH} {vs : Array Value} {cs : List T} (hv : AR H vs cs) {arr : Array Value} {l : List T} (ha : AR H arr l) {off : Nat} (hle : off + cs.length ≤ l.length) :
  AR H (vs.zipIdx.foldl (fun c (x : Value × Nat) => c.setIfInBounds (off + x.2) x.1) arr) (Fo l off cs) := by
 have aa : ∀ (G : List Value) (k : Nat) (arr : Array Value), (∀ j, j < G.length → off + k + j < arr.size) →
   ((G.zipIdx k).foldl (fun c (x : Value × Nat) => c.setIfInBounds (off + x.2) x.1) arr).size = arr.size ∧
   ∀ i, ((G.zipIdx k).foldl (fun c (x : Value × Nat) => c.setIfInBounds (off + x.2) x.1) arr).getD i undef =
    if off + k ≤ i ∧ i < off + k + G.length then G.getD (i - (off + k)) undef else arr.getD i undef := by
  intro G
  induction G with
  | nil => intro k arr _; refine ⟨rfl, fun i => ?_⟩; simp; intro h1 h2; omega
  | cons v G ih =>
   intro k arr Z
   have h0 := Z 0 (by simp)
   simp only [List.zipIdx_cons, List.foldl_cons]
   obtain ⟨s1, s2⟩ := ih (k + 1) (arr.setIfInBounds (off + k) v) (fun j hj => by simp; have := Z (j + 1) (by simp; omega); omega)
   refine ⟨by simpa using s1, fun i => ?_⟩
   rw [s2 i]
   by_cases h1 : off + (k + 1) ≤ i ∧ i < off + (k + 1) + G.length
   ·rw [if_pos h1, if_pos (by simp; omega), show i - (off + k) = (i - (off + (k + 1))) + 1 by omega]
    simp [List.getD]
   ·rw [if_neg h1]
    by_cases h2 : i = off + k
    ·subst h2
     rw [if_pos (by simp)]
     simp [Array.getD_eq_getD_getElem?, show off + k < arr.size by omega]
    ·rw [if_neg (by simp; omega)]
     simp [Array.getD_eq_getD_getElem?, Array.getElem?_setIfInBounds_ne (Ne.symm h2)]
 have O := aa vs.toList 0 arr (fun j hj => by rw [ha.1]; have := hv.1; simp at hj; omega)
 have Y : vs.zipIdx.foldl (fun c (x : Value × Nat) => c.setIfInBounds (off + x.2) x.1) arr = (vs.toList.zipIdx 0).foldl (fun c (x : Value × Nat) => c.setIfInBounds (off + x.2) x.1) arr := by
  rw [← Array.foldl_toList, Array.toList_zipIdx]
 rw [Y]
 refine ⟨by rw [O.1, F0]; exact ha.1, fun j x hx => ?_⟩
 rw [O.2 j]
 rcases L7 l off cs j x hx with ⟨q1, q2, q3⟩ | ⟨q1, q2⟩
 ·rw [if_pos (by simp [hv.1]; omega)]
  have := hv.2 _ _ q3
  rw [Array.getD_eq_getD_getElem?, ← Array.getElem?_toList] at this
  simpa [List.getD] using this
 ·rw [if_neg (by simp [hv.1]; omega)]
  exact ha.2 j x q2
def Fx (s : Az) (G : Nat → Option (Nat × Nat)) : List T → List (Nat × Operand) → Option (List T)
 | l, [] => some l
 | l, (i, x) :: r =>
  match G i, (Bg s x).bind Ei with
  | some (off, size), some cs => bif Nat.beq cs.length size && Nat.ble (off + cs.length) l.length then Fx s G (Fo l off cs) r else none
  | _, _ => none
theorem Lj {H : GH} {a : Act} {s : Az} (r : SR n s H a) {G : Nat → Option (Nat × Nat)} : ∀ (Y : List (Nat × Operand)) (l l' : List T) (arr : Array Value), AR H arr l → Fx s G l Y = some l' →
  ∃ O, Instr.fill G arr (Y.map fun p => (p.1, a.eval p.2)) = some O ∧ AR H O l' := by
 intro Y
 induction Y with
 | nil => intro l l' arr ha h; simp only [Fx, Option.some.injEq] at h; subst h; exact ⟨arr, rfl, ha⟩
 | cons p Y ih =>
  intro l l' arr ha h
  obtain ⟨i, x⟩ := p
  simp only [Fx] at h
  cases hp : G i with
  | none => simp [hp] at h
  | some q =>
   obtain ⟨off, Z⟩ := q
   cases hx : Bg s x with
   | none => simp [hp, hx] at h
   | some y =>
    cases hc : Ei y with
    | none => simp [hp, hx, hc] at h
    | some cs =>
     simp only [hp, hx, hc, Option.bind_some] at h
     cases hb : (Nat.beq cs.length Z && Nat.ble (off + cs.length) l.length) with
     | false => simp [hb] at h
     | true =>
      simp only [hb, cond_true] at h
      simp only [Bool.and_eq_true] at hb
      have hb1 := nq hb.1
      have hb2 := Nat.le_of_ble_eq_true hb.2
      have hv := I9 (r.eval hx) hc
      obtain ⟨O, h1, h2⟩ := ih _ l' _ (hv.fold ha hb2) h
      refine ⟨O, ?_, h2⟩
      simp only [List.map_cons, Instr.fill, hp]
      rw [if_neg (by simp [hv.1, hb1, ha.1]; omega)]
      exact h1
def E1 (z : Value) : List T := z.cells.toList.map T.v
theorem Ra {H : GH} {z : Value} (h1 : z.cells.toList.all (·.oneCell') = true) : AR H z.cells (E1 z) := by
 refine ⟨by simp [E1], fun j x Y => ?_⟩
 simp only [E1, List.getElem?_map, Option.map_eq_some_iff] at Y
 obtain ⟨v, O, rfl⟩ := Y
 have G : z.cells.getD j undef = v := by
  rw [Array.getD_eq_getD_getElem?, ← Array.getElem?_toList, O]; rfl
 rw [G]
 exact ⟨List.all_eq_true.1 h1 v (mg O), .v v⟩
theorem AR.agg {H : GH} {arr : Array Value} {l : List T} (h : AR H arr l) : VR H (.agg arr) (.agg l) :=
 .agg _ _ h.1 (fun j x G => (h.2 j x G).1) (fun j x G => (h.2 j x G).2)
def Pu (E : Env) (fs : List (Nat × Nat)) (i : Nat) : Option (Nat × Nat) :=
 match fs[i]? with
 | some (off, t) => (E.tab t).map fun G => (off, G.size)
 | none => none
theorem Yp.build {t : TypeId} {G : Array (Nat × Operand)} {ti : TI} {fs : List (Nat × Nat)} {z : Value} {l : List T} {s : Az}
  (ht : E.tab t = some ti) (hk : ti.kind = .struct fs) (hz : ti.zero = some z) (h1 : z.cells.toList.all (·.oneCell') = true) (Y : fs.all (fun f => (E.tab f.2).isSome) = true)
  (hf : Fx s (Pu E fs) (E1 z) G.toList = some l) : Yp E.P n s ⟨dst, .build t G, ty, pos, aft, g⟩ (.agg l) := by
 intro H a r
 obtain ⟨Z, u1, u2⟩ := K9 (E.ok _ _ ht) hk
 obtain ⟨ab, q1, q2⟩ := Lj r G.toList _ _ _ (Ra (H := H) h1) hf
 refine ⟨.agg ab, q2.agg, fun w => ?_⟩
 have hpl : (Z.mapM fun f => (do pure (f.offset, ← sizeOf f.type) : Sem (Nat × Nat))).run E.P w = .ok (Z.map fun f => (f.offset, ((E.tab f.type).map (·.size)).getD 0)) w := by
  rw [Array.mapM_eq_mapM_toList]
  have ac : ∀ (l : List Field), (∀ f, f ∈ l → (E.tab f.type).isSome = true) →
    (l.mapM fun f => (do pure (f.offset, ← sizeOf f.type) : Sem (Nat × Nat))).run E.P w = .ok (l.map fun f => (f.offset, ((E.tab f.type).map (·.size)).getD 0)) w := by
   intro l
   induction l with
   | nil => intro _; simp
   | cons f l ih =>
    intro hl
    have hs := hl f (by simp)
    obtain ⟨fi, O⟩ := Option.isSome_iff_exists.1 hs
    have ih' := ih (fun f hf => hl f (by simp [hf]))
    simp only [List.mapM_cons, Sem.run_bind, Cy (E.ok _ _ O), Result.andThen_ok, Sem.run_pure, ih', O]
    simp [O]
  have := ac Z.toList (fun f hf => by
   have hm : (f.offset, f.type) ∈ fs := by rw [← u2]; exact List.mem_map_of_mem hf
   exact List.all_eq_true.1 Y _ hm)
  refine (Sem.run_map E.P w _ _).trans ?_
  rw [this]
  simp only [Result.andThen_ok]
  congr 1
  apply Array.ext'
  simp
 have hpe : (fun i => (Z.map fun f => (f.offset, ((E.tab f.type).map (·.size)).getD 0))[i]?) = Pu E fs := by
  funext i
  simp only [Pu, ← u2, List.getElem?_map, Array.getElem?_map, Array.getElem?_toList]
  cases O : Z[i]? with
  | none => simp
  | some f =>
   have hm : (f.offset, f.type) ∈ fs := by rw [← u2]; exact List.mem_map_of_mem (by simpa using Array.mem_of_getElem? O)
   obtain ⟨fi, aa⟩ := Option.isSome_iff_exists.1 (List.all_eq_true.1 Y _ hm)
   simp [aa]
 simp only [execOp, Instr.build, Sem.run_bind, Ex (E.ok _ _ ht) w hz, Result.andThen_ok, run_underlying u1, hpl]
 rw [show ((G.map fun (x : Nat × Operand) => (x.1, a.eval x.2)).toList) = G.toList.map fun p => (p.1, a.eval p.2) by simp]
 rw [hpe, q1]
 rfl
structure Bld (E : Env) (t : TypeId) (pl : List (Nat × Nat)) (z : List T) : Prop where
 intro ::
 ex : ∃ ti fs zv, E.tab t = some ti ∧ ti.kind = .struct fs ∧ ti.zero = some zv ∧ zv.cells.toList.all (·.oneCell') = true ∧ fs.all (fun f => (E.tab f.2).isSome) = true ∧
  fs.map (fun f => (f.1, ((E.tab f.2).map (·.size)).getD 0)) = pl ∧ E1 zv = z
def Zo (pl : List (Nat × Nat)) (i : Nat) : Option (Nat × Nat) := pl[i]?
theorem Sv {fs : List (Nat × Nat)} (h : fs.all (fun f => (E.tab f.2).isSome) = true) : Pu E fs = Zo (fs.map fun f => (f.1, ((E.tab f.2).map (·.size)).getD 0)) := by
 funext i
 simp only [Pu, Zo, List.getElem?_map]
 cases hf : fs[i]? with
 | none => rfl
 | some f =>
  have := List.all_eq_true.1 h f (mg hf)
  obtain ⟨o, t⟩ := f
  cases ht : E.tab t with
  | none => simp [ht] at this
  | some ti => simp [ht]
theorem Au {t : TypeId} {G : Array (Nat × Operand)} {pl : List (Nat × Nat)} {z l : List T} {s : Az}
  (hb : Bld E t pl z) (hf : Fx s (Zo pl) z G.toList = some l) : Yp E.P n s ⟨dst, .build t G, ty, pos, aft, g⟩ (.agg l) := by
 obtain ⟨ti, fs, zv, Y, Z, h3, h4, O, rfl, rfl⟩ := hb.ex
 exact Yp.build Y Z h3 h4 O (by rw [Sv O]; exact hf)
theorem dQ {t : TypeId} {G : Array (Nat × Operand)} {ti Y : TI} {len e : Nat} {z : Value} {l : List T} {s : Az}
  (Z : E.tab t = some ti) (hk : ti.kind = .array len e) (hz : ti.zero = some z) (h1 : z.cells.toList.all (·.oneCell') = true) (he : E.tab e = some Y)
  (hf : Fx s (fun i => some (i * Y.size, Y.size)) (E1 z) G.toList = some l) : Yp E.P n s ⟨dst, .build t G, ty, pos, aft, g⟩ (.agg l) := by
 intro H a r
 obtain ⟨O, q1, q2⟩ := Lj r G.toList _ _ _ (Ra (H := H) h1) hf
 refine ⟨.agg O, q2.agg, fun w => ?_⟩
 simp only [execOp, Instr.build, Sem.run_bind, Ex (E.ok _ _ Z) w hz, Result.andThen_ok, run_underlying (Jl (E.ok _ _ Z) hk), Cy (E.ok _ _ he)]
 rw [show ((G.map fun (x : Nat × Operand) => (x.1, a.eval x.2)).toList) = G.toList.map fun p => (p.1, a.eval p.2) by simp]
 rw [q1]
 rfl
def rows (sz : Nat) : Nat → List T → List (List T)
 | 0, _ => []
 | m + 1, l => l.take sz :: rows sz m (l.drop sz)
theorem Et (sz : Nat) : ∀ (m : Nat) (l : List T), (rows sz m l).length = m
 | 0, _ => rfl
 | m + 1, l => by simp [rows, Et sz m]
theorem Ri (sz : Nat) : ∀ (m : Nat) (l : List T), m * sz ≤ l.length → ∀ (i : Nat) (e : List T), (rows sz m l)[i]? = some e → e.length = sz ∧ ∀ (j : Nat) (x : T), e[j]? = some x → l[i * sz + j]? = some x
 | 0, _, _, i, e, h => by simp [rows] at h
 | m + 1, l, hl, i, e, h => by
  rw [Nat.succ_mul] at hl
  cases i with
  | zero =>
   simp only [rows, List.getElem?_cons_zero, Option.some.injEq] at h
   subst h
   refine ⟨by simp; omega, fun j x G => ?_⟩
   have Z : j < sz := by
    have := (gs G).1
    simp at this; omega
   rw [List.getElem?_take_of_lt Z] at G
   simpa using G
  | succ i =>
   simp only [rows, List.getElem?_cons_succ] at h
   obtain ⟨O, Y⟩ := Ri sz m (l.drop sz) (by simp; omega) i e h
   refine ⟨O, fun j x G => ?_⟩
   have := Y j x G
   rw [List.getElem?_drop] at this
   rw [Nat.succ_mul, show i * sz + sz + j = sz + (i * sz + j) by omega]; exact this
theorem OR.rows {H : GH} {w : World} {t : TypeId} {arr : Array Value} {l : List T} {b sz m : Nat} (h : w.heap[b]? = some (.cells arr t (0, 0))) (O : AR H arr l) (hl : l.length = m * sz) (Y : m ≤ Hf) :
  OR H w (.arr b t sz m (rows sz m l)) := by
 refine ⟨arr, h, by rw [O.1, hl], by rw [Et]; omega, by rw [Et]; exact Y, fun i e G => (Ri sz m l (by omega) i e G).1, fun i e G j x Z => ?_⟩
 exact O.2 _ _ ((Ri sz m l (by omega) i e G).2 j x Z)
def Ls (z : List T) : Nat → List T
 | 0 => []
 | m + 1 => z ++ Ls z m
theorem F2 (z : List T) : ∀ m, (Ls z m).length = m * z.length
 | 0 => by simp [Ls]
 | m + 1 => by simp [Ls, F2 z m, Nat.succ_mul]; omega
theorem X0 (z : List T) : ∀ (m j : Nat) (x : T), (Ls z m)[j]? = some x → z[j % z.length]? = some x
 | 0, j, x, h => by simp [Ls] at h
 | m + 1, j, x, h => by
  simp only [Ls, List.getElem?_append] at h
  split at h
  ·rename_i G; rw [Nat.mod_eq_of_lt G]; exact h
  ·rename_i G
   have := X0 z m _ x h
   rwa [Nat.mod_eq_sub_mod (by omega)]
theorem Mf {H : GH} {z : Value} (h1 : z.cells.toList.all (·.oneCell') = true) (m : Nat) :
  AR H ((Array.range (m * z.cells.size)).map (z.cells[· % z.cells.size]!)) (Ls (E1 z) m) := by
 have hz := Ra (H := H) h1
 refine ⟨by simp [F2, E1], fun j x hx => ?_⟩
 have G := (gs hx).1
 rw [F2] at G
 have Z : (E1 z).length = z.cells.size := by simp [E1]
 rw [Z] at G
 have Y : 0 < z.cells.size := by
  rcases Nat.eq_zero_or_pos z.cells.size with h | h
  ·rw [h] at G; simp at G
  ·exact h
 have := X0 _ _ _ _ hx
 rw [Z] at this
 have h2 := hz.2 _ _ this
 have O := Nat.mod_lt j Y
 have he : ((Array.range (m * z.cells.size)).map (z.cells[· % z.cells.size]!)).getD j undef = z.cells.getD (j % z.cells.size) undef := by
  simp [Array.getD_eq_getD_getElem?, G, O]
 rw [he]; exact h2
theorem AX.buildSlice {t : TypeId} {m : Nat} {G : Array (Nat × Operand)} {ti ei : TI} {e : Nat} {z : Value} {l : List T} {R : St → Prop} {sz : Nat} {es : List (List T)}
  (ht : E.tab t = some ti) (hk : ti.kind = .slice e) (he : E.tab e = some ei) (hz : ei.zero = some z) (h1 : z.cells.toList.all (·.oneCell') = true) (hsz : ei.size = sz) (hzs : z.cells.size = sz) (hb : Nat.ble (m * sz) 16777216 = true)
  (hm : Nat.ble m 16777216 = true) (hf : Fx σ.slots (fun i => some (i * sz, sz)) (Ls (E1 z) m) G.toList = some l) (hr : rows sz m l = es)
  (hd : ∀ d, dst = some d → d < n) (k : ∀ b, R ⟨Fb σ.slots dst (.v b), σ.objs ++ [.us b e sz es]⟩) :
  AX E n C [] ⟨dst, .buildSlice t m G, ty, pos, aft, g⟩ σ R := by
 refine AX.value fun H a w gm => ?_
 subst hr hzs
 have hmc := Mf (H := H) h1 m
 obtain ⟨O, q1, q2⟩ := Lj gm.sr G.toList _ _ _ hmc hf
 have hbn := Nat.le_of_ble_eq_true hb
 have hll : l.length = m * z.cells.size := by
  have : ∀ (ps : List (Nat × Operand)) (l0 l : List T), Fx σ.slots (fun i => some (i * z.cells.size, z.cells.size)) l0 ps = some l → l.length = l0.length := by
   intro ps
   induction ps with
   | nil => intro l0 l h; simp only [Fx, Option.some.injEq] at h; rw [h]
   | cons p ps ih =>
    intro l0 l h
    simp only [Fx] at h
    split at h
    ·rename_i off size cs h1 h2
     cases hb : (Nat.beq cs.length size && Nat.ble (off + cs.length) l0.length) with
     | false => simp [hb] at h
     | true => simp only [hb, cond_true] at h; rw [ih _ _ h, F0]
    ·simp at h
  rw [this _ _ _ hf, F2]; simp [E1]
 have hor : OR H (w.alloc (.cells O e)) (.arr w.heap.size e z.cells.size m (rows z.cells.size m l)) :=
  OR.rows (heap_alloc_new w _) q2 hll (by have := Nat.le_of_ble_eq_true hm; simp [Hf]; omega)
 refine ⟨.slice (some ⟨w.heap.size, 0, none⟩) m m, w.alloc (.cells O e), _, H, ?_, k (.slice (some ⟨w.heap.size, 0, none⟩) m m), ?_, fun _ _ h => h, ?_⟩
 ·have Y : ((G.map fun (x : Nat × Operand) => (x.1, a.eval x.2)).toList) = G.toList.map fun p => (p.1, a.eval p.2) := by simp
  simp only [execOp, Instr.buildSlice, Sem.run_bind, run_underlying (Ev (E.ok _ _ ht) hk), Result.andThen_ok, Cy (E.ok _ _ he), hsz]
  rw [if_neg (by omega)]
  by_cases h0 : m * z.cells.size = 0
  ·rw [if_pos h0]
   have Z : ∀ f : Nat → Value, (Array.range (m * z.cells.size)).map f = #[] := fun f => by rw [h0, Array.range_zero']; simp
   rw [Z] at q1
   simp only [Sem.run_bind, Sem.run_pure, Result.andThen_ok, Z, Y, q1]
   simp [newRow]
  ·rw [if_neg h0]
   simp only [Sem.run_bind, Result.andThen_ok, Ex (E.ok _ _ he) w hz, Sem.run_pure, Y, q1]
   simp [newRow]
 ·have := (gm.alloc (ob := .us (.slice (some ⟨w.heap.size, 0, none⟩) m m) e z.cells.size _) (.inr ⟨_, m, m, by simp [Et], by simp [Et], Nat.le_refl _, hor⟩) rfl).put (dst := dst) (.v (.slice (some ⟨w.heap.size, 0, none⟩) m m)) hd
  cases dst <;> exact this
 ·intro i p hp _
  exact ⟨Fj hp, fun b hb => heap_alloc_old w _ ((gm.objs p (mg hp)).lt b hb)⟩
def uL := @AX.buildSlice
theorem Xz (z : List T) : ∀ m, rows z.length m (Ls z m) = List.replicate m z
 | 0 => rfl
 | m + 1 => by simp [rows, Ls, List.replicate_succ, Xz z m]
theorem AX.makeSlice {t : TypeId} {x y : Operand} {k1 k2 : IntKind} {i : Int} {m : Nat} {ti ei : TI} {e : Nat} {z : Value} {R : St → Prop} {sz : Nat}
  (ht : E.tab t = some ti) (hk : ti.kind = .slice e) (he : E.tab e = some ei) (hz : ei.zero = some z) (h1 : z.cells.toList.all (·.oneCell') = true) (hsz : ei.size = sz) (hzs : z.cells.size = sz)
  (hx : Bg σ.slots x = some (.v (.int k1 i))) (hy : Bg σ.slots y = some (.v (.int k2 i))) (hi : i = (m : Int)) (hm : m ≤ Hf) (hb : (ei.bytes : Int) * (m : Int) ≤ 140737488355328)
  (hd : ∀ d, dst = some d → d < n) (k : ∀ b, R ⟨Fb σ.slots dst (.v b), σ.objs ++ [.us b e sz (List.replicate m (E1 z))]⟩) :
  AX E n C [] ⟨dst, .makeSlice t x y, ty, pos, aft, g⟩ σ R := by
 refine AX.value fun H a w gm => ?_
 subst hi hzs
 obtain ⟨aa, f1, f2, f3, f4, f5⟩ := Ig (E.ok _ _ he) w
 have hmm : m ≤ 140737488355328 := hm
 have G := run_make (P := E.P) w t e aa z (Ev (E.ok _ _ ht) hk) f5 (by rw [f4]; exact hz) k1 k2 m m (by omega) (by omega) (by rw [f3]; omega) (by omega)
 have hmc := Mf (H := H) h1 m
 have O : aa.size = z.cells.size := by rw [f2, hsz]
 simp only [Int.toNat_natCast, madeCells, O] at G
 have Y : OR H (w.alloc (.cells ((Array.range (m * z.cells.size)).map (z.cells[· % z.cells.size]!)) e)) (.arr w.heap.size e z.cells.size m (rows z.cells.size m (Ls (E1 z) m))) :=
  OR.rows (heap_alloc_new w _) hmc (by rw [F2]; simp [E1]) hm
 have hzl : (E1 z).length = z.cells.size := by simp [E1]
 have Z := Xz (E1 z) m
 rw [hzl] at Z
 rw [Z] at Y
 refine ⟨.slice (some ⟨w.heap.size, 0, none⟩) m m, w.alloc (.cells ((Array.range (m * z.cells.size)).map (z.cells[· % z.cells.size]!)) e), _, H, ?_, k (.slice (some ⟨w.heap.size, 0, none⟩) m m), ?_, fun _ _ h => h, ?_⟩
 ·simp only [execOp, gm.sr.evalv hx, gm.sr.evalv hy, Sem.run_bind, G, Result.andThen_ok, Sem.run_pure]
 ·have := (gm.alloc (ob := .us (.slice (some ⟨w.heap.size, 0, none⟩) m m) e z.cells.size _) (.inr ⟨_, m, m, by simp [Et], by simp [Et], Nat.le_refl _, Y⟩) rfl).put (dst := dst) (.v (.slice (some ⟨w.heap.size, 0, none⟩) m m)) hd
  cases dst <;> exact this
 ·intro i p hp _
  exact ⟨Fj hp, fun b hb => heap_alloc_old w _ ((gm.objs p (mg hp)).lt b hb)⟩
end
section
variable {E : Env} {n : Nat} {C : Ctx} {σ : St} {dst : Option Tmp} {ty : TypeId} {pos : String} {aft : Array Edge} {g : Option (Nat × Bool)}
def AppSrc (s : Az) (objs : List Ob) (x : Operand) (sz : Nat) (es : List (List T)) : Prop :=
 ∀ n H a w, SR n s H a → WR objs H w → ∃ (Y : Option Addr) (c : Nat) (G : List Value), a.eval x = .slice Y es.length c ∧ G.length = es.length * sz ∧
  (∀ v, v ∈ G → v.oneCell' = true) ∧ (Y = none → es = []) ∧ (∀ O, Y = some O → ∀ j u, G[j]? = some u → w.cell? (O.add j) = some u) ∧
  (∀ (i : Nat) (e : List T), es[i]? = some e → e.length = sz ∧ ∀ (j : Nat) (x : T), e[j]? = some x → VR H (G.getD (i * sz + j) undef) x)
theorem aH {cs : Array Value} {o m : Nat} (hsz : o + m ≤ cs.size) : (cs.toList.drop o |>.take m).length = m ∧ ∀ j, j < m → ((cs.toList.drop o).take m).getD j undef = cs.getD (o + j) undef ∧ ((cs.toList.drop o).take m)[j]? = cs[o + j]? := by
 refine ⟨by simp; omega, fun j G => ?_⟩
 have : ((cs.toList.drop o).take m)[j]? = cs[o + j]? := by
  rw [List.getElem?_take_of_lt G, List.getElem?_drop]; simp
 exact ⟨by simp [List.getD, this, Array.getD_eq_getD_getElem?], this⟩
theorem Ii {H : GH} {w : World} {b o : Nat} {cs : Array Value} {ty : TypeId} {fr : Nat × Nat} (hb : w.heap[b]? = some (.cells cs ty fr)) {sz : Nat} {es : List (List T)} (hsz : o + es.length * sz ≤ cs.size)
  (hel : ∀ (i : Nat) (e : List T), es[i]? = some e → e.length = sz)
  (h1 : ∀ (i : Nat) (e : List T), es[i]? = some e → ∀ (j : Nat) (x : T), e[j]? = some x → (cs.getD (o + i * sz + j) undef).oneCell' = true)
  (hv : ∀ (i : Nat) (e : List T), es[i]? = some e → ∀ (j : Nat) (x : T), e[j]? = some x → VR H (cs.getD (o + i * sz + j) undef) x) :
  ∃ news : List Value, news.length = es.length * sz ∧ (∀ v, v ∈ news → v.oneCell' = true) ∧ (∀ j u, news[j]? = some u → w.cell? ((⟨b, o, none⟩ : Addr).add j) = some u) ∧
   (∀ (i : Nat) (e : List T), es[i]? = some e → e.length = sz ∧ ∀ (j : Nat) (x : T), e[j]? = some x → VR H (news.getD (i * sz + j) undef) x) := by
 obtain ⟨c1, c2⟩ := aH hsz
 have idx : ∀ (i : Nat) (e : List T), es[i]? = some e → ∀ (j : Nat) (x : T), e[j]? = some x → i * sz + j < es.length * sz := by
  intro i e G j x hx
  have hi := (gs G).1
  have hj := (gs hx).1
  rw [hel i e G] at hj
  have : (i + 1) * sz ≤ es.length * sz := Nat.mul_le_mul_right _ hi
  rw [Nat.succ_mul] at this; omega
 refine ⟨(cs.toList.drop o).take (es.length * sz), c1, ?_, ?_, ?_⟩
 ·intro v hvm
  obtain ⟨k, hk, G⟩ := List.getElem_of_mem hvm
  rw [c1] at hk
  have aa : ((cs.toList.drop o).take (es.length * sz)).getD k undef = v := by
   simp [List.getD, gq (show k < ((cs.toList.drop o).take (es.length * sz)).length by rw [c1]; exact hk), G]
  rw [(c2 k hk).1] at aa
  rcases Nat.eq_zero_or_pos sz with h0 | O
  ·subst h0; simp at hk
  ·have hd : k / sz < es.length := by rw [Nat.div_lt_iff_lt_mul O]; exact hk
   have Y : es[k / sz]? = some es[k / sz] := gq hd
   have hm := Nat.mod_lt k O
   have Z := hel _ _ Y
   have hx' : es[k / sz][k % sz]? = some (es[k / sz][k % sz]'(by rw [Z]; exact hm)) := gq _
   have := h1 _ _ Y _ _ hx'
   have hdm := Nat.div_add_mod k sz
   rw [Nat.mul_comm] at hdm
   rw [show o + k / sz * sz + k % sz = o + k by omega, aa] at this
   exact this
 ·intro j u hu
  have hj : j < es.length * sz := by have := (gs hu).1; rw [c1] at this; exact this
  rw [(c2 j hj).2] at hu
  rw [D1]
  simp [World.cell?, hb, hu]
 ·intro i e G
  refine ⟨hel i e G, fun j x hx => ?_⟩
  rw [(c2 _ (idx i e G j x hx)).1, ← Nat.add_assoc]
  exact hv i e G j x hx
theorem AppSrc.list {s : Az} {objs : List Ob} {x : Operand} {sz : Nat} {es : List (List T)} (Y : Bg s x = some (.list sz es)) : AppSrc s objs x sz es := by
 intro n H a w r wr
 have h := r.eval Y
 generalize hv : a.eval x = v at h
 cases h with
 | empty ad cap sz => exact ⟨ad, cap, [], rfl, by simp, by simp, fun _ => rfl, by simp, by simp⟩
 | list b off cap sz es cs ty fr hb hcap hmax hsz hel h1 hvs =>
  obtain ⟨G, Z, q2, q3, q4⟩ := Ii (H := H) (wr.held _ _ hb) hsz hel h1 hvs
  exact ⟨some ⟨b, off, none⟩, cap, G, rfl, Z, q2, (by simp), (fun O h => by cases h; exact q3), q4⟩
theorem Si {s : Az} {objs : List Ob} {x : Operand} {sz : Nat} {es : List (List T)} (k : Nat) {v : Value} {tt : Nat} (G : Bg s x = some (.v v)) (hk : objs[k]? = some (.us v tt sz es)) :
  AppSrc s objs x sz es := by
 intro n H a w r wr
 have Z : UsR H w v tt sz es := wr.objs _ (mg hk)
 rcases Z with ⟨rfl, rfl⟩ | ⟨b, c, cap, rfl, p1, p2, cs, a1, a2, a3, a4, a5, a6⟩
 ·exact ⟨none, 0, [], by rw [r.evalv G]; rfl, by simp, by simp, fun _ => rfl, by simp, by simp⟩
 ·have hle : es.length * sz ≤ cs.size := by rw [a2]; exact Nat.mul_le_mul_right _ a3
  obtain ⟨O, q1, q2, q3, q4⟩ := Ii (H := H) a1 (o := 0) (by omega) a5 (fun i e Y j x G => by simpa using (a6 i e Y j x G).1) (fun i e Y j x G => by simpa using (a6 i e Y j x G).2)
  exact ⟨some ⟨b, 0, none⟩, c, O, by rw [r.evalv G], q1, q2, (by simp), (fun ad' h => by cases h; exact q3), q4⟩
theorem Jb {H : GH} {w : World} {b : Nat} {e : TypeId} {cs : Array Value} {sz cap : Nat} {es G : List (List T)} (hb : w.heap[b]? = some (.cells cs e (0, 0))) (Z : cs.size = cap * sz) (hcap : es.length + G.length ≤ cap)
  (hmax : es.length + G.length ≤ Hf) (hel : ∀ (i : Nat) (e : List T), es[i]? = some e → e.length = sz) (Y : ∀ (i : Nat) (e : List T), G[i]? = some e → e.length = sz)
  (h1 : ∀ (i : Nat) (e : List T), es[i]? = some e → ∀ (j : Nat) (x : T), e[j]? = some x → CR H (cs.getD (i * sz + j) undef) x)
  (h2 : ∀ (i : Nat) (e : List T), G[i]? = some e → ∀ (j : Nat) (x : T), e[j]? = some x → CR H (cs.getD (es.length * sz + (i * sz + j)) undef) x) : ArrR H w b e sz cap (es ++ G) := by
 refine ⟨cs, hb, Z, by simpa using hcap, by simpa using hmax, fun i e O => ?_, fun i e O j x hx => ?_⟩
 ·rw [List.getElem?_append] at O
  split at O
  ·exact hel _ _ O
  ·exact Y _ _ O
 ·rw [List.getElem?_append] at O
  split at O
  ·exact h1 i e O j x hx
  ·rename_i hi
   have := h2 _ e O j x hx
   rw [← Nat.add_assoc, ← Nat.add_mul, show es.length + (i - es.length) = i by omega] at this
   exact this
theorem Rm {news : List Value} (h : ∀ v, v ∈ news → v.oneCell' = true) {j : Nat} (G : j < news.length) : (news.getD j undef).oneCell' = true := by
 rw [List.getD, gq G]; exact h _ (List.getElem_mem G)
theorem Lx {es : List (List T)} {sz : Nat} (hel : ∀ (i : Nat) (e : List T), es[i]? = some e → e.length = sz) {i : Nat} {e : List T} (he : es[i]? = some e) {j : Nat} {x : T} (O : e[j]? = some x) : i * sz + j < es.length * sz := by
 have hi := (gs he).1
 have G := (gs O).1
 rw [hel i e he] at G
 have : (i + 1) * sz ≤ es.length * sz := Nat.mul_le_mul_right _ hi
 rw [Nat.succ_mul] at this; omega
theorem Ja {H : GH} {a : Act} {w : World} {objs : List Ob} {s : Az} (r : SR n s H a) (wr : WR objs H w) {x : Operand} {t : TypeId} {ti ei : TI} {e sz : Nat} {z : Value} {es G : List (List T)} {v : Value}
  (ht : E.tab t = some ti) (hk : ti.kind = .slice e) (he : E.tab e = some ei) (hz : ei.zero = some z) (hsz : ei.size = sz) (hzs : z.cells.size = sz)
  (hs : UsR H w v e sz es) (hx : AppSrc s objs x sz G) (hmax : es.length + G.length ≤ Hf) (hb : (es.length + G.length) * ei.bytes ≤ 140737488355328) :
  ∃ v' w', (Builtin.append_ #[t, t] ty #[v, a.eval x]).run E.P w = .ok v' w' ∧ UsR H w' v' e sz (es ++ G) ∧ (w'.os = w.os ∧ w'.tape = w.tape ∧ w'.output = w.output) ∧ w.heap.size ≤ w'.heap.size ∧
   (∀ i, i < w.heap.size → i ∉ F5 v → w'.heap[i]? = w.heap[i]?) ∧ ∀ b, b ∈ F5 v' → w.heap.size ≤ b ∨ b ∈ F5 v := by
 obtain ⟨ad, c, O, q1, q2, q3, q4, q5, q6⟩ := hx n H a w r wr
 have hmx : es.length + G.length ≤ 140737488355328 := hmax
 obtain ⟨inf, f1, f2, f3, f4, f5⟩ := Ig (E.ok _ _ he) w
 have ab : ∀ (i : Nat) (e : List T), G[i]? = some e → e.length = sz := fun i e he => (q6 i e he).1
 have ae := Ev (E.ok _ _ ht) hk
 rw [q1]
 rcases hs with ⟨rfl, rfl⟩ | ⟨b, cp, cap, rfl, p1, p2, Z, a1, a2, a3, a4, a5, a6⟩
 ·simp only [List.length_nil, Nat.zero_add, List.nil_append] at *
  cases ad with
  | none =>
   have := q4 rfl
   subst this
   refine ⟨.slice none 0 0, w, ?_, .inl ⟨rfl, rfl⟩, ⟨rfl, rfl, rfl⟩, Nat.le_refl _, fun _ _ _ => rfl, by simp [F5]⟩
   simp [Builtin.append_, run_underlying ae, sizeOf, typeInfo, f5, Builtin.lenOf, Builtin.firstCells]
  | some ad =>
   rcases Nat.eq_zero_or_pos G.length with h0 | h0
   ·have : G = [] := List.length_eq_zero_iff.1 h0
    subst this
    refine ⟨.slice none 0 0, w, ?_, .inl ⟨rfl, rfl⟩, ⟨rfl, rfl, rfl⟩, Nat.le_refl _, fun _ _ _ => rfl, by simp [F5]⟩
    have hfc := run_firstCells_some (P := E.P) w inf.size 0 ad 0 c [] (by simp) (by simp)
    simp [Builtin.append_, run_underlying ae, sizeOf, typeInfo, f5, Builtin.lenOf, hfc]
   ·have ac := run_append_nil (P := E.P) w t ty e inf z ae f5 (by rw [f4]; exact hz) ad G.length c O (by rw [f2, hsz]; exact q2) (q5 ad rfl) h0 (by omega) (by rw [f3]; omega)
    have hge := grownCap_ge w G.length 0 e
    have hor : ArrR H (w.drew.alloc (.cells (O.toArray ++ Builtin.zeroCells z.cells (grownCap w G.length 0 e - G.length)) e)) w.heap.size e sz (grownCap w G.length 0 e) ([] ++ G) := by
     refine Jb (heap_alloc_new w.drew _) ?_ (by simpa using hge) (by simpa using hmax) (by simp) ab (by simp) ?_
     ·rw [Array.size_append, size_zeroCells, hzs]; simp only [List.size_toArray, q2]
      rw [← Nat.add_mul]; congr 1; omega
     ·intro i e' Y j y hy
      have hlt := Lx ab Y hy
      have hgd : (O.toArray ++ Builtin.zeroCells z.cells (grownCap w G.length 0 e - G.length)).getD (([] : List (List T)).length * sz + (i * sz + j)) undef = O.getD (i * sz + j) undef := by
       simp [Array.getD_eq_getD_getElem?, Array.getElem?_append, show i * sz + j < O.length by omega, List.getD]
      rw [hgd]
      exact ⟨Rm q3 (by omega), (q6 i e' Y).2 j y hy⟩
    simp only [List.nil_append] at hor
    exact ⟨_, _, ac, .inr ⟨_, _, _, rfl, hge, Nat.le_refl _, hor⟩, ⟨rfl, rfl, rfl⟩, by show w.heap.size ≤ (w.heap.push _).size; simp, fun k hk _ => heap_alloc_old w.drew _ hk, by simp [F5]⟩
 ·cases ad with
  | none =>
   have := q4 rfl
   subst this
   refine ⟨.slice (some ⟨b, 0, none⟩) es.length cp, w, ?_, .inr ⟨b, cp, cap, by simp, by simpa using p1, p2, Z, a1, a2, by simpa using a3, by simpa using a4, by simpa using a5, by simpa using a6⟩, ⟨rfl, rfl, rfl⟩, Nat.le_refl _, fun _ _ _ => rfl, fun b hb => .inr hb⟩
   have h2 : es.length ≤ cp := p1
   simp [Builtin.append_, run_underlying ae, sizeOf, typeInfo, f5, Builtin.lenOf, Builtin.firstCells, h2, storeCells]
  | some ad =>
   by_cases hroom : es.length + G.length ≤ cp
   ·have hfit : es.length * sz + O.length ≤ Z.size := by rw [q2, a2, ← Nat.add_mul]; exact Nat.mul_le_mul_right _ (by omega)
    have ac := run_append_room (P := E.P) w t ty e inf ae f5 b es.length cp Z a1 ad G.length c O (by rw [f2, hsz]; exact q2) (q5 ad rfl) q3 hroom (by rw [f2, hsz]; exact hfit)
    rw [f2, hsz] at ac
    refine ⟨_, _, ac, .inr ⟨b, cp, cap, by simp, by simpa using hroom, p2, ?_⟩, ⟨rfl, rfl, rfl⟩, by rw [Ox]; exact Nat.le_refl _, fun k _ hk => setRow_other w b k _ (by simpa [F5] using hk), fun b' hb' => .inr (by simpa [F5] using hb')⟩
    refine Jb (setRow_heap w b Z _ e _ a1) ?_ (by omega) hmax a5 ab ?_ ?_
    ·simp only [List.size_toArray, List.length_append, List.length_take, List.length_drop, Array.length_toList]
     omega
    ·intro i e' Y j y hy
     have hlt := Lx a5 Y hy
     rw [Rv hfit, if_neg (by omega)]
     exact a6 i e' Y j y hy
    ·intro i e' Y j y hy
     have hlt := Lx ab Y hy
     rw [Rv hfit, if_pos (by omega), Nat.add_sub_cancel_left]
     exact ⟨Rm q3 (by omega), (q6 i e' Y).2 j y hy⟩
   ·have aa : (Z.toList.take (es.length * sz)).length = es.length * sz := by
     have : es.length * sz ≤ Z.size := by rw [a2]; exact Nat.mul_le_mul_right _ a3
     simp; omega
    have ac := run_append_grow (P := E.P) w t ty e inf z ae f5 (by rw [f4]; exact hz) ⟨b, 0, none⟩ es.length cp (Z.toList.take (es.length * sz)) (by rw [f2, hsz]; exact aa)
     (fun j u hu => by
      rw [D1]
      have hj : j < es.length * sz := by have := (gs hu).1; rw [aa] at this; exact this
      rw [List.getElem?_take_of_lt hj] at hu
      simpa [World.cell?, a1] using hu)
     ad G.length c O (by rw [f2, hsz]; exact q2) (q5 ad rfl) (by omega) (by omega) (by rw [f3]; exact growslice_fits (by omega) hb)
    have hge := grownCap_ge w (es.length + G.length) cp e
    refine ⟨_, _, ac, .inr ⟨w.heap.size, _, grownCap w (es.length + G.length) cp e, by simp, by simpa using hge, Nat.le_refl _, ?_⟩, ⟨rfl, rfl, rfl⟩, by show w.heap.size ≤ (w.heap.push _).size; simp, fun k hk _ => heap_alloc_old w.drew _ hk, fun b' hb' => .inl (by simp [F5] at hb'; omega)⟩
    refine Jb (heap_alloc_new w.drew _) ?_ hge hmax a5 ab ?_ ?_
    ·simp only [Array.size_append, size_zeroCells, hzs, List.size_toArray, aa, q2]
     rw [← Nat.add_mul, ← Nat.add_mul]; congr 1; omega
    ·intro i e' Y j y hy
     have hlt := Lx a5 Y hy
     have hgd : ((Z.toList.take (es.length * sz)).toArray ++ O.toArray ++ Builtin.zeroCells z.cells (grownCap w (es.length + G.length) cp e - (es.length + G.length))).getD (i * sz + j) undef = Z.getD (i * sz + j) undef := by
      have hc : es.length * sz ≤ Z.size := by rw [a2]; exact Nat.mul_le_mul_right _ a3
      simp only [Array.getD_eq_getD_getElem?, Array.getElem?_append, Array.size_append, List.size_toArray, aa, List.getElem?_toArray]
      rw [if_pos (by omega), if_pos (by omega), List.getElem?_take_of_lt hlt]
      simp
     rw [hgd]
     exact a6 i e' Y j y hy
    ·intro i e' Y j y hy
     have hlt := Lx ab Y hy
     have hgd : ((Z.toList.take (es.length * sz)).toArray ++ O.toArray ++ Builtin.zeroCells z.cells (grownCap w (es.length + G.length) cp e - (es.length + G.length))).getD (es.length * sz + (i * sz + j)) undef = O.getD (i * sz + j) undef := by
      simp only [Array.getD_eq_getD_getElem?, Array.getElem?_append, Array.size_append, List.size_toArray, aa, List.getElem?_toArray]
      rw [if_pos (by omega), if_neg (by omega), Nat.add_sub_cancel_left]
      rfl
     rw [hgd]
     exact ⟨Rm q3 (by omega), (q6 i e' Y).2 j y hy⟩
theorem Hl (v : Value) : (F5 v).Nodup := by
 unfold F5
 split <;> simp
theorem I8 {a : Act} {w w' : World} {s x : Operand} {t : TypeId} {v G : Value} (O : a.eval s = v) (h : (Builtin.append_ #[t, t] ty #[v, a.eval x]).run E.P w = .ok G w') :
  (execOp a.eval ⟨dst, .call { callee := .builtin .append, args := #[s, x], argTypes := #[t, t] }, ty, pos, aft, g⟩).run E.P w = .ok (.value G) w' := by
 simp only [execOp, resolve, invoke, builtin, Sem.run_bind, Sem.run_pure, Result.andThen_ok, List.map_toArray, List.map_cons, List.map_nil, O, h]
theorem Sj (ks : Nat) {s x : Operand} {t : TypeId} {ti ei : TI} {e sz : Nat} {z v : Value} {es G es' : List (List T)} {R : St → Prop}
  (ht : E.tab t = some ti) (hk : ti.kind = .slice e) (he : E.tab e = some ei) (hz : ei.zero = some z) (hsz : ei.size = sz) (hzs : z.cells.size = sz) (hby : Nat.ble ei.bytes 2048 = true)
  (hs : Bg σ.slots s = some (.v v)) (Z : σ.objs[ks]? = some (.us v e sz es))
  (hx : AppSrc σ.slots σ.objs x sz G) (hb : es.length + G.length ≤ 68719476736) (hes : es ++ G = es')
  (hd : ∀ d, dst = some d → d < n)
  (k : ∀ O, R ⟨Fb σ.slots dst (.v O), σ.objs.set ks (.us O e sz es')⟩) :
  AX E n C [ks] ⟨dst, .call { callee := .builtin .append, args := #[s, x], argTypes := #[t, t] }, ty, pos, aft, g⟩ σ R := by
 subst hes
 refine AX.value fun H a w Y => ?_
 have aa := Nat.le_of_ble_eq_true hby
 obtain ⟨O, w', h1, h2, h3, h4, h5, h6⟩ := Ja (ty := ty) Y.sr Y.wr ht hk he hz hsz hzs (Y.objs _ (mg Z)) hx (by simp [Hf]; omega) (Nat.le_trans (Nat.mul_le_mul hb aa) (by decide))
 refine ⟨O, w', _, H, I8 (Y.sr.evalv hs) h1, k O, ?_, fun _ _ h => h, fun i p hp hm => ?_⟩
 ·have := (Y.set (o' := .us O e sz (es ++ G)) Z h3 h4 h5 h2 h6 (Hl O)).put (dst := dst) (.v O) hd
  cases dst <;> exact this
 ·have ab : ks ≠ i := fun h => by subst h; simp at hm
  exact ⟨Jm hp ab, fun b hb => h5 b ((Y.objs p (mg hp)).lt b hb) (Y.apart Z hp ab b hb)⟩
theorem aW {s x : Operand} {t : TypeId} {ti ei : TI} {e sz : Nat} {z : Value} {G es' : List (List T)} {R : St → Prop}
  (ht : E.tab t = some ti) (hk : ti.kind = .slice e) (he : E.tab e = some ei) (hz : ei.zero = some z) (hsz : ei.size = sz) (hzs : z.cells.size = sz) (hby : Nat.ble ei.bytes 2048 = true)
  (hs : Bg σ.slots s = some (.v (.slice none 0 0)))
  (hx : AppSrc σ.slots σ.objs x sz G) (hb : G.length ≤ 68719476736) (hes : G = es')
  (hd : ∀ d, dst = some d → d < n)
  (k : ∀ O, R ⟨Fb σ.slots dst (.v O), σ.objs ++ [.us O e sz es']⟩) :
  AX E n C [] ⟨dst, .call { callee := .builtin .append, args := #[s, x], argTypes := #[t, t] }, ty, pos, aft, g⟩ σ R := by
 subst hes
 refine AX.value fun H a w Y => ?_
 have Z := Nat.le_of_ble_eq_true hby
 obtain ⟨O, w', h1, h2, h3, h4, h5, h6⟩ := Ja (ty := ty) (es := []) Y.sr Y.wr ht hk he hz hsz hzs (.inl ⟨rfl, rfl⟩) hx (by simp [Hf]; omega) (Nat.le_trans (Nat.mul_le_mul (by simpa using hb) Z) (by decide))
 simp only [List.nil_append] at h2
 refine ⟨O, w', _, H, I8 (Y.sr.evalv hs) h1, k O, ?_, fun _ _ h => h, fun i p hp hm => ?_⟩
 ·have := (Y.more (ob := .us O e sz G) h3 h4 (fun i hi => h5 i hi (by simp [F5])) h2 (fun b hb => (h6 b hb).resolve_right (by simp [F5])) (Hl O)).put (dst := dst) (.v O) hd
  cases dst <;> exact this
 ·exact ⟨Fj hp, fun b hb => h5 b ((Y.objs p (mg hp)).lt b hb) (by simp [F5])⟩
theorem tB {H : GH} {a : Act} {w : World} (Y : Gam n C σ H a w) {k : Nat} {o : Ob} (hk : σ.objs[k]? = some o) :
  ∃ H', (∀ b o, H b = some o → H' b = some o) ∧ Gam n C ⟨σ.slots, σ.objs.eraseIdx k⟩ H' a w ∧ (∀ b, b ∈ o.fp → H' b = w.heap[b]?) ∧ OR H' w o := by
 have hm := mg hk
 have hfree := Y.free _ hm
 have hnew := Y.new _ hm
 have G : ∀ O x, H O = some x → (if O ∈ o.fp then w.heap[O]? else H O) = some x := by
  intro O x ho
  by_cases hb : O ∈ o.fp
  ·rw [hfree O hb] at ho; cases ho
  ·simp [hb, ho]
 refine ⟨fun O => if O ∈ o.fp then w.heap[O]? else H O, G, ?_, fun b hb => by simp [hb], (Y.objs _ hm).mono G (fun _ _ => rfl)⟩
 have Z : ∀ p, p ∈ σ.objs.eraseIdx k → p ∈ σ.objs ∧ ∀ b, b ∈ p.fp → b ∉ o.fp := by
  intro p hp
  obtain ⟨i, hi⟩ := List.mem_iff_getElem?.1 hp
  rw [List.getElem?_eraseIdx] at hi
  split at hi
  ·rename_i hik
   exact ⟨mg hi, Y.apart hk hi (by omega)⟩
  ·rename_i hik
   exact ⟨mg hi, Y.apart hk hi (by omega)⟩
 refine ⟨Y.defers.mono G, Y.size, fun i x h => (Y.slots i x h).mono G, fun p hp => (Y.objs p (Z p hp).1).mono G (fun _ _ => rfl), fun p hp b hb => ?_, fun p hp => Y.new p (Z p hp).1, ?_, ?_, ?_, Y.heap, ?_, Y.env⟩
 ·obtain ⟨h1, h2⟩ := Z p hp
  simp [h2 b hb, Y.free p h1 b hb]
 ·exact (Dz (List.eraseIdx_sublist σ.objs k)).nodup Y.nodup
 ·intro O x ho
  by_cases hb : O ∈ o.fp
  ·simpa [hb] using ho
  ·simp [hb] at ho; exact Y.held _ _ ho
 ·intro O x ho; exact G _ _ (Y.grow _ _ ho)
 ·intro O hb' hf
  obtain ⟨h1, h2⟩ := Y.frame O hb' hf
  refine ⟨h1, ?_⟩
  have : O ∉ o.fp := fun h => by rcases hnew O h with h | h; omega; exact hf h
  simp [this, h2]
theorem ArrR.list {H : GH} {w : World} {b Z sz cap : Nat} {es : List (List T)} (h : ArrR H w b Z sz cap es) (hb : H b = w.heap[b]?) {c : Nat} (hc : es.length ≤ c) : VR H (.slice (some ⟨b, 0, none⟩) es.length c) (.list sz es) := by
 obtain ⟨cs, a1, a2, a3, a4, a5, Y⟩ := h
 refine .list b 0 c sz es cs Z (0, 0) (hb.trans a1) hc a4 ?_ a5 (fun i e G j x O => by simpa using (Y i e G j x O).1) (fun i e G j x O => by simpa using (Y i e G j x O).2)
 rw [a2, Nat.zero_add]; exact Nat.mul_le_mul_right _ a3
theorem UsR.list {H : GH} {w : World} {v : Value} {Z sz : Nat} {es : List (List T)} (h : UsR H w v Z sz es) (hb : ∀ b, b ∈ F5 v → H b = w.heap[b]?) : VR H v (.list sz es) := by
 rcases h with ⟨rfl, rfl⟩ | ⟨b, c, G, rfl, O, p2, Y⟩
 ·exact .empty _ _ _
 ·exact Y.list (hb b (by simp [F5])) O
def Fy (szi : Nat) (L : List (List (List T))) : List (List T) := L.map fun es => [.list szi es]
theorem dR {H : GH} {w : World} {v : Value} {ty tyi szi : Nat} {vs : List Value} {L : List (List (List T))} (h : OR H w (.uss v ty tyi szi vs (L.map some))) (hb : ∀ b, b ∈ (Ob.uss v ty tyi szi vs (L.map some)).fp → H b = w.heap[b]?) : VR H v (.list 1 (Fy szi L)) := by
 obtain ⟨h0, h1, h2⟩ := h
 have Y : vs.length = L.length := by simpa using h0
 rcases h1 with ⟨rfl, h1⟩ | ⟨b, c, cap, rfl, p1, p2, cs, a1, a2, a3, a4, a5, a6⟩
 ·have : vs = [] := by simpa using h1
  subst this
  have : L = [] := List.length_eq_zero_iff.1 (by simpa using Y.symm)
  subst this
  exact .empty _ _ _
 ·have hl : (Fy szi L).length = (vs.map fun x => [T.v x]).length := by simp [Fy, Y]
  rw [← hl]
  have aa : ∀ (i : Nat) (e : List T), (Fy szi L)[i]? = some e → ∃ x G, e = [.list szi G] ∧ vs[i]? = some x ∧ VR H x (.list szi G) ∧ cs.getD (i * 1) undef = x ∧ x.oneCell' = true := by
   intro i e O
   simp only [Fy, List.getElem?_map, Option.map_eq_some_iff] at O
   obtain ⟨G, ab, rfl⟩ := O
   have hil := (gs ab).1
   have hx : vs[i]? = some vs[i] := gq (by omega)
   have hL : (L.map some)[i]? = some (some G) := by simp [ab]
   have hu := h2 i _ G hx hL
   have Z := a6 i [T.v vs[i]] (by simp [hx]) 0 (T.v vs[i]) rfl
   simp only [Nat.add_zero] at Z
   refine ⟨_, G, rfl, hx, hu.list (fun b' hb' => hb b' (by simp [Ob.fp, Fp hx hL b' hb'])), Z.2.v_eq, ?_⟩
   rw [← Z.2.v_eq]; exact Z.1
  refine .list b 0 c 1 (Fy szi L) cs ty (0, 0) ((hb b (by simp [Ob.fp, F5])).trans a1) (by rw [hl]; exact p1) (by rw [hl]; exact a4) ?_ ?_ ?_ ?_
  ·rw [a2, Nat.zero_add]; rw [hl]; exact Nat.mul_le_mul_right _ a3
  ·intro i e O; obtain ⟨x, G, rfl, _⟩ := aa i e O; rfl
  ·intro i e O j y hy
   obtain ⟨x, G, rfl, h3, h4, h5, Z⟩ := aa i e O
   cases j with
   | zero => simp only [Nat.zero_add, Nat.add_zero]; rw [h5]; exact Z
   | succ j => simp at hy
  ·intro i e O j y hy
   obtain ⟨x, G, rfl, h3, h4, h5, Z⟩ := aa i e O
   cases j with
   | zero => simp only [Nat.zero_add, Nat.add_zero]; rw [h5]; simp at hy; subst hy; exact h4
   | succ j => simp at hy
def ACalls (E : Env) (f : FuncId) (xs : List T) (fp : List Ob) (R : T → List Ob → Prop) : Prop :=
 (∃ Y, E.P.funcs[f]? = some Y ∧ (Y.name == "runtime.NumGoroutine") = false ∧ Y.body.isNone = false) ∧
 ∀ (H : GH) (w : World) (Z : Array Value), Z.size = xs.length → (∀ (i : Nat) (x : T), xs[i]? = some x → VR H (Z.getD i undef) x) → ((∀ b o, H b = some o → w.heap[b]? = some o) ∧ cE H) →
  (∀ p, p ∈ fp → OR H w p ∧ ∀ b, b ∈ p.fp → H b = none) → (fp.flatMap Ob.fp).Nodup →
  Calls E.P f Z w fun e O => ∃ v x G H', e = .returned v ∧ R x G ∧ VR H' v x ∧ (∀ b o, H b = some o → H' b = some o) ∧ (∀ b o, H' b = some o → O.heap[b]? = some o) ∧
   (∀ p, p ∈ G → OR H' O p ∧ ∀ b, b ∈ p.fp → H' b = none ∧ (w.heap.size ≤ b ∨ b ∈ fp.flatMap Ob.fp)) ∧ (G.flatMap Ob.fp).Nodup ∧ w.heap.size ≤ O.heap.size ∧
   (O.os = w.os ∧ O.tape = w.tape ∧ O.output = w.output) ∧ ∀ b, b < w.heap.size → b ∉ fp.flatMap Ob.fp → O.heap[b]? = w.heap[b]? ∧ H' b = H b
theorem ACalls.mono {f : FuncId} {O : List T} {fp : List Ob} {R R' : T → List Ob → Prop} (h : ACalls E f O fp R) (hr : ∀ x G, R x G → R' x G) : ACalls E f O fp R' :=
 ⟨h.1, fun H w vs Y Z h3 h4 h5 => (h.2 H w vs Y Z h3 h4 h5).mono fun e w' ⟨v, x, G, H', q1, q2, q⟩ => ⟨v, x, G, H', q1, hr _ _ q2, q⟩⟩
def Gb (s : Az) : List Operand → Option (List T)
 | [] => some []
 | x :: l => match Bg s x, Gb s l with
  | some y, some ys => some (y :: ys)
  | _, _ => none
theorem Gw {s : Az} {H : GH} {a : Act} (r : SR n s H a) : ∀ {l : List Operand} {G : List T}, Gb s l = some G → (l.map a.eval).length = G.length ∧ ∀ (i : Nat) (y : T), G[i]? = some y → VR H ((l.map a.eval).getD i undef) y
 | [], G, h => by simp only [Gb, Option.some.injEq] at h; subst h; simp
 | x :: l, G, h => by
  simp only [Gb] at h
  split at h
  ·rename_i y ys' Y Z
   simp only [Option.some.injEq] at h
   subst h
   obtain ⟨k1, k2⟩ := Gw r Z
   refine ⟨by simpa using k1, fun i z O => ?_⟩
   cases i with
   | zero => simp at O; subst O; simpa using r.eval Y
   | succ i =>
    simp only [List.getElem?_cons_succ] at O
    simpa using k2 i z O
  ·simp at h
theorem Tv {H : GH} (l : List Value) : ∀ (i : Nat) (y : T), (l.map T.v)[i]? = some y → VR H (l.getD i undef) y := by
 intro i y h
 simp only [List.getElem?_map, Option.map_eq_some_iff] at h
 obtain ⟨v, G, rfl⟩ := h
 simp [List.getD, G]
 exact .v v
theorem VR.app {H : GH} {G Y : List Value} {O Z : List T} (hl : G.length = O.length) (h1 : ∀ (i : Nat) (y : T), O[i]? = some y → VR H (G.getD i undef) y) (h2 : ∀ (i : Nat) (y : T), Z[i]? = some y → VR H (Y.getD i undef) y) :
  ∀ (i : Nat) (y : T), (O ++ Z)[i]? = some y → VR H ((G ++ Y).getD i undef) y := by
 intro i y h
 rw [List.getElem?_append] at h
 split at h
 ·rename_i hi
  have := h1 i y h
  simpa [List.getD, List.getElem?_append, hl, hi] using this
 ·rename_i hi
  have := h2 _ y h
  simpa [List.getD, List.getElem?_append, hl, hi] using this
theorem Gam.called {H H' : GH} {a : Act} {w w' : World} (G : Gam n C σ H a w) {fp fp' objs : List Ob} (hfp : ∀ p, p ∈ fp → p ∈ σ.objs)
  (hH : ∀ b o, H b = some o → H' b = some o) (ab : ∀ b o, H' b = some o → w'.heap[b]? = some o)
  (aa : ∀ p, p ∈ fp' → OR H' w' p ∧ ∀ b, b ∈ p.fp → H' b = none ∧ (w.heap.size ≤ b ∨ b ∈ fp.flatMap Ob.fp)) (hsz : w.heap.size ≤ w'.heap.size) (Z : w'.os = w.os ∧ w'.tape = w.tape ∧ w'.output = w.output)
  (hfr : ∀ b, b < w.heap.size → b ∉ fp.flatMap Ob.fp → w'.heap[b]? = w.heap[b]? ∧ H' b = H b)
  (O : ∀ p, p ∈ objs → p ∈ fp' ∨ (p ∈ σ.objs ∧ ∀ b, b ∈ p.fp → b ∉ fp.flatMap Ob.fp)) (hnd : (objs.flatMap Ob.fp).Nodup) : Gam n C ⟨σ.slots, objs⟩ H' a w' := by
 have hold : ∀ p, p ∈ σ.objs → (∀ b, b ∈ p.fp → b ∉ fp.flatMap Ob.fp) → ∀ b, b ∈ p.fp → w'.heap[b]? = w.heap[b]? ∧ H' b = H b := fun p hp hn b Y => hfr b ((G.objs p hp).lt b Y) (hn b Y)
 refine ⟨G.defers.mono hH, G.size, fun i x h => (G.slots i x h).mono hH, ?_, ?_, ?_, hnd, ab, fun b o h => hH _ _ (G.grow _ _ h), Nat.le_trans G.heap hsz, ?_, ⟨Z.1.trans G.env.1, Z.2.1.trans G.env.2.1, Z.2.2.trans G.env.2.2⟩⟩
 ·intro p hp
  rcases O p hp with h | ⟨h, hn⟩
  ·exact (aa p h).1
  ·exact (G.objs p h).mono hH (fun b Y => (hold p h hn b Y).1)
 ·intro p hp b Y
  rcases O p hp with h | ⟨h, hn⟩
  ·exact ((aa p h).2 b Y).1
  ·rw [(hold p h hn b Y).2]; exact G.free p h b Y
 ·intro p hp b Y
  rcases O p hp with h | ⟨h, hn⟩
  ·rcases ((aa p h).2 b Y).2 with h | h
   ·exact .inl (Nat.le_trans G.heap h)
   ·obtain ⟨q, hq, he⟩ := List.mem_flatMap.1 h
    exact G.new q (hfp q hq) b he
  ·exact G.new p h b Y
 ·intro b Y hf
  have hbn : b ∉ fp.flatMap Ob.fp := fun h => by
   obtain ⟨q, hq, he⟩ := List.mem_flatMap.1 h
   rcases G.new q (hfp q hq) b he with h | h
   ·omega
   ·exact hf h
  obtain ⟨h1, h2⟩ := hfr b (Nat.lt_of_lt_of_le Y G.heap) hbn
  obtain ⟨h3, h4⟩ := G.frame b Y hf
  exact ⟨h1.trans h3, h2.trans h4⟩
def Dx (objs : List Ob) : List Nat → Option (List Ob)
 | [] => some []
 | k :: ks => match objs[k]?, Dx objs ks with
  | some o, some l => some (o :: l)
  | _, _ => none
def Gm (objs : List Ob) : List Nat → List Ob → List Ob
 | k :: ks, o :: os => Gm (objs.set k o) ks os
 | _, _ => objs
theorem G5 {objs : List Ob} : ∀ {ks : List Nat} {fp : List Ob}, Dx objs ks = some fp → fp.length = ks.length ∧ (∀ (i : Nat) (k : Nat), ks[i]? = some k → ∃ o, objs[k]? = some o ∧ fp[i]? = some o)
 | [], fp, h => by simp only [Dx, Option.some.injEq] at h; subst h; simp
 | k :: ks, fp, h => by
  simp only [Dx] at h
  split at h
  ·rename_i o l O Y
   simp only [Option.some.injEq] at h
   subst h
   obtain ⟨q1, q2⟩ := G5 Y
   refine ⟨by simp [q1], fun i Z G => ?_⟩
   cases i with
   | zero => simp at G; subst G; exact ⟨o, O, rfl⟩
   | succ i => simpa using q2 i Z (by simpa using G)
  ·cases h
theorem Oy : ∀ {ks : List Nat} {os : List Ob} (objs : List Ob), os.length = ks.length → ks.Nodup → (∀ k, k ∈ ks → k < objs.length) →
  (Gm objs ks os).length = objs.length ∧ (∀ (i : Nat) (k : Nat), ks[i]? = some k → (Gm objs ks os)[k]? = os[i]?) ∧ ∀ k, k ∉ ks → (Gm objs ks os)[k]? = objs[k]?
 | [], os, objs, h, _, _ => by simp [Gm]
 | k :: ks, [], objs, h, _, _ => by simp at h
 | k :: ks, o :: os, objs, h, hn, hl => by
  rw [List.nodup_cons] at hn
  obtain ⟨Z, q2, Y⟩ := Oy (ks := ks) (os := os) (objs.set k o) (by simpa using h) hn.2 (fun O G => by simpa using hl O (by simp [G]))
  simp only [Gm]
  refine ⟨by simpa using Z, fun i O G => ?_, fun O G => ?_⟩
  ·cases i with
   | zero =>
    simp at G; subst G
    rw [Y k hn.1, List.getElem?_set_self (hl k (by simp))]; rfl
   | succ i => simpa using q2 i O (by simpa using G)
  ·simp only [List.mem_cons, not_or] at G
   rw [Y O G.2, List.getElem?_set_ne (Ne.symm G.1)]
theorem Dk {l : List Ob} : (l.flatMap Ob.fp).Nodup ↔ (∀ (i : Nat) (p : Ob), l[i]? = some p → p.fp.Nodup) ∧ ∀ (i j : Nat) (p q : Ob), l[i]? = some p → l[j]? = some q → i ≠ j → ∀ b, b ∈ p.fp → b ∉ q.fp := by
 constructor
 ·intro h
  refine ⟨fun i p hi => ?_, fun i j p q hi O Y b G => S3 h hi O Y b G⟩
  obtain ⟨l1, l2, rfl, _⟩ := Mc hi
  rw [List.flatMap_append, List.flatMap_cons, List.nodup_append, List.nodup_append] at h
  exact h.2.1.1
 ·rintro ⟨h1, h2⟩
  induction l with
  | nil => simp
  | cons a l ih =>
   rw [List.flatMap_cons, List.nodup_append]
   refine ⟨h1 0 a rfl, ih (fun i p hi => h1 (i + 1) p (by simpa using hi)) (fun i j p q hi O Y b G => h2 (i + 1) (j + 1) p q (by simpa using hi) (by simpa using O) (by omega) b G), ?_⟩
   intro x hx y hy Z
   subst Z
   obtain ⟨q, hq, G⟩ := List.mem_flatMap.1 hy
   obtain ⟨j, O⟩ := List.mem_iff_getElem?.1 hq
   exact h2 0 (j + 1) a q rfl (by simpa using O) (by omega) x hx G
def Jd : T → Option (FuncId × List T × List T)
 | .v (.func (.func f) first captured) => some (f, first.toList.map T.v, captured.toList.map T.v)
 | .fn f first caps => some (f, first, caps)
 | _ => none
theorem X9 {H : GH} {v : Value} {y : T} {f : FuncId} {Y Z : List T} (h : VR H v y) (hf : Jd y = some (f, Y, Z)) :
  ∃ vf vc : Array Value, v = .func (.func f) vf vc ∧ vf.size = Y.length ∧ vc.size = Z.length ∧ (∀ (i : Nat) (x : T), Y[i]? = some x → VR H (vf.toList.getD i undef) x) ∧
   (∀ (i : Nat) (x : T), Z[i]? = some x → VR H (vc.toList.getD i undef) x) := by
 have conv : ∀ (O : Array Value) (i : Nat), O.getD i undef = O.toList.getD i undef := fun O i => by
  simp [Array.getD_eq_getD_getElem?, List.getD]
 cases h with
 | v x =>
  unfold Jd at hf
  split at hf
  ·rename_i f' first G he
   simp only [Option.some.injEq, Prod.mk.injEq] at hf
   obtain ⟨rfl, rfl, rfl⟩ := hf
   cases he
   exact ⟨first, G, rfl, by simp, by simp, Tv first.toList, Tv G.toList⟩
  ·rename_i he; cases he
  ·simp at hf
 | fn f' vf vc fs cs h1 h2 h3 h4 =>
  simp only [Jd, Option.some.injEq, Prod.mk.injEq] at hf
  obtain ⟨rfl, rfl, rfl⟩ := hf
  exact ⟨vf, vc, rfl, h1, h2, fun i x hx => by rw [← conv]; exact h3 i x hx, fun i x hx => by rw [← conv]; exact h4 i x hx⟩
 | _ => simp [Jd] at hf
theorem AX.call {md : List Nat} {c : Operand} {args : Array Operand} {ad : Array TypeId} {f : FuncId} {ab ac xs ys : List T} {fp : List Ob} {Rc : T → List Ob → Prop} {R : St → Prop}
  (hc : (Bg σ.slots c).bind Jd = some (f, ab, ac)) (hx : Gb σ.slots args.toList = some xs) (ak : ab ++ xs ++ ac = ys)
  (h : ACalls E f ys fp Rc) (Z : ∀ p, p ∈ fp → p ∈ σ.objs) (aj : (fp.flatMap Ob.fp).Nodup) (hd : ∀ d, dst = some d → d < n)
  (k : ∀ H a w H' w' v x O, Gam n C σ H a w → Rc x O → VR H' v x → (∀ b o, H b = some o → H' b = some o) → (∀ b o, H' b = some o → w'.heap[b]? = some o) →
   (∀ p, p ∈ O → OR H' w' p ∧ ∀ b, b ∈ p.fp → H' b = none ∧ (w.heap.size ≤ b ∨ b ∈ fp.flatMap Ob.fp)) → (O.flatMap Ob.fp).Nodup → w.heap.size ≤ w'.heap.size → (w'.os = w.os ∧ w'.tape = w.tape ∧ w'.output = w.output) →
   (∀ b, b < w.heap.size → b ∉ fp.flatMap Ob.fp → w'.heap[b]? = w.heap[b]? ∧ H' b = H b) →
   ∃ objs, R ⟨Fb σ.slots dst x, objs⟩ ∧ Gam n C ⟨σ.slots, objs⟩ H' a w' ∧ ∀ i p, σ.objs[i]? = some p → md.contains i = false → objs[i]? = some p ∧ ∀ b, b ∈ p.fp → w'.heap[b]? = w.heap[b]?) :
  AX E n C md ⟨dst, .call { callee := .value c, args := args, argTypes := ad }, ty, pos, aft, g⟩ σ R := by
 intro H a w Y
 subst ak
 obtain ⟨⟨fn, f1, f2, f3⟩, h⟩ := h
 obtain ⟨k1, k2⟩ := Gw Y.sr hx
 obtain ⟨y, hy, ah⟩ := Option.bind_eq_some_iff.1 hc
 obtain ⟨first, G, ag, z1, z2, z3, z4⟩ := X9 (Y.sr.eval hy) ah
 have aa : (execOp a.eval ⟨dst, .call { callee := .value c, args := args, argTypes := ad }, ty, pos, aft, g⟩).run E.P w = .ok (.enter f (first ++ args.map a.eval ++ G)) w := by
  have ae : ¬ fn.name = "runtime.NumGoroutine" := by simpa using f2
  have af : ¬ fn.body = none := by
   intro hb; rw [hb] at f3; simp at f3
  simp [execOp, resolve, ag, Deferred.ofValue, invoke, callFunc, f1, ae, af]
 simp only [Oper.wp, aa, Oper.upon]
 have hl : (first ++ args.map a.eval ++ G).toList = first.toList ++ args.toList.map a.eval ++ G.toList := by simp
 refine (h H w (first ++ args.map a.eval ++ G) ?_ ?_ ⟨Y.held, fun b l h => (C.hg b l h).mono Y.grow⟩ (fun p hp => ⟨Y.objs p (Z p hp), Y.free p (Z p hp)⟩) aj).mono ?_
 ·rw [← Array.length_toList, hl]; simp at k1 ⊢; omega
 ·intro i x ai
  rw [Array.getD_eq_getD_getElem?, ← Array.getElem?_toList, hl]
  have := VR.app (H := H) (by simp at k1 ⊢; omega) (VR.app (H := H) (by simp; omega) z3 k2) z4 i x ai
  simpa [List.getD] using this
 ·rintro e w' ⟨v, x, O, H', rfl, q2, q3, q4, q5, q6, q7, q8, am, q9⟩
  obtain ⟨objs, r1, r2, r3⟩ := k H a w H' w' v x O Y q2 q3 q4 q5 q6 q7 q8 am q9
  refine ⟨_, H', v, r1, ?_, rfl, q4, r3⟩
  have := r2.put (dst := dst) q3 hd
  cases dst <;> exact this
theorem Yo (ks : List Nat) {c : Operand} {args : Array Operand} {tys : Array TypeId} {f : FuncId} {pre suf xs ys : List T} {fp : List Ob} {Rc : T → List Ob → List Ob → Prop} {R : St → Prop}
  (hc : (Bg σ.slots c).bind Jd = some (f, pre, suf)) (hx : Gb σ.slots args.toList = some xs) (hys : pre ++ xs ++ suf = ys)
  (hk : Dx σ.objs ks = some fp) (hkn : ks.Nodup) (h : ACalls E f ys fp (fun x fp' => ∃ os new, fp' = os ++ new ∧ os.length = fp.length ∧ Rc x os new)) (hd : ∀ d, dst = some d → d < n)
  (k : ∀ x os new, os.length = fp.length → Rc x os new → R ⟨Fb σ.slots dst x, Gm σ.objs ks os ++ new⟩) :
  AX E n C ks ⟨dst, .call { callee := .value c, args := args, argTypes := tys }, ty, pos, aft, g⟩ σ R := by
 obtain ⟨p1, p2⟩ := G5 hk
 have hmem : ∀ p, p ∈ fp → ∃ (i k : Nat), fp[i]? = some p ∧ ks[i]? = some k ∧ σ.objs[k]? = some p := by
  intro p hp
  obtain ⟨i, hi⟩ := List.mem_iff_getElem?.1 hp
  have hil := (gs hi).1
  obtain ⟨o, h1, h2⟩ := p2 i ks[i] (gq (by omega))
  rw [hi] at h2
  cases h2
  exact ⟨i, ks[i], hi, gq (by omega), h1⟩
 have hfpm : ∀ p, p ∈ fp → p ∈ σ.objs := fun p hp => by obtain ⟨i, k, _, _, h⟩ := hmem p hp; exact mg h
 refine fun H a w gm => AX.call (md := ks) hc hx hys h hfpm ?_ hd ?_ H a w gm
 ·refine Dk.2 ⟨fun i p hi => ?_, fun i j p q hi hj hne b Z => ?_⟩
  ·obtain ⟨_, k, _, _, hk⟩ := hmem p (mg hi)
   exact (Dk.1 gm.nodup).1 k p hk
  ·have hil := (gs hi).1
   have hjl := (gs hj).1
   obtain ⟨o, h1, h2⟩ := p2 i ks[i] (gq (by omega))
   obtain ⟨o', h1', h2'⟩ := p2 j ks[j] (gq (by omega))
   rw [hi] at h2; cases h2
   rw [hj] at h2'; cases h2'
   refine S3 gm.nodup h1 h1' (fun he => hne ?_) b Z
   exact (List.getElem?_inj (by omega) hkn).1 (by rw [gq (by omega), gq (by omega), he])
 ·rintro H a w H' w' v x fp' gm ⟨os, new, rfl, hol, q2⟩ q3 q4 q5 q6 q7 q8 q10 q9
  have hlt : ∀ k, k ∈ ks → k < σ.objs.length := by
   intro k hk
   obtain ⟨i, hi⟩ := List.mem_iff_getElem?.1 hk
   obtain ⟨o, h1, _⟩ := p2 i k hi
   exact (gs h1).1
  obtain ⟨s1, s2, s3⟩ := Oy (ks := ks) (os := os) σ.objs (by omega) hkn hlt
  have Y : ∀ (i : Nat) (p : Ob), σ.objs[i]? = some p → i ∉ ks → ∀ b, b ∈ p.fp → b ∉ fp.flatMap Ob.fp := by
   intro i p hi hn b Z hm
   obtain ⟨q, hq, hbq⟩ := List.mem_flatMap.1 hm
   obtain ⟨j, k, _, h2, h3⟩ := hmem q hq
   exact S3 gm.nodup hi h3 (fun he => hn (by rw [he]; exact mg h2)) b Z hbq
  have G : ∀ (i : Nat) (p : Ob), (Gm σ.objs ks os ++ new)[i]? = some p → (∃ m : Nat, (os ++ new)[m]? = some p ∧ ((i < σ.objs.length ∧ ks[m]? = some i) ∨ (σ.objs.length ≤ i ∧ m = os.length + (i - σ.objs.length)))) ∨ (i ∉ ks ∧ σ.objs[i]? = some p) := by
   intro i p hi
   rw [List.getElem?_append] at hi
   split at hi
   ·rename_i hil
    by_cases hki : i ∈ ks
    ·obtain ⟨m, hm⟩ := List.mem_iff_getElem?.1 hki
     rw [s2 m i hm] at hi
     exact .inl ⟨m, by rw [List.getElem?_append_left (gs hi).1]; exact hi, .inl ⟨by omega, hm⟩⟩
    ·rw [s3 i hki] at hi
     exact .inr ⟨hki, hi⟩
   ·rename_i hil
    refine .inl ⟨os.length + (i - σ.objs.length), ?_, .inr ⟨by omega, rfl⟩⟩
    rw [List.getElem?_append_right (by omega), Nat.add_sub_cancel_left, ← s1]; exact hi
  have hnd := Dk.1 q7
  have hnd0 := Dk.1 gm.nodup
  have hout : ∀ (i : Nat) (p : Ob), σ.objs[i]? = some p → i ∉ ks → ∀ q, q ∈ os ++ new → ∀ b, b ∈ q.fp → b ∉ p.fp := by
   intro i p hi hn q hq b Z hbp
   rcases ((q6 q hq).2 b Z).2 with h | h
   ·have := (gm.objs p (mg hi)).lt b hbp; omega
   ·exact Y i p hi hn b hbp h
  refine ⟨Gm σ.objs ks os ++ new, k x os new hol q2, gm.called hfpm q4 q5 q6 q8 q10 q9 ?_ ?_, ?_⟩
  ·intro p hp
   obtain ⟨i, hi⟩ := List.mem_iff_getElem?.1 hp
   rcases G i p hi with ⟨m, hm, _⟩ | ⟨hn, O⟩
   ·exact .inl (mg hm)
   ·exact .inr ⟨mg O, Y i p O hn⟩
  ·refine Dk.2 ⟨fun i p hi => ?_, fun i j p q hi hj hne b Z => ?_⟩
   ·rcases G i p hi with ⟨m, hm, _⟩ | ⟨hn, O⟩
    ·exact hnd.1 m p hm
    ·exact hnd0.1 i p O
   ·rcases G i p hi with ⟨m, hm, hm'⟩ | ⟨hn, O⟩ <;> rcases G j q hj with ⟨m2, hm2, hm2'⟩ | ⟨hn2, hj'⟩
    ·refine hnd.2 m m2 p q hm hm2 (fun he => ?_) b Z
     subst he
     rcases hm' with ⟨h1, h2⟩ | ⟨h1, h2⟩ <;> rcases hm2' with ⟨h3, h4⟩ | ⟨h3, h4⟩
     ·rw [h2] at h4; cases h4; exact hne rfl
     ·have := (gs h2).1; omega
     ·have := (gs h4).1; omega
     ·omega
    ·exact hout j q hj' hn2 p (mg hm) b Z
    ·exact fun hbq => hout i p O hn q (mg hm2) b hbq Z
    ·exact hnd0.2 i j p q O hj' hne b Z
  ·intro i p hp hm
   have hn : i ∉ ks := by simpa using hm
   refine ⟨?_, fun b Z => (q9 b ((gm.objs p (mg hp)).lt b Z) (Y i p hp hn b Z)).1⟩
   have hil := (gs hp).1
   rw [List.getElem?_append_left (by rw [s1]; exact hil), s3 i hn]; exact hp
theorem Ck {c : Operand} {args : Array Operand} {ab : Array TypeId} {f : FuncId} {G O xs ys : List T} {Rc : T → List Ob → Prop} {R : St → Prop}
  (hc : (Bg σ.slots c).bind Jd = some (f, G, O)) (hx : Gb σ.slots args.toList = some xs) (aa : G ++ xs ++ O = ys)
  (h : ACalls E f ys [] Rc) (hd : ∀ d, dst = some d → d < n) (k : ∀ x new, Rc x new → R ⟨Fb σ.slots dst x, σ.objs ++ new⟩) :
  AX E n C [] ⟨dst, .call { callee := .value c, args := args, argTypes := ab }, ty, pos, aft, g⟩ σ R :=
 Yo [] hc hx aa (Rc := fun x _ new => Rc x new) rfl (by simp) (h.mono fun x Y Z => ⟨[], Y, rfl, rfl, Z⟩) hd (fun x os new hl Z => by
  have : os = [] := List.length_eq_zero_iff.1 (by simpa using hl)
  subst this
  exact k x new Z)
mutual
/-- What is of the call's own, read as what nobody writes. -/
inductive Lend (objs : List Ob) : T → T → Prop
 | refl (x : T) : Lend objs x x
 | nil (sz : Nat) : Lend objs (.v (.slice none 0 0)) (.list sz [])
 | us (k : Nat) {v : Value} {ty sz : Nat} {es : List (List T)} (h : objs[k]? = some (.us v ty sz es)) : Lend objs (.v v) (.list sz es)
 | uss (k : Nat) {v : Value} {ty tyi szi : Nat} {vs : List Value} {L : List (List (List T))} {es : List (List T)} (h : objs[k]? = some (.uss v ty tyi szi vs (L.map some))) (he : Fy szi L = es) : Lend objs (.v v) (.list 1 es)
 | box (k : Nat) {b ty sz : Nat} {e e' : List T} (h : objs[k]? = some (.arr b ty sz 1 [e])) (hl : LendL objs e e') : Lend objs (.v (.pointer (some ⟨b, 0, none⟩))) (.eptr e')
 | agg {cs cs' : List T} (hl : LendL objs cs cs') : Lend objs (.agg cs) (.agg cs')
 | fn {f : FuncId} {a a' c c' : List T} (h1 : LendL objs a a') (h2 : LendL objs c c') : Lend objs (.fn f a c) (.fn f a' c')
 | usd (k : Nat) {v : Value} {ty sz : Nat} {es es' : List (List T)} (h : objs[k]? = some (.us v ty sz es)) (hl : LendLL objs es es') : Lend objs (.v v) (.list sz es')
inductive LendL (objs : List Ob) : List T → List T → Prop
 | nil : LendL objs [] []
 | cons {x y : T} {l m : List T} (h : Lend objs x y) (t : LendL objs l m) : LendL objs (x :: l) (y :: m)
 | rest (l : List T) : LendL objs l l
inductive LendLL (objs : List Ob) : List (List T) → List (List T) → Prop
 | nil : LendLL objs [] []
 | cons {x y : List T} {l m : List (List T)} (h : LendL objs x y) (t : LendLL objs l m) : LendLL objs (x :: l) (y :: m)
 | rest (l : List (List T)) : LendLL objs l l
end
theorem LendLL.length {objs : List Ob} : ∀ {l m : List (List T)}, LendLL objs l m → l.length = m.length
 | _, _, .nil => rfl
 | _, _, .cons _ t => by simp [t.length]
 | _, _, .rest _ => rfl
theorem VR.rows {H : GH} {v : Value} {sz : Nat} {es es' : List (List T)} (h : VR H v (.list sz es)) (hl : es.length = es'.length)
  (Z : ∀ (i : Nat) (e' : List T), es'[i]? = some e' → ∃ e, es[i]? = some e ∧ e.length = e'.length ∧ ∀ (j : Nat) (y : T), e'[j]? = some y → ∀ {v : Value}, (∀ x, e[j]? = some x → VR H v x) → VR H v y) : VR H v (.list sz es') := by
 cases h with
 | empty a cap sz =>
  have : es' = [] := List.length_eq_zero_iff.1 (by simpa using hl.symm)
  subst this; exact .empty _ _ _
 | list b off cap sz es cs ty fr hb hcap hmax hsz hel h1 hv =>
  rw [hl]
  refine .list b off cap sz es' cs ty fr hb (by omega) (by omega) (by rw [← hl]; exact hsz) (fun i e' G => ?_) (fun i e' G j y hy => ?_) (fun i e' G j y hy => ?_)
  ·obtain ⟨e, Y, O, _⟩ := Z i e' G
   rw [← O]; exact hel i e Y
  ·obtain ⟨e, Y, O, _⟩ := Z i e' G
   have hj : j < e.length := by rw [O]; exact (gs hy).1
   exact h1 i e Y j _ (gq hj)
  ·obtain ⟨e, Y, O, hq⟩ := Z i e' G
   exact hq j y hy fun x hx => hv i e Y j x hx
theorem LendL.length {objs : List Ob} : ∀ {l m : List T}, LendL objs l m → l.length = m.length
 | _, _, .nil => rfl
 | _, _, .cons _ t => by simp [t.length]
 | _, _, .rest _ => rfl
theorem LendL.get {objs : List Ob} : ∀ {l m : List T}, LendL objs l m → ∀ (i : Nat) (y : T), m[i]? = some y → ∃ x, l[i]? = some x ∧ Lend objs x y
 | _, _, .nil, i, y, h => by simp at h
 | _, _, .cons h t, 0, y, hy => by simp at hy; subst hy; exact ⟨_, rfl, h⟩
 | _, _, .cons h t, i + 1, y, hy => by simpa using t.get i y (by simpa using hy)
 | _, _, .rest _, i, y, hy => ⟨y, hy, .refl y⟩
def Fk : T → Bool
 | .v _ => true
 | .tup l => flatL l
 | .agg l => flatL l
 | _ => false
where flatL : List T → Bool
 | [] => true
 | x :: l => Fk x && flatL l
theorem N4 : ∀ {l : List T}, Fk.flatL l = true → ∀ (i : Nat) (x : T), l[i]? = some x → Fk x = true
 | [], _, i, x, h => by simp at h
 | y :: l, hl, 0, x, h => by simp at h; subst h; simp only [Fk.flatL, Bool.and_eq_true] at hl; exact hl.1
 | y :: l, hl, i + 1, x, h => by simp only [Fk.flatL, Bool.and_eq_true] at hl; exact N4 hl.2 i x (by simpa using h)
theorem VR.flat {H H' : GH} {v : Value} {x : T} (h : VR H v x) : Fk x = true → VR H' v x := by
 induction h with
 | v x => exact fun _ => .v x
 | empty a cap sz => intro h; simp [Fk] at h
 | list => intro h; simp [Fk] at h
 | agg vs cs hl h1 hv ih => exact fun h => .agg vs cs hl h1 (fun j x G => ih j x G (N4 (by simpa [Fk] using h) j x G))
 | tup vs cs hl hv ih => exact fun h => .tup vs cs hl (fun j x G => ih j x G (N4 (by simpa [Fk] using h) j x G))
 | eptr => intro h; simp [Fk] at h
 | fn => intro h; simp [Fk] at h
mutual
theorem Wp {H H1 : GH} {w : World} {objs : List Ob} (ho : ∀ p, p ∈ objs → OR H1 w p) (hb : ∀ p, p ∈ objs → ∀ b, b ∈ p.fp → H1 b = w.heap[b]?) (hm : ∀ b o, H b = some o → H1 b = some o) {x y : T} : Lend objs x y → ∀ {v : Value}, VR H v x → VR H1 v y
 | .refl _, v, h => h.mono hm
 | .nil sz, v, h => by rw [h.v_eq]; exact .empty _ _ _
 | .us k hk, v, h => by
  rw [h.v_eq]
  have O := mg hk
  exact UsR.list (ho _ O) (hb _ O)
 | .uss k hk he, v, h => by
  rw [h.v_eq]
  subst he
  have O := mg hk
  exact dR (ho _ O) (hb _ O)
 | .box k hk hl, v, h => by
  rw [h.v_eq]
  have O := mg hk
  obtain ⟨cs, a1, a2, a3, a4, a5, a6⟩ : ArrR H1 w _ _ _ _ _ := ho _ O
  have h5 := a5 0 _ rfl
  refine .eptr _ 0 _ cs _ _ ((hb _ O _ (by simp [Ob.fp])).trans a1) ?_ (fun j z Y => ?_) (fun j z Y => ?_)
  ·rw [← hl.length, h5, a2]; omega
  ·obtain ⟨Z, G, _⟩ := hl.get j z Y
   have := (a6 0 _ rfl j Z G).1
   simpa using this
  ·exact Fz ho hb (fun _ _ h => h) hl j z Y (fun Z G => by have := (a6 0 _ rfl j Z G).2; simpa using this)
 | .agg hl, v, h => by
  cases h with
  | agg vs cs hsz h1 hv =>
   refine .agg vs _ (hsz.trans hl.length) (fun j z Y => ?_) (fun j z Y => Fz ho hb hm hl j z Y (fun Z G => hv j Z G))
   obtain ⟨Z, G, _⟩ := hl.get j z Y
   exact h1 j Z G
 | .usd k hk hl, v, h => by
  rw [h.v_eq]
  have O := mg hk
  exact (UsR.list (ho _ O) (hb _ O)).rows hl.length (Oc ho hb (fun _ _ h => h) hl)
 | .fn ha hc, v, h => by
  cases h with
  | fn f vf vc fs cs h1 h2 h3 h4 =>
   exact .fn _ vf vc _ _ (h1.trans ha.length) (h2.trans hc.length) (fun j z Y => Fz ho hb hm ha j z Y (fun Z G => h3 j Z G)) (fun j z Y => Fz ho hb hm hc j z Y (fun Z G => h4 j Z G))
theorem Fz {H H1 : GH} {w : World} {objs : List Ob} (O : ∀ p, p ∈ objs → OR H1 w p) (hb : ∀ p, p ∈ objs → ∀ b, b ∈ p.fp → H1 b = w.heap[b]?) (G : ∀ b o, H b = some o → H1 b = some o) {l m : List T} : LendL objs l m →
  ∀ (j : Nat) (y : T), m[j]? = some y → ∀ {v : Value}, (∀ x, l[j]? = some x → VR H v x) → VR H1 v y
 | .nil, j, y, h, v, _ => by simp at h
 | .cons h t, 0, y, hy, v, hv => by simp at hy; subst hy; exact Wp O hb G h (hv _ rfl)
 | .cons h t, j + 1, y, hy, v, hv => Fz O hb G t j y (by simpa using hy) (fun x Y => hv x (by simpa using Y))
 | .rest _, j, y, hy, v, hv => (hv y hy).mono G
theorem Oc {H H1 : GH} {w : World} {objs : List Ob} (Z : ∀ p, p ∈ objs → OR H1 w p) (hb : ∀ p, p ∈ objs → ∀ b, b ∈ p.fp → H1 b = w.heap[b]?) (G : ∀ b o, H b = some o → H1 b = some o) {l m : List (List T)} : LendLL objs l m →
  ∀ (i : Nat) (e' : List T), m[i]? = some e' → ∃ e, l[i]? = some e ∧ e.length = e'.length ∧ ∀ (j : Nat) (y : T), e'[j]? = some y → ∀ {v : Value}, (∀ x, e[j]? = some x → VR H v x) → VR H1 v y
 | .nil, i, y, h => by simp at h
 | .cons h t, 0, e', he => by simp at he; subst he; exact ⟨_, rfl, h.length, fun j y Y v O => Fz Z hb G h j y Y O⟩
 | .cons h t, i + 1, e', he => by simpa using Oc Z hb G t i e' (by simpa using he)
 | .rest _, i, e', he => ⟨e', he, rfl, fun j y Y v O => (O y Y).mono G⟩
end
theorem Ch {c : Operand} {args : Array Operand} {tys : Array TypeId} {f : FuncId} {xs ah aj ak ys : List T} {y y' : T} {Rc : T → List Ob → Prop} {R : St → Prop}
  (hc : Bg σ.slots c = some y) (hy : Lend σ.objs y y') (hf : Jd y' = some (f, aj, ak)) (hx : Gb σ.slots args.toList = some xs) (hl : LendL σ.objs xs ah) (hys : aj ++ ah ++ ak = ys)
  (h : ACalls E f ys [] Rc) (hd : ∀ d, dst = some d → d < n) (an : ∀ x new, Rc x new → Fk x = true) (k : ∀ x, (∃ new, Rc x new) → R ⟨Fb σ.slots dst x, σ.objs⟩) :
  AX E n C [] ⟨dst, .call { callee := .value c, args := args, argTypes := tys }, ty, pos, aft, g⟩ σ R := by
 intro H a w Y
 subst hys
 obtain ⟨⟨fn, f1, f2, f3⟩, h⟩ := h
 obtain ⟨k1, k2⟩ := Gw Y.sr hx
 have ai : ∀ b o, H b = some o → b ∉ σ.objs.flatMap Ob.fp := fun b o G hm => by
  obtain ⟨p, Z, am⟩ := List.mem_flatMap.1 hm
  rw [Y.free p Z b am] at G; cases G
 obtain ⟨H1, ae⟩ : ∃ H1 : GH, H1 = fun b => if b ∈ σ.objs.flatMap Ob.fp then w.heap[b]? else H b := ⟨_, rfl⟩
 have ab : ∀ b o, H b = some o → H1 b = some o := fun b o G => by rw [ae]; simp only [ai b o G, if_false]; exact G
 have ho1 : ∀ p, p ∈ σ.objs → OR H1 w p := fun p Z => (Y.objs p Z).mono ab (fun _ _ => rfl)
 have aq : ∀ p, p ∈ σ.objs → ∀ b, b ∈ p.fp → H1 b = w.heap[b]? := fun p Z b G => by
  rw [ae]; simp only [List.mem_flatMap.2 ⟨p, Z, G⟩, if_true]
 have ag : ∀ b o, H1 b = some o → w.heap[b]? = some o := fun b o G => by
  rw [ae] at G
  dsimp only at G
  split at G
  ·exact G
  ·exact Y.held b o G
 have hvy := Wp ho1 aq ab hy (Y.sr.eval hc)
 obtain ⟨first, O, hev, z1, z2, z3, z4⟩ := X9 hvy hf
 have hrun : (execOp a.eval ⟨dst, .call { callee := .value c, args := args, argTypes := tys }, ty, pos, aft, g⟩).run E.P w = .ok (.enter f (first ++ args.map a.eval ++ O)) w := by
  have f2' : ¬ fn.name = "runtime.NumGoroutine" := by simpa using f2
  have f3' : ¬ fn.body = none := by
   intro G; rw [G] at f3; simp at f3
  simp [execOp, resolve, hev, Deferred.ofValue, invoke, callFunc, f1, f2', f3']
 simp only [Oper.wp, hrun, Oper.upon]
 have hxl : xs.length = ah.length := hl.length
 have aa : (first ++ args.map a.eval ++ O).toList = first.toList ++ args.toList.map a.eval ++ O.toList := by simp
 refine (h H1 w (first ++ args.map a.eval ++ O) ?_ ?_ ⟨ag, fun b l h => (C.hg b l h).mono fun b o G => ab b o (Y.grow b o G)⟩ (by simp) (by simp)).mono ?_
 ·rw [← Array.length_toList, aa]; simp at k1 ⊢; omega
 ·intro i x hix
  rw [Array.getD_eq_getD_getElem?, ← Array.getElem?_toList, aa]
  have hxs : ∀ (i : Nat) (y : T), ah[i]? = some y → VR H1 ((args.toList.map a.eval).getD i undef) y := fun i y hy => Fz ho1 aq ab hl i y hy (fun x hx => k2 i x hx)
  have := VR.app (H := H1) (by simp at k1 ⊢; omega) (VR.app (H := H1) (by simp; omega) z3 hxs) z4 i x hix
  simpa [List.getD] using this
 ·rintro e w' ⟨v, x, ap, H', rfl, q2, q3, q4, q5, q6, q7, q8, ao, q9⟩
  have q9' : ∀ b, b < w.heap.size → w'.heap[b]? = w.heap[b]? ∧ H' b = H1 b := fun b G => q9 b G (by simp)
  obtain ⟨H2, af⟩ : ∃ H2 : GH, H2 = fun b => if b ∈ σ.objs.flatMap Ob.fp then none else H' b := ⟨_, rfl⟩
  have ac : ∀ b o, H b = some o → H2 b = some o := fun b o G => by
   rw [af]; simp only [ai b o G, if_false]; exact q4 _ _ (ab b o G)
  have h2' : ∀ b o, H2 b = some o → H' b = some o := fun b o G => by
   rw [af] at G
   dsimp only at G
   split at G
   ·cases G
   ·exact G
  have ad : ∀ p, p ∈ σ.objs → ∀ b, b ∈ p.fp → w'.heap[b]? = w.heap[b]? := fun p Z b G => (q9' b ((Y.objs p Z).lt b G)).1
  refine ⟨_, H2, v, k x ⟨ap, q2⟩, ?_, rfl, ac, fun i p Z _ => ⟨Z, ad p (mg Z)⟩⟩
  have g2 : Gam n C σ H2 a w' := by
   refine ⟨Y.defers.mono ac, Y.size, fun i x h => (Y.slots i x h).mono ac, fun p Z => (Y.objs p Z).mono ac (ad p Z), fun p Z b G => ?_, Y.new, Y.nodup, fun b o G => q5 _ _ (h2' b o G), fun b o G => ac _ _ (Y.grow _ _ G), Nat.le_trans Y.heap q8, fun b G hf => ?_, ⟨ao.1.trans Y.env.1, ao.2.1.trans Y.env.2.1, ao.2.2.trans Y.env.2.2⟩⟩
   ·rw [af]; simp only [List.mem_flatMap.2 ⟨p, Z, G⟩, if_true]
   ·obtain ⟨h1, h2⟩ := q9' b (Nat.lt_of_lt_of_le G Y.heap)
    obtain ⟨h3, h4⟩ := Y.frame b G hf
    refine ⟨h1.trans h3, ?_⟩
    rw [af]
    dsimp only
    split
    ·rename_i hm
     obtain ⟨p, Z, am⟩ := List.mem_flatMap.1 hm
     rcases Y.new p Z b am with h | h
     ·omega
     ·exact absurd h hf
    ·rename_i hm
     rw [h2, ae]
     simp only [hm, if_false]; exact h4
  have := g2.put (dst := dst) (q3.flat (H' := H2) (an x ap q2)) hd
  cases dst <;> exact this
def sB : Ob → Bool
 | .us _ _ _ es => es.all fun e => e.all Fk
 | _ => false
theorem OR.flat {H H' : GH} {w : World} {o : Ob} (h : OR H w o) (hf : sB o = true) : OR H' w o := by
 cases o with
 | us v ty sz es =>
  rcases h with h | ⟨b, c, G, rfl, h1, h2, cs, a1, a2, a3, a4, a5, Z⟩
  ·exact .inl h
  ·refine .inr ⟨b, c, G, rfl, h1, h2, cs, a1, a2, a3, a4, a5, fun i e O j x Y => ⟨(Z i e O j x Y).1, (Z i e O j x Y).2.flat ?_⟩⟩
   have := List.all_eq_true.1 hf e (mg O)
   exact List.all_eq_true.1 this x (mg Y)
 | _ => cases hf
theorem ACalls.sub {f : FuncId} {xs : List T} {fp : List Ob} {R R' : T → List Ob → Prop} (h : ACalls E f xs fp R) (hr : ∀ x O, R x O → ∃ G, G.Sublist O ∧ R' x G) : ACalls E f xs fp R' :=
 ⟨h.1, fun H w vs h1 h2 h3 h4 h5 => (h.2 H w vs h1 h2 h3 h4 h5).mono fun e w' ⟨v, x, O, H', q1, q2, q3, q4, q5, q6, q7, q⟩ => by
  obtain ⟨G, Z, Y⟩ := hr x O q2
  exact ⟨v, x, G, H', q1, Y, q3, q4, q5, fun p hp => q6 p (Z.subset hp), q7.sublist (Dz Z), q⟩⟩
def Zj : Nat → List T → Az
 | _, [] => []
 | k, x :: l => (k, x) :: Zj (k + 1) l
theorem Yi : ∀ (l : List T) (k i : Nat) (x : T), get (Zj k l) i = some x → k ≤ i ∧ l[i - k]? = some x
 | [], k, i, x, h => by simp [Zj, get] at h
 | y :: l, k, i, x, h => by
  simp only [Zj, get] at h
  cases hb : Nat.beq k i with
  | true =>
   have := nq hb
   subst this
   simp only [hb, cond_true, Option.some.injEq] at h
   subst h; simp
  | false =>
   simp only [hb, cond_false] at h
   obtain ⟨O, G⟩ := Yi l (k + 1) i x h
   refine ⟨by omega, ?_⟩
   rw [show i - k = (i - (k + 1)) + 1 by omega]
   simpa using G
def cD (E : Env) (s : Az) (objs : List Ob) : List ResultVar → List T → Prop
 | [], [] => True
 | .tmp t :: l, x :: xs => get s t = some x ∧ cD E s objs l xs
 | .cell c t :: l, x :: xs => (∃ (k b tt Z G : Nat) (O : List (List T)) (e : List T) (Y : TI), get s c = some (.v (.pointer (some ⟨b, 0, none⟩))) ∧ objs[k]? = some (.arr b tt Z G O) ∧ O[0]? = some e ∧
   E.tab t = some Y ∧ En Y e 0 = some x) ∧ cD E s objs l xs
 | _, _ => False
def oK : List T → T
 | [x] => x
 | l => .tup l
def oN (E : Env) (fn : Func) (R : T → List Ob → Prop) (e : Exit) (σ : St) : Prop :=
 (e = .normal ∨ e = .ret) ∧ ∃ O G, cD E σ.slots σ.objs fn.results.toList O ∧ G.Sublist σ.objs ∧ R (oK O) G
theorem Oa {s : Az} {objs : List Ob} {H : GH} {a : Act} {w : World} (r : SR n s H a) (wr : WR objs H w) : ∀ {l : List ResultVar} {Z : List T}, cD E s objs l Z →
  ∃ vs : List Value, (l.mapM fun (x : ResultVar) => (match x with | .tmp t => pure (a.tmps.getD t undef) | .cell c t => do loadVar t (← asAddr (a.tmps.getD c undef)) : Sem Value)).run E.P w = .ok vs w ∧
   vs.length = Z.length ∧ ∀ (i : Nat) (x : T), Z[i]? = some x → VR H (vs.getD i undef) x
 | [], [], _ => ⟨[], by simp, rfl, by simp⟩
 | .tmp t :: l, x :: Z, h => by
  obtain ⟨h1, h2⟩ := h
  obtain ⟨vs, k1, k2, k3⟩ := Oa r wr h2
  refine ⟨a.tmps.getD t undef :: vs, ?_, by simp [k2], fun i y G => ?_⟩
  ·simp only [List.mapM_cons, Sem.run_bind, Sem.run_pure, Result.andThen_ok, k1]
  ·cases i with
   | zero => simp at G; subst G; exact r.slots t _ h1
   | succ i => simp only [List.getElem?_cons_succ] at G; simpa using k3 i y G
 | .cell c t :: l, x :: Z, h => by
  obtain ⟨⟨k, b, tt, sz, cap, es, e, ti, g1, g2, g3, g4, g5⟩, h2⟩ := h
  obtain ⟨vs, k1, k2, k3⟩ := Oa r wr h2
  have hv := (r.slots c _ g1).v_eq
  obtain ⟨cs, a1, a2, a3, h1, Y⟩ := OR.cells (wr.objs _ (mg g2)) g3
  have hl := Ey (j := 0) (E.ok _ _ g4) a1 a2 h1 Y g5
  obtain ⟨p1, p2⟩ := F3 a2 h1 Y g5
  simp only [Nat.zero_mul, Nat.zero_add] at hl p1 p2
  refine ⟨Ek ti cs 0 :: vs, ?_, by simp [k2], fun i y G => ?_⟩
  ·have O : (asAddr (a.tmps.getD c undef)).run E.P w = .ok ⟨b, 0, none⟩ w := by rw [hv]; rfl
   simp only [List.mapM_cons, Sem.run_bind, Sem.run_pure, Result.andThen_ok, O, hl, k1]
  ·cases i with
   | zero =>
    simp at G; subst G
    cases O : ti.isAgg with
    | true => simpa [Ek, O] using (p1 O).2
    | false => simpa [Ek, O] using (p2 O).2
   | succ i => simp only [List.getElem?_cons_succ] at G; simpa using k3 i y G
 | [], _ :: _, h => h.elim
 | .tmp _ :: _, [], h => h.elim
 | .cell _ _ :: _, [], h => h.elim
theorem Wu {s : Az} {objs : List Ob} {H : GH} {a : Act} {w : World} (r : SR n s H a) (wr : WR objs H w) {fn : Func} {xs : List T} (h : cD E s objs fn.results.toList xs) :
  ∃ v, (results fn a.tmps).run E.P w = .ok v w ∧ VR H v (oK xs) := by
 obtain ⟨G, k1, Z, k3⟩ := Oa r wr h
 have hm : (fn.results.mapM fun (x : ResultVar) => (match x with | .tmp t => pure (a.tmps.getD t undef) | .cell c t => do loadVar t (← asAddr (a.tmps.getD c undef)) : Sem Value)).run E.P w = .ok G.toArray w := by
  rw [Array.mapM_eq_mapM_toList]
  refine (Sem.run_map E.P w _ _).trans ?_
  rw [k1]; rfl
 refine ⟨if h : G.toArray.size = 1 then G.toArray[0] else .tuple G.toArray, ?_, ?_⟩
 ·unfold results
  refine (Sem.run_bind E.P w _ _).trans ?_
  refine (congrArg (fun r => Result.andThen r _) hm).trans ?_
  rfl
 ·by_cases O : G.length = 1
  ·obtain ⟨v, rfl⟩ := List.length_eq_one_iff.1 O
   obtain ⟨x, rfl⟩ := List.length_eq_one_iff.1 (Z.symm.trans O)
   simpa [oK] using k3 0 x (by simp)
  ·have Y : oK xs = .tup xs := by
    cases xs with
    | nil => rfl
    | cons x l =>
     cases l with
     | nil => exact absurd Z (by simpa using O)
     | cons y l => rfl
   rw [Y]
   simp only [List.size_toArray, O, dite_false]
   exact .tup _ _ (by simpa using Z) (fun j x hx => by simpa [Array.getD_eq_getD_getElem?, List.getD] using k3 j x hx)
theorem Gam.unmark {m : Nat} {σ : St} {H : GH} {a : Act} {w : World} {d : Deferred} {ds : List Deferred} (Y : Gam m C σ H a w) (hd : a.defers = d :: ds) (h0 : ∀ b o, C.H0 b = some o → b < C.w0.heap.size) :
  ∃ b H1, d = { target := .collected b, args := #[] } ∧ (Instr.takeDeferred b).run E.P w = .ok [] (w.putObj b (.deferred none)) ∧ Gam m C σ H1 { a with defers := ds } (w.putObj b (.deferred none)) := by
 have hm := Y.defers
 rw [hd] at hm
 obtain ⟨hnd, hm⟩ := hm
 obtain ⟨b, hb1, Z, hb3⟩ := hm d (by simp)
 have hw := Y.held _ _ Z
 have hc : ∀ k cs ty fr, H k = some (.cells cs ty fr) → (fun k => if k = b then none else H k) k = some (.cells cs ty fr) := by
  intro k cs ty fr G
  by_cases O : k = b
  ·rw [O, Z] at G; cases G
  ·simp only [O, if_false]; exact G
 have hh : ∀ k, k ≠ b → (w.putObj b (.deferred none)).heap[k]? = w.heap[k]? := fun k G => World.putObj_heap_other G
 have hne : ∀ p, p ∈ σ.objs → ∀ k, k ∈ p.fp → k ≠ b := fun p hp k G he => by have := Y.free p hp k G; rw [he, Z] at this; cases this
 refine ⟨b, fun k => if k = b then none else H k, hb1, run_takeDeferred hw, ⟨?_, Y.size, fun i x h => (Y.slots i x h).monoC hc, fun p hp => (Y.objs p hp).monoC hc (fun k G => hh k (hne p hp k G)), fun p hp k G => ?_, Y.new, Y.nodup, fun k o G => ?_, fun k o G => ?_, ?_, fun k G hf => ?_, Y.env⟩⟩
 ·refine ⟨(List.nodup_cons.1 hnd).2, fun d' hd' => ?_⟩
  obtain ⟨b', q1, q2, q3⟩ := hm d' (by simp [hd'])
  refine ⟨b', q1, ?_, q3⟩
  have : b' ≠ b := fun he => (List.nodup_cons.1 hnd).1 (by rw [hb1, ← he, ← q1]; exact hd')
  simp only [this, if_false]; exact q2
 ·simp only [hne p hp k G, if_false]; exact Y.free p hp k G
 ·split at G
  ·cases G
  ·rename_i O; rw [hh k O]; exact Y.held _ _ G
 ·have := h0 _ _ G
  have O : k ≠ b := by omega
  simp only [O, if_false]; exact Y.grow _ _ G
 ·simpa using Y.heap
 ·have O : k ≠ b := by omega
  simp only [O, if_false]; exact ⟨(hh k O).trans (Y.frame k G hf).1, (Y.frame k G hf).2⟩
theorem Sh {fn : Func} {C : Ctx} {σ : St} {R : Ending → World → Prop} (G : ∀ b o, C.H0 b = some o → b < C.w0.heap.size)
  (h : ∀ H a w, Gam fn.ntmps C σ H a w → ∃ v, (results fn a.tmps).run E.P w = .ok v w ∧ R (.returned v) w) :
  ∀ (ds : List Deferred) (H : GH) (a : Act) (w : World), a.defers = ds → Gam fn.ntmps C σ H a w → LeavesInM Fence.wide 0 E.P fn a.tmps R ds .returning w
 | [], H, a, w, hd, gm => h H a w gm
 | d :: ds, H, a, w, hd, gm => by
  obtain ⟨b, H1, O, Y, Z⟩ := gm.unmark (E := E) hd G
  exact ⟨by simp, .inl ⟨b, _, by rw [O], Y, Sh G h ds H1 { a with defers := ds } _ rfl Z⟩⟩
def kY (H : GH) (w : World) (fp : List Ob) (w' : World) (H' : GH) (G : List Ob) : Prop :=
 (∀ b o, H b = some o → H' b = some o) ∧ (∀ b o, H' b = some o → w'.heap[b]? = some o) ∧
   (∀ p, p ∈ G → OR H' w' p ∧ ∀ b, b ∈ p.fp → H' b = none ∧ (w.heap.size ≤ b ∨ b ∈ fp.flatMap Ob.fp)) ∧ (G.flatMap Ob.fp).Nodup ∧ w.heap.size ≤ w'.heap.size ∧
   (w'.os = w.os ∧ w'.tape = w.tape ∧ w'.output = w.output) ∧ ∀ b, b < w.heap.size → b ∉ fp.flatMap Ob.fp → w'.heap[b]? = w.heap[b]? ∧ H' b = H b
theorem Sm {f : FuncId} {fn : Func} {c : Code} {Z : List T} {fp : List Ob} {R : T → List Ob → Prop} (hf : E.P.funcs[f]? = some fn) (hb : fn.body = some c)
  (hn : Nat.ble Z.length fn.ntmps = true) {H : GH} {w : World} {vs : Array Value} (hsz : vs.size = Z.length) (hv : ∀ (i : Nat) (x : T), Z[i]? = some x → VR H (vs.getD i undef) x) (O : (∀ b o, H b = some o → w.heap[b]? = some o) ∧ cE H)
  (hfp : ∀ p, p ∈ fp → OR H w p ∧ ∀ b, b ∈ p.fp → H b = none) (hnd : (fp.flatMap Ob.fp).Nodup) (h : AW E fn.ntmps ⟨w, H, fp.flatMap Ob.fp, O.2⟩ c ⟨Zj 0 Z, fp⟩ (oN E fn R)) :
  Calls E.P f vs w fun e w' => ∃ v x fp' H', e = .returned v ∧ R x fp' ∧ VR H' v x ∧ kY H w fp w' H' fp' := by
 refine callsIn_wide.1 (callsIn_of_wp_marks (F := Fence.wide) (n := 0) hf hb trivial ?_)
 have hn' := Nat.le_of_ble_eq_true hn
 have gm : Gam fn.ntmps ⟨w, H, fp.flatMap Ob.fp, O.2⟩ ⟨Zj 0 Z, fp⟩ H { tmps := vs ++ Array.replicate (fn.ntmps - vs.size) undef, defers := [] } w := by
  refine ⟨.nil, by simp; omega, fun i x hx => ?_, fun p Y => (hfp p Y).1, fun p Y => (hfp p Y).2, fun p Y b hb => .inr (List.mem_flatMap.2 ⟨p, Y, hb⟩), hnd, O.1, fun _ _ h => h, Nat.le_refl _, fun _ _ _ => ⟨rfl, rfl⟩, ⟨rfl, rfl, rfl⟩⟩
  obtain ⟨_, h2⟩ := Yi Z 0 i x hx
  simp only [Nat.sub_zero] at h2
  have hi := (gs h2).1
  have he : (vs ++ Array.replicate (fn.ntmps - vs.size) undef).getD i undef = vs.getD i undef := by
   simp [Array.getD_eq_getD_getElem?, Array.getElem?_append, show i < vs.size by omega]
  rw [he]; exact hv i x h2
 refine wpIn_mono (h H _ w gm none (fun h => by cases h)) ?_
 rintro e a' w' ⟨σ', H', ⟨he, ys, fp', r1, r2, r3⟩, G⟩
 have key : LeavesInM Fence.wide 0 E.P fn a'.tmps (fun e w' => ∃ v x fp' H', e = .returned v ∧ R x fp' ∧ VR H' v x ∧ kY H w fp w' H' fp') a'.defers .returning w' := by
  refine Sh (fun b o hb => (Array.getElem?_eq_some_iff.1 (O.1 b o hb)).1) ?_ a'.defers H' a' w' rfl G
  intro H' a' w' G
  obtain ⟨v, k1, k2⟩ := Wu G.sr G.wr r1
  exact ⟨v, k1, v, _, fp', H', rfl, r3, k2, G.grow, G.held, fun p Y => ⟨G.objs p (r2.subset Y), fun b hb => ⟨G.free p (r2.subset Y) b hb, G.new p (r2.subset Y) b hb⟩⟩, (Dz r2).nodup G.nodup, G.heap, G.env, G.frame⟩
 rcases he with rfl | rfl
 ·exact key
 ·exact key
theorem Ae {f : FuncId} {fn : Func} {c : Code} {xs : List T} {fp : List Ob} {R : T → List Ob → Prop} (hf : E.P.funcs[f]? = some fn) (hb : fn.body = some c) (O : (fn.name == "runtime.NumGoroutine") = false)
  (hn : Nat.ble xs.length fn.ntmps = true) (h : ∀ C : Ctx, C.fp = fp.flatMap Ob.fp → AW E fn.ntmps C c ⟨Zj 0 xs, fp⟩ (oN E fn R)) : ACalls E f xs fp R :=
 ⟨⟨fn, hf, O, by simp [hb]⟩, fun H w vs aa hv G Y Z => Sm hf hb hn aa hv G Y Z (h _ rfl)⟩
end
set_option linter.unusedVariables false
set_option linter.defProp false
set_option linter.unusedSimpArgs false
theorem tN {x : Int} (h : -9223372036854775808 ≤ x ∧ x ≤ 9223372036854775807) : IntKind.i64.wrap x = x := by
 rw [IntKind.wrap_i64]; omega
section
variable {E : Env} {n : Nat} {C : Ctx} {s : Az} {ob : List Ob} {Q : Exit → St → Prop} {ops : Array Oper} {R : St → Prop}
theorem AO.d {d : Nat} {G : Op} {ty : TypeId} {pos : String} {aft : Array Edge} {l : List Oper} {x : T} (Y : Yd E.P n s ob ⟨some d, G, ty, pos, aft, none⟩ x) (O : Nat.blt d n = true)
  (k : AO E n C ops l ⟨(d, x) :: s, ob⟩ R) : AO E n C ops (⟨some d, G, ty, pos, aft, none⟩ :: l) ⟨s, ob⟩ R :=
 AO.still Y rfl (Dl O) k
def uJ := @AO.d
theorem AO.p {d : Nat} {G : Op} {ty : TypeId} {pos : String} {aft : Array Edge} {l : List Oper} {x : T} (Y : Yp E.P n s ⟨some d, G, ty, pos, aft, none⟩ x) (O : Nat.blt d n = true)
  (k : AO E n C ops l ⟨(d, x) :: s, ob⟩ R) : AO E n C ops (⟨some d, G, ty, pos, aft, none⟩ :: l) ⟨s, ob⟩ R :=
 AO.still Y.yd rfl (Dl O) k
def uH := @AO.p
theorem Mg {t : Nat} {x : T} (h : get s t = some x) : ∀ i y, get ((t, x) :: s) i = some y → get s i = some y := by
 intro i y G
 simp only [get] at G
 cases hb : Nat.beq t i with
 | true =>
  have := nq hb
  subst this
  simp only [hb, cond_true, Option.some.injEq] at G
  subst G; exact h
 | false => simpa only [hb, cond_false] using G
theorem Gam.same {C : Ctx} {H : GH} {a : Act} {w : World} (G : Gam n C ⟨s, ob⟩ H a w) {t : Nat} {x : T} (h : get s t = some x) : Gam n C ⟨(t, x) :: s, ob⟩ H a w :=
 { G with slots := fun i y O => G.slots i y (Mg h i y O) }
theorem AO.g {d : Option Nat} {op : Op} {ty : TypeId} {pos : String} {aft : Array Edge} {l : List Oper} {j : Nat} {G b : Bool} {t : Tmp}
  (hj : (ops[j]?).bind (·.dst) = some t) (Z : get s t = some (.v (.bool b))) (hd : ∀ d', d = some d' → d' < n)
  (h1 : b = G → AO E n C ops (⟨d, op, ty, pos, aft, none⟩ :: l) ⟨(t, .v (.bool G)) :: s, ob⟩ R)
  (h2 : b = !G → AO E n C ops l ⟨Fb ((t, .v (.bool (!G))) :: s) d (.v undef), ob⟩ R) : AO E n C ops (⟨d, op, ty, pos, aft, some (j, G)⟩ :: l) ⟨s, ob⟩ R := by
 refine AO.guard hj Z hd (fun O H a w Y => ?_) (fun O H a w Y => ?_)
 ·subst O; exact h1 rfl H a w (Y.same Z)
 ·subst O
  refine h2 rfl H a w ?_
  cases d with
  | none => exact Y.same Z
  | some d =>
   refine { Y with slots := fun i y hy => ?_ }
   simp only [Fb, get] at hy
   have hg : get ((d, T.v undef) :: s) i = some y := by
    simp only [get]
    cases O : Nat.beq d i with
    | true => simpa only [O, cond_true] using hy
    | false =>
     simp only [O, cond_false] at hy ⊢
     exact Mg Z i y (by simpa only [get] using hy)
   exact Y.slots i y hg
theorem Cf {d : Nat} {O : Op} {ty : TypeId} {pos : String} {aft : Array Edge} {l : List Oper} {j : Nat} {G : Bool} {t : Tmp}
  (Z : (ops[j]?).bind (·.dst) = some t) (hs : get s t = some (.v (.bool G))) (Y : Nat.blt d n = true)
  (k : AO E n C ops (⟨some d, O, ty, pos, aft, none⟩ :: l) ⟨(t, .v (.bool G)) :: s, ob⟩ R) : AO E n C ops (⟨some d, O, ty, pos, aft, some (j, G)⟩ :: l) ⟨s, ob⟩ R :=
 AO.g Z hs (Dl Y) (fun _ => k) (fun h => by cases G <;> cases h)
theorem tS {d : Nat} {x : Operand} {y : T} {ty : TypeId} {pos : String} {aft : Array Edge} {l : List Oper} (O : Bg s x = some y) (G : Nat.blt d n = true)
  (k : AO E n C ops l ⟨(d, y) :: s, ob⟩ R) : AO E n C ops (⟨some d, .move x, ty, pos, aft, none⟩ :: l) ⟨s, ob⟩ R := AO.p (Yp.move O) G k
theorem tT {d : Nat} {x : Operand} {y : T} {ty : TypeId} {pos : String} {aft : Array Edge} {l : List Oper} (O : Bg s x = some y) (G : Nat.blt d n = true)
  (k : AO E n C ops l ⟨(d, y) :: s, ob⟩ R) : AO E n C ops (⟨some d, .assign x, ty, pos, aft, none⟩ :: l) ⟨s, ob⟩ R := AO.p (Yp.assign O) G k
theorem I {α : Type} {a : α} : a = a := rfl
theorem Ad {l : List Oper} {b c : Bool} (t : Nat) (O : get s t = some (.v (.bool b))) (hb : b = c) (k : AO E n C ops l ⟨(t, .v (.bool c)) :: s, ob⟩ R) : AO E n C ops l ⟨s, ob⟩ R :=
 fun H a w G => by subst hb; exact k H a w (G.same O)
theorem AP.o {O : List Nat} {G : List Ob} {so : Az} {i : Nat} {r : PL} {d : Nat} {op : Op} {ty : TypeId} {pos : String} {aft : Array Edge} {x : T} (Z : ops[i]? = some ⟨some d, op, ty, pos, aft, none⟩)
  (hy : Yd E.P n so G ⟨some d, op, ty, pos, aft, none⟩ x) (Y : Nat.blt d n = true) (k : AP E n C ops O G r ((d, x) :: so) ⟨(d, x) :: s, ob⟩ R) :
  AP E n C ops O G (.still i r) so ⟨s, ob⟩ R :=
 Z2 Z hy rfl (Dl Y) k
theorem AP.op {O : List Nat} {G : List Ob} {so : Az} {i : Nat} {r : PL} {d : Nat} {op : Op} {ty : TypeId} {pos : String} {aft : Array Edge} {x : T} (Z : ops[i]? = some ⟨some d, op, ty, pos, aft, none⟩)
  (hy : Yp E.P n so ⟨some d, op, ty, pos, aft, none⟩ x) (Y : Nat.blt d n = true) (k : AP E n C ops O G r ((d, x) :: so) ⟨(d, x) :: s, ob⟩ R) :
  AP E n C ops O G (.still i r) so ⟨s, ob⟩ R :=
 Z2 Z hy.yd rfl (Dl Y) k
def uM := @AP.op
theorem AP.p {O : List Nat} {G : List Ob} {so : Az} {i : Nat} {r : PL} {d : Nat} {op : Op} {ty : TypeId} {pos : String} {aft : Array Edge} {x : T} (Z : ops[i]? = some ⟨some d, op, ty, pos, aft, none⟩)
  (hy : Yp E.P n s ⟨some d, op, ty, pos, aft, none⟩ x) (Y : Nat.blt d n = true) (k : AP E n C ops O G r so ⟨(d, x) :: s, ob⟩ R) (hf : free so (some d) = true := by rfl) :
  AP E n C ops O G (.still i r) so ⟨s, ob⟩ R :=
 AP.new Z hy rfl (Dl Y) k hf
def uQ := @AP.p
theorem tC {pl : PL} {so : Az} {O : List Nat} {G : List Ob} {b : Bool} (t : Nat) (hs : get s t = some (.v (.bool b)))
  (h1 : b = true → AP E n C ops O G pl so ⟨(t, .v (.bool true)) :: s, ob⟩ R) (h2 : b = false → AP E n C ops O G pl so ⟨(t, .v (.bool false)) :: s, ob⟩ R) :
  AP E n C ops O G pl so ⟨s, ob⟩ R := by
 intro Hs ws H a w sr wr Y hH hp Z
 cases b with
 | true => exact h1 rfl Hs ws H a w sr wr Y hH hp (Z.same hs)
 | false => exact h2 rfl Hs ws H a w sr wr Y hH hp (Z.same hs)
theorem Yq {c : Operand} {x y : Code} {t : Nat} {b v : Bool} (G : get s t = some (.v (.bool b))) (hb : b = v) (h : AW E n C (match v with | true => x | false => y) ⟨s, ob⟩ Q) (hc : c = .tmp t := by rfl) : AW E n C (.cond c x y) ⟨s, ob⟩ Q := by
 subst hb
 refine AW.cond hc G (fun hb => ?_) (fun hb => ?_)
 ·subst hb; exact h
 ·subst hb; exact h
def Ghost (n : Nat) (C : Ctx) (s : Az) (ob : List Ob) (s' : Az) (ob' : List Ob) : Prop :=
 ∀ (H : GH) (a : Act) (w : World), Gam n C ⟨s, ob⟩ H a w → ∃ H', (∀ b o, H b = some o → H' b = some o) ∧ Gam n C ⟨s', ob'⟩ H' a w
theorem AW.ghost {c : Code} {s' : Az} {ob' : List Ob} (h : Ghost n C s ob s' ob') (k : AW E n C c ⟨s', ob'⟩ Q) : AW E n C c ⟨s, ob⟩ Q := fun H a w G => let ⟨H', _, g⟩ := h H a w G; k H' a w g
def uD := @AW.ghost
theorem AO.ghost {l : List Oper} {s' : Az} {ob' : List Ob} (h : Ghost n C s ob s' ob') (k : AO E n C ops l ⟨s', ob'⟩ R) : AO E n C ops l ⟨s, ob⟩ R := fun H a w G => let ⟨H', _, g⟩ := h H a w G; k H' a w g
theorem AP.ghost {pl : PL} {so O : Az} {prot : List Nat} {G : List Ob} {s' : Az} {ob' : List Ob} (h : Ghost n C s ob s' ob') (hp : prot.map (fun i => ob'[i]?) = prot.map (fun i => ob[i]?)) (ab : Sub O so)
  (k : AP E n C ops prot G pl O ⟨s', ob'⟩ R) : AP E n C ops prot G pl so ⟨s, ob⟩ R := by
 intro Hs ws H a w sr wr ag hH aa gm
 obtain ⟨H', h1, g⟩ := h H a w gm
 refine k Hs ws H' a w ⟨sr.size, fun i x hx => sr.slots i x (ab.get i x hx)⟩ wr ag (fun b o hb => h1 _ _ (hH _ _ hb)) (fun p Z => ?_) g
 obtain ⟨i, hi, he⟩ := aa p Z
 have Y : i ∈ prot := by simpa using hi
 have : ob'[i]? = ob[i]? := List.map_inj_left.1 hp i Y
 exact ⟨i, hi, this.trans he⟩
theorem Ghost.trans {s' G : Az} {ob' ob'' : List Ob} (h1 : Ghost n C s ob s' ob') (h2 : Ghost n C s' ob' G ob'') : Ghost n C s ob G ob'' := fun H a w O =>
 let ⟨H1, m1, g1⟩ := h1 H a w O
 let ⟨H2, m2, g2⟩ := h2 H1 a w g1
 ⟨H2, fun b o hb => m2 _ _ (m1 _ _ hb), g2⟩
theorem Ghost.weaken {s' : Az} {ob' : List Ob} (Y : Sub s' s) (O : ob'.Sublist ob) : Ghost n C s ob s' ob' := fun H _ _ G => ⟨H, fun _ _ h => h, G.weaken Y O⟩
theorem Pf {o : Ob} (hf : o.fp = []) (O : ∀ H w, OR H w o) : Ghost n C s ob s (ob ++ [o]) := fun H a w G =>
 ⟨H, fun _ _ h => h, G.more (ob := o) ⟨rfl, rfl, rfl⟩ (Nat.le_refl _) (fun _ _ => rfl) (O H w) (by rw [hf]; simp) (by rw [hf]; simp)⟩
theorem Bs (ty sz : Nat) : Ghost n C s ob s (ob ++ [.us (.slice none 0 0) ty sz []]) := Pf rfl (fun _ _ => .inl ⟨rfl, rfl⟩)
theorem Xc (ty tyi szi : Nat) : Ghost n C s ob s (ob ++ [.uss (.slice none 0 0) ty tyi szi [] []]) := Pf rfl (fun _ _ => ⟨rfl, .inl ⟨rfl, rfl⟩, by simp⟩)
theorem Xb (k : Nat) {o o' : Ob} (O : ob[k]? = some o) (h : ∀ H w, OR H w o → OR H w o') (hf : o'.fp = o.fp) : Ghost n C s ob s (ob.set k o') := fun H a w G =>
 ⟨H, fun _ _ h => h, G.set O ⟨rfl, rfl, rfl⟩ (Nat.le_refl _) (fun _ _ _ => rfl) (h H w (G.objs _ (mg O))) (fun b hb => .inr (hf ▸ hb)) (by rw [hf]; exact (Dk.1 G.nodup).1 k o O)⟩
theorem Ny : ∀ {vs : List Value} {L : List (Option (List (List T)))} {m : Nat} {es : List (List T)}, vs.length = L.length → L[m]? = some (some es) →
  (∀ b, b ∈ Dw vs (L.set m none) → b ∈ Dw vs L) ∧ (∀ b, b ∈ F5 (vs.getD m undef) → b ∈ Dw vs L) ∧ ((Dw vs L).Nodup → (Dw vs (L.set m none)).Nodup ∧ ∀ b, b ∈ F5 (vs.getD m undef) → b ∉ Dw vs (L.set m none))
 | [], L, m, es, hl, h => by have := (gs h).1; simp at hl; omega
 | v :: vs, [], m, es, hl, h => by simp at h
 | v :: vs, y :: L, 0, es, hl, h => by
  simp at h
  subst h
  simp only [List.set_cons_zero, Dw, List.mem_append, List.nodup_append, List.getD, List.getElem?_cons_zero, Option.getD_some]
  exact ⟨fun b O => .inr O, fun b O => .inl O, fun ⟨_, Y, Z⟩ => ⟨Y, fun b O G => Z b O b G rfl⟩⟩
 | v :: vs, none :: L, m + 1, es, hl, h => by
  have ih := Ny (vs := vs) (L := L) (m := m) (es := es) (by simpa using hl) (by simpa using h)
  simpa [Dw, List.getD] using ih
 | v :: vs, some z :: L, m + 1, es, hl, h => by
  obtain ⟨h1, Y, Z⟩ := Ny (vs := vs) (L := L) (m := m) (es := es) (by simpa using hl) (by simpa using h)
  have hg : (v :: vs).getD (m + 1) undef = vs.getD m undef := by simp [List.getD]
  rw [hg]
  simp only [List.set_cons_succ, Dw, List.mem_append, List.nodup_append]
  refine ⟨fun b O => O.imp id (h1 b), fun b O => .inr (Y b O), fun ⟨q1, q2, q3⟩ => ?_⟩
  obtain ⟨r1, r2⟩ := Z q2
  refine ⟨⟨q1, r1, fun x hx y hy => q3 x hx y (h1 y hy)⟩, fun b O G => ?_⟩
  rcases G with G | G
  ·exact q3 b G b (Y b O) rfl
  ·exact r2 b O G
theorem Ghost.take (k m : Nat) {v : Value} {ty tyi szi : Nat} {vs : List Value} {L : List (Option (List (List T)))} {es : List (List T)} (Z : ob[k]? = some (.uss v ty tyi szi vs L)) (hm : L[m]? = some (some es)) :
  Ghost n C s ob s (ob.set k (.uss v ty tyi szi vs (L.set m none)) ++ [.us (vs.getD m undef) tyi szi es]) := by
 intro H a w gm
 have hor : OR H w (.uss v ty tyi szi vs L) := gm.objs _ (mg Z)
 obtain ⟨h0, h1, h2⟩ := hor
 have hn0 := (Dk.1 gm.nodup).1 k _ Z
 obtain ⟨u1, u2, u3⟩ := Ny h0 hm
 simp only [Ob.fp, List.nodup_append] at hn0
 obtain ⟨n1, n2, n3⟩ := hn0
 obtain ⟨u4, u5⟩ := u3 n2
 have hml := (gs hm).1
 have hvm : vs[m]? = some (vs.getD m undef) := by
  have : m < vs.length := by omega
  simp [List.getD, this]
 refine ⟨H, fun _ _ h => h, gm.world (fun _ => False) ⟨rfl, rfl, rfl⟩ (Nat.le_refl _) (fun _ _ _ => rfl) (fun _ h => h.elim) ?_ ?_⟩
 ·intro p Y
  rcases List.mem_append.1 Y with Y | Y
  ·rcases List.mem_or_eq_of_mem_set Y with Y | rfl
   ·exact .inl ⟨Y, fun _ _ h => h⟩
   ·refine .inr ⟨⟨by simpa using h0, h1, fun i x es' hx he => ?_⟩, fun b O => .inr ⟨_, mg Z, ?_⟩⟩
    ·rw [List.getElem?_set] at he
     split at he
     ·cases he
     ·exact h2 i x es' hx he
    ·simp only [Ob.fp, List.mem_append] at O ⊢
     exact O.imp id (u1 b)
  ·simp only [List.mem_singleton] at Y
   subst Y
   refine .inr ⟨h2 m _ es hvm hm, fun b O => .inr ⟨_, mg Z, ?_⟩⟩
   simp only [Ob.fp, List.mem_append] at O ⊢
   exact .inr (u2 b O)
 ·rw [List.flatMap_append, List.nodup_append]
  have hsub : ∀ b, b ∈ (Ob.uss v ty tyi szi vs (L.set m none)).fp → b ∈ (Ob.uss v ty tyi szi vs L).fp := fun b O => by
   simp only [Ob.fp, List.mem_append] at O ⊢
   exact O.imp id (u1 b)
  refine ⟨X4 gm.nodup Z ?_ (fun b O => .inl (hsub b O)), by simpa [Ob.fp] using Hl _, ?_⟩
  ·simp only [Ob.fp, List.nodup_append]
   exact ⟨n1, u4, fun x hx y hy => n3 x hx y (u1 y hy)⟩
  ·intro x hx y hy hxy
   subst hxy
   simp only [List.flatMap_cons, List.flatMap_nil, List.append_nil, Ob.fp] at hy
   obtain ⟨p, Y, G⟩ := List.mem_flatMap.1 hx
   obtain ⟨i, hi⟩ := List.mem_iff_getElem?.1 Y
   by_cases aa : k = i
   ·subst aa
    rw [List.getElem?_set_self (gs Z).1] at hi
    cases hi
    simp only [Ob.fp, List.mem_append] at G
    rcases G with G | G
    ·exact n3 x G x (u2 x hy) rfl
    ·exact u5 x hy G
   ·rw [List.getElem?_set_ne aa] at hi
    exact gm.apart Z hi aa x G (by simp only [Ob.fp, List.mem_append]; exact .inr (u2 x hy))
def Gt (ob : List Ob) (ks : List Nat) : List Ob := (ob.zipIdx.filter fun p => !ks.contains p.2).map Prod.fst
def LendS (K : List Ob) (s : Az) : Az → Prop
 | [] => True
 | (t, y) :: l => (∃ x, get s t = some x ∧ Lend K x y) ∧ LendS K s l
theorem LendS.get {K : List Ob} {s : Az} : ∀ {l : Az}, LendS K s l → ∀ i y, Aw.get l i = some y → ∃ x, Aw.get s i = some x ∧ Lend K x y
 | [], _, i, y, h => by simp [Aw.get] at h
 | (t, z) :: l, hl, i, y, h => by
  obtain ⟨G, O⟩ := hl
  simp only [Aw.get] at h
  cases hb : Nat.beq t i with
  | true =>
   have := nq hb
   subst this
   simp only [hb, cond_true, Option.some.injEq] at h
   subst h; exact G
  | false => simp only [hb, cond_false] at h; exact LendS.get O i y h
inductive LendO (K : List Ob) : Ob → Ob → Prop
 | same (o : Ob) : LendO K o o
 | arr {b ty sz cap : Nat} {e e' : List T} (h : LendL K e e') : LendO K (.arr b ty sz cap [e]) (.arr b ty sz cap [e'])
inductive LendOs (K : List Ob) : List Ob → List Ob → Prop
 | nil : LendOs K [] []
 | cons {x y : Ob} {l m : List Ob} (h : LendO K x y) (t : LendOs K l m) : LendOs K (x :: l) (y :: m)
 | rest (l : List Ob) : LendOs K l l
theorem LendO.fp {K : List Ob} {x y : Ob} (h : LendO K x y) : y.fp = x.fp := by cases h <;> rfl
theorem LendOs.fp {K : List Ob} {l m : List Ob} (h : LendOs K l m) : m.flatMap Ob.fp = l.flatMap Ob.fp := by
 induction h with
 | nil => rfl
 | cons h _ ih => simp [h.fp, ih]
 | rest => rfl
theorem LendOs.mem {K : List Ob} {l m : List Ob} (h : LendOs K l m) : ∀ y, y ∈ m → ∃ x, x ∈ l ∧ LendO K x y := by
 induction h with
 | nil => intro y G; simp at G
 | cons h _ ih =>
  intro z O
  rcases List.mem_cons.1 O with rfl | O
  ·exact ⟨_, by simp, h⟩
  ·obtain ⟨x, Z, Y⟩ := ih z O; exact ⟨x, by simp [Z], Y⟩
 | rest => intro y G; exact ⟨y, G, .same y⟩
theorem Bi (ks : List Nat) {K : List Ob} (hK : Dx ob ks = some K) (cs : Az) (hc : LendS K s cs) {ob' : List Ob} (ho : LendOs K (Gt ob ks) ob') : Ghost n C s ob (cs ++ s) ob' := by
 intro H a w Y
 obtain ⟨p1, p2⟩ := G5 hK
 have hmem : ∀ p, p ∈ K → ∃ k, k ∈ ks ∧ ob[k]? = some p := by
  intro p O
  obtain ⟨i, hi⟩ := List.mem_iff_getElem?.1 O
  have hil := (gs hi).1
  obtain ⟨o, h1, h2⟩ := p2 i ks[i] (gq (by omega))
  rw [hi] at h2
  cases h2
  exact ⟨ks[i], List.getElem_mem _, h1⟩
 have ab : ∀ p, p ∈ K → p ∈ ob := fun p O => by obtain ⟨k, _, h⟩ := hmem p O; exact mg h
 have hown : ∀ b o, H b = some o → b ∉ K.flatMap Ob.fp := fun b o G hm => by
  obtain ⟨p, O, hbp⟩ := List.mem_flatMap.1 hm
  rw [Y.free p (ab p O) b hbp] at G; cases G
 obtain ⟨H1, aa⟩ : ∃ H1 : GH, H1 = fun b => if b ∈ K.flatMap Ob.fp then w.heap[b]? else H b := ⟨_, rfl⟩
 have Z : ∀ b o, H b = some o → H1 b = some o := fun b o G => by rw [aa]; simp only [hown b o G, if_false]; exact G
 have ho1 : ∀ p, p ∈ K → OR H1 w p := fun p O => (Y.objs p (ab p O)).mono Z (fun _ _ => rfl)
 have hb1 : ∀ p, p ∈ K → ∀ b, b ∈ p.fp → H1 b = w.heap[b]? := fun p O b G => by
  rw [aa]; simp only [List.mem_flatMap.2 ⟨p, O, G⟩, if_true]
 have hkept : ∀ p, p ∈ Gt ob ks → ∃ i, i ∉ ks ∧ ob[i]? = some p := by
  intro p O
  simp only [Gt, List.mem_map, List.mem_filter] at O
  obtain ⟨⟨q, i⟩, ⟨h1, h2⟩, rfl⟩ := O
  exact ⟨i, by simpa using h2, by have := List.mem_zipIdx_iff_getElem?.1 h1; simpa using this⟩
 have ac : ∀ p, p ∈ Gt ob ks → p ∈ ob ∧ ∀ b, b ∈ p.fp → b ∉ K.flatMap Ob.fp := by
  intro p O
  obtain ⟨i, hi, hp'⟩ := hkept p O
  refine ⟨mg hp', fun b G hm => ?_⟩
  obtain ⟨q, hq, hbq⟩ := List.mem_flatMap.1 hm
  obtain ⟨k, hk, hq'⟩ := hmem q hq
  exact S3 Y.nodup hp' hq' (fun he => hi (he ▸ hk)) b G hbq
 have hsubl : (Gt ob ks).Sublist ob := by
  have h1 : ((ob.zipIdx.filter fun p => !ks.contains p.2).map Prod.fst).Sublist (ob.zipIdx.map Prod.fst) := List.Sublist.map _ List.filter_sublist
  have h2 : ob.zipIdx.map Prod.fst = ob := by simp
  rw [h2] at h1
  exact h1
 refine ⟨H1, Z, Y.defers.mono Z, Y.size, ?_, ?_, ?_, ?_, ?_, ?_, ?_, Y.heap, ?_, Y.env⟩
 ·intro i x hx
  have ad : (get cs i = some x) ∨ get s i = some x := by
   have : ∀ (l : Az), get (l ++ s) i = some x → get l i = some x ∨ get s i = some x := by
    intro l
    induction l with
    | nil => exact fun h => .inr h
    | cons p l ih =>
     obtain ⟨t, y⟩ := p
     simp only [List.cons_append, get]
     cases Nat.beq t i with
     | true => exact fun h => .inl h
     | false => exact ih
   exact this cs hx
  rcases ad with ad | ad
  ·obtain ⟨y, hy, hl⟩ := hc.get i x ad
   exact Wp ho1 hb1 Z hl (Y.slots i y hy)
  ·exact (Y.slots i x ad).mono Z
 ·intro p O
  obtain ⟨q, hq, hl⟩ := ho.mem p O
  have hor := (Y.objs q (ac q hq).1)
  cases hl with
  | same => exact hor.mono Z (fun _ _ => rfl)
  | arr h =>
   obtain ⟨cur, a1, a2, a3, a4, a5, a6⟩ := hor
   refine ⟨cur, a1, a2, a3, a4, fun i e he => ?_, fun i e he j x hx => ?_⟩
   ·cases i with
    | zero => simp at he; subst he; rw [← h.length]; exact a5 0 _ rfl
    | succ i => simp at he
   ·cases i with
    | zero =>
     simp at he; subst he
     obtain ⟨z, hz, _⟩ := h.get j x hx
     exact ⟨(a6 0 _ rfl j z hz).1, Fz ho1 hb1 Z h j x hx (fun z' hz' => (a6 0 _ rfl j z' hz').2)⟩
    | succ i => simp at he
 ·intro p O b G
  obtain ⟨q, hq, hl⟩ := ho.mem p O
  rw [hl.fp] at G
  obtain ⟨h1, h2⟩ := ac q hq
  rw [aa]; simp only [h2 b G, if_false]; exact Y.free q h1 b G
 ·intro p O b G
  obtain ⟨q, hq, hl⟩ := ho.mem p O
  rw [hl.fp] at G
  exact Y.new q (ac q hq).1 b G
 ·show (ob'.flatMap Ob.fp).Nodup
  rw [ho.fp]; exact (Dz hsubl).nodup Y.nodup
 ·intro b o G
  rw [aa] at G
  dsimp only at G
  split at G
  ·exact G
  ·exact Y.held b o G
 ·intro b o G; exact Z _ _ (Y.grow _ _ G)
 ·intro b G hf
  obtain ⟨h1, h2⟩ := Y.frame b G hf
  refine ⟨h1, ?_⟩
  have : b ∉ K.flatMap Ob.fp := fun hm => by
   obtain ⟨q, hq, hbq⟩ := List.mem_flatMap.1 hm
   rcases Y.new q (ab q hq) b hbq with h | h
   ·omega
   ·exact hf h
  rw [aa]; simp only [this, if_false]; exact h2
theorem Sx (x : Ob) : Gt (ob ++ [x]) [ob.length] = ob := by
 unfold Gt
 rw [List.zipIdx_append, List.filter_append, List.map_append]
 have G : ob.zipIdx.filter (fun p => !([ob.length].contains p.2)) = ob.zipIdx := by
  rw [List.filter_eq_self]
  rintro ⟨y, i⟩ h
  have := List.mem_zipIdx_iff_getElem?.1 h
  have := (gs this).1
  simp only at this
  simp; omega
 rw [G]
 simp
theorem Wv (x : Ob) : Dx (ob ++ [x]) [ob.length] = some [x] := by simp [Dx]
theorem qL {d : Nat} {ty : TypeId} {pos : String} {aft : Array Edge} {g : Option (Nat × Bool)} {t : TypeId} {m : Nat} {G : Array (Nat × Operand)} {ti Z : TI} {e : Nat} {z : Value} {l : List T} {sz : Nat} {es : List (List T)}
  (ht : E.tab t = some ti) (hk : ti.kind = .slice e) (he : E.tab e = some Z) (hz : Z.zero = some z) (h1 : z.cells.toList.all (·.oneCell') = true) (hsz : Z.size = sz) (hzs : z.cells.size = sz) (hb : Nat.ble (m * sz) 16777216 = true)
  (hm : Nat.ble m 16777216 = true) (hf : Fx s (fun i => some (i * sz, sz)) (Ls (E1 z) m) G.toList = some l) (hr : rows sz m l = es)
  (hd : ∀ d', some d = some d' → d' < n) (k : R ⟨(d, .list sz es) :: s, ob⟩) :
  AX E n C [] ⟨some d, .buildSlice t m G, ty, pos, aft, g⟩ ⟨s, ob⟩ R := by
 intro H a w gm
 refine D2 ?_ (fun _ _ _ h => h) (AX.buildSlice (R := fun σ' => ∃ b, σ' = ⟨(d, .v b) :: s, ob ++ [.us b e sz es]⟩) ht hk he hz h1 hsz hzs hb hm hf hr hd (fun b => ⟨b, rfl⟩) H a w gm)
 rintro a' w' ⟨_, H', v, ⟨b, rfl⟩, aa, ha, ab, ac⟩
 obtain ⟨H'', h2, O⟩ := Bi [ob.length] (K := [.us b e sz es]) (Wv _) [(d, .list sz es)] ⟨⟨_, by simp [get], .us 0 rfl⟩, trivial⟩ (ob' := ob) (by rw [Sx]; exact .rest _) H' a' w' aa
 refine ⟨⟨(d, .list sz es) :: s, ob⟩, H'', v, k, { O with slots := ?_ }, ha, fun b o h => h2 _ _ (ab _ _ h), fun i p hp hm => ⟨hp, (ac i p hp hm).2⟩⟩
 intro i x Y
 refine O.slots i x ?_
 show get ((d, .list sz es) :: (d, .v b) :: s) i = some x
 simp only [get] at Y ⊢
 cases hbq : Nat.beq d i with
 | true => rw [hbq] at Y; exact Y
 | false => rw [hbq] at Y; simpa using Y
theorem Sub.append : ∀ {G O s : Az}, Sub G s → Sub O s → Sub (G ++ O) s
 | [], _, _, _, h2 => h2
 | (_, _) :: _, _, _, h1, h2 => ⟨h1.1, Sub.append h1.2 h2⟩
theorem Ag {α β : Type} {f : α → β} {l : List α} {k : Nat} {x : α} (h : l[k]? = some x) : (l.map f)[k]? = some (f x) := by simp [h]
theorem Cb {a b : Nat} (h : Nat.ble a b = true) : a ≤ b := Nat.le_of_ble_eq_true h
theorem Cz {a b : Ob} {l m : List Ob} (h : a = b) (t : l.Sublist m) : (a :: l).Sublist (b :: m) := h ▸ t.cons_cons a
theorem Cm {l : List Ob} : ([] : List Ob).Sublist l := List.nil_sublist l
theorem Do {a b : Bool} (h : a = b) : some (T.v (.bool a)) = some (T.v (.bool b)) := by rw [h]
end
theorem oi {α : Type _} {a b : α} (h : some a = some b) : a = b := Option.some.inj h
theorem bt (b : Bool) : b = true ∨ b = false := by cases b <;> simp
theorem J : True := True.intro
abbrev T.V (x : Int) : T := .v (.int .i64 x)
abbrev T.N : T := .v (.slice none 0 0)
theorem dS {n d : Nat} (h : Nat.blt d n = true := by exact rfl) : ∀ G, some d = some G → G < n := Dl h
section
variable {E : Env} {n : Nat} {C : Ctx} {ops : Array Oper} {s : Az} {ob : List Ob} {R : St → Prop} {dst : Option Tmp} {ty : TypeId} {pos : String} {aft : Array Edge} {g : Option (Nat × Bool)}
def PAll (F : Nat × List Nat → Prop) : List (Nat × List Nat) → Prop
 | [] => True
 | p :: l => F p ∧ PAll F l
theorem PAll.get {F : Nat × List Nat → Prop} : ∀ {l : List (Nat × List Nat)}, PAll F l → ∀ p, p ∈ l → F p
 | [], _, _, h => by simp at h
 | q :: l, ⟨h1, h2⟩, p, h => by
  rcases List.mem_cons.1 h with rfl | h
  ·exact h1
  ·exact PAll.get h2 p h
theorem Rs {A : List (Nat × List Nat)} {dst : Nat → Tmp} {vals : Nat → T} {s : Az} (O : (A.all fun p => A.all fun q => Nat.beq p.1 q.1 || !Nat.beq (dst p.1) (dst q.1)) = true) :
  ∀ (D : List Nat), (∀ d, d ∈ D → ∃ p, p ∈ A ∧ p.1 = d) → ∀ d, d ∈ D → get (D.map (fun d => (dst d, vals d)) ++ s) (dst d) = some (vals d)
 | [], _, d, h => by simp at h
 | d0 :: D, hA, d, h => by
  simp only [List.map_cons, List.cons_append, get]
  cases hb : Nat.beq (dst d0) (dst d) with
  | true =>
   obtain ⟨p, Z, rfl⟩ := hA d0 (by simp)
   obtain ⟨q, hq, rfl⟩ := hA d h
   have := List.all_eq_true.1 (List.all_eq_true.1 O p Z) q hq
   rw [hb] at this
   have : p.1 = q.1 := nq (by simpa using this)
   rw [this]; rfl
  | false =>
   have G : d ≠ d0 := fun Y => by rw [Y] at hb; simp at hb
   rw [cond_false]
   exact Rs O D (fun x hx => hA x (by simp [hx])) d (by simpa [G] using h)
theorem Rt {A : List (Nat × List Nat)} {dst : Nat → Tmp} {vals : Nat → T} {s : Az} (G : (A.all fun p => (get s (dst p.1)).isNone) = true) :
  ∀ (D : List Nat), (∀ d, d ∈ D → ∃ p, p ∈ A ∧ p.1 = d) → ∀ i x, get s i = some x → get (D.map (fun d => (dst d, vals d)) ++ s) i = some x
 | [], _, i, x, h => by simpa using h
 | d0 :: D, hA, i, x, h => by
  simp only [List.map_cons, List.cons_append, get]
  cases hb : Nat.beq (dst d0) i with
  | true =>
   obtain ⟨p, O, rfl⟩ := hA d0 (by simp)
   have := List.all_eq_true.1 G p O
   rw [nq hb, h] at this
   simp at this
  | false => rw [cond_false]; exact Rt G D (fun x Y => hA x (by simp [Y])) i x h
theorem Lm : ∀ {l s : Az}, (∀ p, p ∈ l → Aw.get s p.1 = some p.2) → Sub l s
 | [], _, _ => trivial
 | (i, x) :: _, _, h => ⟨h (i, x) (by simp), Lm fun p G => h p (by simp [G])⟩
theorem oA {A : List (Nat × List Nat)} {dst : Nat → Tmp} {vals : Nat → T} {s : Az} (Z : (A.all fun p => A.all fun q => Nat.beq p.1 q.1 || !Nat.beq (dst p.1) (dst q.1)) = true)
  {D ds : List Nat} (O : ∀ d, d ∈ D → ∃ p, p ∈ A ∧ p.1 = d) (G : ∀ d, d ∈ ds → d ∈ D) : Sub (ds.map fun d => (dst d, vals d)) (D.map (fun d => (dst d, vals d)) ++ s) := by
 refine Lm fun p hp => ?_
 obtain ⟨d, Y, rfl⟩ := List.mem_map.1 hp
 exact Rs Z D O d (G d Y)
theorem AP.par {A : List (Nat × List Nat)} {r : PL} {so : Az} {Y : List Nat} {G : List Ob} (dst : Nat → Tmp) (Φ : Nat → T → Prop) (Inv : List Ob → Prop)
  (hj : (A.all fun p => A.all fun q => Nat.beq p.1 q.1 || !Nat.beq (dst p.1) (dst q.1)) = true)
  (s1 : Az) (hs1 : ∀ i x, get s1 i = some x → get s i = some x) (hs : (A.all fun p => (get s1 (dst p.1)).isNone) = true)
  (h0 : Inv ob) (hI : ∀ ob, Inv ob → ∀ p, p ∈ G → ∃ i, Y.contains i = true ∧ ob[i]? = some p)
  (hstep : PAll (fun p => ∃ o md, ops[p.1]? = some o ∧ o.guard = none ∧ o.dst = some (dst p.1) ∧ (Y.all fun i => !md.contains i) = true ∧
   ∀ (vals : Nat → T) (ob : List Ob), Inv ob → (∀ d, d ∈ p.2 → Φ d (vals d)) → AX E n C md o ⟨p.2.map (fun d => (dst d, vals d)) ++ s1, ob⟩ (fun σ' => ∃ x, get σ'.slots (dst p.1) = some x ∧ Φ p.1 x ∧ Inv σ'.objs)) A)
  (k : ∀ (vals : Nat → T) ob', Inv ob' → (∀ p, p ∈ A → Φ p.1 (vals p.1)) → AP E n C ops Y G r [] ⟨A.map (fun p => (dst p.1, vals p.1)) ++ s1, ob'⟩ R) :
  AP E n C ops Y G (.par A r) so ⟨s, ob⟩ R := by
 intro Hs ws H a w sr wr ag hH hpp gm
 refine ⟨fun D a w => ∃ (vals : Nat → T) (ob : List Ob) (H : GH), Inv ob ∧ (∀ d, d ∈ D → Φ d (vals d)) ∧ (∀ d, d ∈ D → ∃ p, p ∈ A ∧ p.1 = d) ∧ (∀ b o, Hs b = some o → H b = some o) ∧
  Gam n C ⟨D.map (fun d => (dst d, vals d)) ++ s1, ob⟩ H a w ∧ Ke Hs G ws w, ?_, ?_, ?_⟩
 ·exact ⟨fun _ => .tup [], ob, H, h0, by simp, by simp, hH, { gm with slots := fun i x h => gm.slots i x (hs1 i x (by simpa using h)) }, ag⟩
 ·rintro D j ds a w hm hds hjD ⟨vals, ob, H, hi, hΦ, aa, hH, gm, ag⟩
  obtain ⟨o, md, ho, hg, hdst, hmd, hax⟩ := hstep.get _ hm
  have hmd' : ∀ i, Y.contains i = true → md.contains i = false := fun i hi => by
   have := (List.all_eq_true.1 hmd) i (by simpa using hi)
   simpa using this
  have hsub : ∀ i x, get (ds.map (fun d => (dst d, vals d)) ++ s1) i = some x → get (D.map (fun d => (dst d, vals d)) ++ s1) i = some x := by
   intro i x h
   have Z := Rt (vals := vals) hs D aa
   have O := oA (vals := vals) (s := s1) hj aa hds
   generalize ds.map (fun d => (dst d, vals d)) = l at h O
   induction l with
   | nil => exact Z i x (by simpa using h)
   | cons p l ih =>
    obtain ⟨q, y⟩ := p
    obtain ⟨h1, h2⟩ := O
    simp only [List.cons_append, get] at h
    cases hbq : Nat.beq q i with
    | true =>
     rw [hbq, cond_true] at h
     cases h
     rw [← nq hbq]; exact h1
    | false => rw [hbq, cond_false] at h; exact ih h h2
  have hax := hax vals ob hi (fun d O => hΦ d (hds d O)) H a w { gm with slots := fun i x h => gm.slots i x (hsub i x h) }
  simp only [wpOp, ho]
  rw [if_pos (by simp [Region.wanted, hg])]
  refine .inl (D2 ?_ (fun _ _ _ h => h.elim) hax)
  rintro a' w' ⟨σ', H', v, ⟨x, hget, hx, hi'⟩, gm', ha', hHH, hfr⟩
  have ag' : Ke Hs G ws w' := by
   refine ⟨fun b o Z => gm'.held _ _ (hHH _ _ (hH _ _ Z)), fun p hpp b Z => ?_⟩
   obtain ⟨i, hpi, hoi⟩ := hI ob hi p hpp
   exact ((hfr i p hoi (hmd' i hpi)).2 b Z).trans (ag.2 p hpp b Z)
  have hcong : D.map (fun d => (dst d, if d = j then x else vals d)) = D.map (fun d => (dst d, vals d)) := by
   refine List.map_congr_left fun d O => ?_
   rw [if_neg (show ¬ d = j from fun h => hjD (by rw [← h]; exact O))]
  refine ⟨ag', fun d => if d = j then x else vals d, σ'.objs, H', hi', ?_, ?_, fun b o Z => hHH _ _ (hH _ _ Z), { gm' with slots := ?_ }, ag'⟩
  ·intro d O
   rcases List.mem_cons.1 O with rfl | O
   ·simpa using hx
   ·dsimp only
    rw [if_neg (show ¬ d = j from fun h => hjD (by rw [← h]; exact O))]; exact hΦ d O
  ·intro d O
   rcases List.mem_cons.1 O with rfl | O
   ·exact ⟨_, hm, rfl⟩
   ·exact aa d O
  ·intro i y hy
   simp only [List.map_cons, List.cons_append, get, if_pos] at hy
   rw [hcong] at hy
   cases Z : Nat.beq (dst j) i with
   | true =>
    rw [Z, cond_true] at hy
    cases hy
    rw [← nq Z]
    exact gm'.slots _ _ hget
   | false =>
    rw [Z, cond_false] at hy
    have hne : dst j ≠ i := fun h => by rw [h] at Z; simp at Z
    rw [ha', hdst]
    simp only [Act.put]
    have he : (a.tmps.setIfInBounds (dst j) v).getD i undef = a.tmps.getD i undef := by
     simp [Array.getD_eq_getD_getElem?, Array.getElem?_setIfInBounds_ne hne]
    rw [he]; exact (gm.slots i y hy).mono hHH
 ·rintro D a w hall ⟨vals, ob, H, hi, hΦ, aa, hH, gm, ag⟩
  refine k vals ob hi (fun p hp => hΦ _ (hall p hp)) Hs ws H a w ⟨gm.size, fun i x h => by simp [get] at h⟩ wr ag hH (hI ob hi) { gm with slots := fun i x h => gm.slots i x ?_ }
  have Z := Rt (vals := vals) hs D aa
  have O : Sub (A.map fun p => (dst p.1, vals p.1)) (D.map (fun d => (dst d, vals d)) ++ s1) := Lm fun q hq => by
   obtain ⟨p, hp, rfl⟩ := List.mem_map.1 hq
   exact Rs hj D aa p.1 (hall p hp)
  generalize A.map (fun p => (dst p.1, vals p.1)) = l at h O
  induction l with
  | nil => exact Z i x (by simpa using h)
  | cons p l ih =>
   obtain ⟨q, y⟩ := p
   obtain ⟨h1, h2⟩ := O
   simp only [List.cons_append, get] at h
   cases hbq : Nat.beq q i with
   | true =>
    rw [hbq, cond_true] at h
    cases h
    rw [← nq hbq]; exact h1
   | false => rw [hbq, cond_false] at h; exact ih h h2
end
section
variable {E : Env} {n : Nat} {C : Ctx} {ops : Array Oper} {s : Az} {ob : List Ob} {R : St → Prop} {dst : Option Tmp} {ty : TypeId} {pos : String} {aft : Array Edge} {g : Option (Nat × Bool)} {Q : Exit → St → Prop}
theorem Yp.makeFunc {f : FuncId} {first captured : Array Operand} {fs cs : List T} (h1 : Gb s first.toList = some fs) (h2 : Gb s captured.toList = some cs) :
  Yp E.P n s ⟨dst, .makeFunc (.func f) first captured, ty, pos, aft, g⟩ (.fn f fs cs) := by
 intro H a r
 obtain ⟨Y, Z⟩ := Gw r h1
 obtain ⟨k3, k4⟩ := Gw r h2
 have conv : ∀ (G : Array Operand) (i : Nat), (G.map a.eval).getD i undef = (G.toList.map a.eval).getD i undef := fun G i => by
  simp [Array.getD_eq_getD_getElem?, List.getD]
 refine ⟨_, .fn f (first.map a.eval) (captured.map a.eval) fs cs (by simpa using Y) (by simpa using k3) (fun j x O => by rw [conv]; exact Z j x O) (fun j x O => by rw [conv]; exact k4 j x O), fun w => ?_⟩
 simp [execOp, Instr.makeFunc]
def uR := @Yp.makeFunc
theorem Se {t : TypeId} {x y : Operand} {k : IntKind} {i : Int} {m len Z : Nat} {cs : List T} {ti G : TI} {z : T} (ht : E.tab t = some ti) (hk : ti.kind = .array len Z) (hel : E.tab Z = some G)
  (hx : Bg s x = some (.agg cs)) (hy : Bg s y = some (.v (.int k i))) (hi : i = (m : Int)) (hm : m < len) (hp : En G cs (m * G.size) = some z) :
  Yp E.P n s ⟨dst, .index t x y, ty, pos, aft, g⟩ z := by
 intro H A r
 subst hi
 have h := r.eval hx
 generalize hv : A.eval x = v at h
 cases h with
 | agg vs cs hl hc hvs =>
  obtain ⟨v, O, Y⟩ := R3 (VR.agg vs cs hl hc hvs) (E.ok _ _ hel) hp
  exact ⟨v, O, fun w => by simp [execOp, hv, r.evalv hy, Instr.index, asIntOf, run_underlying (Jl (E.ok _ _ ht) hk), hm, Cy (E.ok _ _ hel), Y]⟩
theorem Yd.sub (k : Nat) {objs : List Ob} {o : Oper} {x : T} {p q : Ob} (hk : objs[k]? = some p) (ho : ∀ H w, OR H w p → OR H w q) (hf : ∀ b, b ∈ q.fp → b ∈ p.fp) (h : Yd E.P n s [q] o x) : Yd E.P n s objs o x := by
 intro H a w r wr
 have Y := mg hk
 obtain ⟨v, Z, h2⟩ := h H a w r ⟨fun p' G => by simp at G; subst G; exact ho H w (wr.objs _ Y), wr.held⟩
 refine ⟨v, Z, fun w' O => h2 w' ⟨O.1, fun p' G b hb => ?_⟩⟩
 simp only [List.mem_singleton] at G
 subst G
 exact O.2 _ Y b (hf b hb)
theorem Yn {H : GH} {w : World} {v : Value} {ty tyi szi : Nat} {vs : List Value} {L : List (Option (List (List T)))} (h : OR H w (.uss v ty tyi szi vs L)) : OR H w (.us v ty 1 (vs.map fun x => [T.v x])) := h.2.1
theorem X8 {v : Value} {ty tyi szi : Nat} {vs : List Value} {L : List (Option (List (List T)))} : ∀ b, b ∈ (Ob.us v ty 1 (vs.map fun x => [T.v x])).fp → b ∈ (Ob.uss v ty tyi szi vs L).fp := fun b hb => by
 simp only [Ob.fp, List.mem_append] at *; exact .inl hb
theorem Va {vs : List Value} {m : Nat} (h : m < vs.length) : (vs.map fun x => [T.v x])[m]? = some [T.v (vs.getD m undef)] := by
 simp [h, List.getD]
theorem Pe (k : Nat) {t : TypeId} {x y : Operand} {kk : IntKind} {i : Int} {m : Nat} {objs : List Ob} {v : Value} {tt tyi szi : Nat} {vs : List Value} {L : List (Option (List (List T)))} {ti O : TI} {G : Nat}
  (ht : E.tab t = some ti) (Z : ti.kind = .slice G) (hel : E.tab G = some O) (hsz : O.size = 1)
  (hx : Bg s x = some (.v v)) (Y : objs[k]? = some (.uss v tt tyi szi vs L)) (hy : Bg s y = some (.v (.int kk i))) (hi : i = (m : Int)) (hm : m < L.length) :
  Yd E.P n s objs ⟨dst, .indexAddr t x y, ty, pos, aft, g⟩ (.v (.pointer (some ⟨G2 v, m * 1, none⟩))) := by
 intro H a w r wr
 have hl : vs.length = L.length := (wr.objs _ (mg Y)).1
 exact Yd.sub k Y (fun _ _ => Yn) X8 (Bm (E := E) (n := n) (dst := dst) (ty := ty) (pos := pos) (aft := aft) (g := g) 0 ht Z hel hsz hx rfl hy hi (Va (by omega))) H a w r wr
theorem aM (k : Nat) {t : TypeId} {x : Operand} {O : TI} {objs : List Ob} {v : Value} {m : Nat} {tt tyi szi : Nat} {vs : List Value} {L : List (Option (List (List T)))}
  (Z : E.tab t = some O) (G : O.isAgg = false) (hx : Bg s x = some (.v (.pointer (some ⟨G2 v, m * 1, none⟩))))
  (Y : objs[k]? = some (.uss v tt tyi szi vs L)) (hm : m < L.length) :
  Yd E.P n s objs ⟨dst, .load t x, ty, pos, aft, g⟩ (.v (vs.getD m undef)) := by
 intro H a w r wr
 have hl : vs.length = L.length := (wr.objs _ (mg Y)).1
 exact Yd.sub k Y (fun _ _ => Yn) X8 (Bl (E := E) (n := n) (dst := dst) (ty := ty) (pos := pos) (aft := aft) (g := g) 0 m 0 Z hx rfl (Va (by omega)) (by omega) (by simp [En, G])) H a w r wr
theorem Nz : ∀ {vs : List Value} {L : List (Option (List (List T)))} {m : Nat} {x : Value} {es : List (List T)}, vs.length = L.length → L[m]? = some none →
  (∀ b, b ∈ Dw (vs.set m x) (L.set m (some es)) → b ∈ Dw vs L ∨ b ∈ F5 x) ∧ ((Dw vs L).Nodup → (∀ b, b ∈ F5 x → b ∉ Dw vs L) → (Dw (vs.set m x) (L.set m (some es))).Nodup)
 | [], L, m, x, es, hl, h => by have := (gs h).1; simp at hl; omega
 | v :: vs, [], m, x, es, hl, h => by simp at h
 | v :: vs, y :: L, 0, x, es, hl, h => by
  simp at h
  subst h
  simp only [List.set_cons_zero, Dw, List.mem_append, List.nodup_append]
  exact ⟨fun b G => G.symm, fun Y Z => ⟨Hl x, Y, fun b G c hc O => Z b G (O ▸ hc)⟩⟩
 | v :: vs, none :: L, m + 1, x, es, hl, h => by
  have ih := Nz (vs := vs) (L := L) (m := m) (x := x) (es := es) (by simpa using hl) (by simpa using h)
  simpa [Dw] using ih
 | v :: vs, some z :: L, m + 1, x, es, hl, h => by
  obtain ⟨Y, Z⟩ := Nz (vs := vs) (L := L) (m := m) (x := x) (es := es) (by simpa using hl) (by simpa using h)
  simp only [List.set_cons_succ, Dw, List.mem_append, List.nodup_append]
  refine ⟨fun b G => ?_, fun ⟨q1, q2, q3⟩ hx => ⟨q1, Z q2 (fun b G aa => hx b G (.inr aa)), fun b G c hc O => ?_⟩⟩
  ·rcases G with G | G
   ·exact .inl (.inl G)
   ·exact (Y b G).imp .inr id
  ·subst O
   rcases Y b hc with h | h
   ·exact q3 b G b h rfl
   ·exact hx b h (.inl G)
theorem Zb (k q m : Nat) {t : TypeId} {x y : Operand} {ti : TI} {v u : Value} {tt tyi szi : Nat} {vs : List Value} {L L' : List (Option (List (List T)))} {es : List (List T)}
  (ht : E.tab t = some ti) (hsz : ti.size = 1) (hx : Bg s x = some (.v (.pointer (some ⟨G2 v, m * 1, none⟩)))) (hk : ob[k]? = some (.uss v tt tyi szi vs L)) (hL : L[m]? = some none)
  (hy : Bg s y = some (.v u)) (hq : ob[q]? = some (.us u tyi szi es)) (hd : dst = none) (hL' : L.set m (some es) = L')
  (kk : R ⟨s, (ob.set k (.uss v tt tyi szi (vs.set m u) L')).set q (.us (.slice none 0 0) tyi szi [])⟩) :
  AX E n C [k, q] ⟨dst, .store t x y, ty, pos, aft, g⟩ ⟨s, ob⟩ R := by
 subst hd
 subst hL'
 refine AX.skip fun H a w gm => ?_
 have hkm := mg hk
 have hqm := mg hq
 have hor : OR H w (.uss v tt tyi szi vs L) := gm.objs _ hkm
 have hou : UsR H w u tyi szi es := gm.objs _ hqm
 obtain ⟨h0, h1, h2⟩ := hor
 have hml := (gs hL).1
 obtain ⟨c', cap, hv, q1, q2, q3, q4⟩ := h1.arr (Va (show m < vs.length by omega))
 have hu1 : u.oneCell' = true := by
  rcases hou with ⟨rfl, _⟩ | ⟨_, _, _, rfl, _⟩ <;> rfl
 have hkq : k ≠ q := fun h => by subst h; rw [hk] at hq; cases hq
 have hn0 := (Dk.1 gm.nodup).1 k _ hk
 simp only [Ob.fp, List.nodup_append] at hn0
 obtain ⟨n1, n2, n3⟩ := hn0
 have huo : ∀ b, b ∈ F5 u → b ∉ F5 v ∧ b ∉ Dw vs L := fun b G => by
  have := gm.apart hk hq hkq b G
  simpa [Ob.fp] using this
 obtain ⟨p1, p2⟩ := Nz (x := u) (es := es) h0 hL
 have p2 := p2 n2 (fun b G => (huo b G).2)
 obtain ⟨w', r1, r2, r3, r4, r5⟩ := La (E := E) (ty := ty) (pos := pos) (aft := aft) (g := g) gm.sr m 0 ht hx q3 (Va (show m < vs.length by omega)) (by omega) hy (c := .v u) (cs := [.v u]) (by simp [Ei, hu1]) (by simpa using hsz) (by simp)
 have hset : ((vs.map fun x => [T.v x]).set m (Fo [T.v (vs.getD m undef)] 0 [T.v u])) = (vs.set m u).map fun x => [T.v x] := by
  simp [List.map_set, Fo]
 rw [hset] at r2
 have O : ∀ b, b ∉ F5 v → w'.heap[b]? = w.heap[b]? := fun b G => r5 b (fun h => G (by rw [q4]; simp [h]))
 have houter : OR H w' (.uss v tt tyi szi (vs.set m u) (L.set m (some es))) := by
  refine ⟨by simpa using h0, Ym hv q1 q2 (by simp) r2, fun i x es' ac ab => ?_⟩
  by_cases him : m = i
  ·subst him
   rw [List.getElem?_set_self (by omega)] at ac
   rw [List.getElem?_set_self (by omega)] at ab
   simp only [Option.some.injEq] at ac ab
   subst ac ab
   exact hou.mono (fun _ _ h => h) (fun b G => O b (huo b G).1)
  ·rw [List.getElem?_set_ne him] at ac ab
   exact (h2 i x es' ac ab).mono (fun _ _ h => h) (fun b G => O b (fun ad => n3 b ad b (Fp ac ab b G) rfl))
 have hob : ∀ p, p ∈ (ob.set k (.uss v tt tyi szi (vs.set m u) (L.set m (some es)))).set q (.us (.slice none 0 0) tyi szi []) → p = .us (.slice none 0 0) tyi szi [] ∨ p = .uss v tt tyi szi (vs.set m u) (L.set m (some es)) ∨ ∃ i, i ≠ k ∧ i ≠ q ∧ ob[i]? = some p := by
  intro p hp
  obtain ⟨i, hi⟩ := List.mem_iff_getElem?.1 hp
  by_cases aa : q = i
  ·subst aa
   rw [List.getElem?_set_self (by simpa using (gs hq).1)] at hi
   cases hi; exact .inl rfl
  ·rw [List.getElem?_set_ne aa] at hi
   by_cases Z : k = i
   ·subst Z
    rw [List.getElem?_set_self (gs hk).1] at hi
    cases hi; exact .inr (.inl rfl)
   ·rw [List.getElem?_set_ne Z] at hi
    exact .inr (.inr ⟨i, Ne.symm Z, Ne.symm aa, hi⟩)
 refine ⟨w', _, H, r1, kk, ?_, fun _ _ h => h, fun i p hp hm => ?_⟩
 ·refine gm.world (fun i => i ∈ F5 v) r3 (by omega) (fun i _ hi => O i hi) (fun i hi _ => ⟨_, hkm, by simp [Ob.fp, hi]⟩) ?_ ?_
  ·intro p hp
   rcases hob p hp with rfl | rfl | ⟨i, hik, hiq, hpi⟩
   ·exact .inr ⟨.inl ⟨rfl, rfl⟩, by simp [Ob.fp, F5]⟩
   ·refine .inr ⟨houter, fun b G => .inr ?_⟩
    simp only [Ob.fp, List.mem_append] at G
    rcases G with G | G
    ·exact ⟨_, hkm, by simp [Ob.fp, G]⟩
    ·rcases p1 b G with G | G
     ·exact ⟨_, hkm, by simp [Ob.fp, G]⟩
     ·exact ⟨_, hqm, by simpa [Ob.fp] using G⟩
   ·exact .inl ⟨mg hpi, fun b G ad => gm.apart hk hpi (Ne.symm hik) b G (by simp [Ob.fp, ad])⟩
  ·have hl := Dk.1 gm.nodup
   have hat : ∀ (i : Nat) (p : Ob), ((ob.set k (.uss v tt tyi szi (vs.set m u) (L.set m (some es)))).set q (.us (.slice none 0 0) tyi szi []))[i]? = some p →
     (∀ b, b ∈ p.fp → (i = k ∧ ((∃ o, ob[k]? = some o ∧ b ∈ o.fp) ∨ (∃ o, ob[q]? = some o ∧ b ∈ o.fp))) ∨ (i ≠ k ∧ i ≠ q ∧ ob[i]? = some p)) ∧ p.fp.Nodup := by
    intro i p hi
    by_cases aa : q = i
    ·subst aa
     rw [List.getElem?_set_self (by simpa using (gs hq).1)] at hi
     cases hi; simp [Ob.fp, F5]
    ·rw [List.getElem?_set_ne aa] at hi
     by_cases Z : k = i
     ·subst Z
      rw [List.getElem?_set_self (gs hk).1] at hi
      cases hi
      refine ⟨fun b G => .inl ⟨rfl, ?_⟩, ?_⟩
      ·simp only [Ob.fp, List.mem_append] at G
       rcases G with G | G
       ·exact .inl ⟨_, hk, by simp [Ob.fp, G]⟩
       ·rcases p1 b G with G | G
        ·exact .inl ⟨_, hk, by simp [Ob.fp, G]⟩
        ·exact .inr ⟨_, hq, by simpa [Ob.fp] using G⟩
      ·simp only [Ob.fp, List.nodup_append]
       refine ⟨n1, p2, fun b G c hc hbc => ?_⟩
       subst hbc
       rcases p1 b hc with h | h
       ·exact n3 b G b h rfl
       ·exact (huo b h).1 G
     ·rw [List.getElem?_set_ne Z] at hi
      exact ⟨fun b _ => .inr ⟨Ne.symm Z, Ne.symm aa, hi⟩, hl.1 i p hi⟩
   refine Dk.2 ⟨fun i p hi => (hat i p hi).2, fun i j p p' hi hj hne b G hb' => ?_⟩
   rcases (hat i p hi).1 b G with ⟨rfl, e1⟩ | ⟨e1, e2, e3⟩ <;> rcases (hat j p' hj).1 b hb' with ⟨rfl, e4⟩ | ⟨e4, e5, e6⟩
   ·exact hne rfl
   ·rcases e1 with ⟨o, ho, Y⟩ | ⟨o, ho, Y⟩
    ·exact hl.2 _ _ _ _ ho e6 (Ne.symm e4) b Y hb'
    ·exact hl.2 _ _ _ _ ho e6 (Ne.symm e5) b Y hb'
   ·rcases e4 with ⟨o, ho, Y⟩ | ⟨o, ho, Y⟩
    ·exact hl.2 _ _ _ _ ho e3 (Ne.symm e1) b Y G
    ·exact hl.2 _ _ _ _ ho e3 (Ne.symm e2) b Y G
   ·exact hl.2 _ _ _ _ e3 e6 hne b G hb'
 ·simp only [List.contains_cons, List.contains_nil, Bool.or_false, Bool.or_eq_false_iff, beq_eq_false_iff_ne] at hm
  refine ⟨?_, fun b G => O b (fun ad => gm.apart hk hp (Ne.symm hm.1) b G (by simp [Ob.fp, ad]))⟩
  rw [List.getElem?_set_ne (Ne.symm hm.2), List.getElem?_set_ne (Ne.symm hm.1)]; exact hp
theorem Jk : ∀ {vs : List Value} {L : List (Option (List (List T)))}, vs.length = L.length → Dw (vs ++ [.slice none 0 0]) (L ++ [some []]) = Dw vs L
 | [], [], _ => by simp [Dw, F5]
 | v :: vs, none :: L, h => by simpa [Dw] using Jk (vs := vs) (L := L) (by simpa using h)
 | v :: vs, some z :: L, h => by simpa [Dw] using Jk (vs := vs) (L := L) (by simpa using h)
 | [], _ :: _, h => by simp at h
 | _ :: _, [], h => by simp at h
theorem Xd (ks : Nat) {sl x : Operand} {t : TypeId} {ti ei : TI} {e tyi szi : Nat} {z v : Value} {vs : List Value} {L L' : List (Option (List (List T)))}
  (ht : E.tab t = some ti) (hk : ti.kind = .slice e) (he : E.tab e = some ei) (hz : ei.zero = some z) (hsz : ei.size = 1) (hzs : z.cells.size = 1) (hby : Nat.ble ei.bytes 2048 = true)
  (hs : Bg s sl = some (.v v)) (G : ob[ks]? = some (.uss v e tyi szi vs L))
  (O : AppSrc s ob x 1 [[.v (.slice none 0 0)]]) (hb : L.length + 1 ≤ 68719476736) (hL : L ++ [some []] = L')
  (hd : ∀ d, dst = some d → d < n)
  (k : ∀ Z vs', R ⟨Fb s dst (.v Z), ob.set ks (.uss Z e tyi szi vs' L')⟩) :
  AX E n C [ks] ⟨dst, .call { callee := .builtin .append, args := #[sl, x], argTypes := #[t, t] }, ty, pos, aft, g⟩ ⟨s, ob⟩ R := by
 subst hL
 refine AX.value fun H a w Y => ?_
 have ab := Nat.le_of_ble_eq_true hby
 have hor : OR H w (.uss v e tyi szi vs L) := Y.objs _ (mg G)
 obtain ⟨o0, o1, o2⟩ := hor
 have ad : (vs.map fun x => [T.v x]).length + [[T.v (.slice none 0 0)]].length ≤ 68719476736 := by simp; omega
 obtain ⟨Z, w', h1, h2, h3, h4, h5, h6⟩ := Ja (ty := ty) Y.sr Y.wr ht hk he hz hsz hzs o1 O (by simp only [Hf]; omega) (Nat.le_trans (Nat.mul_le_mul ad ab) (by decide))
 have ae := (Dk.1 Y.nodup).1 ks _ G
 simp only [Ob.fp, List.nodup_append] at ae
 obtain ⟨n1, n2, n3⟩ := ae
 refine ⟨Z, w', _, H, I8 (Y.sr.evalv hs) h1, k Z (vs ++ [.slice none 0 0]), ?_, fun _ _ h => h, fun i p hp hm => ?_⟩
 ·have ac : ∀ b, b ∈ Dw vs L → b < w.heap.size := fun b hb => (Y.objs _ (mg G)).lt b (by simp [Ob.fp, hb])
  have := (Y.set (w' := w') (o' := .uss Z e tyi szi (vs ++ [.slice none 0 0]) (L ++ [some []])) G h3 h4 (fun i hi hn => h5 i hi (fun hb => hn (by simp [Ob.fp, hb]))) ?_ ?_ ?_).put (dst := dst) (.v Z) hd
  ·cases dst <;> exact this
  ·refine ⟨by simp [o0], by simpa using h2, fun i x es O he => ?_⟩
   rw [List.getElem?_append] at O he
   split at O
   ·rename_i hi
    rw [if_pos (by omega)] at he
    exact (o2 i x es O he).mono (fun _ _ h => h) (fun b hb => h5 b (ac b (Fp O he b hb)) (fun aa => n3 b aa b (Fp O he b hb) rfl))
   ·rename_i hi
    rw [if_neg (by omega)] at he
    have e1 : i - vs.length = 0 := by have := (gs O).1; simp at this; omega
    have e2 : i - L.length = 0 := by omega
    rw [e1] at O
    rw [e2] at he
    simp at O he
    subst O he
    exact .inl ⟨rfl, rfl⟩
  ·intro b hb
   simp only [Ob.fp, List.mem_append, Jk o0] at hb ⊢
   rcases hb with hb | hb
   ·exact (h6 b hb).imp id .inl
   ·exact .inr (.inr hb)
  ·simp only [Ob.fp, Jk o0, List.nodup_append]
   refine ⟨Hl Z, n2, fun b hb c hc hbc => ?_⟩
   subst hbc
   rcases h6 b hb with h | h
   ·have := ac b hc; omega
   ·exact n3 b h b hc rfl
 ·have af : ks ≠ i := fun h => by subst h; simp at hm
  exact ⟨Jm hp af, fun b hb => h5 b ((Y.objs p (mg hp)).lt b hb) (fun aa => Y.apart G hp af b hb (by simp [Ob.fp, aa]))⟩
theorem Sr {α β : Type} (l : List α) (f : α → β) (m : Nat) (y : α) : ((l.map fun x => some (f x)).set m none).set m (some (f y)) = (l.set m y).map fun x => some (f x) := by
 rw [List.set_set, List.map_set]
def Fh (l : List UInt8) : List (List T) := l.map fun b => [.v (.int .u8 (b.toNat : Int))]
theorem R1 {P : Program} {t : TypeId} {i : TI} (h : Ka P t = some i) {e : Nat} (Y : i.kind = .slice e) : P.underlying t = some (.slice e) := by
 obtain ⟨d, O, G⟩ := Hv h
 rw [Y] at G
 cases d <;> simp [Ph] at G
 subst G; exact O
theorem Xr {P : Program} {t : TypeId} {i : TI} (h : Ka P t = some i) {k : IntKind} (Y : i.kind = .int k) : P.underlying t = some (.int k) := by
 obtain ⟨d, O, G⟩ := Hv h
 rw [Y] at G
 cases d <;> simp [Ph] at G
 subst G; exact O
theorem Zc {t t' : TypeId} {x : Operand} {ti ti' ei : TI} {e : Nat} {l : List UInt8} (ht : E.tab t = some ti) (hk : ti.kind = .slice e) (he : E.tab e = some ei) (aa : ei.kind = .int .u8) (ae : E.tab t' = some ti') (Z : ti'.kind = .string)
  (hs : AppSrc s ob x 1 (Fh l)) (hd : ∀ d, dst = some d → d < n) (k : R ⟨Fb s dst (.v (.string ⟨l.toArray⟩)), ob⟩) : AX E n C [] ⟨dst, .convert t t' x, ty, pos, aft, g⟩ ⟨s, ob⟩ R := by
 intro H a w gm
 obtain ⟨ad, c, O, h1, h2, h3, h4, h5, h6⟩ := hs n H a w gm.sr gm.wr
 have G : (Fh l).length = l.length := by simp [Fh]
 have ac : (execOp a.eval ⟨dst, .convert t t' x, ty, pos, aft, g⟩).run E.P w = .ok (.value (.string ⟨l.toArray⟩)) w := by
  cases ad with
  | none =>
   have := h4 rfl
   have hl : l = [] := by simpa [Fh] using this
   subst hl
   have hc := run_convert_bytes_string (P := E.P) w t t' e none 0 c (R1 (E.ok _ _ ht) hk) (Xr (E.ok _ _ he) aa) (H5 (E.ok _ _ ae) Z)
   simp only [Fh, List.map_nil, List.length_nil] at h1
   simp only [execOp, h1, Sem.run_bind, hc]
   simp [Conv.bytesToString]
   rfl
  | some ad =>
   have hb := run_convert_bytes_back (P := E.P) w t t' e ad c l (R1 (E.ok _ _ ht) hk) (Xr (E.ok _ _ he) aa) (H5 (E.ok _ _ ae) Z) (fun j hj => by
    have ab : (Fh l)[j]? = some [.v (.int .u8 (l[j].toNat : Int))] := by simp [Fh, hj]
    obtain ⟨_, q⟩ := h6 j _ ab
    have q := (q 0 _ rfl).v_eq
    simp only [Nat.mul_one, Nat.add_zero] at q
    have Y : j < O.length := by rw [h2, G]; omega
    have := h5 ad rfl j O[j] (gq Y)
    rw [this]
    simp only [List.getD, gq Y, Option.getD_some] at q
    rw [q])
   rw [G] at h1
   simp only [execOp, h1, Sem.run_bind, hb]
   rfl
 simp only [Oper.wp, ac, Oper.upon]
 refine ⟨_, H, _, k, ?_, rfl, fun _ _ h => h, fun i p hp _ => ⟨hp, by intros; trivial⟩⟩
 have := gm.put (dst := dst) (v := .string ⟨l.toArray⟩) (x := .v (.string ⟨l.toArray⟩)) (.v _) hd
 cases dst <;> exact this
end
end Go.Aw
