/- A program logic over the model. No condition. -/
import Derived.Test.YtmaamhgjeampmaaGreatYsB0
import Derived.Laws.IdiomStrings
set_option maxRecDepth 100000
namespace Go.Aw
set_option linter.unusedVariables false
set_option linter.unusedSimpArgs false
section
variable {E : Env} {n : Nat} {C : Ctx} {σ : St} {dst : Option Tmp} {ty : TypeId} {pos : String} {aft : Array Edge} {g : Option (Nat × Bool)}
theorem AR.fold {H : GH} {vs : Array Value} {cs : List T} (hv : AR H vs cs) {arr : Array Value} {l : List T} (ha : AR H arr l) {off : Nat} (hle : off + cs.length ≤ l.length) :
  AR H (vs.zipIdx.foldl (fun c (x : Value × Nat) => c.setIfInBounds (off + x.2) x.1) arr) (setC l off cs) := by
 have gen : ∀ (ws : List Value) (k : Nat) (arr : Array Value), (∀ j, j < ws.length → off + k + j < arr.size) →
   ((ws.zipIdx k).foldl (fun c (x : Value × Nat) => c.setIfInBounds (off + x.2) x.1) arr).size = arr.size ∧
   ∀ i, ((ws.zipIdx k).foldl (fun c (x : Value × Nat) => c.setIfInBounds (off + x.2) x.1) arr).getD i undef =
    if off + k ≤ i ∧ i < off + k + ws.length then ws.getD (i - (off + k)) undef else arr.getD i undef := by
  intro ws
  induction ws with
  | nil => intro k arr _; refine ⟨rfl, fun i => ?_⟩; simp; intro h1 h2; omega
  | cons v ws ih =>
   intro k arr hin
   have h0 := hin 0 (by simp)
   simp only [List.zipIdx_cons, List.foldl_cons]
   obtain ⟨s1, s2⟩ := ih (k + 1) (arr.setIfInBounds (off + k) v) (fun j hj => by simp; have := hin (j + 1) (by simp; omega); omega)
   refine ⟨by simpa using s1, fun i => ?_⟩
   rw [s2 i]
   by_cases h1 : off + (k + 1) ≤ i ∧ i < off + (k + 1) + ws.length
   ·rw [if_pos h1, if_pos (by simp; omega), show i - (off + k) = (i - (off + (k + 1))) + 1 by omega]
    simp [List.getD]
   ·rw [if_neg h1]
    by_cases h2 : i = off + k
    ·subst h2
     rw [if_pos (by simp)]
     simp [Array.getD_eq_getD_getElem?, show off + k < arr.size by omega]
    ·rw [if_neg (by simp; omega)]
     simp [Array.getD_eq_getD_getElem?, Array.getElem?_setIfInBounds_ne (Ne.symm h2)]
 have hgen := gen vs.toList 0 arr (fun j hj => by rw [ha.1]; have := hv.1; simp at hj; omega)
 have hfold : vs.zipIdx.foldl (fun c (x : Value × Nat) => c.setIfInBounds (off + x.2) x.1) arr = (vs.toList.zipIdx 0).foldl (fun c (x : Value × Nat) => c.setIfInBounds (off + x.2) x.1) arr := by
  rw [← Array.foldl_toList, Array.toList_zipIdx]
 rw [hfold]
 refine ⟨by rw [hgen.1, setC_length]; exact ha.1, fun j x hx => ?_⟩
 rw [hgen.2 j]
 rcases setC_get l off cs j x hx with ⟨q1, q2, q3⟩ | ⟨q1, q2⟩
 ·rw [if_pos (by simp [hv.1]; omega)]
  have := hv.2 _ _ q3
  rw [Array.getD_eq_getD_getElem?, ← Array.getElem?_toList] at this
  simpa [List.getD] using this
 ·rw [if_neg (by simp [hv.1]; omega)]
  exact ha.2 j x q2
def fillT (s : Slots) (place : Nat → Option (Nat × Nat)) : List T → List (Nat × Operand) → Option (List T)
 | l, [] => some l
 | l, (i, x) :: r =>
  match place i, (evalT s x).bind cellsT with
  | some (off, size), some cs => bif Nat.beq cs.length size && Nat.ble (off + cs.length) l.length then fillT s place (setC l off cs) r else none
  | _, _ => none
theorem fillT_spec {H : GH} {a : Act} {s : Slots} (r : SR n s H a) {place : Nat → Option (Nat × Nat)} : ∀ (ps : List (Nat × Operand)) (l l' : List T) (arr : Array Value), AR H arr l → fillT s place l ps = some l' →
  ∃ arr', Instr.fill place arr (ps.map fun p => (p.1, a.eval p.2)) = some arr' ∧ AR H arr' l' := by
 intro ps
 induction ps with
 | nil => intro l l' arr ha h; simp only [fillT, Option.some.injEq] at h; subst h; exact ⟨arr, rfl, ha⟩
 | cons p ps ih =>
  intro l l' arr ha h
  obtain ⟨i, x⟩ := p
  simp only [fillT] at h
  cases hp : place i with
  | none => simp [hp] at h
  | some q =>
   obtain ⟨off, size⟩ := q
   cases hx : evalT s x with
   | none => simp [hp, hx] at h
   | some y =>
    cases hc : cellsT y with
    | none => simp [hp, hx, hc] at h
    | some cs =>
     simp only [hp, hx, hc, Option.bind_some] at h
     cases hb : (Nat.beq cs.length size && Nat.ble (off + cs.length) l.length) with
     | false => simp [hb] at h
     | true =>
      simp only [hb, cond_true] at h
      simp only [Bool.and_eq_true] at hb
      have hb1 := Nat.eq_of_beq_eq_true hb.1
      have hb2 := Nat.le_of_ble_eq_true hb.2
      have hv := cellsT_spec (r.eval hx) hc
      obtain ⟨arr', h1, h2⟩ := ih _ l' _ (hv.fold ha hb2) h
      refine ⟨arr', ?_, h2⟩
      simp only [List.map_cons, Instr.fill, hp]
      rw [if_neg (by simp [hv.1, hb1, ha.1]; omega)]
      exact h1
def zeroT (z : Value) : List T := z.cells.toList.map T.v
theorem zeroT_AR {H : GH} {z : Value} (h1 : z.cells.toList.all (·.oneCell') = true) : AR H z.cells (zeroT z) := by
 refine ⟨by simp [zeroT], fun j x hx => ?_⟩
 simp only [zeroT, List.getElem?_map, Option.map_eq_some_iff] at hx
 obtain ⟨v, hv, rfl⟩ := hx
 have hv' : z.cells.getD j undef = v := by
  rw [Array.getD_eq_getD_getElem?, ← Array.getElem?_toList, hv]; rfl
 rw [hv']
 exact ⟨List.all_eq_true.1 h1 v (List.mem_of_getElem? hv), .v v⟩
theorem AR.agg {H : GH} {arr : Array Value} {l : List T} (h : AR H arr l) : VR H (.agg arr) (.agg l) :=
 .agg _ _ h.1 (fun j x hx => (h.2 j x hx).1) (fun j x hx => (h.2 j x hx).2)
def placeT (E : Env) (fs : List (Nat × Nat)) (i : Nat) : Option (Nat × Nat) :=
 match fs[i]? with
 | some (off, t) => (E.tab t).map fun ti => (off, ti.size)
 | none => none
theorem Yp.build {t : TypeId} {parts : Array (Nat × Operand)} {ti : TI} {fs : List (Nat × Nat)} {z : Value} {l : List T} {s : Slots}
  (ht : E.tab t = some ti) (hk : ti.kind = .struct fs) (hz : ti.zero = some z) (h1 : z.cells.toList.all (·.oneCell') = true) (hall : fs.all (fun f => (E.tab f.2).isSome) = true)
  (hf : fillT s (placeT E fs) (zeroT z) parts.toList = some l) : Yp E.P n s ⟨dst, .build t parts, ty, pos, aft, g⟩ (.agg l) := by
 intro H a r
 obtain ⟨ff, u1, u2⟩ := und_struct (E.ok _ _ ht) hk
 obtain ⟨arr, q1, q2⟩ := fillT_spec r parts.toList _ _ _ (zeroT_AR (H := H) h1) hf
 refine ⟨.agg arr, q2.agg, fun w => ?_⟩
 have hpl : (ff.mapM fun f => (do pure (f.offset, ← sizeOf f.type) : Sem (Nat × Nat))).run E.P w = .ok (ff.map fun f => (f.offset, ((E.tab f.type).map (·.size)).getD 0)) w := by
  rw [Array.mapM_eq_mapM_toList]
  have gen : ∀ (l : List Field), (∀ f, f ∈ l → (E.tab f.type).isSome = true) →
    (l.mapM fun f => (do pure (f.offset, ← sizeOf f.type) : Sem (Nat × Nat))).run E.P w = .ok (l.map fun f => (f.offset, ((E.tab f.type).map (·.size)).getD 0)) w := by
   intro l
   induction l with
   | nil => intro _; simp
   | cons f l ih =>
    intro hl
    have hs := hl f (by simp)
    obtain ⟨fi, hfi⟩ := Option.isSome_iff_exists.1 hs
    have ih' := ih (fun f hf => hl f (by simp [hf]))
    simp only [List.mapM_cons, Sem.run_bind, run_sizeOf_ti (E.ok _ _ hfi), Result.andThen_ok, Sem.run_pure, ih', hfi]
    simp [hfi]
  have := gen ff.toList (fun f hf => by
   have hm : (f.offset, f.type) ∈ fs := by rw [← u2]; exact List.mem_map_of_mem hf
   exact List.all_eq_true.1 hall _ hm)
  refine (Sem.run_map E.P w _ _).trans ?_
  rw [this]
  simp only [Result.andThen_ok]
  congr 1
  apply Array.ext'
  simp
 have hpe : (fun i => (ff.map fun f => (f.offset, ((E.tab f.type).map (·.size)).getD 0))[i]?) = placeT E fs := by
  funext i
  simp only [placeT, ← u2, List.getElem?_map, Array.getElem?_map, Array.getElem?_toList]
  cases hfi : ff[i]? with
  | none => simp
  | some f =>
   have hm : (f.offset, f.type) ∈ fs := by rw [← u2]; exact List.mem_map_of_mem (by simpa using Array.mem_of_getElem? hfi)
   obtain ⟨fi, hfi'⟩ := Option.isSome_iff_exists.1 (List.all_eq_true.1 hall _ hm)
   simp [hfi']
 simp only [execOp, Instr.build, Sem.run_bind, run_zeroValue_ti (E.ok _ _ ht) w hz, Result.andThen_ok, run_underlying u1, hpl]
 rw [show ((parts.map fun (x : Nat × Operand) => (x.1, a.eval x.2)).toList) = parts.toList.map fun p => (p.1, a.eval p.2) by simp]
 rw [hpe, q1]
 rfl
structure Bld (E : Env) (t : TypeId) (pl : List (Nat × Nat)) (z : List T) : Prop where
 intro ::
 ex : ∃ ti fs zv, E.tab t = some ti ∧ ti.kind = .struct fs ∧ ti.zero = some zv ∧ zv.cells.toList.all (·.oneCell') = true ∧ fs.all (fun f => (E.tab f.2).isSome) = true ∧
  fs.map (fun f => (f.1, ((E.tab f.2).map (·.size)).getD 0)) = pl ∧ zeroT zv = z
def placeL (pl : List (Nat × Nat)) (i : Nat) : Option (Nat × Nat) := pl[i]?
theorem placeT_placeL {fs : List (Nat × Nat)} (h : fs.all (fun f => (E.tab f.2).isSome) = true) : placeT E fs = placeL (fs.map fun f => (f.1, ((E.tab f.2).map (·.size)).getD 0)) := by
 funext i
 simp only [placeT, placeL, List.getElem?_map]
 cases hf : fs[i]? with
 | none => rfl
 | some f =>
  have := List.all_eq_true.1 h f (List.mem_of_getElem? hf)
  obtain ⟨o, t⟩ := f
  cases ht : E.tab t with
  | none => simp [ht] at this
  | some ti => simp [ht]
theorem Yp.buildP {t : TypeId} {parts : Array (Nat × Operand)} {pl : List (Nat × Nat)} {z l : List T} {s : Slots}
  (hb : Bld E t pl z) (hf : fillT s (placeL pl) z parts.toList = some l) : Yp E.P n s ⟨dst, .build t parts, ty, pos, aft, g⟩ (.agg l) := by
 obtain ⟨ti, fs, zv, h1, h2, h3, h4, h5, rfl, rfl⟩ := hb.ex
 exact Yp.build h1 h2 h3 h4 h5 (by rw [placeT_placeL h5]; exact hf)
def rows (sz : Nat) : Nat → List T → List (List T)
 | 0, _ => []
 | m + 1, l => l.take sz :: rows sz m (l.drop sz)
theorem rows_length (sz : Nat) : ∀ (m : Nat) (l : List T), (rows sz m l).length = m
 | 0, _ => rfl
 | m + 1, l => by simp [rows, rows_length sz m]
theorem rows_get (sz : Nat) : ∀ (m : Nat) (l : List T), m * sz ≤ l.length → ∀ (i : Nat) (e : List T), (rows sz m l)[i]? = some e → e.length = sz ∧ ∀ (j : Nat) (x : T), e[j]? = some x → l[i * sz + j]? = some x
 | 0, _, _, i, e, h => by simp [rows] at h
 | m + 1, l, hl, i, e, h => by
  rw [Nat.succ_mul] at hl
  cases i with
  | zero =>
   simp only [rows, List.getElem?_cons_zero, Option.some.injEq] at h
   subst h
   refine ⟨by simp; omega, fun j x hx => ?_⟩
   have hj : j < sz := by
    have := (List.getElem?_eq_some_iff.1 hx).1
    simp at this; omega
   rw [List.getElem?_take_of_lt hj] at hx
   simpa using hx
  | succ i =>
   simp only [rows, List.getElem?_cons_succ] at h
   obtain ⟨h1, h2⟩ := rows_get sz m (l.drop sz) (by simp; omega) i e h
   refine ⟨h1, fun j x hx => ?_⟩
   have := h2 j x hx
   rw [List.getElem?_drop] at this
   rw [Nat.succ_mul, show i * sz + sz + j = sz + (i * sz + j) by omega]; exact this
theorem OR.rows {H : GH} {w : World} {t : TypeId} {arr : Array Value} {l : List T} {b sz m : Nat} (h : w.heap[b]? = some (.cells arr t (0, 0))) (ha : AR H arr l) (hl : l.length = m * sz) (hm : m ≤ maxL) :
  OR H w (.arr b t sz m (rows sz m l)) := by
 refine ⟨arr, h, by rw [ha.1, hl], by rw [rows_length]; omega, by rw [rows_length]; exact hm, fun i e he => (rows_get sz m l (by omega) i e he).1, fun i e he j x hx => ?_⟩
 exact ha.2 _ _ ((rows_get sz m l (by omega) i e he).2 j x hx)
def repT (z : List T) : Nat → List T
 | 0 => []
 | m + 1 => z ++ repT z m
theorem repT_length (z : List T) : ∀ m, (repT z m).length = m * z.length
 | 0 => by simp [repT]
 | m + 1 => by simp [repT, repT_length z m, Nat.succ_mul]; omega
theorem repT_get (z : List T) : ∀ (m j : Nat) (x : T), (repT z m)[j]? = some x → z[j % z.length]? = some x
 | 0, j, x, h => by simp [repT] at h
 | m + 1, j, x, h => by
  simp only [repT, List.getElem?_append] at h
  split at h
  ·rename_i hj; rw [Nat.mod_eq_of_lt hj]; exact h
  ·rename_i hj
   have := repT_get z m _ x h
   rwa [Nat.mod_eq_sub_mod (by omega)]
theorem madeCells_AR {H : GH} {z : Value} (h1 : z.cells.toList.all (·.oneCell') = true) (m : Nat) :
  AR H ((Array.range (m * z.cells.size)).map (z.cells[· % z.cells.size]!)) (repT (zeroT z) m) := by
 have hz := zeroT_AR (H := H) h1
 refine ⟨by simp [repT_length, zeroT], fun j x hx => ?_⟩
 have hj := (List.getElem?_eq_some_iff.1 hx).1
 rw [repT_length] at hj
 have hzl : (zeroT z).length = z.cells.size := by simp [zeroT]
 rw [hzl] at hj
 have hpos : 0 < z.cells.size := by
  rcases Nat.eq_zero_or_pos z.cells.size with h | h
  ·rw [h] at hj; simp at hj
  ·exact h
 have := repT_get _ _ _ _ hx
 rw [hzl] at this
 have h2 := hz.2 _ _ this
 have hmod := Nat.mod_lt j hpos
 have he : ((Array.range (m * z.cells.size)).map (z.cells[· % z.cells.size]!)).getD j undef = z.cells.getD (j % z.cells.size) undef := by
  simp [Array.getD_eq_getD_getElem?, hj, hmod]
 rw [he]; exact h2
theorem AX.buildSlice {t : TypeId} {m : Nat} {parts : Array (Nat × Operand)} {ti ei : TI} {e : Nat} {z : Value} {l : List T} {R : St → Prop} {sz : Nat} {es : List (List T)}
  (ht : E.tab t = some ti) (hk : ti.kind = .slice e) (he : E.tab e = some ei) (hz : ei.zero = some z) (h1 : z.cells.toList.all (·.oneCell') = true) (hsz : ei.size = sz) (hzs : z.cells.size = sz) (hb : Nat.ble (m * sz) 16777216 = true)
  (hm : Nat.ble m 16777216 = true) (hf : fillT σ.slots (fun i => some (i * sz, sz)) (repT (zeroT z) m) parts.toList = some l) (hr : rows sz m l = es)
  (hd : ∀ d, dst = some d → d < n) (k : ∀ b, R ⟨putS σ.slots dst (.v b), σ.objs ++ [.us b e sz es]⟩) :
  AX E n C [] ⟨dst, .buildSlice t m parts, ty, pos, aft, g⟩ σ R := by
 refine AX.value fun H a w gm => ?_
 subst hr hzs
 have hmc := madeCells_AR (H := H) h1 m
 obtain ⟨arr, q1, q2⟩ := fillT_spec gm.sr parts.toList _ _ _ hmc hf
 have hbn := Nat.le_of_ble_eq_true hb
 have hll : l.length = m * z.cells.size := by
  have : ∀ (ps : List (Nat × Operand)) (l0 l : List T), fillT σ.slots (fun i => some (i * z.cells.size, z.cells.size)) l0 ps = some l → l.length = l0.length := by
   intro ps
   induction ps with
   | nil => intro l0 l h; simp only [fillT, Option.some.injEq] at h; rw [h]
   | cons p ps ih =>
    intro l0 l h
    simp only [fillT] at h
    split at h
    ·rename_i off size cs h1 h2
     cases hb : (Nat.beq cs.length size && Nat.ble (off + cs.length) l0.length) with
     | false => simp [hb] at h
     | true => simp only [hb, cond_true] at h; rw [ih _ _ h, setC_length]
    ·simp at h
  rw [this _ _ _ hf, repT_length]; simp [zeroT]
 have hor : OR H (w.alloc (.cells arr e)) (.arr w.heap.size e z.cells.size m (rows z.cells.size m l)) :=
  OR.rows (heap_alloc_new w _) q2 hll (by have := Nat.le_of_ble_eq_true hm; simp [maxL]; omega)
 refine ⟨.slice (some ⟨w.heap.size, 0, none⟩) m m, w.alloc (.cells arr e), _, H, ?_, k (.slice (some ⟨w.heap.size, 0, none⟩) m m), ?_, fun _ _ h => h, ?_⟩
 ·have hpm : ((parts.map fun (x : Nat × Operand) => (x.1, a.eval x.2)).toList) = parts.toList.map fun p => (p.1, a.eval p.2) := by simp
  simp only [execOp, Instr.buildSlice, Sem.run_bind, run_underlying (und_slice (E.ok _ _ ht) hk), Result.andThen_ok, run_sizeOf_ti (E.ok _ _ he), hsz]
  rw [if_neg (by omega)]
  by_cases h0 : m * z.cells.size = 0
  ·rw [if_pos h0]
   have hz0 : ∀ f : Nat → Value, (Array.range (m * z.cells.size)).map f = #[] := fun f => by rw [h0, Array.range_zero']; simp
   rw [hz0] at q1
   simp only [Sem.run_bind, Sem.run_pure, Result.andThen_ok, hz0, hpm, q1]
   simp [newRow]
  ·rw [if_neg h0]
   simp only [Sem.run_bind, Result.andThen_ok, run_zeroValue_ti (E.ok _ _ he) w hz, Sem.run_pure, hpm, q1]
   simp [newRow]
 ·have := (gm.alloc (ob := .us (.slice (some ⟨w.heap.size, 0, none⟩) m m) e z.cells.size _) (.inr ⟨_, m, m, by simp [rows_length], by simp [rows_length], Nat.le_refl _, hor⟩) rfl).put (dst := dst) (.v (.slice (some ⟨w.heap.size, 0, none⟩) m m)) hd
  cases dst <;> exact this
 ·intro i p hp _
  exact ⟨append_keeps hp, fun b hb => heap_alloc_old w _ ((gm.objs p (List.mem_of_getElem? hp)).lt b hb)⟩
theorem rows_rep (z : List T) : ∀ m, rows z.length m (repT z m) = List.replicate m z
 | 0 => rfl
 | m + 1 => by simp [rows, repT, List.replicate_succ, rows_rep z m]
theorem AX.makeSlice {t : TypeId} {x y : Operand} {k1 k2 : IntKind} {i : Int} {m : Nat} {ti ei : TI} {e : Nat} {z : Value} {R : St → Prop} {sz : Nat}
  (ht : E.tab t = some ti) (hk : ti.kind = .slice e) (he : E.tab e = some ei) (hz : ei.zero = some z) (h1 : z.cells.toList.all (·.oneCell') = true) (hsz : ei.size = sz) (hzs : z.cells.size = sz)
  (hx : evalT σ.slots x = some (.v (.int k1 i))) (hy : evalT σ.slots y = some (.v (.int k2 i))) (hi : i = (m : Int)) (hm : m ≤ maxL) (hb : (ei.bytes : Int) * (m : Int) ≤ 140737488355328)
  (hd : ∀ d, dst = some d → d < n) (k : ∀ b, R ⟨putS σ.slots dst (.v b), σ.objs ++ [.us b e sz (List.replicate m (zeroT z))]⟩) :
  AX E n C [] ⟨dst, .makeSlice t x y, ty, pos, aft, g⟩ σ R := by
 refine AX.value fun H a w gm => ?_
 subst hi hzs
 obtain ⟨inf, f1, f2, f3, f4, f5⟩ := run_typeInfo_ti (E.ok _ _ he) w
 have hmm : m ≤ 140737488355328 := hm
 have hrun := run_make (P := E.P) w t e inf z (und_slice (E.ok _ _ ht) hk) f5 (by rw [f4]; exact hz) k1 k2 m m (by omega) (by omega) (by rw [f3]; omega) (by omega)
 have hmc := madeCells_AR (H := H) h1 m
 have hinf : inf.size = z.cells.size := by rw [f2, hsz]
 simp only [Int.toNat_natCast, madeCells, hinf] at hrun
 have hor : OR H (w.alloc (.cells ((Array.range (m * z.cells.size)).map (z.cells[· % z.cells.size]!)) e)) (.arr w.heap.size e z.cells.size m (rows z.cells.size m (repT (zeroT z) m))) :=
  OR.rows (heap_alloc_new w _) hmc (by rw [repT_length]; simp [zeroT]) hm
 have hzl : (zeroT z).length = z.cells.size := by simp [zeroT]
 have hrr := rows_rep (zeroT z) m
 rw [hzl] at hrr
 rw [hrr] at hor
 refine ⟨.slice (some ⟨w.heap.size, 0, none⟩) m m, w.alloc (.cells ((Array.range (m * z.cells.size)).map (z.cells[· % z.cells.size]!)) e), _, H, ?_, k (.slice (some ⟨w.heap.size, 0, none⟩) m m), ?_, fun _ _ h => h, ?_⟩
 ·simp only [execOp, gm.sr.evalv hx, gm.sr.evalv hy, Sem.run_bind, hrun, Result.andThen_ok, Sem.run_pure]
 ·have := (gm.alloc (ob := .us (.slice (some ⟨w.heap.size, 0, none⟩) m m) e z.cells.size _) (.inr ⟨_, m, m, by simp [rows_length], by simp [rows_length], Nat.le_refl _, hor⟩) rfl).put (dst := dst) (.v (.slice (some ⟨w.heap.size, 0, none⟩) m m)) hd
  cases dst <;> exact this
 ·intro i p hp _
  exact ⟨append_keeps hp, fun b hb => heap_alloc_old w _ ((gm.objs p (List.mem_of_getElem? hp)).lt b hb)⟩
end
section
variable {E : Env} {n : Nat} {C : Ctx} {σ : St} {dst : Option Tmp} {ty : TypeId} {pos : String} {aft : Array Edge} {g : Option (Nat × Bool)}
def AppSrc (s : Slots) (objs : List Ob) (x : Operand) (sz : Nat) (es : List (List T)) : Prop :=
 ∀ n H a w, SR n s H a → WR objs H w → ∃ (ad : Option Addr) (c : Nat) (news : List Value), a.eval x = .slice ad es.length c ∧ news.length = es.length * sz ∧
  (∀ v, v ∈ news → v.oneCell' = true) ∧ (ad = none → es = []) ∧ (∀ ad', ad = some ad' → ∀ j u, news[j]? = some u → w.cell? (ad'.add j) = some u) ∧
  (∀ (i : Nat) (e : List T), es[i]? = some e → e.length = sz ∧ ∀ (j : Nat) (x : T), e[j]? = some x → VR H (news.getD (i * sz + j) undef) x)
theorem cells_list {cs : Array Value} {o m : Nat} (hsz : o + m ≤ cs.size) : (cs.toList.drop o |>.take m).length = m ∧ ∀ j, j < m → ((cs.toList.drop o).take m).getD j undef = cs.getD (o + j) undef ∧ ((cs.toList.drop o).take m)[j]? = cs[o + j]? := by
 refine ⟨by simp; omega, fun j hj => ?_⟩
 have : ((cs.toList.drop o).take m)[j]? = cs[o + j]? := by
  rw [List.getElem?_take_of_lt hj, List.getElem?_drop]; simp
 exact ⟨by simp [List.getD, this, Array.getD_eq_getD_getElem?], this⟩
theorem AppSrc.of_cells {H : GH} {w : World} {b o : Nat} {cs : Array Value} {ty : TypeId} {fr : Nat × Nat} (hb : w.heap[b]? = some (.cells cs ty fr)) {sz : Nat} {es : List (List T)} (hsz : o + es.length * sz ≤ cs.size)
  (hel : ∀ (i : Nat) (e : List T), es[i]? = some e → e.length = sz)
  (h1 : ∀ (i : Nat) (e : List T), es[i]? = some e → ∀ (j : Nat) (x : T), e[j]? = some x → (cs.getD (o + i * sz + j) undef).oneCell' = true)
  (hv : ∀ (i : Nat) (e : List T), es[i]? = some e → ∀ (j : Nat) (x : T), e[j]? = some x → VR H (cs.getD (o + i * sz + j) undef) x) :
  ∃ news : List Value, news.length = es.length * sz ∧ (∀ v, v ∈ news → v.oneCell' = true) ∧ (∀ j u, news[j]? = some u → w.cell? ((⟨b, o, none⟩ : Addr).add j) = some u) ∧
   (∀ (i : Nat) (e : List T), es[i]? = some e → e.length = sz ∧ ∀ (j : Nat) (x : T), e[j]? = some x → VR H (news.getD (i * sz + j) undef) x) := by
 obtain ⟨c1, c2⟩ := cells_list hsz
 have idx : ∀ (i : Nat) (e : List T), es[i]? = some e → ∀ (j : Nat) (x : T), e[j]? = some x → i * sz + j < es.length * sz := by
  intro i e he j x hx
  have hi := (List.getElem?_eq_some_iff.1 he).1
  have hj := (List.getElem?_eq_some_iff.1 hx).1
  rw [hel i e he] at hj
  have : (i + 1) * sz ≤ es.length * sz := Nat.mul_le_mul_right _ hi
  rw [Nat.succ_mul] at this; omega
 refine ⟨(cs.toList.drop o).take (es.length * sz), c1, ?_, ?_, ?_⟩
 ·intro v hvm
  obtain ⟨k, hk, he⟩ := List.getElem_of_mem hvm
  rw [c1] at hk
  have hgd : ((cs.toList.drop o).take (es.length * sz)).getD k undef = v := by
   simp [List.getD, List.getElem?_eq_getElem (show k < ((cs.toList.drop o).take (es.length * sz)).length by rw [c1]; exact hk), he]
  rw [(c2 k hk).1] at hgd
  rcases Nat.eq_zero_or_pos sz with h0 | hpos
  ·subst h0; simp at hk
  ·have hd : k / sz < es.length := by rw [Nat.div_lt_iff_lt_mul hpos]; exact hk
   have he' : es[k / sz]? = some es[k / sz] := List.getElem?_eq_getElem hd
   have hm := Nat.mod_lt k hpos
   have hel' := hel _ _ he'
   have hx' : es[k / sz][k % sz]? = some (es[k / sz][k % sz]'(by rw [hel']; exact hm)) := List.getElem?_eq_getElem _
   have := h1 _ _ he' _ _ hx'
   have hdm := Nat.div_add_mod k sz
   rw [Nat.mul_comm] at hdm
   rw [show o + k / sz * sz + k % sz = o + k by omega, hgd] at this
   exact this
 ·intro j u hu
  have hj : j < es.length * sz := by have := (List.getElem?_eq_some_iff.1 hu).1; rw [c1] at this; exact this
  rw [(c2 j hj).2] at hu
  rw [Addr.add_mk]
  simp [World.cell?, hb, hu]
 ·intro i e he
  refine ⟨hel i e he, fun j x hx => ?_⟩
  rw [(c2 _ (idx i e he j x hx)).1, ← Nat.add_assoc]
  exact hv i e he j x hx
theorem AppSrc.list {s : Slots} {objs : List Ob} {x : Operand} {sz : Nat} {es : List (List T)} (hx : evalT s x = some (.list sz es)) : AppSrc s objs x sz es := by
 intro n H a w r wr
 have h := r.eval hx
 generalize hv : a.eval x = v at h
 cases h with
 | empty ad cap sz => exact ⟨ad, cap, [], rfl, by simp, by simp, fun _ => rfl, by simp, by simp⟩
 | list b off cap sz es cs ty fr hb hcap hmax hsz hel h1 hvs =>
  obtain ⟨news, q1, q2, q3, q4⟩ := AppSrc.of_cells (H := H) (wr.held _ _ hb) hsz hel h1 hvs
  exact ⟨some ⟨b, off, none⟩, cap, news, rfl, q1, q2, (by simp), (fun ad' h => by cases h; exact q3), q4⟩
theorem AppSrc.own {s : Slots} {objs : List Ob} {x : Operand} {sz : Nat} {es : List (List T)} (k : Nat) {v : Value} {tt : Nat} (hx : evalT s x = some (.v v)) (hk : objs[k]? = some (.us v tt sz es)) :
  AppSrc s objs x sz es := by
 intro n H a w r wr
 have hor : UsR H w v tt sz es := wr.objs _ (List.mem_of_getElem? hk)
 rcases hor with ⟨rfl, rfl⟩ | ⟨b, c, cap, rfl, p1, p2, cs, a1, a2, a3, a4, a5, a6⟩
 ·exact ⟨none, 0, [], by rw [r.evalv hx]; rfl, by simp, by simp, fun _ => rfl, by simp, by simp⟩
 ·have hle : es.length * sz ≤ cs.size := by rw [a2]; exact Nat.mul_le_mul_right _ a3
  obtain ⟨news, q1, q2, q3, q4⟩ := AppSrc.of_cells (H := H) a1 (o := 0) (by omega) a5 (fun i e he j x hx => by simpa using (a6 i e he j x hx).1) (fun i e he j x hx => by simpa using (a6 i e he j x hx).2)
  exact ⟨some ⟨b, 0, none⟩, c, news, by rw [r.evalv hx], q1, q2, (by simp), (fun ad' h => by cases h; exact q3), q4⟩
theorem OR.appended {H : GH} {w : World} {b : Nat} {e : TypeId} {cs : Array Value} {sz cap : Nat} {es es2 : List (List T)} (hb : w.heap[b]? = some (.cells cs e (0, 0))) (hcs : cs.size = cap * sz) (hcap : es.length + es2.length ≤ cap)
  (hmax : es.length + es2.length ≤ maxL) (hel : ∀ (i : Nat) (e : List T), es[i]? = some e → e.length = sz) (hel2 : ∀ (i : Nat) (e : List T), es2[i]? = some e → e.length = sz)
  (h1 : ∀ (i : Nat) (e : List T), es[i]? = some e → ∀ (j : Nat) (x : T), e[j]? = some x → CR H (cs.getD (i * sz + j) undef) x)
  (h2 : ∀ (i : Nat) (e : List T), es2[i]? = some e → ∀ (j : Nat) (x : T), e[j]? = some x → CR H (cs.getD (es.length * sz + (i * sz + j)) undef) x) : ArrR H w b e sz cap (es ++ es2) := by
 refine ⟨cs, hb, hcs, by simpa using hcap, by simpa using hmax, fun i e he => ?_, fun i e he j x hx => ?_⟩
 ·rw [List.getElem?_append] at he
  split at he
  ·exact hel _ _ he
  ·exact hel2 _ _ he
 ·rw [List.getElem?_append] at he
  split at he
  ·exact h1 i e he j x hx
  ·rename_i hi
   have := h2 _ e he j x hx
   rw [← Nat.add_assoc, ← Nat.add_mul, show es.length + (i - es.length) = i by omega] at this
   exact this
theorem news_one {news : List Value} (h : ∀ v, v ∈ news → v.oneCell' = true) {j : Nat} (hj : j < news.length) : (news.getD j undef).oneCell' = true := by
 rw [List.getD, List.getElem?_eq_getElem hj]; exact h _ (List.getElem_mem hj)
theorem row_idx {es : List (List T)} {sz : Nat} (hel : ∀ (i : Nat) (e : List T), es[i]? = some e → e.length = sz) {i : Nat} {e : List T} (he : es[i]? = some e) {j : Nat} {x : T} (hx : e[j]? = some x) : i * sz + j < es.length * sz := by
 have hi := (List.getElem?_eq_some_iff.1 he).1
 have hj := (List.getElem?_eq_some_iff.1 hx).1
 rw [hel i e he] at hj
 have : (i + 1) * sz ≤ es.length * sz := Nat.mul_le_mul_right _ hi
 rw [Nat.succ_mul] at this; omega
theorem append_core {H : GH} {a : Act} {w : World} {objs : List Ob} {s : Slots} (r : SR n s H a) (wr : WR objs H w) {x : Operand} {t : TypeId} {ti ei : TI} {e sz : Nat} {z : Value} {es es2 : List (List T)} {v : Value}
  (ht : E.tab t = some ti) (hk : ti.kind = .slice e) (he : E.tab e = some ei) (hz : ei.zero = some z) (hsz : ei.size = sz) (hzs : z.cells.size = sz)
  (hs : UsR H w v e sz es) (hx : AppSrc s objs x sz es2) (hmax : es.length + es2.length ≤ maxL) (hb : (es.length + es2.length) * ei.bytes ≤ 140737488355328) :
  ∃ v' w', (Builtin.append_ #[t, t] ty #[v, a.eval x]).run E.P w = .ok v' w' ∧ UsR H w' v' e sz (es ++ es2) ∧ (w'.os = w.os ∧ w'.tape = w.tape ∧ w'.output = w.output) ∧ w.heap.size ≤ w'.heap.size ∧
   (∀ i, i < w.heap.size → i ∉ bls v → w'.heap[i]? = w.heap[i]?) ∧ ∀ b, b ∈ bls v' → w.heap.size ≤ b ∨ b ∈ bls v := by
 obtain ⟨ad, c, news, q1, q2, q3, q4, q5, q6⟩ := hx n H a w r wr
 have hmx : es.length + es2.length ≤ 140737488355328 := hmax
 obtain ⟨inf, f1, f2, f3, f4, f5⟩ := run_typeInfo_ti (E.ok _ _ he) w
 have hel2 : ∀ (i : Nat) (e : List T), es2[i]? = some e → e.length = sz := fun i e he => (q6 i e he).1
 have hund := und_slice (E.ok _ _ ht) hk
 rw [q1]
 rcases hs with ⟨rfl, rfl⟩ | ⟨b, cp, cap, rfl, p1, p2, cur, a1, a2, a3, a4, a5, a6⟩
 ·simp only [List.length_nil, Nat.zero_add, List.nil_append] at *
  cases ad with
  | none =>
   have := q4 rfl
   subst this
   refine ⟨.slice none 0 0, w, ?_, .inl ⟨rfl, rfl⟩, ⟨rfl, rfl, rfl⟩, Nat.le_refl _, fun _ _ _ => rfl, by simp [bls]⟩
   simp [Builtin.append_, run_underlying hund, sizeOf, typeInfo, f5, Builtin.lenOf, Builtin.firstCells]
  | some ad =>
   rcases Nat.eq_zero_or_pos es2.length with h0 | h0
   ·have : es2 = [] := List.length_eq_zero_iff.1 h0
    subst this
    refine ⟨.slice none 0 0, w, ?_, .inl ⟨rfl, rfl⟩, ⟨rfl, rfl, rfl⟩, Nat.le_refl _, fun _ _ _ => rfl, by simp [bls]⟩
    have hfc := run_firstCells_some (P := E.P) w inf.size 0 ad 0 c [] (by simp) (by simp)
    simp [Builtin.append_, run_underlying hund, sizeOf, typeInfo, f5, Builtin.lenOf, hfc]
   ·have hrun := run_append_nil (P := E.P) w t ty e inf z hund f5 (by rw [f4]; exact hz) ad es2.length c news (by rw [f2, hsz]; exact q2) (q5 ad rfl) h0 (by omega) (by rw [f3]; omega)
    have hge := grownCap_ge w es2.length 0 e
    have hor : ArrR H (w.drew.alloc (.cells (news.toArray ++ Builtin.zeroCells z.cells (grownCap w es2.length 0 e - es2.length)) e)) w.heap.size e sz (grownCap w es2.length 0 e) ([] ++ es2) := by
     refine OR.appended (heap_alloc_new w.drew _) ?_ (by simpa using hge) (by simpa using hmax) (by simp) hel2 (by simp) ?_
     ·rw [Array.size_append, size_zeroCells, hzs]; simp only [List.size_toArray, q2]
      rw [← Nat.add_mul]; congr 1; omega
     ·intro i e' he' j y hy
      have hlt := row_idx hel2 he' hy
      have hgd : (news.toArray ++ Builtin.zeroCells z.cells (grownCap w es2.length 0 e - es2.length)).getD (([] : List (List T)).length * sz + (i * sz + j)) undef = news.getD (i * sz + j) undef := by
       simp [Array.getD_eq_getD_getElem?, Array.getElem?_append, show i * sz + j < news.length by omega, List.getD]
      rw [hgd]
      exact ⟨news_one q3 (by omega), (q6 i e' he').2 j y hy⟩
    simp only [List.nil_append] at hor
    exact ⟨_, _, hrun, .inr ⟨_, _, _, rfl, hge, Nat.le_refl _, hor⟩, ⟨rfl, rfl, rfl⟩, by show w.heap.size ≤ (w.heap.push _).size; simp, fun k hk _ => heap_alloc_old w.drew _ hk, by simp [bls]⟩
 ·cases ad with
  | none =>
   have := q4 rfl
   subst this
   refine ⟨.slice (some ⟨b, 0, none⟩) es.length cp, w, ?_, .inr ⟨b, cp, cap, by simp, by simpa using p1, p2, cur, a1, a2, by simpa using a3, by simpa using a4, by simpa using a5, by simpa using a6⟩, ⟨rfl, rfl, rfl⟩, Nat.le_refl _, fun _ _ _ => rfl, fun b hb => .inr hb⟩
   have h2 : es.length ≤ cp := p1
   simp [Builtin.append_, run_underlying hund, sizeOf, typeInfo, f5, Builtin.lenOf, Builtin.firstCells, h2, storeCells]
  | some ad =>
   by_cases hroom : es.length + es2.length ≤ cp
   ·have hfit : es.length * sz + news.length ≤ cur.size := by rw [q2, a2, ← Nat.add_mul]; exact Nat.mul_le_mul_right _ (by omega)
    have hrun := run_append_room (P := E.P) w t ty e inf hund f5 b es.length cp cur a1 ad es2.length c news (by rw [f2, hsz]; exact q2) (q5 ad rfl) q3 hroom (by rw [f2, hsz]; exact hfit)
    rw [f2, hsz] at hrun
    refine ⟨_, _, hrun, .inr ⟨b, cp, cap, by simp, by simpa using hroom, p2, ?_⟩, ⟨rfl, rfl, rfl⟩, by rw [setRow_size]; exact Nat.le_refl _, fun k _ hk => setRow_other w b k _ (by simpa [bls] using hk), fun b' hb' => .inr (by simpa [bls] using hb')⟩
    refine OR.appended (setRow_heap w b cur _ e _ a1) ?_ (by omega) hmax a5 hel2 ?_ ?_
    ·simp only [List.size_toArray, List.length_append, List.length_take, List.length_drop, Array.length_toList]
     omega
    ·intro i e' he' j y hy
     have hlt := row_idx a5 he' hy
     rw [getD_seg hfit, if_neg (by omega)]
     exact a6 i e' he' j y hy
    ·intro i e' he' j y hy
     have hlt := row_idx hel2 he' hy
     rw [getD_seg hfit, if_pos (by omega), Nat.add_sub_cancel_left]
     exact ⟨news_one q3 (by omega), (q6 i e' he').2 j y hy⟩
   ·have holen : (cur.toList.take (es.length * sz)).length = es.length * sz := by
     have : es.length * sz ≤ cur.size := by rw [a2]; exact Nat.mul_le_mul_right _ a3
     simp; omega
    have hrun := run_append_grow (P := E.P) w t ty e inf z hund f5 (by rw [f4]; exact hz) ⟨b, 0, none⟩ es.length cp (cur.toList.take (es.length * sz)) (by rw [f2, hsz]; exact holen)
     (fun j u hu => by
      rw [Addr.add_mk]
      have hj : j < es.length * sz := by have := (List.getElem?_eq_some_iff.1 hu).1; rw [holen] at this; exact this
      rw [List.getElem?_take_of_lt hj] at hu
      simpa [World.cell?, a1] using hu)
     ad es2.length c news (by rw [f2, hsz]; exact q2) (q5 ad rfl) (by omega) (by omega) (by rw [f3]; exact growslice_fits (by omega) hb)
    have hge := grownCap_ge w (es.length + es2.length) cp e
    refine ⟨_, _, hrun, .inr ⟨w.heap.size, _, grownCap w (es.length + es2.length) cp e, by simp, by simpa using hge, Nat.le_refl _, ?_⟩, ⟨rfl, rfl, rfl⟩, by show w.heap.size ≤ (w.heap.push _).size; simp, fun k hk _ => heap_alloc_old w.drew _ hk, fun b' hb' => .inl (by simp [bls] at hb'; omega)⟩
    refine OR.appended (heap_alloc_new w.drew _) ?_ hge hmax a5 hel2 ?_ ?_
    ·simp only [Array.size_append, size_zeroCells, hzs, List.size_toArray, holen, q2]
     rw [← Nat.add_mul, ← Nat.add_mul]; congr 1; omega
    ·intro i e' he' j y hy
     have hlt := row_idx a5 he' hy
     have hgd : ((cur.toList.take (es.length * sz)).toArray ++ news.toArray ++ Builtin.zeroCells z.cells (grownCap w (es.length + es2.length) cp e - (es.length + es2.length))).getD (i * sz + j) undef = cur.getD (i * sz + j) undef := by
      have hc : es.length * sz ≤ cur.size := by rw [a2]; exact Nat.mul_le_mul_right _ a3
      simp only [Array.getD_eq_getD_getElem?, Array.getElem?_append, Array.size_append, List.size_toArray, holen, List.getElem?_toArray]
      rw [if_pos (by omega), if_pos (by omega), List.getElem?_take_of_lt hlt]
      simp
     rw [hgd]
     exact a6 i e' he' j y hy
    ·intro i e' he' j y hy
     have hlt := row_idx hel2 he' hy
     have hgd : ((cur.toList.take (es.length * sz)).toArray ++ news.toArray ++ Builtin.zeroCells z.cells (grownCap w (es.length + es2.length) cp e - (es.length + es2.length))).getD (es.length * sz + (i * sz + j)) undef = news.getD (i * sz + j) undef := by
      simp only [Array.getD_eq_getD_getElem?, Array.getElem?_append, Array.size_append, List.size_toArray, holen, List.getElem?_toArray]
      rw [if_pos (by omega), if_neg (by omega), Nat.add_sub_cancel_left]
      rfl
     rw [hgd]
     exact ⟨news_one q3 (by omega), (q6 i e' he').2 j y hy⟩
theorem bls_nodup (v : Value) : (bls v).Nodup := by
 unfold bls
 split <;> simp
theorem exec_append {a : Act} {w w' : World} {s x : Operand} {t : TypeId} {v v' : Value} (hs : a.eval s = v) (h : (Builtin.append_ #[t, t] ty #[v, a.eval x]).run E.P w = .ok v' w') :
  (execOp a.eval ⟨dst, .call { callee := .builtin .append, args := #[s, x], argTypes := #[t, t] }, ty, pos, aft, g⟩).run E.P w = .ok (.value v') w' := by
 simp only [execOp, resolve, invoke, builtin, Sem.run_bind, Sem.run_pure, Result.andThen_ok, List.map_toArray, List.map_cons, List.map_nil, hs, h]
theorem AX.appendU (ks : Nat) {s x : Operand} {t : TypeId} {ti ei : TI} {e sz : Nat} {z v : Value} {es es2 es' : List (List T)} {R : St → Prop}
  (ht : E.tab t = some ti) (hk : ti.kind = .slice e) (he : E.tab e = some ei) (hz : ei.zero = some z) (hsz : ei.size = sz) (hzs : z.cells.size = sz) (hby : Nat.ble ei.bytes 2048 = true)
  (hs : evalT σ.slots s = some (.v v)) (hks : σ.objs[ks]? = some (.us v e sz es))
  (hx : AppSrc σ.slots σ.objs x sz es2) (hb : es.length + es2.length ≤ 68719476736) (hes : es ++ es2 = es')
  (hd : ∀ d, dst = some d → d < n)
  (k : ∀ v', R ⟨putS σ.slots dst (.v v'), σ.objs.set ks (.us v' e sz es')⟩) :
  AX E n C [ks] ⟨dst, .call { callee := .builtin .append, args := #[s, x], argTypes := #[t, t] }, ty, pos, aft, g⟩ σ R := by
 subst hes
 refine AX.value fun H a w gm => ?_
 have hby' := Nat.le_of_ble_eq_true hby
 obtain ⟨v', w', h1, h2, h3, h4, h5, h6⟩ := append_core (ty := ty) gm.sr gm.wr ht hk he hz hsz hzs (gm.objs _ (List.mem_of_getElem? hks)) hx (by simp [maxL]; omega) (Nat.le_trans (Nat.mul_le_mul hb hby') (by decide))
 refine ⟨v', w', _, H, exec_append (gm.sr.evalv hs) h1, k v', ?_, fun _ _ h => h, fun i p hp hm => ?_⟩
 ·have := (gm.set (o' := .us v' e sz (es ++ es2)) hks h3 h4 h5 h2 h6 (bls_nodup v')).put (dst := dst) (.v v') hd
  cases dst <;> exact this
 ·have hne : ks ≠ i := fun h => by subst h; simp at hm
  exact ⟨set_keeps hp hne, fun b hb => h5 b ((gm.objs p (List.mem_of_getElem? hp)).lt b hb) (gm.apart hks hp hne b hb)⟩
theorem AX.appendN {s x : Operand} {t : TypeId} {ti ei : TI} {e sz : Nat} {z : Value} {es2 es' : List (List T)} {R : St → Prop}
  (ht : E.tab t = some ti) (hk : ti.kind = .slice e) (he : E.tab e = some ei) (hz : ei.zero = some z) (hsz : ei.size = sz) (hzs : z.cells.size = sz) (hby : Nat.ble ei.bytes 2048 = true)
  (hs : evalT σ.slots s = some (.v (.slice none 0 0)))
  (hx : AppSrc σ.slots σ.objs x sz es2) (hb : es2.length ≤ 68719476736) (hes : es2 = es')
  (hd : ∀ d, dst = some d → d < n)
  (k : ∀ v', R ⟨putS σ.slots dst (.v v'), σ.objs ++ [.us v' e sz es']⟩) :
  AX E n C [] ⟨dst, .call { callee := .builtin .append, args := #[s, x], argTypes := #[t, t] }, ty, pos, aft, g⟩ σ R := by
 subst hes
 refine AX.value fun H a w gm => ?_
 have hby' := Nat.le_of_ble_eq_true hby
 obtain ⟨v', w', h1, h2, h3, h4, h5, h6⟩ := append_core (ty := ty) (es := []) gm.sr gm.wr ht hk he hz hsz hzs (.inl ⟨rfl, rfl⟩) hx (by simp [maxL]; omega) (Nat.le_trans (Nat.mul_le_mul (by simpa using hb) hby') (by decide))
 simp only [List.nil_append] at h2
 refine ⟨v', w', _, H, exec_append (gm.sr.evalv hs) h1, k v', ?_, fun _ _ h => h, fun i p hp hm => ?_⟩
 ·have := (gm.more (ob := .us v' e sz es2) h3 h4 (fun i hi => h5 i hi (by simp [bls])) h2 (fun b hb => (h6 b hb).resolve_right (by simp [bls])) (bls_nodup v')).put (dst := dst) (.v v') hd
  cases dst <;> exact this
 ·exact ⟨append_keeps hp, fun b hb => h5 b ((gm.objs p (List.mem_of_getElem? hp)).lt b hb) (by simp [bls])⟩
theorem Gam.hold {H : GH} {a : Act} {w : World} (gm : Gam n C σ H a w) {k : Nat} {o : Ob} (hk : σ.objs[k]? = some o) :
  ∃ H', (∀ b o, H b = some o → H' b = some o) ∧ Gam n C ⟨σ.slots, σ.objs.eraseIdx k⟩ H' a w ∧ (∀ b, b ∈ o.fp → H' b = w.heap[b]?) ∧ OR H' w o := by
 have hm := List.mem_of_getElem? hk
 have hfree := gm.free _ hm
 have hnew := gm.new _ hm
 have hmono : ∀ b' x, H b' = some x → (if b' ∈ o.fp then w.heap[b']? else H b') = some x := by
  intro b' x ho
  by_cases hb : b' ∈ o.fp
  ·rw [hfree b' hb] at ho; cases ho
  ·simp [hb, ho]
 refine ⟨fun b' => if b' ∈ o.fp then w.heap[b']? else H b', hmono, ?_, fun b hb => by simp [hb], (gm.objs _ hm).mono hmono (fun _ _ => rfl)⟩
 have hsub : ∀ p, p ∈ σ.objs.eraseIdx k → p ∈ σ.objs ∧ ∀ b, b ∈ p.fp → b ∉ o.fp := by
  intro p hp
  obtain ⟨i, hi⟩ := List.mem_iff_getElem?.1 hp
  rw [List.getElem?_eraseIdx] at hi
  split at hi
  ·rename_i hik
   exact ⟨List.mem_of_getElem? hi, gm.apart hk hi (by omega)⟩
  ·rename_i hik
   exact ⟨List.mem_of_getElem? hi, gm.apart hk hi (by omega)⟩
 refine ⟨gm.defers.mono hmono, gm.size, fun i x h => (gm.slots i x h).mono hmono, fun p hp => (gm.objs p (hsub p hp).1).mono hmono (fun _ _ => rfl), fun p hp b hb => ?_, fun p hp => gm.new p (hsub p hp).1, ?_, ?_, ?_, gm.heap, ?_, gm.env⟩
 ·obtain ⟨h1, h2⟩ := hsub p hp
  simp [h2 b hb, gm.free p h1 b hb]
 ·exact (sublist_flatMap (List.eraseIdx_sublist σ.objs k)).nodup gm.nodup
 ·intro b' x ho
  by_cases hb : b' ∈ o.fp
  ·simpa [hb] using ho
  ·simp [hb] at ho; exact gm.held _ _ ho
 ·intro b' x ho; exact hmono _ _ (gm.grow _ _ ho)
 ·intro b' hb' hf
  obtain ⟨h1, h2⟩ := gm.frame b' hb' hf
  refine ⟨h1, ?_⟩
  have : b' ∉ o.fp := fun h => by rcases hnew b' h with h | h; omega; exact hf h
  simp [this, h2]
theorem ArrR.list {H : GH} {w : World} {b tt sz cap : Nat} {es : List (List T)} (h : ArrR H w b tt sz cap es) (hb : H b = w.heap[b]?) {c : Nat} (hc : es.length ≤ c) : VR H (.slice (some ⟨b, 0, none⟩) es.length c) (.list sz es) := by
 obtain ⟨cs, a1, a2, a3, a4, a5, a6⟩ := h
 refine .list b 0 c sz es cs tt (0, 0) (hb.trans a1) hc a4 ?_ a5 (fun i e he j x hx => by simpa using (a6 i e he j x hx).1) (fun i e he j x hx => by simpa using (a6 i e he j x hx).2)
 rw [a2, Nat.zero_add]; exact Nat.mul_le_mul_right _ a3
theorem UsR.list {H : GH} {w : World} {v : Value} {tt sz : Nat} {es : List (List T)} (h : UsR H w v tt sz es) (hb : ∀ b, b ∈ bls v → H b = w.heap[b]?) : VR H v (.list sz es) := by
 rcases h with ⟨rfl, rfl⟩ | ⟨b, c, cap, rfl, p1, p2, p3⟩
 ·exact .empty _ _ _
 ·exact p3.list (hb b (by simp [bls])) p1
def listRows (szi : Nat) (L : List (List (List T))) : List (List T) := L.map fun es => [.list szi es]
theorem UsR.lists {H : GH} {w : World} {v : Value} {ty tyi szi : Nat} {vs : List Value} {L : List (List (List T))} (h : OR H w (.uss v ty tyi szi vs (L.map some))) (hb : ∀ b, b ∈ (Ob.uss v ty tyi szi vs (L.map some)).fp → H b = w.heap[b]?) : VR H v (.list 1 (listRows szi L)) := by
 obtain ⟨h0, h1, h2⟩ := h
 have hlen : vs.length = L.length := by simpa using h0
 rcases h1 with ⟨rfl, h1⟩ | ⟨b, c, cap, rfl, p1, p2, cs, a1, a2, a3, a4, a5, a6⟩
 ·have : vs = [] := by simpa using h1
  subst this
  have : L = [] := List.length_eq_zero_iff.1 (by simpa using hlen.symm)
  subst this
  exact .empty _ _ _
 ·have hl : (listRows szi L).length = (vs.map fun x => [T.v x]).length := by simp [listRows, hlen]
  rw [← hl]
  have key : ∀ (i : Nat) (e : List T), (listRows szi L)[i]? = some e → ∃ x es, e = [.list szi es] ∧ vs[i]? = some x ∧ VR H x (.list szi es) ∧ cs.getD (i * 1) undef = x ∧ x.oneCell' = true := by
   intro i e he
   simp only [listRows, List.getElem?_map, Option.map_eq_some_iff] at he
   obtain ⟨es, hes, rfl⟩ := he
   have hil := (List.getElem?_eq_some_iff.1 hes).1
   have hx : vs[i]? = some vs[i] := List.getElem?_eq_getElem (by omega)
   have hL : (L.map some)[i]? = some (some es) := by simp [hes]
   have hu := h2 i _ es hx hL
   have h6 := a6 i [T.v vs[i]] (by simp [hx]) 0 (T.v vs[i]) rfl
   simp only [Nat.add_zero] at h6
   refine ⟨_, es, rfl, hx, hu.list (fun b' hb' => hb b' (by simp [Ob.fp, ussIn_mem hx hL b' hb'])), h6.2.v_eq, ?_⟩
   rw [← h6.2.v_eq]; exact h6.1
  refine .list b 0 c 1 (listRows szi L) cs ty (0, 0) ((hb b (by simp [Ob.fp, bls])).trans a1) (by rw [hl]; exact p1) (by rw [hl]; exact a4) ?_ ?_ ?_ ?_
  ·rw [a2, Nat.zero_add]; rw [hl]; exact Nat.mul_le_mul_right _ a3
  ·intro i e he; obtain ⟨x, es, rfl, _⟩ := key i e he; rfl
  ·intro i e he j y hy
   obtain ⟨x, es, rfl, h3, h4, h5, h6⟩ := key i e he
   cases j with
   | zero => simp only [Nat.zero_add, Nat.add_zero]; rw [h5]; exact h6
   | succ j => simp at hy
  ·intro i e he j y hy
   obtain ⟨x, es, rfl, h3, h4, h5, h6⟩ := key i e he
   cases j with
   | zero => simp only [Nat.zero_add, Nat.add_zero]; rw [h5]; simp at hy; subst hy; exact h4
   | succ j => simp at hy
def ACalls (E : Env) (f : FuncId) (xs : List T) (fp : List Ob) (R : T → List Ob → Prop) : Prop :=
 (∃ fn, E.P.funcs[f]? = some fn ∧ (fn.name == "runtime.NumGoroutine") = false ∧ fn.body.isNone = false) ∧
 ∀ (H : GH) (w : World) (vs : Array Value), vs.size = xs.length → (∀ (i : Nat) (x : T), xs[i]? = some x → VR H (vs.getD i undef) x) → ((∀ b o, H b = some o → w.heap[b]? = some o) ∧ Held H) →
  (∀ p, p ∈ fp → OR H w p ∧ ∀ b, b ∈ p.fp → H b = none) → (fp.flatMap Ob.fp).Nodup →
  Calls E.P f vs w fun e w' => ∃ v x fp' H', e = .returned v ∧ R x fp' ∧ VR H' v x ∧ (∀ b o, H b = some o → H' b = some o) ∧ (∀ b o, H' b = some o → w'.heap[b]? = some o) ∧
   (∀ p, p ∈ fp' → OR H' w' p ∧ ∀ b, b ∈ p.fp → H' b = none ∧ (w.heap.size ≤ b ∨ b ∈ fp.flatMap Ob.fp)) ∧ (fp'.flatMap Ob.fp).Nodup ∧ w.heap.size ≤ w'.heap.size ∧
   (w'.os = w.os ∧ w'.tape = w.tape ∧ w'.output = w.output) ∧ ∀ b, b < w.heap.size → b ∉ fp.flatMap Ob.fp → w'.heap[b]? = w.heap[b]? ∧ H' b = H b
theorem ACalls.mono {f : FuncId} {xs : List T} {fp : List Ob} {R R' : T → List Ob → Prop} (h : ACalls E f xs fp R) (hr : ∀ x fp', R x fp' → R' x fp') : ACalls E f xs fp R' :=
 ⟨h.1, fun H w vs h1 h2 h3 h4 h5 => (h.2 H w vs h1 h2 h3 h4 h5).mono fun e w' ⟨v, x, fp', H', q1, q2, q⟩ => ⟨v, x, fp', H', q1, hr _ _ q2, q⟩⟩
def evalL (s : Slots) : List Operand → Option (List T)
 | [] => some []
 | x :: l => match evalT s x, evalL s l with
  | some y, some ys => some (y :: ys)
  | _, _ => none
theorem evalL_spec {s : Slots} {H : GH} {a : Act} (r : SR n s H a) : ∀ {l : List Operand} {ys : List T}, evalL s l = some ys → (l.map a.eval).length = ys.length ∧ ∀ (i : Nat) (y : T), ys[i]? = some y → VR H ((l.map a.eval).getD i undef) y
 | [], ys, h => by simp only [evalL, Option.some.injEq] at h; subst h; simp
 | x :: l, ys, h => by
  simp only [evalL] at h
  split at h
  ·rename_i y ys' h1 h2
   simp only [Option.some.injEq] at h
   subst h
   obtain ⟨k1, k2⟩ := evalL_spec r h2
   refine ⟨by simpa using k1, fun i z hz => ?_⟩
   cases i with
   | zero => simp at hz; subst hz; simpa using r.eval h1
   | succ i =>
    simp only [List.getElem?_cons_succ] at hz
    simpa using k2 i z hz
  ·simp at h
theorem VR.v_list {H : GH} (l : List Value) : ∀ (i : Nat) (y : T), (l.map T.v)[i]? = some y → VR H (l.getD i undef) y := by
 intro i y h
 simp only [List.getElem?_map, Option.map_eq_some_iff] at h
 obtain ⟨v, hv, rfl⟩ := h
 simp [List.getD, hv]
 exact .v v
theorem VR.app {H : GH} {l1 l2 : List Value} {y1 y2 : List T} (hl : l1.length = y1.length) (h1 : ∀ (i : Nat) (y : T), y1[i]? = some y → VR H (l1.getD i undef) y) (h2 : ∀ (i : Nat) (y : T), y2[i]? = some y → VR H (l2.getD i undef) y) :
  ∀ (i : Nat) (y : T), (y1 ++ y2)[i]? = some y → VR H ((l1 ++ l2).getD i undef) y := by
 intro i y h
 rw [List.getElem?_append] at h
 split at h
 ·rename_i hi
  have := h1 i y h
  simpa [List.getD, List.getElem?_append, hl, hi] using this
 ·rename_i hi
  have := h2 _ y h
  simpa [List.getD, List.getElem?_append, hl, hi] using this
theorem Gam.called {H H' : GH} {a : Act} {w w' : World} (gm : Gam n C σ H a w) {fp fp' objs : List Ob} (hfp : ∀ p, p ∈ fp → p ∈ σ.objs)
  (hH : ∀ b o, H b = some o → H' b = some o) (hheld : ∀ b o, H' b = some o → w'.heap[b]? = some o)
  (hfp' : ∀ p, p ∈ fp' → OR H' w' p ∧ ∀ b, b ∈ p.fp → H' b = none ∧ (w.heap.size ≤ b ∨ b ∈ fp.flatMap Ob.fp)) (hsz : w.heap.size ≤ w'.heap.size) (henv : w'.os = w.os ∧ w'.tape = w.tape ∧ w'.output = w.output)
  (hfr : ∀ b, b < w.heap.size → b ∉ fp.flatMap Ob.fp → w'.heap[b]? = w.heap[b]? ∧ H' b = H b)
  (hobjs : ∀ p, p ∈ objs → p ∈ fp' ∨ (p ∈ σ.objs ∧ ∀ b, b ∈ p.fp → b ∉ fp.flatMap Ob.fp)) (hnd : (objs.flatMap Ob.fp).Nodup) : Gam n C ⟨σ.slots, objs⟩ H' a w' := by
 have hold : ∀ p, p ∈ σ.objs → (∀ b, b ∈ p.fp → b ∉ fp.flatMap Ob.fp) → ∀ b, b ∈ p.fp → w'.heap[b]? = w.heap[b]? ∧ H' b = H b := fun p hp hn b hb => hfr b ((gm.objs p hp).lt b hb) (hn b hb)
 refine ⟨gm.defers.mono hH, gm.size, fun i x h => (gm.slots i x h).mono hH, ?_, ?_, ?_, hnd, hheld, fun b o h => hH _ _ (gm.grow _ _ h), Nat.le_trans gm.heap hsz, ?_, ⟨henv.1.trans gm.env.1, henv.2.1.trans gm.env.2.1, henv.2.2.trans gm.env.2.2⟩⟩
 ·intro p hp
  rcases hobjs p hp with h | ⟨h, hn⟩
  ·exact (hfp' p h).1
  ·exact (gm.objs p h).mono hH (fun b hb => (hold p h hn b hb).1)
 ·intro p hp b hb
  rcases hobjs p hp with h | ⟨h, hn⟩
  ·exact ((hfp' p h).2 b hb).1
  ·rw [(hold p h hn b hb).2]; exact gm.free p h b hb
 ·intro p hp b hb
  rcases hobjs p hp with h | ⟨h, hn⟩
  ·rcases ((hfp' p h).2 b hb).2 with h | h
   ·exact .inl (Nat.le_trans gm.heap h)
   ·obtain ⟨q, hq, he⟩ := List.mem_flatMap.1 h
    exact gm.new q (hfp q hq) b he
  ·exact gm.new p h b hb
 ·intro b hb hf
  have hbn : b ∉ fp.flatMap Ob.fp := fun h => by
   obtain ⟨q, hq, he⟩ := List.mem_flatMap.1 h
   rcases gm.new q (hfp q hq) b he with h | h
   ·omega
   ·exact hf h
  obtain ⟨h1, h2⟩ := hfr b (Nat.lt_of_lt_of_le hb gm.heap) hbn
  obtain ⟨h3, h4⟩ := gm.frame b hb hf
  exact ⟨h1.trans h3, h2.trans h4⟩
def pickAll (objs : List Ob) : List Nat → Option (List Ob)
 | [] => some []
 | k :: ks => match objs[k]?, pickAll objs ks with
  | some o, some l => some (o :: l)
  | _, _ => none
def setAll (objs : List Ob) : List Nat → List Ob → List Ob
 | k :: ks, o :: os => setAll (objs.set k o) ks os
 | _, _ => objs
theorem pickAll_mem {objs : List Ob} : ∀ {ks : List Nat} {fp : List Ob}, pickAll objs ks = some fp → fp.length = ks.length ∧ (∀ (i : Nat) (k : Nat), ks[i]? = some k → ∃ o, objs[k]? = some o ∧ fp[i]? = some o)
 | [], fp, h => by simp only [pickAll, Option.some.injEq] at h; subst h; simp
 | k :: ks, fp, h => by
  simp only [pickAll] at h
  split at h
  ·rename_i o l h1 h2
   simp only [Option.some.injEq] at h
   subst h
   obtain ⟨q1, q2⟩ := pickAll_mem h2
   refine ⟨by simp [q1], fun i k' hk => ?_⟩
   cases i with
   | zero => simp at hk; subst hk; exact ⟨o, h1, rfl⟩
   | succ i => simpa using q2 i k' (by simpa using hk)
  ·cases h
theorem setAll_spec : ∀ {ks : List Nat} {os : List Ob} (objs : List Ob), os.length = ks.length → ks.Nodup → (∀ k, k ∈ ks → k < objs.length) →
  (setAll objs ks os).length = objs.length ∧ (∀ (i : Nat) (k : Nat), ks[i]? = some k → (setAll objs ks os)[k]? = os[i]?) ∧ ∀ k, k ∉ ks → (setAll objs ks os)[k]? = objs[k]?
 | [], os, objs, h, _, _ => by simp [setAll]
 | k :: ks, [], objs, h, _, _ => by simp at h
 | k :: ks, o :: os, objs, h, hn, hl => by
  rw [List.nodup_cons] at hn
  obtain ⟨q1, q2, q3⟩ := setAll_spec (ks := ks) (os := os) (objs.set k o) (by simpa using h) hn.2 (fun k' hk' => by simpa using hl k' (by simp [hk']))
  simp only [setAll]
  refine ⟨by simpa using q1, fun i k' hk' => ?_, fun k' hk' => ?_⟩
  ·cases i with
   | zero =>
    simp at hk'; subst hk'
    rw [q3 k hn.1, List.getElem?_set_self (hl k (by simp))]; rfl
   | succ i => simpa using q2 i k' (by simpa using hk')
  ·simp only [List.mem_cons, not_or] at hk'
   rw [q3 k' hk'.2, List.getElem?_set_ne (Ne.symm hk'.1)]
theorem nodup_places {l : List Ob} : (l.flatMap Ob.fp).Nodup ↔ (∀ (i : Nat) (p : Ob), l[i]? = some p → p.fp.Nodup) ∧ ∀ (i j : Nat) (p q : Ob), l[i]? = some p → l[j]? = some q → i ≠ j → ∀ b, b ∈ p.fp → b ∉ q.fp := by
 constructor
 ·intro h
  refine ⟨fun i p hi => ?_, fun i j p q hi hj hne b hb => at_ne h hi hj hne b hb⟩
  obtain ⟨l1, l2, rfl, _⟩ := at_split hi
  rw [List.flatMap_append, List.flatMap_cons, List.nodup_append, List.nodup_append] at h
  exact h.2.1.1
 ·rintro ⟨h1, h2⟩
  induction l with
  | nil => simp
  | cons a l ih =>
   rw [List.flatMap_cons, List.nodup_append]
   refine ⟨h1 0 a rfl, ih (fun i p hi => h1 (i + 1) p (by simpa using hi)) (fun i j p q hi hj hne b hb => h2 (i + 1) (j + 1) p q (by simpa using hi) (by simpa using hj) (by omega) b hb), ?_⟩
   intro x hx y hy hxy
   subst hxy
   obtain ⟨q, hq, hb⟩ := List.mem_flatMap.1 hy
   obtain ⟨j, hj⟩ := List.mem_iff_getElem?.1 hq
   exact h2 0 (j + 1) a q rfl (by simpa using hj) (by omega) x hx hb
def fnT : T → Option (FuncId × List T × List T)
 | .v (.func (.func f) first captured) => some (f, first.toList.map T.v, captured.toList.map T.v)
 | .fn f first caps => some (f, first, caps)
 | _ => none
theorem fnT_spec {H : GH} {v : Value} {y : T} {f : FuncId} {pre suf : List T} (h : VR H v y) (hf : fnT y = some (f, pre, suf)) :
  ∃ vf vc : Array Value, v = .func (.func f) vf vc ∧ vf.size = pre.length ∧ vc.size = suf.length ∧ (∀ (i : Nat) (x : T), pre[i]? = some x → VR H (vf.toList.getD i undef) x) ∧
   (∀ (i : Nat) (x : T), suf[i]? = some x → VR H (vc.toList.getD i undef) x) := by
 have conv : ∀ (arr : Array Value) (i : Nat), arr.getD i undef = arr.toList.getD i undef := fun arr i => by
  simp [Array.getD_eq_getD_getElem?, List.getD]
 cases h with
 | v x =>
  unfold fnT at hf
  split at hf
  ·rename_i f' first captured he
   simp only [Option.some.injEq, Prod.mk.injEq] at hf
   obtain ⟨rfl, rfl, rfl⟩ := hf
   cases he
   exact ⟨first, captured, rfl, by simp, by simp, VR.v_list first.toList, VR.v_list captured.toList⟩
  ·rename_i he; cases he
  ·simp at hf
 | fn f' vf vc fs cs h1 h2 h3 h4 =>
  simp only [fnT, Option.some.injEq, Prod.mk.injEq] at hf
  obtain ⟨rfl, rfl, rfl⟩ := hf
  exact ⟨vf, vc, rfl, h1, h2, fun i x hx => by rw [← conv]; exact h3 i x hx, fun i x hx => by rw [← conv]; exact h4 i x hx⟩
 | _ => simp [fnT] at hf
theorem AX.call {md : List Nat} {c : Operand} {args : Array Operand} {tys : Array TypeId} {f : FuncId} {pre suf xs ys : List T} {fp : List Ob} {Rc : T → List Ob → Prop} {R : St → Prop}
  (hc : (evalT σ.slots c).bind fnT = some (f, pre, suf)) (hx : evalL σ.slots args.toList = some xs) (hys : pre ++ xs ++ suf = ys)
  (h : ACalls E f ys fp Rc) (hfp : ∀ p, p ∈ fp → p ∈ σ.objs) (hnd : (fp.flatMap Ob.fp).Nodup) (hd : ∀ d, dst = some d → d < n)
  (k : ∀ H a w H' w' v x fp', Gam n C σ H a w → Rc x fp' → VR H' v x → (∀ b o, H b = some o → H' b = some o) → (∀ b o, H' b = some o → w'.heap[b]? = some o) →
   (∀ p, p ∈ fp' → OR H' w' p ∧ ∀ b, b ∈ p.fp → H' b = none ∧ (w.heap.size ≤ b ∨ b ∈ fp.flatMap Ob.fp)) → (fp'.flatMap Ob.fp).Nodup → w.heap.size ≤ w'.heap.size → (w'.os = w.os ∧ w'.tape = w.tape ∧ w'.output = w.output) →
   (∀ b, b < w.heap.size → b ∉ fp.flatMap Ob.fp → w'.heap[b]? = w.heap[b]? ∧ H' b = H b) →
   ∃ objs, R ⟨putS σ.slots dst x, objs⟩ ∧ Gam n C ⟨σ.slots, objs⟩ H' a w' ∧ ∀ i p, σ.objs[i]? = some p → md.contains i = false → objs[i]? = some p ∧ ∀ b, b ∈ p.fp → w'.heap[b]? = w.heap[b]?) :
  AX E n C md ⟨dst, .call { callee := .value c, args := args, argTypes := tys }, ty, pos, aft, g⟩ σ R := by
 intro H a w gm
 subst hys
 obtain ⟨⟨fn, f1, f2, f3⟩, h⟩ := h
 obtain ⟨k1, k2⟩ := evalL_spec gm.sr hx
 obtain ⟨y, hy, hfn⟩ := Option.bind_eq_some_iff.1 hc
 obtain ⟨first, captured, hev, z1, z2, z3, z4⟩ := fnT_spec (gm.sr.eval hy) hfn
 have hrun : (execOp a.eval ⟨dst, .call { callee := .value c, args := args, argTypes := tys }, ty, pos, aft, g⟩).run E.P w = .ok (.enter f (first ++ args.map a.eval ++ captured)) w := by
  have f2' : ¬ fn.name = "runtime.NumGoroutine" := by simpa using f2
  have f3' : ¬ fn.body = none := by
   intro hb; rw [hb] at f3; simp at f3
  simp [execOp, resolve, hev, Deferred.ofValue, invoke, callFunc, f1, f2', f3']
 simp only [Oper.wp, hrun, Oper.upon]
 have hl : (first ++ args.map a.eval ++ captured).toList = first.toList ++ args.toList.map a.eval ++ captured.toList := by simp
 refine (h H w (first ++ args.map a.eval ++ captured) ?_ ?_ ⟨gm.held, fun b l h => (C.hg b l h).mono gm.grow⟩ (fun p hp => ⟨gm.objs p (hfp p hp), gm.free p (hfp p hp)⟩) hnd).mono ?_
 ·rw [← Array.length_toList, hl]; simp at k1 ⊢; omega
 ·intro i x hix
  rw [Array.getD_eq_getD_getElem?, ← Array.getElem?_toList, hl]
  have := VR.app (H := H) (by simp at k1 ⊢; omega) (VR.app (H := H) (by simp; omega) z3 k2) z4 i x hix
  simpa [List.getD] using this
 ·rintro e w' ⟨v, x, fp', H', rfl, q2, q3, q4, q5, q6, q7, q8, q10, q9⟩
  obtain ⟨objs, r1, r2, r3⟩ := k H a w H' w' v x fp' gm q2 q3 q4 q5 q6 q7 q8 q10 q9
  refine ⟨_, H', v, r1, ?_, rfl, q4, r3⟩
  have := r2.put (dst := dst) q3 hd
  cases dst <;> exact this
theorem AX.callG (ks : List Nat) {c : Operand} {args : Array Operand} {tys : Array TypeId} {f : FuncId} {pre suf xs ys : List T} {fp : List Ob} {Rc : T → List Ob → List Ob → Prop} {R : St → Prop}
  (hc : (evalT σ.slots c).bind fnT = some (f, pre, suf)) (hx : evalL σ.slots args.toList = some xs) (hys : pre ++ xs ++ suf = ys)
  (hk : pickAll σ.objs ks = some fp) (hkn : ks.Nodup) (h : ACalls E f ys fp (fun x fp' => ∃ os new, fp' = os ++ new ∧ os.length = fp.length ∧ Rc x os new)) (hd : ∀ d, dst = some d → d < n)
  (k : ∀ x os new, os.length = fp.length → Rc x os new → R ⟨putS σ.slots dst x, setAll σ.objs ks os ++ new⟩) :
  AX E n C ks ⟨dst, .call { callee := .value c, args := args, argTypes := tys }, ty, pos, aft, g⟩ σ R := by
 obtain ⟨p1, p2⟩ := pickAll_mem hk
 have hmem : ∀ p, p ∈ fp → ∃ (i k : Nat), fp[i]? = some p ∧ ks[i]? = some k ∧ σ.objs[k]? = some p := by
  intro p hp
  obtain ⟨i, hi⟩ := List.mem_iff_getElem?.1 hp
  have hil := (List.getElem?_eq_some_iff.1 hi).1
  obtain ⟨o, h1, h2⟩ := p2 i ks[i] (List.getElem?_eq_getElem (by omega))
  rw [hi] at h2
  cases h2
  exact ⟨i, ks[i], hi, List.getElem?_eq_getElem (by omega), h1⟩
 have hfpm : ∀ p, p ∈ fp → p ∈ σ.objs := fun p hp => by obtain ⟨i, k, _, _, h⟩ := hmem p hp; exact List.mem_of_getElem? h
 refine fun H a w gm => AX.call (md := ks) hc hx hys h hfpm ?_ hd ?_ H a w gm
 ·refine nodup_places.2 ⟨fun i p hi => ?_, fun i j p q hi hj hne b hb => ?_⟩
  ·obtain ⟨_, k, _, _, hk⟩ := hmem p (List.mem_of_getElem? hi)
   exact (nodup_places.1 gm.nodup).1 k p hk
  ·have hil := (List.getElem?_eq_some_iff.1 hi).1
   have hjl := (List.getElem?_eq_some_iff.1 hj).1
   obtain ⟨o, h1, h2⟩ := p2 i ks[i] (List.getElem?_eq_getElem (by omega))
   obtain ⟨o', h1', h2'⟩ := p2 j ks[j] (List.getElem?_eq_getElem (by omega))
   rw [hi] at h2; cases h2
   rw [hj] at h2'; cases h2'
   refine at_ne gm.nodup h1 h1' (fun he => hne ?_) b hb
   exact (List.getElem?_inj (by omega) hkn).1 (by rw [List.getElem?_eq_getElem (by omega), List.getElem?_eq_getElem (by omega), he])
 ·rintro H a w H' w' v x fp' gm ⟨os, new, rfl, hol, q2⟩ q3 q4 q5 q6 q7 q8 q10 q9
  have hlt : ∀ k, k ∈ ks → k < σ.objs.length := by
   intro k hk
   obtain ⟨i, hi⟩ := List.mem_iff_getElem?.1 hk
   obtain ⟨o, h1, _⟩ := p2 i k hi
   exact (List.getElem?_eq_some_iff.1 h1).1
  obtain ⟨s1, s2, s3⟩ := setAll_spec (ks := ks) (os := os) σ.objs (by omega) hkn hlt
  have hkeep : ∀ (i : Nat) (p : Ob), σ.objs[i]? = some p → i ∉ ks → ∀ b, b ∈ p.fp → b ∉ fp.flatMap Ob.fp := by
   intro i p hi hn b hb hm
   obtain ⟨q, hq, hbq⟩ := List.mem_flatMap.1 hm
   obtain ⟨j, k, _, h2, h3⟩ := hmem q hq
   exact at_ne gm.nodup hi h3 (fun he => hn (by rw [he]; exact List.mem_of_getElem? h2)) b hb hbq
  have hcase : ∀ (i : Nat) (p : Ob), (setAll σ.objs ks os ++ new)[i]? = some p → (∃ m : Nat, (os ++ new)[m]? = some p ∧ ((i < σ.objs.length ∧ ks[m]? = some i) ∨ (σ.objs.length ≤ i ∧ m = os.length + (i - σ.objs.length)))) ∨ (i ∉ ks ∧ σ.objs[i]? = some p) := by
   intro i p hi
   rw [List.getElem?_append] at hi
   split at hi
   ·rename_i hil
    by_cases hki : i ∈ ks
    ·obtain ⟨m, hm⟩ := List.mem_iff_getElem?.1 hki
     rw [s2 m i hm] at hi
     exact .inl ⟨m, by rw [List.getElem?_append_left (List.getElem?_eq_some_iff.1 hi).1]; exact hi, .inl ⟨by omega, hm⟩⟩
    ·rw [s3 i hki] at hi
     exact .inr ⟨hki, hi⟩
   ·rename_i hil
    refine .inl ⟨os.length + (i - σ.objs.length), ?_, .inr ⟨by omega, rfl⟩⟩
    rw [List.getElem?_append_right (by omega), Nat.add_sub_cancel_left, ← s1]; exact hi
  have hnd := nodup_places.1 q7
  have hnd0 := nodup_places.1 gm.nodup
  have hout : ∀ (i : Nat) (p : Ob), σ.objs[i]? = some p → i ∉ ks → ∀ q, q ∈ os ++ new → ∀ b, b ∈ q.fp → b ∉ p.fp := by
   intro i p hi hn q hq b hb hbp
   rcases ((q6 q hq).2 b hb).2 with h | h
   ·have := (gm.objs p (List.mem_of_getElem? hi)).lt b hbp; omega
   ·exact hkeep i p hi hn b hbp h
  refine ⟨setAll σ.objs ks os ++ new, k x os new hol q2, gm.called hfpm q4 q5 q6 q8 q10 q9 ?_ ?_, ?_⟩
  ·intro p hp
   obtain ⟨i, hi⟩ := List.mem_iff_getElem?.1 hp
   rcases hcase i p hi with ⟨m, hm, _⟩ | ⟨hn, hi'⟩
   ·exact .inl (List.mem_of_getElem? hm)
   ·exact .inr ⟨List.mem_of_getElem? hi', hkeep i p hi' hn⟩
  ·refine nodup_places.2 ⟨fun i p hi => ?_, fun i j p q hi hj hne b hb => ?_⟩
   ·rcases hcase i p hi with ⟨m, hm, _⟩ | ⟨hn, hi'⟩
    ·exact hnd.1 m p hm
    ·exact hnd0.1 i p hi'
   ·rcases hcase i p hi with ⟨m, hm, hm'⟩ | ⟨hn, hi'⟩ <;> rcases hcase j q hj with ⟨m2, hm2, hm2'⟩ | ⟨hn2, hj'⟩
    ·refine hnd.2 m m2 p q hm hm2 (fun he => ?_) b hb
     subst he
     rcases hm' with ⟨h1, h2⟩ | ⟨h1, h2⟩ <;> rcases hm2' with ⟨h3, h4⟩ | ⟨h3, h4⟩
     ·rw [h2] at h4; cases h4; exact hne rfl
     ·have := (List.getElem?_eq_some_iff.1 h2).1; omega
     ·have := (List.getElem?_eq_some_iff.1 h4).1; omega
     ·omega
    ·exact hout j q hj' hn2 p (List.mem_of_getElem? hm) b hb
    ·exact fun hbq => hout i p hi' hn q (List.mem_of_getElem? hm2) b hbq hb
    ·exact hnd0.2 i j p q hi' hj' hne b hb
  ·intro i p hp hm
   have hn : i ∉ ks := by simpa using hm
   refine ⟨?_, fun b hb => (q9 b ((gm.objs p (List.mem_of_getElem? hp)).lt b hb) (hkeep i p hp hn b hb)).1⟩
   have hil := (List.getElem?_eq_some_iff.1 hp).1
   rw [List.getElem?_append_left (by rw [s1]; exact hil), s3 i hn]; exact hp
theorem AX.call0 {c : Operand} {args : Array Operand} {tys : Array TypeId} {f : FuncId} {pre suf xs ys : List T} {Rc : T → List Ob → Prop} {R : St → Prop}
  (hc : (evalT σ.slots c).bind fnT = some (f, pre, suf)) (hx : evalL σ.slots args.toList = some xs) (hys : pre ++ xs ++ suf = ys)
  (h : ACalls E f ys [] Rc) (hd : ∀ d, dst = some d → d < n) (k : ∀ x new, Rc x new → R ⟨putS σ.slots dst x, σ.objs ++ new⟩) :
  AX E n C [] ⟨dst, .call { callee := .value c, args := args, argTypes := tys }, ty, pos, aft, g⟩ σ R :=
 AX.callG [] hc hx hys (Rc := fun x _ new => Rc x new) rfl (by simp) (h.mono fun x fp' hr => ⟨[], fp', rfl, rfl, hr⟩) hd (fun x os new hl hr => by
  have : os = [] := List.length_eq_zero_iff.1 (by simpa using hl)
  subst this
  exact k x new hr)
mutual
/-- What is of the call's own, read as what nobody writes. -/
inductive Lend (objs : List Ob) : T → T → Prop
 | refl (x : T) : Lend objs x x
 | nil (sz : Nat) : Lend objs (.v (.slice none 0 0)) (.list sz [])
 | us (k : Nat) {v : Value} {ty sz : Nat} {es : List (List T)} (h : objs[k]? = some (.us v ty sz es)) : Lend objs (.v v) (.list sz es)
 | uss (k : Nat) {v : Value} {ty tyi szi : Nat} {vs : List Value} {L : List (List (List T))} {es : List (List T)} (h : objs[k]? = some (.uss v ty tyi szi vs (L.map some))) (he : listRows szi L = es) : Lend objs (.v v) (.list 1 es)
 | box (k : Nat) {b ty sz : Nat} {e e' : List T} (h : objs[k]? = some (.arr b ty sz 1 [e])) (hl : LendL objs e e') : Lend objs (.v (.pointer (some ⟨b, 0, none⟩))) (.eptr e')
 | agg {cs cs' : List T} (hl : LendL objs cs cs') : Lend objs (.agg cs) (.agg cs')
 | fn {f : FuncId} {a a' c c' : List T} (h1 : LendL objs a a') (h2 : LendL objs c c') : Lend objs (.fn f a c) (.fn f a' c')
 | usd (k : Nat) {v : Value} {ty sz : Nat} {es es' : List (List T)} (h : objs[k]? = some (.us v ty sz es)) (hl : LendLL objs es es') : Lend objs (.v v) (.list sz es')
inductive LendL (objs : List Ob) : List T → List T → Prop
 | nil : LendL objs [] []
 | cons {x y : T} {l m : List T} (h : Lend objs x y) (t : LendL objs l m) : LendL objs (x :: l) (y :: m)
 | rest (l : List T) : LendL objs l l
inductive LendLL (objs : List Ob) : List (List T) → List (List T) → Prop
 | nil : LendLL objs [] []
 | cons {x y : List T} {l m : List (List T)} (h : LendL objs x y) (t : LendLL objs l m) : LendLL objs (x :: l) (y :: m)
 | rest (l : List (List T)) : LendLL objs l l
end
theorem LendLL.length {objs : List Ob} : ∀ {l m : List (List T)}, LendLL objs l m → l.length = m.length
 | _, _, .nil => rfl
 | _, _, .cons _ t => by simp [t.length]
 | _, _, .rest _ => rfl
theorem VR.rows {H : GH} {v : Value} {sz : Nat} {es es' : List (List T)} (h : VR H v (.list sz es)) (hl : es.length = es'.length)
  (hr : ∀ (i : Nat) (e' : List T), es'[i]? = some e' → ∃ e, es[i]? = some e ∧ e.length = e'.length ∧ ∀ (j : Nat) (y : T), e'[j]? = some y → ∀ {v : Value}, (∀ x, e[j]? = some x → VR H v x) → VR H v y) : VR H v (.list sz es') := by
 cases h with
 | empty a cap sz =>
  have : es' = [] := List.length_eq_zero_iff.1 (by simpa using hl.symm)
  subst this; exact .empty _ _ _
 | list b off cap sz es cs ty fr hb hcap hmax hsz hel h1 hv =>
  rw [hl]
  refine .list b off cap sz es' cs ty fr hb (by omega) (by omega) (by rw [← hl]; exact hsz) (fun i e' he' => ?_) (fun i e' he' j y hy => ?_) (fun i e' he' j y hy => ?_)
  ·obtain ⟨e, he, hle, _⟩ := hr i e' he'
   rw [← hle]; exact hel i e he
  ·obtain ⟨e, he, hle, _⟩ := hr i e' he'
   have hj : j < e.length := by rw [hle]; exact (List.getElem?_eq_some_iff.1 hy).1
   exact h1 i e he j _ (List.getElem?_eq_getElem hj)
  ·obtain ⟨e, he, hle, hq⟩ := hr i e' he'
   exact hq j y hy fun x hx => hv i e he j x hx
theorem LendL.length {objs : List Ob} : ∀ {l m : List T}, LendL objs l m → l.length = m.length
 | _, _, .nil => rfl
 | _, _, .cons _ t => by simp [t.length]
 | _, _, .rest _ => rfl
theorem LendL.get {objs : List Ob} : ∀ {l m : List T}, LendL objs l m → ∀ (i : Nat) (y : T), m[i]? = some y → ∃ x, l[i]? = some x ∧ Lend objs x y
 | _, _, .nil, i, y, h => by simp at h
 | _, _, .cons h t, 0, y, hy => by simp at hy; subst hy; exact ⟨_, rfl, h⟩
 | _, _, .cons h t, i + 1, y, hy => by simpa using t.get i y (by simpa using hy)
 | _, _, .rest _, i, y, hy => ⟨y, hy, .refl y⟩
def flatT : T → Bool
 | .v _ => true
 | .tup l => flatL l
 | .agg l => flatL l
 | _ => false
where flatL : List T → Bool
 | [] => true
 | x :: l => flatT x && flatL l
theorem flatL_get : ∀ {l : List T}, flatT.flatL l = true → ∀ (i : Nat) (x : T), l[i]? = some x → flatT x = true
 | [], _, i, x, h => by simp at h
 | y :: l, hl, 0, x, h => by simp at h; subst h; simp only [flatT.flatL, Bool.and_eq_true] at hl; exact hl.1
 | y :: l, hl, i + 1, x, h => by simp only [flatT.flatL, Bool.and_eq_true] at hl; exact flatL_get hl.2 i x (by simpa using h)
theorem VR.flat {H H' : GH} {v : Value} {x : T} (h : VR H v x) : flatT x = true → VR H' v x := by
 induction h with
 | v x => exact fun _ => .v x
 | empty a cap sz => intro h; simp [flatT] at h
 | list => intro h; simp [flatT] at h
 | agg vs cs hl h1 hv ih => exact fun h => .agg vs cs hl h1 (fun j x hx => ih j x hx (flatL_get (by simpa [flatT] using h) j x hx))
 | tup vs cs hl hv ih => exact fun h => .tup vs cs hl (fun j x hx => ih j x hx (flatL_get (by simpa [flatT] using h) j x hx))
 | eptr => intro h; simp [flatT] at h
 | fn => intro h; simp [flatT] at h
mutual
theorem Lend.vr {H H1 : GH} {w : World} {objs : List Ob} (ho : ∀ p, p ∈ objs → OR H1 w p) (hb : ∀ p, p ∈ objs → ∀ b, b ∈ p.fp → H1 b = w.heap[b]?) (hm : ∀ b o, H b = some o → H1 b = some o) {x y : T} : Lend objs x y → ∀ {v : Value}, VR H v x → VR H1 v y
 | .refl _, v, h => h.mono hm
 | .nil sz, v, h => by rw [h.v_eq]; exact .empty _ _ _
 | .us k hk, v, h => by
  rw [h.v_eq]
  have hp := List.mem_of_getElem? hk
  exact UsR.list (ho _ hp) (hb _ hp)
 | .uss k hk he, v, h => by
  rw [h.v_eq]
  subst he
  have hp := List.mem_of_getElem? hk
  exact UsR.lists (ho _ hp) (hb _ hp)
 | .box k hk hl, v, h => by
  rw [h.v_eq]
  have hp := List.mem_of_getElem? hk
  obtain ⟨cs, a1, a2, a3, a4, a5, a6⟩ : ArrR H1 w _ _ _ _ _ := ho _ hp
  have h5 := a5 0 _ rfl
  refine .eptr _ 0 _ cs _ _ ((hb _ hp _ (by simp [Ob.fp])).trans a1) ?_ (fun j z hz => ?_) (fun j z hz => ?_)
  ·rw [← hl.length, h5, a2]; omega
  ·obtain ⟨z', hz', _⟩ := hl.get j z hz
   have := (a6 0 _ rfl j z' hz').1
   simpa using this
  ·exact LendL.vr ho hb (fun _ _ h => h) hl j z hz (fun z' hz' => by have := (a6 0 _ rfl j z' hz').2; simpa using this)
 | .agg hl, v, h => by
  cases h with
  | agg vs cs hsz h1 hv =>
   refine .agg vs _ (hsz.trans hl.length) (fun j z hz => ?_) (fun j z hz => LendL.vr ho hb hm hl j z hz (fun z' hz' => hv j z' hz'))
   obtain ⟨z', hz', _⟩ := hl.get j z hz
   exact h1 j z' hz'
 | .usd k hk hl, v, h => by
  rw [h.v_eq]
  have hp := List.mem_of_getElem? hk
  exact (UsR.list (ho _ hp) (hb _ hp)).rows hl.length (LendLL.vr ho hb (fun _ _ h => h) hl)
 | .fn ha hc, v, h => by
  cases h with
  | fn f vf vc fs cs h1 h2 h3 h4 =>
   exact .fn _ vf vc _ _ (h1.trans ha.length) (h2.trans hc.length) (fun j z hz => LendL.vr ho hb hm ha j z hz (fun z' hz' => h3 j z' hz')) (fun j z hz => LendL.vr ho hb hm hc j z hz (fun z' hz' => h4 j z' hz'))
theorem LendL.vr {H H1 : GH} {w : World} {objs : List Ob} (ho : ∀ p, p ∈ objs → OR H1 w p) (hb : ∀ p, p ∈ objs → ∀ b, b ∈ p.fp → H1 b = w.heap[b]?) (hm : ∀ b o, H b = some o → H1 b = some o) {l m : List T} : LendL objs l m →
  ∀ (j : Nat) (y : T), m[j]? = some y → ∀ {v : Value}, (∀ x, l[j]? = some x → VR H v x) → VR H1 v y
 | .nil, j, y, h, v, _ => by simp at h
 | .cons h t, 0, y, hy, v, hv => by simp at hy; subst hy; exact Lend.vr ho hb hm h (hv _ rfl)
 | .cons h t, j + 1, y, hy, v, hv => LendL.vr ho hb hm t j y (by simpa using hy) (fun x hx => hv x (by simpa using hx))
 | .rest _, j, y, hy, v, hv => (hv y hy).mono hm
theorem LendLL.vr {H H1 : GH} {w : World} {objs : List Ob} (ho : ∀ p, p ∈ objs → OR H1 w p) (hb : ∀ p, p ∈ objs → ∀ b, b ∈ p.fp → H1 b = w.heap[b]?) (hm : ∀ b o, H b = some o → H1 b = some o) {l m : List (List T)} : LendLL objs l m →
  ∀ (i : Nat) (e' : List T), m[i]? = some e' → ∃ e, l[i]? = some e ∧ e.length = e'.length ∧ ∀ (j : Nat) (y : T), e'[j]? = some y → ∀ {v : Value}, (∀ x, e[j]? = some x → VR H v x) → VR H1 v y
 | .nil, i, y, h => by simp at h
 | .cons h t, 0, e', he => by simp at he; subst he; exact ⟨_, rfl, h.length, fun j y hy v hv => LendL.vr ho hb hm h j y hy hv⟩
 | .cons h t, i + 1, e', he => by simpa using LendLL.vr ho hb hm t i e' (by simpa using he)
 | .rest _, i, e', he => ⟨e', he, rfl, fun j y hy v hv => (hv y hy).mono hm⟩
end
theorem AX.callL {c : Operand} {args : Array Operand} {tys : Array TypeId} {f : FuncId} {xs xs' pre' suf' ys : List T} {y y' : T} {Rc : T → List Ob → Prop} {R : St → Prop}
  (hc : evalT σ.slots c = some y) (hy : Lend σ.objs y y') (hf : fnT y' = some (f, pre', suf')) (hx : evalL σ.slots args.toList = some xs) (hl : LendL σ.objs xs xs') (hys : pre' ++ xs' ++ suf' = ys)
  (h : ACalls E f ys [] Rc) (hd : ∀ d, dst = some d → d < n) (hflat : ∀ x new, Rc x new → flatT x = true) (k : ∀ x, (∃ new, Rc x new) → R ⟨putS σ.slots dst x, σ.objs⟩) :
  AX E n C [] ⟨dst, .call { callee := .value c, args := args, argTypes := tys }, ty, pos, aft, g⟩ σ R := by
 intro H a w gm
 subst hys
 obtain ⟨⟨fn, f1, f2, f3⟩, h⟩ := h
 obtain ⟨k1, k2⟩ := evalL_spec gm.sr hx
 have hown : ∀ b o, H b = some o → b ∉ σ.objs.flatMap Ob.fp := fun b o hb hm => by
  obtain ⟨p, hp, hbp⟩ := List.mem_flatMap.1 hm
  rw [gm.free p hp b hbp] at hb; cases hb
 obtain ⟨H1, hH1⟩ : ∃ H1 : GH, H1 = fun b => if b ∈ σ.objs.flatMap Ob.fp then w.heap[b]? else H b := ⟨_, rfl⟩
 have hm1 : ∀ b o, H b = some o → H1 b = some o := fun b o hb => by rw [hH1]; simp only [hown b o hb, if_false]; exact hb
 have ho1 : ∀ p, p ∈ σ.objs → OR H1 w p := fun p hp => (gm.objs p hp).mono hm1 (fun _ _ => rfl)
 have hb1 : ∀ p, p ∈ σ.objs → ∀ b, b ∈ p.fp → H1 b = w.heap[b]? := fun p hp b hb => by
  rw [hH1]; simp only [List.mem_flatMap.2 ⟨p, hp, hb⟩, if_true]
 have hheld1 : ∀ b o, H1 b = some o → w.heap[b]? = some o := fun b o hb => by
  rw [hH1] at hb
  dsimp only at hb
  split at hb
  ·exact hb
  ·exact gm.held b o hb
 have hvy := Lend.vr ho1 hb1 hm1 hy (gm.sr.eval hc)
 obtain ⟨first, captured, hev, z1, z2, z3, z4⟩ := fnT_spec hvy hf
 have hrun : (execOp a.eval ⟨dst, .call { callee := .value c, args := args, argTypes := tys }, ty, pos, aft, g⟩).run E.P w = .ok (.enter f (first ++ args.map a.eval ++ captured)) w := by
  have f2' : ¬ fn.name = "runtime.NumGoroutine" := by simpa using f2
  have f3' : ¬ fn.body = none := by
   intro hb; rw [hb] at f3; simp at f3
  simp [execOp, resolve, hev, Deferred.ofValue, invoke, callFunc, f1, f2', f3']
 simp only [Oper.wp, hrun, Oper.upon]
 have hxl : xs.length = xs'.length := hl.length
 have hlist : (first ++ args.map a.eval ++ captured).toList = first.toList ++ args.toList.map a.eval ++ captured.toList := by simp
 refine (h H1 w (first ++ args.map a.eval ++ captured) ?_ ?_ ⟨hheld1, fun b l h => (C.hg b l h).mono fun b o hb => hm1 b o (gm.grow b o hb)⟩ (by simp) (by simp)).mono ?_
 ·rw [← Array.length_toList, hlist]; simp at k1 ⊢; omega
 ·intro i x hix
  rw [Array.getD_eq_getD_getElem?, ← Array.getElem?_toList, hlist]
  have hxs : ∀ (i : Nat) (y : T), xs'[i]? = some y → VR H1 ((args.toList.map a.eval).getD i undef) y := fun i y hy => LendL.vr ho1 hb1 hm1 hl i y hy (fun x hx => k2 i x hx)
  have := VR.app (H := H1) (by simp at k1 ⊢; omega) (VR.app (H := H1) (by simp; omega) z3 hxs) z4 i x hix
  simpa [List.getD] using this
 ·rintro e w' ⟨v, x, fp', H', rfl, q2, q3, q4, q5, q6, q7, q8, q10, q9⟩
  have q9' : ∀ b, b < w.heap.size → w'.heap[b]? = w.heap[b]? ∧ H' b = H1 b := fun b hb => q9 b hb (by simp)
  obtain ⟨H2, hH2⟩ : ∃ H2 : GH, H2 = fun b => if b ∈ σ.objs.flatMap Ob.fp then none else H' b := ⟨_, rfl⟩
  have hm2 : ∀ b o, H b = some o → H2 b = some o := fun b o hb => by
   rw [hH2]; simp only [hown b o hb, if_false]; exact q4 _ _ (hm1 b o hb)
  have h2' : ∀ b o, H2 b = some o → H' b = some o := fun b o hb => by
   rw [hH2] at hb
   dsimp only at hb
   split at hb
   ·cases hb
   ·exact hb
  have hsame : ∀ p, p ∈ σ.objs → ∀ b, b ∈ p.fp → w'.heap[b]? = w.heap[b]? := fun p hp b hb => (q9' b ((gm.objs p hp).lt b hb)).1
  refine ⟨_, H2, v, k x ⟨fp', q2⟩, ?_, rfl, hm2, fun i p hp _ => ⟨hp, hsame p (List.mem_of_getElem? hp)⟩⟩
  have g2 : Gam n C σ H2 a w' := by
   refine ⟨gm.defers.mono hm2, gm.size, fun i x h => (gm.slots i x h).mono hm2, fun p hp => (gm.objs p hp).mono hm2 (hsame p hp), fun p hp b hb => ?_, gm.new, gm.nodup, fun b o hb => q5 _ _ (h2' b o hb), fun b o hb => hm2 _ _ (gm.grow _ _ hb), Nat.le_trans gm.heap q8, fun b hb hf => ?_, ⟨q10.1.trans gm.env.1, q10.2.1.trans gm.env.2.1, q10.2.2.trans gm.env.2.2⟩⟩
   ·rw [hH2]; simp only [List.mem_flatMap.2 ⟨p, hp, hb⟩, if_true]
   ·obtain ⟨h1, h2⟩ := q9' b (Nat.lt_of_lt_of_le hb gm.heap)
    obtain ⟨h3, h4⟩ := gm.frame b hb hf
    refine ⟨h1.trans h3, ?_⟩
    rw [hH2]
    dsimp only
    split
    ·rename_i hm
     obtain ⟨p, hp, hbp⟩ := List.mem_flatMap.1 hm
     rcases gm.new p hp b hbp with h | h
     ·omega
     ·exact absurd h hf
    ·rename_i hm
     rw [h2, hH1]
     simp only [hm, if_false]; exact h4
  have := g2.put (dst := dst) (q3.flat (H' := H2) (hflat x fp' q2)) hd
  cases dst <;> exact this
def flatOb : Ob → Bool
 | .us _ _ _ es => es.all fun e => e.all flatT
 | _ => false
theorem OR.flat {H H' : GH} {w : World} {o : Ob} (h : OR H w o) (hf : flatOb o = true) : OR H' w o := by
 cases o with
 | us v ty sz es =>
  rcases h with h | ⟨b, c, cap, rfl, h1, h2, cs, a1, a2, a3, a4, a5, a6⟩
  ·exact .inl h
  ·refine .inr ⟨b, c, cap, rfl, h1, h2, cs, a1, a2, a3, a4, a5, fun i e he j x hx => ⟨(a6 i e he j x hx).1, (a6 i e he j x hx).2.flat ?_⟩⟩
   have := List.all_eq_true.1 hf e (List.mem_of_getElem? he)
   exact List.all_eq_true.1 this x (List.mem_of_getElem? hx)
 | _ => cases hf
theorem flat_map {α : Type} {f : α → List T} {l : List α} {v : Value} {ty sz : Nat} (h : ∀ x, (f x).all flatT = true) : flatOb (.us v ty sz (l.map f)) = true := by
 simp only [flatOb, List.all_map, List.all_eq_true]
 exact fun x _ => by simpa using h x
theorem ACalls.sub {f : FuncId} {xs : List T} {fp : List Ob} {R R' : T → List Ob → Prop} (h : ACalls E f xs fp R) (hr : ∀ x fp', R x fp' → ∃ fp'', fp''.Sublist fp' ∧ R' x fp'') : ACalls E f xs fp R' :=
 ⟨h.1, fun H w vs h1 h2 h3 h4 h5 => (h.2 H w vs h1 h2 h3 h4 h5).mono fun e w' ⟨v, x, fp', H', q1, q2, q3, q4, q5, q6, q7, q⟩ => by
  obtain ⟨fp'', hs, hr'⟩ := hr x fp' q2
  exact ⟨v, x, fp'', H', q1, hr', q3, q4, q5, fun p hp => q6 p (hs.subset hp), q7.sublist (sublist_flatMap hs), q⟩⟩
theorem AX.callN {c : Operand} {args : Array Operand} {tys : Array TypeId} {f : FuncId} {xs xs' pre' suf' ys : List T} {y y' : T} {Rc : T → List Ob → Prop} {R : St → Prop}
  (hc : evalT σ.slots c = some y) (hy : Lend σ.objs y y') (hf : fnT y' = some (f, pre', suf')) (hx : evalL σ.slots args.toList = some xs) (hl : LendL σ.objs xs xs') (hys : pre' ++ xs' ++ suf' = ys)
  (h : ACalls E f ys [] Rc) (hd : ∀ d, dst = some d → d < n) (hflat : ∀ x new, Rc x new → flatT x = true ∧ ∀ p, p ∈ new → flatOb p = true) (k : ∀ x new, Rc x new → R ⟨putS σ.slots dst x, σ.objs ++ new⟩) :
  AX E n C [] ⟨dst, .call { callee := .value c, args := args, argTypes := tys }, ty, pos, aft, g⟩ σ R := by
 intro H a w gm
 subst hys
 obtain ⟨⟨fn, f1, f2, f3⟩, h⟩ := h
 obtain ⟨k1, k2⟩ := evalL_spec gm.sr hx
 have hown : ∀ b o, H b = some o → b ∉ σ.objs.flatMap Ob.fp := fun b o hb hm => by
  obtain ⟨p, hp, hbp⟩ := List.mem_flatMap.1 hm
  rw [gm.free p hp b hbp] at hb; cases hb
 obtain ⟨H1, hH1⟩ : ∃ H1 : GH, H1 = fun b => if b ∈ σ.objs.flatMap Ob.fp then w.heap[b]? else H b := ⟨_, rfl⟩
 have hm1 : ∀ b o, H b = some o → H1 b = some o := fun b o hb => by rw [hH1]; simp only [hown b o hb, if_false]; exact hb
 have ho1 : ∀ p, p ∈ σ.objs → OR H1 w p := fun p hp => (gm.objs p hp).mono hm1 (fun _ _ => rfl)
 have hb1 : ∀ p, p ∈ σ.objs → ∀ b, b ∈ p.fp → H1 b = w.heap[b]? := fun p hp b hb => by
  rw [hH1]; simp only [List.mem_flatMap.2 ⟨p, hp, hb⟩, if_true]
 have hheld1 : ∀ b o, H1 b = some o → w.heap[b]? = some o := fun b o hb => by
  rw [hH1] at hb
  dsimp only at hb
  split at hb
  ·exact hb
  ·exact gm.held b o hb
 have hvy := Lend.vr ho1 hb1 hm1 hy (gm.sr.eval hc)
 obtain ⟨first, captured, hev, z1, z2, z3, z4⟩ := fnT_spec hvy hf
 have hrun : (execOp a.eval ⟨dst, .call { callee := .value c, args := args, argTypes := tys }, ty, pos, aft, g⟩).run E.P w = .ok (.enter f (first ++ args.map a.eval ++ captured)) w := by
  have f2' : ¬ fn.name = "runtime.NumGoroutine" := by simpa using f2
  have f3' : ¬ fn.body = none := by
   intro hb; rw [hb] at f3; simp at f3
  simp [execOp, resolve, hev, Deferred.ofValue, invoke, callFunc, f1, f2', f3']
 simp only [Oper.wp, hrun, Oper.upon]
 have hxl : xs.length = xs'.length := hl.length
 have hlist : (first ++ args.map a.eval ++ captured).toList = first.toList ++ args.toList.map a.eval ++ captured.toList := by simp
 refine (h H1 w (first ++ args.map a.eval ++ captured) ?_ ?_ ⟨hheld1, fun b l h => (C.hg b l h).mono fun b o hb => hm1 b o (gm.grow b o hb)⟩ (by simp) (by simp)).mono ?_
 ·rw [← Array.length_toList, hlist]; simp at k1 ⊢; omega
 ·intro i x hix
  rw [Array.getD_eq_getD_getElem?, ← Array.getElem?_toList, hlist]
  have hxs : ∀ (i : Nat) (y : T), xs'[i]? = some y → VR H1 ((args.toList.map a.eval).getD i undef) y := fun i y hy => LendL.vr ho1 hb1 hm1 hl i y hy (fun x hx => k2 i x hx)
  have := VR.app (H := H1) (by simp at k1 ⊢; omega) (VR.app (H := H1) (by simp; omega) z3 hxs) z4 i x hix
  simpa [List.getD] using this
 ·rintro e w' ⟨v, x, fp', H', rfl, q2, q3, q4, q5, q6, q7, q8, q10, q9⟩
  have hge : ∀ p, p ∈ fp' → ∀ b, b ∈ p.fp → w.heap.size ≤ b := fun p hp b hb => by simpa using ((q6 p hp).2 b hb).2
  have hlt : ∀ p, p ∈ σ.objs → ∀ b, b ∈ p.fp → b < w.heap.size := fun p hp b hb => (gm.objs p hp).lt b hb
  have q9' : ∀ b, b < w.heap.size → w'.heap[b]? = w.heap[b]? ∧ H' b = H1 b := fun b hb => q9 b hb (by simp)
  obtain ⟨H2, hH2⟩ : ∃ H2 : GH, H2 = fun b => if b ∈ σ.objs.flatMap Ob.fp then none else H' b := ⟨_, rfl⟩
  have hm2 : ∀ b o, H b = some o → H2 b = some o := fun b o hb => by
   rw [hH2]; simp only [hown b o hb, if_false]; exact q4 _ _ (hm1 b o hb)
  have h2' : ∀ b o, H2 b = some o → H' b = some o := fun b o hb => by
   rw [hH2] at hb
   dsimp only at hb
   split at hb
   ·cases hb
   ·exact hb
  have hsame : ∀ p, p ∈ σ.objs → ∀ b, b ∈ p.fp → w'.heap[b]? = w.heap[b]? := fun p hp b hb => (q9' b ((gm.objs p hp).lt b hb)).1
  refine ⟨_, H2, v, k x fp' q2, ?_, rfl, hm2, fun i p hp _ => ⟨by rw [List.getElem?_append_left (List.getElem?_eq_some_iff.1 hp).1]; exact hp, hsame p (List.mem_of_getElem? hp)⟩⟩
  have g2 : Gam n C ⟨σ.slots, σ.objs ++ fp'⟩ H2 a w' := by
   refine ⟨gm.defers.mono hm2, gm.size, fun i x h => (gm.slots i x h).mono hm2, fun p hp => ?_, fun p hp b hb => ?_, fun p hp b hb => ?_, ?_, fun b o hb => q5 _ _ (h2' b o hb), fun b o hb => hm2 _ _ (gm.grow _ _ hb), Nat.le_trans gm.heap q8, fun b hb hf => ?_, ⟨q10.1.trans gm.env.1, q10.2.1.trans gm.env.2.1, q10.2.2.trans gm.env.2.2⟩⟩
   ·rcases List.mem_append.1 hp with hp | hp
    ·exact (gm.objs p hp).mono hm2 (hsame p hp)
    ·exact ((q6 p hp).1).flat ((hflat x fp' q2).2 p hp)
   ·rcases List.mem_append.1 hp with hp | hp
    ·rw [hH2]; simp only [List.mem_flatMap.2 ⟨p, hp, hb⟩, if_true]
    ·rw [hH2]
     dsimp only
     split
     ·rfl
     ·exact ((q6 p hp).2 b hb).1
   ·rcases List.mem_append.1 hp with hp | hp
    ·exact gm.new p hp b hb
    ·exact .inl (Nat.le_trans gm.heap (hge p hp b hb))
   ·rw [List.flatMap_append]
    refine List.nodup_append.2 ⟨gm.nodup, q7, fun b hb b' hb' he => ?_⟩
    obtain ⟨p, hp, h1⟩ := List.mem_flatMap.1 hb
    obtain ⟨q, hq, h2⟩ := List.mem_flatMap.1 hb'
    have := hlt p hp b h1
    have := hge q hq b' h2
    omega
   ·obtain ⟨h1, h2⟩ := q9' b (Nat.lt_of_lt_of_le hb gm.heap)
    obtain ⟨h3, h4⟩ := gm.frame b hb hf
    refine ⟨h1.trans h3, ?_⟩
    rw [hH2]
    dsimp only
    split
    ·rename_i hm
     obtain ⟨p, hp, hbp⟩ := List.mem_flatMap.1 hm
     rcases gm.new p hp b hbp with h | h
     ·omega
     ·exact absurd h hf
    ·rename_i hm
     rw [h2, hH1]
     simp only [hm, if_false]; exact h4
  have := g2.put (dst := dst) (q3.flat (H' := H2) (hflat x fp' q2).1) hd
  cases dst <;> exact this
def argS : Nat → List T → Slots
 | _, [] => []
 | k, x :: l => (k, x) :: argS (k + 1) l
theorem argS_get : ∀ (l : List T) (k i : Nat) (x : T), get (argS k l) i = some x → k ≤ i ∧ l[i - k]? = some x
 | [], k, i, x, h => by simp [argS, get] at h
 | y :: l, k, i, x, h => by
  simp only [argS, get] at h
  cases hb : Nat.beq k i with
  | true =>
   have := Nat.eq_of_beq_eq_true hb
   subst this
   simp only [hb, cond_true, Option.some.injEq] at h
   subst h; simp
  | false =>
   simp only [hb, cond_false] at h
   obtain ⟨h1, h2⟩ := argS_get l (k + 1) i x h
   refine ⟨by omega, ?_⟩
   rw [show i - k = (i - (k + 1)) + 1 by omega]
   simpa using h2
def ResR (E : Env) (s : Slots) (objs : List Ob) : List ResultVar → List T → Prop
 | [], [] => True
 | .tmp t :: l, x :: xs => get s t = some x ∧ ResR E s objs l xs
 | .cell c t :: l, x :: xs => (∃ (k b tt sz cap : Nat) (es : List (List T)) (e : List T) (ti : TI), get s c = some (.v (.pointer (some ⟨b, 0, none⟩))) ∧ objs[k]? = some (.arr b tt sz cap es) ∧ es[0]? = some e ∧
   E.tab t = some ti ∧ partT ti e 0 = some x) ∧ ResR E s objs l xs
 | _, _ => False
def resV : List T → T
 | [x] => x
 | l => .tup l
def Post (E : Env) (fn : Func) (R : T → List Ob → Prop) (e : Exit) (σ : St) : Prop :=
 (e = .normal ∨ e = .ret) ∧ ∃ xs fp', ResR E σ.slots σ.objs fn.results.toList xs ∧ fp'.Sublist σ.objs ∧ R (resV xs) fp'
theorem ResR_spec {s : Slots} {objs : List Ob} {H : GH} {a : Act} {w : World} (r : SR n s H a) (wr : WR objs H w) : ∀ {l : List ResultVar} {xs : List T}, ResR E s objs l xs →
  ∃ vs : List Value, (l.mapM fun (x : ResultVar) => (match x with | .tmp t => pure (a.tmps.getD t undef) | .cell c t => do loadVar t (← asAddr (a.tmps.getD c undef)) : Sem Value)).run E.P w = .ok vs w ∧
   vs.length = xs.length ∧ ∀ (i : Nat) (x : T), xs[i]? = some x → VR H (vs.getD i undef) x
 | [], [], _ => ⟨[], by simp, rfl, by simp⟩
 | .tmp t :: l, x :: xs, h => by
  obtain ⟨h1, h2⟩ := h
  obtain ⟨vs, k1, k2, k3⟩ := ResR_spec r wr h2
  refine ⟨a.tmps.getD t undef :: vs, ?_, by simp [k2], fun i y hy => ?_⟩
  ·simp only [List.mapM_cons, Sem.run_bind, Sem.run_pure, Result.andThen_ok, k1]
  ·cases i with
   | zero => simp at hy; subst hy; exact r.slots t _ h1
   | succ i => simp only [List.getElem?_cons_succ] at hy; simpa using k3 i y hy
 | .cell c t :: l, x :: xs, h => by
  obtain ⟨⟨k, b, tt, sz, cap, es, e, ti, g1, g2, g3, g4, g5⟩, h2⟩ := h
  obtain ⟨vs, k1, k2, k3⟩ := ResR_spec r wr h2
  have hv := (r.slots c _ g1).v_eq
  obtain ⟨cs, a1, a2, a3, h1, hvs⟩ := OR.cells (wr.objs _ (List.mem_of_getElem? g2)) g3
  have hl := run_loadVar_part (j := 0) (E.ok _ _ g4) a1 a2 h1 hvs g5
  obtain ⟨p1, p2⟩ := partT_cells a2 h1 hvs g5
  simp only [Nat.zero_mul, Nat.zero_add] at hl p1 p2
  refine ⟨loadVal ti cs 0 :: vs, ?_, by simp [k2], fun i y hy => ?_⟩
  ·have ha : (asAddr (a.tmps.getD c undef)).run E.P w = .ok ⟨b, 0, none⟩ w := by rw [hv]; rfl
   simp only [List.mapM_cons, Sem.run_bind, Sem.run_pure, Result.andThen_ok, ha, hl, k1]
  ·cases i with
   | zero =>
    simp at hy; subst hy
    cases ha : ti.isAgg with
    | true => simpa [loadVal, ha] using (p1 ha).2
    | false => simpa [loadVal, ha] using (p2 ha).2
   | succ i => simp only [List.getElem?_cons_succ] at hy; simpa using k3 i y hy
 | [], _ :: _, h => h.elim
 | .tmp _ :: _, [], h => h.elim
 | .cell _ _ :: _, [], h => h.elim
theorem results_spec {s : Slots} {objs : List Ob} {H : GH} {a : Act} {w : World} (r : SR n s H a) (wr : WR objs H w) {fn : Func} {xs : List T} (h : ResR E s objs fn.results.toList xs) :
  ∃ v, (results fn a.tmps).run E.P w = .ok v w ∧ VR H v (resV xs) := by
 obtain ⟨vs, k1, k2, k3⟩ := ResR_spec r wr h
 have hm : (fn.results.mapM fun (x : ResultVar) => (match x with | .tmp t => pure (a.tmps.getD t undef) | .cell c t => do loadVar t (← asAddr (a.tmps.getD c undef)) : Sem Value)).run E.P w = .ok vs.toArray w := by
  rw [Array.mapM_eq_mapM_toList]
  refine (Sem.run_map E.P w _ _).trans ?_
  rw [k1]; rfl
 refine ⟨if h : vs.toArray.size = 1 then vs.toArray[0] else .tuple vs.toArray, ?_, ?_⟩
 ·unfold results
  refine (Sem.run_bind E.P w _ _).trans ?_
  refine (congrArg (fun r => Result.andThen r _) hm).trans ?_
  rfl
 ·by_cases h1 : vs.length = 1
  ·obtain ⟨v, rfl⟩ := List.length_eq_one_iff.1 h1
   obtain ⟨x, rfl⟩ := List.length_eq_one_iff.1 (k2.symm.trans h1)
   simpa [resV] using k3 0 x (by simp)
  ·have hne : resV xs = .tup xs := by
    cases xs with
    | nil => rfl
    | cons x l =>
     cases l with
     | nil => exact absurd k2 (by simpa using h1)
     | cons y l => rfl
   rw [hne]
   simp only [List.size_toArray, h1, dite_false]
   exact .tup _ _ (by simpa using k2) (fun j x hx => by simpa [Array.getD_eq_getD_getElem?, List.getD] using k3 j x hx)
theorem Gam.unmark {m : Nat} {σ : St} {H : GH} {a : Act} {w : World} {d : Deferred} {ds : List Deferred} (gm : Gam m C σ H a w) (hd : a.defers = d :: ds) (h0 : ∀ b o, C.H0 b = some o → b < C.w0.heap.size) :
  ∃ b H1, d = { target := .collected b, args := #[] } ∧ (Instr.takeDeferred b).run E.P w = .ok [] (w.putObj b (.deferred none)) ∧ Gam m C σ H1 { a with defers := ds } (w.putObj b (.deferred none)) := by
 have hm := gm.defers
 rw [hd] at hm
 obtain ⟨hnd, hm⟩ := hm
 obtain ⟨b, hb1, hb2, hb3⟩ := hm d (by simp)
 have hw := gm.held _ _ hb2
 have hc : ∀ k cs ty fr, H k = some (.cells cs ty fr) → (fun k => if k = b then none else H k) k = some (.cells cs ty fr) := by
  intro k cs ty fr hk
  by_cases hkb : k = b
  ·rw [hkb, hb2] at hk; cases hk
  ·simp only [hkb, if_false]; exact hk
 have hh : ∀ k, k ≠ b → (w.putObj b (.deferred none)).heap[k]? = w.heap[k]? := fun k hk => World.putObj_heap_other hk
 have hne : ∀ p, p ∈ σ.objs → ∀ k, k ∈ p.fp → k ≠ b := fun p hp k hk he => by have := gm.free p hp k hk; rw [he, hb2] at this; cases this
 refine ⟨b, fun k => if k = b then none else H k, hb1, run_takeDeferred hw, ⟨?_, gm.size, fun i x h => (gm.slots i x h).monoC hc, fun p hp => (gm.objs p hp).monoC hc (fun k hk => hh k (hne p hp k hk)), fun p hp k hk => ?_, gm.new, gm.nodup, fun k o hk => ?_, fun k o hk => ?_, ?_, fun k hk hf => ?_, gm.env⟩⟩
 ·refine ⟨(List.nodup_cons.1 hnd).2, fun d' hd' => ?_⟩
  obtain ⟨b', q1, q2, q3⟩ := hm d' (by simp [hd'])
  refine ⟨b', q1, ?_, q3⟩
  have : b' ≠ b := fun he => (List.nodup_cons.1 hnd).1 (by rw [hb1, ← he, ← q1]; exact hd')
  simp only [this, if_false]; exact q2
 ·simp only [hne p hp k hk, if_false]; exact gm.free p hp k hk
 ·split at hk
  ·cases hk
  ·rename_i hkb; rw [hh k hkb]; exact gm.held _ _ hk
 ·have := h0 _ _ hk
  have hkb : k ≠ b := by omega
  simp only [hkb, if_false]; exact gm.grow _ _ hk
 ·simpa using gm.heap
 ·have hkb : k ≠ b := by omega
  simp only [hkb, if_false]; exact ⟨(hh k hkb).trans (gm.frame k hk hf).1, (gm.frame k hk hf).2⟩
theorem Gam.leaves {fn : Func} {C : Ctx} {σ : St} {R : Ending → World → Prop} (h0 : ∀ b o, C.H0 b = some o → b < C.w0.heap.size)
  (h : ∀ H a w, Gam fn.ntmps C σ H a w → ∃ v, (results fn a.tmps).run E.P w = .ok v w ∧ R (.returned v) w) :
  ∀ (ds : List Deferred) (H : GH) (a : Act) (w : World), a.defers = ds → Gam fn.ntmps C σ H a w → LeavesInM Fence.wide 0 E.P fn a.tmps R ds .returning w
 | [], H, a, w, hd, gm => h H a w gm
 | d :: ds, H, a, w, hd, gm => by
  obtain ⟨b, H1, h1, h2, h3⟩ := gm.unmark (E := E) hd h0
  exact ⟨by simp, .inl ⟨b, _, by rw [h1], h2, Gam.leaves h0 h ds H1 { a with defers := ds } _ rfl h3⟩⟩
def Leaves (H : GH) (w : World) (fp : List Ob) (w' : World) (H' : GH) (fp' : List Ob) : Prop :=
 (∀ b o, H b = some o → H' b = some o) ∧ (∀ b o, H' b = some o → w'.heap[b]? = some o) ∧
   (∀ p, p ∈ fp' → OR H' w' p ∧ ∀ b, b ∈ p.fp → H' b = none ∧ (w.heap.size ≤ b ∨ b ∈ fp.flatMap Ob.fp)) ∧ (fp'.flatMap Ob.fp).Nodup ∧ w.heap.size ≤ w'.heap.size ∧
   (w'.os = w.os ∧ w'.tape = w.tape ∧ w'.output = w.output) ∧ ∀ b, b < w.heap.size → b ∉ fp.flatMap Ob.fp → w'.heap[b]? = w.heap[b]? ∧ H' b = H b
theorem ACalls.at_body {f : FuncId} {fn : Func} {c : Code} {xs : List T} {fp : List Ob} {R : T → List Ob → Prop} (hf : E.P.funcs[f]? = some fn) (hb : fn.body = some c)
  (hn : Nat.ble xs.length fn.ntmps = true) {H : GH} {w : World} {vs : Array Value} (hsz : vs.size = xs.length) (hv : ∀ (i : Nat) (x : T), xs[i]? = some x → VR H (vs.getD i undef) x) (hheld : (∀ b o, H b = some o → w.heap[b]? = some o) ∧ Held H)
  (hfp : ∀ p, p ∈ fp → OR H w p ∧ ∀ b, b ∈ p.fp → H b = none) (hnd : (fp.flatMap Ob.fp).Nodup) (h : AW E fn.ntmps ⟨w, H, fp.flatMap Ob.fp, hheld.2⟩ c ⟨argS 0 xs, fp⟩ (Post E fn R)) :
  Calls E.P f vs w fun e w' => ∃ v x fp' H', e = .returned v ∧ R x fp' ∧ VR H' v x ∧ Leaves H w fp w' H' fp' := by
 refine callsIn_wide.1 (callsIn_of_wp_marks (F := Fence.wide) (n := 0) hf hb trivial ?_)
 have hn' := Nat.le_of_ble_eq_true hn
 have gm : Gam fn.ntmps ⟨w, H, fp.flatMap Ob.fp, hheld.2⟩ ⟨argS 0 xs, fp⟩ H { tmps := vs ++ Array.replicate (fn.ntmps - vs.size) undef, defers := [] } w := by
  refine ⟨.nil, by simp; omega, fun i x hx => ?_, fun p hp => (hfp p hp).1, fun p hp => (hfp p hp).2, fun p hp b hb => .inr (List.mem_flatMap.2 ⟨p, hp, hb⟩), hnd, hheld.1, fun _ _ h => h, Nat.le_refl _, fun _ _ _ => ⟨rfl, rfl⟩, ⟨rfl, rfl, rfl⟩⟩
  obtain ⟨_, h2⟩ := argS_get xs 0 i x hx
  simp only [Nat.sub_zero] at h2
  have hi := (List.getElem?_eq_some_iff.1 h2).1
  have he : (vs ++ Array.replicate (fn.ntmps - vs.size) undef).getD i undef = vs.getD i undef := by
   simp [Array.getD_eq_getD_getElem?, Array.getElem?_append, show i < vs.size by omega]
  rw [he]; exact hv i x h2
 refine wpIn_mono (h H _ w gm none (fun h => by cases h)) ?_
 rintro e a' w' ⟨σ', H', ⟨he, ys, fp', r1, r2, r3⟩, gm'⟩
 have key : LeavesInM Fence.wide 0 E.P fn a'.tmps (fun e w' => ∃ v x fp' H', e = .returned v ∧ R x fp' ∧ VR H' v x ∧ Leaves H w fp w' H' fp') a'.defers .returning w' := by
  refine Gam.leaves (fun b o hb => (Array.getElem?_eq_some_iff.1 (hheld.1 b o hb)).1) ?_ a'.defers H' a' w' rfl gm'
  intro H' a' w' gm'
  obtain ⟨v, k1, k2⟩ := results_spec gm'.sr gm'.wr r1
  exact ⟨v, k1, v, _, fp', H', rfl, r3, k2, gm'.grow, gm'.held, fun p hp => ⟨gm'.objs p (r2.subset hp), fun b hb => ⟨gm'.free p (r2.subset hp) b hb, gm'.new p (r2.subset hp) b hb⟩⟩, (sublist_flatMap r2).nodup gm'.nodup, gm'.heap, gm'.env, gm'.frame⟩
 rcases he with rfl | rfl
 ·exact key
 ·exact key
theorem ACalls.of_body {f : FuncId} {fn : Func} {c : Code} {xs : List T} {fp : List Ob} {R : T → List Ob → Prop} (hf : E.P.funcs[f]? = some fn) (hb : fn.body = some c) (hname : (fn.name == "runtime.NumGoroutine") = false)
  (hn : Nat.ble xs.length fn.ntmps = true) (h : ∀ C : Ctx, C.fp = fp.flatMap Ob.fp → AW E fn.ntmps C c ⟨argS 0 xs, fp⟩ (Post E fn R)) : ACalls E f xs fp R :=
 ⟨⟨fn, hf, hname, by simp [hb]⟩, fun H w vs hsz hv hheld hfp hnd => ACalls.at_body hf hb hn hsz hv hheld hfp hnd (h _ rfl)⟩
end
set_option linter.unusedVariables false
set_option linter.unusedSimpArgs false
theorem w64 {x : Int} (h : -9223372036854775808 ≤ x ∧ x ≤ 9223372036854775807) : IntKind.i64.wrap x = x := by
 rw [IntKind.wrap_i64]; omega
section
variable {E : Env} {n : Nat} {C : Ctx} {s : Slots} {ob : List Ob} {Q : Exit → St → Prop} {ops : Array Oper} {R : St → Prop}
theorem AO.d {d : Nat} {op : Op} {ty : TypeId} {pos : String} {aft : Array Edge} {l : List Oper} {x : T} (hy : Yd E.P n s ob ⟨some d, op, ty, pos, aft, none⟩ x) (hd : Nat.blt d n = true)
  (k : AO E n C ops l ⟨(d, x) :: s, ob⟩ R) : AO E n C ops (⟨some d, op, ty, pos, aft, none⟩ :: l) ⟨s, ob⟩ R :=
 AO.still hy rfl (dst_some hd) k
theorem AO.p {d : Nat} {op : Op} {ty : TypeId} {pos : String} {aft : Array Edge} {l : List Oper} {x : T} (hy : Yp E.P n s ⟨some d, op, ty, pos, aft, none⟩ x) (hd : Nat.blt d n = true)
  (k : AO E n C ops l ⟨(d, x) :: s, ob⟩ R) : AO E n C ops (⟨some d, op, ty, pos, aft, none⟩ :: l) ⟨s, ob⟩ R :=
 AO.still hy.yd rfl (dst_some hd) k
theorem get_put_same {t : Nat} {x : T} (h : get s t = some x) : ∀ i y, get ((t, x) :: s) i = some y → get s i = some y := by
 intro i y hy
 simp only [get] at hy
 cases hb : Nat.beq t i with
 | true =>
  have := Nat.eq_of_beq_eq_true hb
  subst this
  simp only [hb, cond_true, Option.some.injEq] at hy
  subst hy; exact h
 | false => simpa only [hb, cond_false] using hy
theorem Gam.same {C : Ctx} {H : GH} {a : Act} {w : World} (gm : Gam n C ⟨s, ob⟩ H a w) {t : Nat} {x : T} (h : get s t = some x) : Gam n C ⟨(t, x) :: s, ob⟩ H a w :=
 { gm with slots := fun i y hy => gm.slots i y (get_put_same h i y hy) }
theorem AO.g {d : Option Nat} {op : Op} {ty : TypeId} {pos : String} {aft : Array Edge} {l : List Oper} {j : Nat} {want b : Bool} {t : Tmp}
  (hj : (ops[j]?).bind (·.dst) = some t) (hs : get s t = some (.v (.bool b))) (hd : ∀ d', d = some d' → d' < n)
  (h1 : b = want → AO E n C ops (⟨d, op, ty, pos, aft, none⟩ :: l) ⟨(t, .v (.bool want)) :: s, ob⟩ R)
  (h2 : b = !want → AO E n C ops l ⟨putS ((t, .v (.bool (!want))) :: s) d (.v undef), ob⟩ R) : AO E n C ops (⟨d, op, ty, pos, aft, some (j, want)⟩ :: l) ⟨s, ob⟩ R := by
 refine AO.guard hj hs hd (fun hb H a w gm => ?_) (fun hb H a w gm => ?_)
 ·subst hb; exact h1 rfl H a w (gm.same hs)
 ·subst hb
  refine h2 rfl H a w ?_
  cases d with
  | none => exact gm.same hs
  | some d =>
   refine { gm with slots := fun i y hy => ?_ }
   simp only [putS, get] at hy
   have hg : get ((d, T.v undef) :: s) i = some y := by
    simp only [get]
    cases hb : Nat.beq d i with
    | true => simpa only [hb, cond_true] using hy
    | false =>
     simp only [hb, cond_false] at hy ⊢
     exact get_put_same hs i y (by simpa only [get] using hy)
   exact gm.slots i y hg
theorem AO.gt {d : Nat} {op : Op} {ty : TypeId} {pos : String} {aft : Array Edge} {l : List Oper} {j : Nat} {want : Bool} {t : Tmp}
  (hj : (ops[j]?).bind (·.dst) = some t) (hs : get s t = some (.v (.bool want))) (hd : Nat.blt d n = true)
  (k : AO E n C ops (⟨some d, op, ty, pos, aft, none⟩ :: l) ⟨(t, .v (.bool want)) :: s, ob⟩ R) : AO E n C ops (⟨some d, op, ty, pos, aft, some (j, want)⟩ :: l) ⟨s, ob⟩ R :=
 AO.g hj hs (dst_some hd) (fun _ => k) (fun h => by cases want <;> cases h)
theorem AO.m {d : Nat} {x : Operand} {y : T} {ty : TypeId} {pos : String} {aft : Array Edge} {l : List Oper} (hx : evalT s x = some y) (hd : Nat.blt d n = true)
  (k : AO E n C ops l ⟨(d, y) :: s, ob⟩ R) : AO E n C ops (⟨some d, .move x, ty, pos, aft, none⟩ :: l) ⟨s, ob⟩ R := AO.p (Yp.move hx) hd k
theorem AO.a {d : Nat} {x : Operand} {y : T} {ty : TypeId} {pos : String} {aft : Array Edge} {l : List Oper} (hx : evalT s x = some y) (hd : Nat.blt d n = true)
  (k : AO E n C ops l ⟨(d, y) :: s, ob⟩ R) : AO E n C ops (⟨some d, .assign x, ty, pos, aft, none⟩ :: l) ⟨s, ob⟩ R := AO.p (Yp.assign hx) hd k
theorem I {α : Type} {a : α} : a = a := rfl
theorem AO.known {l : List Oper} {b c : Bool} (t : Nat) (hs : get s t = some (.v (.bool b))) (hb : b = c) (k : AO E n C ops l ⟨(t, .v (.bool c)) :: s, ob⟩ R) : AO E n C ops l ⟨s, ob⟩ R :=
 fun H a w gm => by subst hb; exact k H a w (gm.same hs)
theorem AP.o {prot : List Nat} {pobjs : List Ob} {so : Slots} {i : Nat} {r : PL} {d : Nat} {op : Op} {ty : TypeId} {pos : String} {aft : Array Edge} {x : T} (ho : ops[i]? = some ⟨some d, op, ty, pos, aft, none⟩)
  (hy : Yd E.P n so pobjs ⟨some d, op, ty, pos, aft, none⟩ x) (hd : Nat.blt d n = true) (k : AP E n C ops prot pobjs r ((d, x) :: so) ⟨(d, x) :: s, ob⟩ R) :
  AP E n C ops prot pobjs (.still i r) so ⟨s, ob⟩ R :=
 AP.old ho hy rfl (dst_some hd) k
theorem AP.op {prot : List Nat} {pobjs : List Ob} {so : Slots} {i : Nat} {r : PL} {d : Nat} {op : Op} {ty : TypeId} {pos : String} {aft : Array Edge} {x : T} (ho : ops[i]? = some ⟨some d, op, ty, pos, aft, none⟩)
  (hy : Yp E.P n so ⟨some d, op, ty, pos, aft, none⟩ x) (hd : Nat.blt d n = true) (k : AP E n C ops prot pobjs r ((d, x) :: so) ⟨(d, x) :: s, ob⟩ R) :
  AP E n C ops prot pobjs (.still i r) so ⟨s, ob⟩ R :=
 AP.old ho hy.yd rfl (dst_some hd) k
theorem AP.p {prot : List Nat} {pobjs : List Ob} {so : Slots} {i : Nat} {r : PL} {d : Nat} {op : Op} {ty : TypeId} {pos : String} {aft : Array Edge} {x : T} (ho : ops[i]? = some ⟨some d, op, ty, pos, aft, none⟩)
  (hy : Yp E.P n s ⟨some d, op, ty, pos, aft, none⟩ x) (hd : Nat.blt d n = true) (k : AP E n C ops prot pobjs r so ⟨(d, x) :: s, ob⟩ R) (hf : free so (some d) = true := by rfl) :
  AP E n C ops prot pobjs (.still i r) so ⟨s, ob⟩ R :=
 AP.new ho hy rfl (dst_some hd) k hf
theorem AP.split {pl : PL} {so : Slots} {prot : List Nat} {pobjs : List Ob} {b : Bool} (t : Nat) (hs : get s t = some (.v (.bool b)))
  (h1 : b = true → AP E n C ops prot pobjs pl so ⟨(t, .v (.bool true)) :: s, ob⟩ R) (h2 : b = false → AP E n C ops prot pobjs pl so ⟨(t, .v (.bool false)) :: s, ob⟩ R) :
  AP E n C ops prot pobjs pl so ⟨s, ob⟩ R := by
 intro Hs ws H a w sr wr ag hH hp gm
 cases b with
 | true => exact h1 rfl Hs ws H a w sr wr ag hH hp (gm.same hs)
 | false => exact h2 rfl Hs ws H a w sr wr ag hH hp (gm.same hs)
theorem AW.condK {c : Operand} {x y : Code} {t : Nat} {b v : Bool} (hs : get s t = some (.v (.bool b))) (hb : b = v) (h : AW E n C (match v with | true => x | false => y) ⟨s, ob⟩ Q) (hc : c = .tmp t := by rfl) : AW E n C (.cond c x y) ⟨s, ob⟩ Q := by
 subst hb
 refine AW.cond hc hs (fun hb => ?_) (fun hb => ?_)
 ·subst hb; exact h
 ·subst hb; exact h
def Ghost (n : Nat) (C : Ctx) (s : Slots) (ob : List Ob) (s' : Slots) (ob' : List Ob) : Prop :=
 ∀ (H : GH) (a : Act) (w : World), Gam n C ⟨s, ob⟩ H a w → ∃ H', (∀ b o, H b = some o → H' b = some o) ∧ Gam n C ⟨s', ob'⟩ H' a w
theorem AW.ghost {c : Code} {s' : Slots} {ob' : List Ob} (h : Ghost n C s ob s' ob') (k : AW E n C c ⟨s', ob'⟩ Q) : AW E n C c ⟨s, ob⟩ Q := fun H a w gm => let ⟨H', _, g⟩ := h H a w gm; k H' a w g
theorem AO.ghost {l : List Oper} {s' : Slots} {ob' : List Ob} (h : Ghost n C s ob s' ob') (k : AO E n C ops l ⟨s', ob'⟩ R) : AO E n C ops l ⟨s, ob⟩ R := fun H a w gm => let ⟨H', _, g⟩ := h H a w gm; k H' a w g
theorem AP.ghost {pl : PL} {so so' : Slots} {prot : List Nat} {pobjs : List Ob} {s' : Slots} {ob' : List Ob} (h : Ghost n C s ob s' ob') (hp : prot.map (fun i => ob'[i]?) = prot.map (fun i => ob[i]?)) (hso : Sub so' so)
  (k : AP E n C ops prot pobjs pl so' ⟨s', ob'⟩ R) : AP E n C ops prot pobjs pl so ⟨s, ob⟩ R := by
 intro Hs ws H a w sr wr ag hH hpp gm
 obtain ⟨H', h1, g⟩ := h H a w gm
 refine k Hs ws H' a w ⟨sr.size, fun i x hx => sr.slots i x (hso.get i x hx)⟩ wr ag (fun b o hb => h1 _ _ (hH _ _ hb)) (fun p hpm => ?_) g
 obtain ⟨i, hi, he⟩ := hpp p hpm
 have hi' : i ∈ prot := by simpa using hi
 have : ob'[i]? = ob[i]? := List.map_inj_left.1 hp i hi'
 exact ⟨i, hi, this.trans he⟩
theorem Ghost.trans {s' s'' : Slots} {ob' ob'' : List Ob} (h1 : Ghost n C s ob s' ob') (h2 : Ghost n C s' ob' s'' ob'') : Ghost n C s ob s'' ob'' := fun H a w gm =>
 let ⟨H1, m1, g1⟩ := h1 H a w gm
 let ⟨H2, m2, g2⟩ := h2 H1 a w g1
 ⟨H2, fun b o hb => m2 _ _ (m1 _ _ hb), g2⟩
theorem Ghost.weaken {s' : Slots} {ob' : List Ob} (hs : Sub s' s) (ho : ob'.Sublist ob) : Ghost n C s ob s' ob' := fun H _ _ gm => ⟨H, fun _ _ h => h, gm.weaken hs ho⟩
theorem Ghost.more0 {o : Ob} (hf : o.fp = []) (ho : ∀ H w, OR H w o) : Ghost n C s ob s (ob ++ [o]) := fun H a w gm =>
 ⟨H, fun _ _ h => h, gm.more (ob := o) ⟨rfl, rfl, rfl⟩ (Nat.le_refl _) (fun _ _ => rfl) (ho H w) (by rw [hf]; simp) (by rw [hf]; simp)⟩
theorem Ghost.nilU (ty sz : Nat) : Ghost n C s ob s (ob ++ [.us (.slice none 0 0) ty sz []]) := Ghost.more0 rfl (fun _ _ => .inl ⟨rfl, rfl⟩)
theorem ussIn_set : ∀ {vs : List Value} {L : List (Option (List (List T)))} {m : Nat} {es : List (List T)}, vs.length = L.length → L[m]? = some (some es) →
  (∀ b, b ∈ ussIn vs (L.set m none) → b ∈ ussIn vs L) ∧ (∀ b, b ∈ bls (vs.getD m undef) → b ∈ ussIn vs L) ∧ ((ussIn vs L).Nodup → (ussIn vs (L.set m none)).Nodup ∧ ∀ b, b ∈ bls (vs.getD m undef) → b ∉ ussIn vs (L.set m none))
 | [], L, m, es, hl, h => by have := (List.getElem?_eq_some_iff.1 h).1; simp at hl; omega
 | v :: vs, [], m, es, hl, h => by simp at h
 | v :: vs, y :: L, 0, es, hl, h => by
  simp at h
  subst h
  simp only [List.set_cons_zero, ussIn, List.mem_append, List.nodup_append, List.getD, List.getElem?_cons_zero, Option.getD_some]
  exact ⟨fun b hb => .inr hb, fun b hb => .inl hb, fun ⟨_, h2, h3⟩ => ⟨h2, fun b hb hb' => h3 b hb b hb' rfl⟩⟩
 | v :: vs, none :: L, m + 1, es, hl, h => by
  have ih := ussIn_set (vs := vs) (L := L) (m := m) (es := es) (by simpa using hl) (by simpa using h)
  simpa [ussIn, List.getD] using ih
 | v :: vs, some z :: L, m + 1, es, hl, h => by
  obtain ⟨h1, h2, h3⟩ := ussIn_set (vs := vs) (L := L) (m := m) (es := es) (by simpa using hl) (by simpa using h)
  have hg : (v :: vs).getD (m + 1) undef = vs.getD m undef := by simp [List.getD]
  rw [hg]
  simp only [List.set_cons_succ, ussIn, List.mem_append, List.nodup_append]
  refine ⟨fun b hb => hb.imp id (h1 b), fun b hb => .inr (h2 b hb), fun ⟨q1, q2, q3⟩ => ?_⟩
  obtain ⟨r1, r2⟩ := h3 q2
  refine ⟨⟨q1, r1, fun x hx y hy => q3 x hx y (h1 y hy)⟩, fun b hb hb' => ?_⟩
  rcases hb' with hb' | hb'
  ·exact q3 b hb' b (h2 b hb) rfl
  ·exact r2 b hb hb'
theorem Ghost.take (k m : Nat) {v : Value} {ty tyi szi : Nat} {vs : List Value} {L : List (Option (List (List T)))} {es : List (List T)} (hk : ob[k]? = some (.uss v ty tyi szi vs L)) (hm : L[m]? = some (some es)) :
  Ghost n C s ob s (ob.set k (.uss v ty tyi szi vs (L.set m none)) ++ [.us (vs.getD m undef) tyi szi es]) := by
 intro H a w gm
 have hor : OR H w (.uss v ty tyi szi vs L) := gm.objs _ (List.mem_of_getElem? hk)
 obtain ⟨h0, h1, h2⟩ := hor
 have hn0 := (nodup_places.1 gm.nodup).1 k _ hk
 obtain ⟨u1, u2, u3⟩ := ussIn_set h0 hm
 simp only [Ob.fp, List.nodup_append] at hn0
 obtain ⟨n1, n2, n3⟩ := hn0
 obtain ⟨u4, u5⟩ := u3 n2
 have hml := (List.getElem?_eq_some_iff.1 hm).1
 have hvm : vs[m]? = some (vs.getD m undef) := by
  have : m < vs.length := by omega
  simp [List.getD, this]
 refine ⟨H, fun _ _ h => h, gm.world (fun _ => False) ⟨rfl, rfl, rfl⟩ (Nat.le_refl _) (fun _ _ _ => rfl) (fun _ h => h.elim) ?_ ?_⟩
 ·intro p hp
  rcases List.mem_append.1 hp with hp | hp
  ·rcases List.mem_or_eq_of_mem_set hp with hp | rfl
   ·exact .inl ⟨hp, fun _ _ h => h⟩
   ·refine .inr ⟨⟨by simpa using h0, h1, fun i x es' hx he => ?_⟩, fun b hb => .inr ⟨_, List.mem_of_getElem? hk, ?_⟩⟩
    ·rw [List.getElem?_set] at he
     split at he
     ·cases he
     ·exact h2 i x es' hx he
    ·simp only [Ob.fp, List.mem_append] at hb ⊢
     exact hb.imp id (u1 b)
  ·simp only [List.mem_singleton] at hp
   subst hp
   refine .inr ⟨h2 m _ es hvm hm, fun b hb => .inr ⟨_, List.mem_of_getElem? hk, ?_⟩⟩
   simp only [Ob.fp, List.mem_append] at hb ⊢
   exact .inr (u2 b hb)
 ·rw [List.flatMap_append, List.nodup_append]
  have hsub : ∀ b, b ∈ (Ob.uss v ty tyi szi vs (L.set m none)).fp → b ∈ (Ob.uss v ty tyi szi vs L).fp := fun b hb => by
   simp only [Ob.fp, List.mem_append] at hb ⊢
   exact hb.imp id (u1 b)
  refine ⟨nodup_at gm.nodup hk ?_ (fun b hb => .inl (hsub b hb)), by simpa [Ob.fp] using bls_nodup _, ?_⟩
  ·simp only [Ob.fp, List.nodup_append]
   exact ⟨n1, u4, fun x hx y hy => n3 x hx y (u1 y hy)⟩
  ·intro x hx y hy hxy
   subst hxy
   simp only [List.flatMap_cons, List.flatMap_nil, List.append_nil, Ob.fp] at hy
   obtain ⟨p, hp, hbp⟩ := List.mem_flatMap.1 hx
   obtain ⟨i, hi⟩ := List.mem_iff_getElem?.1 hp
   by_cases hki : k = i
   ·subst hki
    rw [List.getElem?_set_self (List.getElem?_eq_some_iff.1 hk).1] at hi
    cases hi
    simp only [Ob.fp, List.mem_append] at hbp
    rcases hbp with hbp | hbp
    ·exact n3 x hbp x (u2 x hy) rfl
    ·exact u5 x hy hbp
   ·rw [List.getElem?_set_ne hki] at hi
    exact gm.apart hk hi hki x hbp (by simp only [Ob.fp, List.mem_append]; exact .inr (u2 x hy))
def eraseAll (ob : List Ob) (ks : List Nat) : List Ob := (ob.zipIdx.filter fun p => !ks.contains p.2).map Prod.fst
def LendS (K : List Ob) (s : Slots) : Slots → Prop
 | [] => True
 | (t, y) :: l => (∃ x, get s t = some x ∧ Lend K x y) ∧ LendS K s l
theorem LendS.get {K : List Ob} {s : Slots} : ∀ {l : Slots}, LendS K s l → ∀ i y, Aw.get l i = some y → ∃ x, Aw.get s i = some x ∧ Lend K x y
 | [], _, i, y, h => by simp [Aw.get] at h
 | (t, z) :: l, hl, i, y, h => by
  obtain ⟨h1, h2⟩ := hl
  simp only [Aw.get] at h
  cases hb : Nat.beq t i with
  | true =>
   have := Nat.eq_of_beq_eq_true hb
   subst this
   simp only [hb, cond_true, Option.some.injEq] at h
   subst h; exact h1
  | false => simp only [hb, cond_false] at h; exact LendS.get h2 i y h
inductive LendO (K : List Ob) : Ob → Ob → Prop
 | same (o : Ob) : LendO K o o
 | arr {b ty sz cap : Nat} {e e' : List T} (h : LendL K e e') : LendO K (.arr b ty sz cap [e]) (.arr b ty sz cap [e'])
inductive LendOs (K : List Ob) : List Ob → List Ob → Prop
 | nil : LendOs K [] []
 | cons {x y : Ob} {l m : List Ob} (h : LendO K x y) (t : LendOs K l m) : LendOs K (x :: l) (y :: m)
 | rest (l : List Ob) : LendOs K l l
theorem LendO.fp {K : List Ob} {x y : Ob} (h : LendO K x y) : y.fp = x.fp := by cases h <;> rfl
theorem LendOs.fp {K : List Ob} {l m : List Ob} (h : LendOs K l m) : m.flatMap Ob.fp = l.flatMap Ob.fp := by
 induction h with
 | nil => rfl
 | cons h _ ih => simp [h.fp, ih]
 | rest => rfl
theorem LendOs.mem {K : List Ob} {l m : List Ob} (h : LendOs K l m) : ∀ y, y ∈ m → ∃ x, x ∈ l ∧ LendO K x y := by
 induction h with
 | nil => intro y hy; simp at hy
 | cons h _ ih =>
  intro z hz
  rcases List.mem_cons.1 hz with rfl | hz
  ·exact ⟨_, by simp, h⟩
  ·obtain ⟨x, hx, hl⟩ := ih z hz; exact ⟨x, by simp [hx], hl⟩
 | rest => intro y hy; exact ⟨y, hy, .same y⟩
theorem Ghost.freeze (ks : List Nat) {K : List Ob} (hK : pickAll ob ks = some K) (cs : Slots) (hc : LendS K s cs) {ob' : List Ob} (ho : LendOs K (eraseAll ob ks) ob') : Ghost n C s ob (cs ++ s) ob' := by
 intro H a w gm
 obtain ⟨p1, p2⟩ := pickAll_mem hK
 have hmem : ∀ p, p ∈ K → ∃ k, k ∈ ks ∧ ob[k]? = some p := by
  intro p hp
  obtain ⟨i, hi⟩ := List.mem_iff_getElem?.1 hp
  have hil := (List.getElem?_eq_some_iff.1 hi).1
  obtain ⟨o, h1, h2⟩ := p2 i ks[i] (List.getElem?_eq_getElem (by omega))
  rw [hi] at h2
  cases h2
  exact ⟨ks[i], List.getElem_mem _, h1⟩
 have hKob : ∀ p, p ∈ K → p ∈ ob := fun p hp => by obtain ⟨k, _, h⟩ := hmem p hp; exact List.mem_of_getElem? h
 have hown : ∀ b o, H b = some o → b ∉ K.flatMap Ob.fp := fun b o hb hm => by
  obtain ⟨p, hp, hbp⟩ := List.mem_flatMap.1 hm
  rw [gm.free p (hKob p hp) b hbp] at hb; cases hb
 obtain ⟨H1, hH1⟩ : ∃ H1 : GH, H1 = fun b => if b ∈ K.flatMap Ob.fp then w.heap[b]? else H b := ⟨_, rfl⟩
 have hm1 : ∀ b o, H b = some o → H1 b = some o := fun b o hb => by rw [hH1]; simp only [hown b o hb, if_false]; exact hb
 have ho1 : ∀ p, p ∈ K → OR H1 w p := fun p hp => (gm.objs p (hKob p hp)).mono hm1 (fun _ _ => rfl)
 have hb1 : ∀ p, p ∈ K → ∀ b, b ∈ p.fp → H1 b = w.heap[b]? := fun p hp b hb => by
  rw [hH1]; simp only [List.mem_flatMap.2 ⟨p, hp, hb⟩, if_true]
 have hkept : ∀ p, p ∈ eraseAll ob ks → ∃ i, i ∉ ks ∧ ob[i]? = some p := by
  intro p hp
  simp only [eraseAll, List.mem_map, List.mem_filter] at hp
  obtain ⟨⟨q, i⟩, ⟨h1, h2⟩, rfl⟩ := hp
  exact ⟨i, by simpa using h2, by have := List.mem_zipIdx_iff_getElem?.1 h1; simpa using this⟩
 have hout : ∀ p, p ∈ eraseAll ob ks → p ∈ ob ∧ ∀ b, b ∈ p.fp → b ∉ K.flatMap Ob.fp := by
  intro p hp
  obtain ⟨i, hi, hp'⟩ := hkept p hp
  refine ⟨List.mem_of_getElem? hp', fun b hb hm => ?_⟩
  obtain ⟨q, hq, hbq⟩ := List.mem_flatMap.1 hm
  obtain ⟨k, hk, hq'⟩ := hmem q hq
  exact at_ne gm.nodup hp' hq' (fun he => hi (he ▸ hk)) b hb hbq
 have hsubl : (eraseAll ob ks).Sublist ob := by
  have h1 : ((ob.zipIdx.filter fun p => !ks.contains p.2).map Prod.fst).Sublist (ob.zipIdx.map Prod.fst) := List.Sublist.map _ List.filter_sublist
  have h2 : ob.zipIdx.map Prod.fst = ob := by simp
  rw [h2] at h1
  exact h1
 refine ⟨H1, hm1, gm.defers.mono hm1, gm.size, ?_, ?_, ?_, ?_, ?_, ?_, ?_, gm.heap, ?_, gm.env⟩
 ·intro i x hx
  have hx' : (get cs i = some x) ∨ get s i = some x := by
   have : ∀ (l : Slots), get (l ++ s) i = some x → get l i = some x ∨ get s i = some x := by
    intro l
    induction l with
    | nil => exact fun h => .inr h
    | cons p l ih =>
     obtain ⟨t, y⟩ := p
     simp only [List.cons_append, get]
     cases Nat.beq t i with
     | true => exact fun h => .inl h
     | false => exact ih
   exact this cs hx
  rcases hx' with hx' | hx'
  ·obtain ⟨y, hy, hl⟩ := hc.get i x hx'
   exact Lend.vr ho1 hb1 hm1 hl (gm.slots i y hy)
  ·exact (gm.slots i x hx').mono hm1
 ·intro p hp
  obtain ⟨q, hq, hl⟩ := ho.mem p hp
  have hor := (gm.objs q (hout q hq).1)
  cases hl with
  | same => exact hor.mono hm1 (fun _ _ => rfl)
  | arr h =>
   obtain ⟨cur, a1, a2, a3, a4, a5, a6⟩ := hor
   refine ⟨cur, a1, a2, a3, a4, fun i e he => ?_, fun i e he j x hx => ?_⟩
   ·cases i with
    | zero => simp at he; subst he; rw [← h.length]; exact a5 0 _ rfl
    | succ i => simp at he
   ·cases i with
    | zero =>
     simp at he; subst he
     obtain ⟨z, hz, _⟩ := h.get j x hx
     exact ⟨(a6 0 _ rfl j z hz).1, LendL.vr ho1 hb1 hm1 h j x hx (fun z' hz' => (a6 0 _ rfl j z' hz').2)⟩
    | succ i => simp at he
 ·intro p hp b hb
  obtain ⟨q, hq, hl⟩ := ho.mem p hp
  rw [hl.fp] at hb
  obtain ⟨h1, h2⟩ := hout q hq
  rw [hH1]; simp only [h2 b hb, if_false]; exact gm.free q h1 b hb
 ·intro p hp b hb
  obtain ⟨q, hq, hl⟩ := ho.mem p hp
  rw [hl.fp] at hb
  exact gm.new q (hout q hq).1 b hb
 ·show (ob'.flatMap Ob.fp).Nodup
  rw [ho.fp]; exact (sublist_flatMap hsubl).nodup gm.nodup
 ·intro b o hb
  rw [hH1] at hb
  dsimp only at hb
  split at hb
  ·exact hb
  ·exact gm.held b o hb
 ·intro b o hb; exact hm1 _ _ (gm.grow _ _ hb)
 ·intro b hb hf
  obtain ⟨h1, h2⟩ := gm.frame b hb hf
  refine ⟨h1, ?_⟩
  have : b ∉ K.flatMap Ob.fp := fun hm => by
   obtain ⟨q, hq, hbq⟩ := List.mem_flatMap.1 hm
   rcases gm.new q (hKob q hq) b hbq with h | h
   ·omega
   ·exact hf h
  rw [hH1]; simp only [this, if_false]; exact h2
theorem eraseAll_last (x : Ob) : eraseAll (ob ++ [x]) [ob.length] = ob := by
 unfold eraseAll
 rw [List.zipIdx_append, List.filter_append, List.map_append]
 have h1 : ob.zipIdx.filter (fun p => !([ob.length].contains p.2)) = ob.zipIdx := by
  rw [List.filter_eq_self]
  rintro ⟨y, i⟩ h
  have := List.mem_zipIdx_iff_getElem?.1 h
  have := (List.getElem?_eq_some_iff.1 this).1
  simp only at this
  simp; omega
 rw [h1]
 simp
theorem pickAll_last (x : Ob) : pickAll (ob ++ [x]) [ob.length] = some [x] := by simp [pickAll]
theorem AX.litF {d : Nat} {ty : TypeId} {pos : String} {aft : Array Edge} {g : Option (Nat × Bool)} {t : TypeId} {m : Nat} {parts : Array (Nat × Operand)} {ti ei : TI} {e : Nat} {z : Value} {l : List T} {sz : Nat} {es : List (List T)}
  (ht : E.tab t = some ti) (hk : ti.kind = .slice e) (he : E.tab e = some ei) (hz : ei.zero = some z) (h1 : z.cells.toList.all (·.oneCell') = true) (hsz : ei.size = sz) (hzs : z.cells.size = sz) (hb : Nat.ble (m * sz) 16777216 = true)
  (hm : Nat.ble m 16777216 = true) (hf : fillT s (fun i => some (i * sz, sz)) (repT (zeroT z) m) parts.toList = some l) (hr : rows sz m l = es)
  (hd : ∀ d', some d = some d' → d' < n) (k : R ⟨(d, .list sz es) :: s, ob⟩) :
  AX E n C [] ⟨some d, .buildSlice t m parts, ty, pos, aft, g⟩ ⟨s, ob⟩ R := by
 intro H a w gm
 refine Oper.wp_monoQ ?_ (fun _ _ _ h => h) (AX.buildSlice (R := fun σ' => ∃ b, σ' = ⟨(d, .v b) :: s, ob ++ [.us b e sz es]⟩) ht hk he hz h1 hsz hzs hb hm hf hr hd (fun b => ⟨b, rfl⟩) H a w gm)
 rintro a' w' ⟨_, H', v, ⟨b, rfl⟩, gm', ha, hHH, hfr⟩
 obtain ⟨H'', h2, gm''⟩ := Ghost.freeze [ob.length] (K := [.us b e sz es]) (pickAll_last _) [(d, .list sz es)] ⟨⟨_, by simp [get], .us 0 rfl⟩, trivial⟩ (ob' := ob) (by rw [eraseAll_last]; exact .rest _) H' a' w' gm'
 refine ⟨⟨(d, .list sz es) :: s, ob⟩, H'', v, k, { gm'' with slots := ?_ }, ha, fun b o h => h2 _ _ (hHH _ _ h), fun i p hp hm => ⟨hp, (hfr i p hp hm).2⟩⟩
 intro i x hx
 refine gm''.slots i x ?_
 show get ((d, .list sz es) :: (d, .v b) :: s) i = some x
 simp only [get] at hx ⊢
 cases hbq : Nat.beq d i with
 | true => rw [hbq] at hx; exact hx
 | false => rw [hbq] at hx; simpa using hx
theorem Sub.append : ∀ {l1 l2 s : Slots}, Sub l1 s → Sub l2 s → Sub (l1 ++ l2) s
 | [], _, _, _, h2 => h2
 | (_, _) :: _, _, _, h1, h2 => ⟨h1.1, Sub.append h1.2 h2⟩
theorem map_get {α β : Type} {f : α → β} {l : List α} {k : Nat} {x : α} (h : l[k]? = some x) : (l.map f)[k]? = some (f x) := by simp [h]
theorem le_ble {a b : Nat} (h : Nat.ble a b = true) : a ≤ b := Nat.le_of_ble_eq_true h
theorem sl_c {a b : Ob} {l m : List Ob} (h : a = b) (t : l.Sublist m) : (a :: l).Sublist (b :: m) := h ▸ t.cons_cons a
theorem sl_n {l : List Ob} : ([] : List Ob).Sublist l := List.nil_sublist l
theorem get_b {a b : Bool} (h : a = b) : some (T.v (.bool a)) = some (T.v (.bool b)) := by rw [h]
end
theorem oi {α : Type _} {a b : α} (h : some a = some b) : a = b := Option.some.inj h
theorem bt (b : Bool) : b = true ∨ b = false := by cases b <;> simp
theorem J : True := True.intro
abbrev T.V (x : Int) : T := .v (.int .i64 x)
abbrev T.N : T := .v (.slice none 0 0)
theorem gs {α : Type _} {l : List α} {i : Nat} {a : α} (h : l[i]? = some a) : ∃ w : i < l.length, l[i] = a := List.getElem?_eq_some_iff.1 h
theorem gq {α : Type _} {l : List α} {i : Nat} (h : i < l.length) : l[i]? = some l[i] := List.getElem?_eq_getElem h
theorem mg {α : Type _} {l : List α} {i : Nat} {a : α} (h : l[i]? = some a) : a ∈ l := List.mem_of_getElem? h
theorem dS {n d : Nat} (h : Nat.blt d n = true := by exact rfl) : ∀ d', some d = some d' → d' < n := dst_some h
section
variable {E : Env} {n : Nat} {C : Ctx} {ops : Array Oper} {s : Slots} {ob : List Ob} {R : St → Prop} {dst : Option Tmp} {ty : TypeId} {pos : String} {aft : Array Edge} {g : Option (Nat × Bool)}
def PAll (F : Nat × List Nat → Prop) : List (Nat × List Nat) → Prop
 | [] => True
 | p :: l => F p ∧ PAll F l
theorem PAll.get {F : Nat × List Nat → Prop} : ∀ {l : List (Nat × List Nat)}, PAll F l → ∀ p, p ∈ l → F p
 | [], _, _, h => by simp at h
 | q :: l, ⟨h1, h2⟩, p, h => by
  rcases List.mem_cons.1 h with rfl | h
  ·exact h1
  ·exact PAll.get h2 p h
theorem get_done {A : List (Nat × List Nat)} {dst : Nat → Tmp} {vals : Nat → T} {s : Slots} (hj : (A.all fun p => A.all fun q => Nat.beq p.1 q.1 || !Nat.beq (dst p.1) (dst q.1)) = true) :
  ∀ (D : List Nat), (∀ d, d ∈ D → ∃ p, p ∈ A ∧ p.1 = d) → ∀ d, d ∈ D → get (D.map (fun d => (dst d, vals d)) ++ s) (dst d) = some (vals d)
 | [], _, d, h => by simp at h
 | d0 :: D, hA, d, h => by
  simp only [List.map_cons, List.cons_append, get]
  cases hb : Nat.beq (dst d0) (dst d) with
  | true =>
   obtain ⟨p, hp, rfl⟩ := hA d0 (by simp)
   obtain ⟨q, hq, rfl⟩ := hA d h
   have := List.all_eq_true.1 (List.all_eq_true.1 hj p hp) q hq
   rw [hb] at this
   have : p.1 = q.1 := Nat.eq_of_beq_eq_true (by simpa using this)
   rw [this]; rfl
  | false =>
   have hne : d ≠ d0 := fun he => by rw [he] at hb; simp at hb
   rw [cond_false]
   exact get_done hj D (fun x hx => hA x (by simp [hx])) d (by simpa [hne] using h)
theorem get_base {A : List (Nat × List Nat)} {dst : Nat → Tmp} {vals : Nat → T} {s : Slots} (hs : (A.all fun p => (get s (dst p.1)).isNone) = true) :
  ∀ (D : List Nat), (∀ d, d ∈ D → ∃ p, p ∈ A ∧ p.1 = d) → ∀ i x, get s i = some x → get (D.map (fun d => (dst d, vals d)) ++ s) i = some x
 | [], _, i, x, h => by simpa using h
 | d0 :: D, hA, i, x, h => by
  simp only [List.map_cons, List.cons_append, get]
  cases hb : Nat.beq (dst d0) i with
  | true =>
   obtain ⟨p, hp, rfl⟩ := hA d0 (by simp)
   have := List.all_eq_true.1 hs p hp
   rw [Nat.eq_of_beq_eq_true hb, h] at this
   simp at this
  | false => rw [cond_false]; exact get_base hs D (fun x hx => hA x (by simp [hx])) i x h
theorem Sub.of_get : ∀ {l s : Slots}, (∀ p, p ∈ l → Aw.get s p.1 = some p.2) → Sub l s
 | [], _, _ => trivial
 | (i, x) :: _, _, h => ⟨h (i, x) (by simp), Sub.of_get fun p hp => h p (by simp [hp])⟩
theorem Sub.deps {A : List (Nat × List Nat)} {dst : Nat → Tmp} {vals : Nat → T} {s : Slots} (hj : (A.all fun p => A.all fun q => Nat.beq p.1 q.1 || !Nat.beq (dst p.1) (dst q.1)) = true)
  {D ds : List Nat} (hD : ∀ d, d ∈ D → ∃ p, p ∈ A ∧ p.1 = d) (hds : ∀ d, d ∈ ds → d ∈ D) : Sub (ds.map fun d => (dst d, vals d)) (D.map (fun d => (dst d, vals d)) ++ s) := by
 refine Sub.of_get fun p hp => ?_
 obtain ⟨d, hd, rfl⟩ := List.mem_map.1 hp
 exact get_done hj D hD d (hds d hd)
theorem AP.par {A : List (Nat × List Nat)} {r : PL} {so : Slots} {prot : List Nat} {pobjs : List Ob} (dst : Nat → Tmp) (Φ : Nat → T → Prop) (Inv : List Ob → Prop)
  (hj : (A.all fun p => A.all fun q => Nat.beq p.1 q.1 || !Nat.beq (dst p.1) (dst q.1)) = true)
  (s1 : Slots) (hs1 : ∀ i x, get s1 i = some x → get s i = some x) (hs : (A.all fun p => (get s1 (dst p.1)).isNone) = true)
  (h0 : Inv ob) (hI : ∀ ob, Inv ob → ∀ p, p ∈ pobjs → ∃ i, prot.contains i = true ∧ ob[i]? = some p)
  (hstep : PAll (fun p => ∃ o md, ops[p.1]? = some o ∧ o.guard = none ∧ o.dst = some (dst p.1) ∧ (prot.all fun i => !md.contains i) = true ∧
   ∀ (vals : Nat → T) (ob : List Ob), Inv ob → (∀ d, d ∈ p.2 → Φ d (vals d)) → AX E n C md o ⟨p.2.map (fun d => (dst d, vals d)) ++ s1, ob⟩ (fun σ' => ∃ x, get σ'.slots (dst p.1) = some x ∧ Φ p.1 x ∧ Inv σ'.objs)) A)
  (k : ∀ (vals : Nat → T) ob', Inv ob' → (∀ p, p ∈ A → Φ p.1 (vals p.1)) → AP E n C ops prot pobjs r [] ⟨A.map (fun p => (dst p.1, vals p.1)) ++ s1, ob'⟩ R) :
  AP E n C ops prot pobjs (.par A r) so ⟨s, ob⟩ R := by
 intro Hs ws H a w sr wr ag hH hpp gm
 refine ⟨fun D a w => ∃ (vals : Nat → T) (ob : List Ob) (H : GH), Inv ob ∧ (∀ d, d ∈ D → Φ d (vals d)) ∧ (∀ d, d ∈ D → ∃ p, p ∈ A ∧ p.1 = d) ∧ (∀ b o, Hs b = some o → H b = some o) ∧
  Gam n C ⟨D.map (fun d => (dst d, vals d)) ++ s1, ob⟩ H a w ∧ Agree Hs pobjs ws w, ?_, ?_, ?_⟩
 ·exact ⟨fun _ => .tup [], ob, H, h0, by simp, by simp, hH, { gm with slots := fun i x h => gm.slots i x (hs1 i x (by simpa using h)) }, ag⟩
 ·rintro D j ds a w hm hds hjD ⟨vals, ob, H, hi, hΦ, hDA, hH, gm, ag⟩
  obtain ⟨o, md, ho, hg, hdst, hmd, hax⟩ := hstep.get _ hm
  have hmd' : ∀ i, prot.contains i = true → md.contains i = false := fun i hi => by
   have := (List.all_eq_true.1 hmd) i (by simpa using hi)
   simpa using this
  have hsub : ∀ i x, get (ds.map (fun d => (dst d, vals d)) ++ s1) i = some x → get (D.map (fun d => (dst d, vals d)) ++ s1) i = some x := by
   intro i x h
   have hb := get_base (vals := vals) hs D hDA
   have hd := Sub.deps (vals := vals) (s := s1) hj hDA hds
   generalize ds.map (fun d => (dst d, vals d)) = l at h hd
   induction l with
   | nil => exact hb i x (by simpa using h)
   | cons p l ih =>
    obtain ⟨q, y⟩ := p
    obtain ⟨h1, h2⟩ := hd
    simp only [List.cons_append, get] at h
    cases hbq : Nat.beq q i with
    | true =>
     rw [hbq, cond_true] at h
     cases h
     rw [← Nat.eq_of_beq_eq_true hbq]; exact h1
    | false => rw [hbq, cond_false] at h; exact ih h h2
  have hax := hax vals ob hi (fun d hd => hΦ d (hds d hd)) H a w { gm with slots := fun i x h => gm.slots i x (hsub i x h) }
  simp only [wpOp, ho]
  rw [if_pos (by simp [Region.wanted, hg])]
  refine .inl (Oper.wp_monoQ ?_ (fun _ _ _ h => h.elim) hax)
  rintro a' w' ⟨σ', H', v, ⟨x, hget, hx, hi'⟩, gm', ha', hHH, hfr⟩
  have ag' : Agree Hs pobjs ws w' := by
   refine ⟨fun b o hb => gm'.held _ _ (hHH _ _ (hH _ _ hb)), fun p hpp b hb => ?_⟩
   obtain ⟨i, hpi, hoi⟩ := hI ob hi p hpp
   exact ((hfr i p hoi (hmd' i hpi)).2 b hb).trans (ag.2 p hpp b hb)
  have hcong : D.map (fun d => (dst d, if d = j then x else vals d)) = D.map (fun d => (dst d, vals d)) := by
   refine List.map_congr_left fun d hd => ?_
   rw [if_neg (show ¬ d = j from fun h => hjD (by rw [← h]; exact hd))]
  refine ⟨ag', fun d => if d = j then x else vals d, σ'.objs, H', hi', ?_, ?_, fun b o hb => hHH _ _ (hH _ _ hb), { gm' with slots := ?_ }, ag'⟩
  ·intro d hd
   rcases List.mem_cons.1 hd with rfl | hd
   ·simpa using hx
   ·dsimp only
    rw [if_neg (show ¬ d = j from fun h => hjD (by rw [← h]; exact hd))]; exact hΦ d hd
  ·intro d hd
   rcases List.mem_cons.1 hd with rfl | hd
   ·exact ⟨_, hm, rfl⟩
   ·exact hDA d hd
  ·intro i y hy
   simp only [List.map_cons, List.cons_append, get, if_pos] at hy
   rw [hcong] at hy
   cases hb : Nat.beq (dst j) i with
   | true =>
    rw [hb, cond_true] at hy
    cases hy
    rw [← Nat.eq_of_beq_eq_true hb]
    exact gm'.slots _ _ hget
   | false =>
    rw [hb, cond_false] at hy
    have hne : dst j ≠ i := fun h => by rw [h] at hb; simp at hb
    rw [ha', hdst]
    simp only [Act.put]
    have he : (a.tmps.setIfInBounds (dst j) v).getD i undef = a.tmps.getD i undef := by
     simp [Array.getD_eq_getD_getElem?, Array.getElem?_setIfInBounds_ne hne]
    rw [he]; exact (gm.slots i y hy).mono hHH
 ·rintro D a w hall ⟨vals, ob, H, hi, hΦ, hDA, hH, gm, ag⟩
  refine k vals ob hi (fun p hp => hΦ _ (hall p hp)) Hs ws H a w ⟨gm.size, fun i x h => by simp [get] at h⟩ wr ag hH (hI ob hi) { gm with slots := fun i x h => gm.slots i x ?_ }
  have hb := get_base (vals := vals) hs D hDA
  have hd : Sub (A.map fun p => (dst p.1, vals p.1)) (D.map (fun d => (dst d, vals d)) ++ s1) := Sub.of_get fun q hq => by
   obtain ⟨p, hp, rfl⟩ := List.mem_map.1 hq
   exact get_done hj D hDA p.1 (hall p hp)
  generalize A.map (fun p => (dst p.1, vals p.1)) = l at h hd
  induction l with
  | nil => exact hb i x (by simpa using h)
  | cons p l ih =>
   obtain ⟨q, y⟩ := p
   obtain ⟨h1, h2⟩ := hd
   simp only [List.cons_append, get] at h
   cases hbq : Nat.beq q i with
   | true =>
    rw [hbq, cond_true] at h
    cases h
    rw [← Nat.eq_of_beq_eq_true hbq]; exact h1
   | false => rw [hbq, cond_false] at h; exact ih h h2
end
section
variable {E : Env} {n : Nat} {C : Ctx} {ops : Array Oper} {s : Slots} {ob : List Ob} {R : St → Prop} {dst : Option Tmp} {ty : TypeId} {pos : String} {aft : Array Edge} {g : Option (Nat × Bool)} {Q : Exit → St → Prop}
theorem Yp.makeFunc {f : FuncId} {first captured : Array Operand} {fs cs : List T} (h1 : evalL s first.toList = some fs) (h2 : evalL s captured.toList = some cs) :
  Yp E.P n s ⟨dst, .makeFunc (.func f) first captured, ty, pos, aft, g⟩ (.fn f fs cs) := by
 intro H a r
 obtain ⟨k1, k2⟩ := evalL_spec r h1
 obtain ⟨k3, k4⟩ := evalL_spec r h2
 have conv : ∀ (arr : Array Operand) (i : Nat), (arr.map a.eval).getD i undef = (arr.toList.map a.eval).getD i undef := fun arr i => by
  simp [Array.getD_eq_getD_getElem?, List.getD]
 refine ⟨_, .fn f (first.map a.eval) (captured.map a.eval) fs cs (by simpa using k1) (by simpa using k3) (fun j x hx => by rw [conv]; exact k2 j x hx) (fun j x hx => by rw [conv]; exact k4 j x hx), fun w => ?_⟩
 simp [execOp, Instr.makeFunc]
theorem Yp.indexAg {t : TypeId} {x y : Operand} {k : IntKind} {i : Int} {m len el : Nat} {cs : List T} {ti fi : TI} {z : T} (ht : E.tab t = some ti) (hk : ti.kind = .array len el) (hel : E.tab el = some fi)
  (hx : evalT s x = some (.agg cs)) (hy : evalT s y = some (.v (.int k i))) (hi : i = (m : Int)) (hm : m < len) (hp : partT fi cs (m * fi.size) = some z) :
  Yp E.P n s ⟨dst, .index t x y, ty, pos, aft, g⟩ z := by
 intro H A r
 subst hi
 have h := r.eval hx
 generalize hv : A.eval x = v at h
 cases h with
 | agg vs cs hl hc hvs =>
  obtain ⟨v, hv1, hv2⟩ := partT_spec (VR.agg vs cs hl hc hvs) (E.ok _ _ hel) hp
  exact ⟨v, hv1, fun w => by simp [execOp, hv, r.evalv hy, Instr.index, asIntOf, run_underlying (und_array (E.ok _ _ ht) hk), hm, run_sizeOf_ti (E.ok _ _ hel), hv2]⟩
theorem Yd.sub (k : Nat) {objs : List Ob} {o : Oper} {x : T} {p q : Ob} (hk : objs[k]? = some p) (ho : ∀ H w, OR H w p → OR H w q) (hf : ∀ b, b ∈ q.fp → b ∈ p.fp) (h : Yd E.P n s [q] o x) : Yd E.P n s objs o x := by
 intro H a w r wr
 have hp := List.mem_of_getElem? hk
 obtain ⟨v, h1, h2⟩ := h H a w r ⟨fun p' hp' => by simp at hp'; subst hp'; exact ho H w (wr.objs _ hp), wr.held⟩
 refine ⟨v, h1, fun w' ag => h2 w' ⟨ag.1, fun p' hp' b hb => ?_⟩⟩
 simp only [List.mem_singleton] at hp'
 subst hp'
 exact ag.2 _ hp b (hf b hb)
def byteRows (l : List UInt8) : List (List T) := l.map fun b => [.v (.int .u8 (b.toNat : Int))]
theorem und_slice' {P : Program} {t : TypeId} {i : TI} (h : tiOf P t = some i) {e : Nat} (hk : i.kind = .slice e) : P.underlying t = some (.slice e) := by
 obtain ⟨d, h1, h2⟩ := und_ti h
 rw [hk] at h2
 cases d <;> simp [K.of] at h2
 subst h2; exact h1
theorem und_int' {P : Program} {t : TypeId} {i : TI} (h : tiOf P t = some i) {k : IntKind} (hk : i.kind = .int k) : P.underlying t = some (.int k) := by
 obtain ⟨d, h1, h2⟩ := und_ti h
 rw [hk] at h2
 cases d <;> simp [K.of] at h2
 subst h2; exact h1
theorem AX.bytesStr {t t' : TypeId} {x : Operand} {ti ti' ei : TI} {e : Nat} {l : List UInt8} (ht : E.tab t = some ti) (hk : ti.kind = .slice e) (he : E.tab e = some ei) (hke : ei.kind = .int .u8) (ht' : E.tab t' = some ti') (hk' : ti'.kind = .string)
  (hs : AppSrc s ob x 1 (byteRows l)) (hd : ∀ d, dst = some d → d < n) (k : R ⟨putS s dst (.v (.string ⟨l.toArray⟩)), ob⟩) : AX E n C [] ⟨dst, .convert t t' x, ty, pos, aft, g⟩ ⟨s, ob⟩ R := by
 intro H a w gm
 obtain ⟨ad, c, news, h1, h2, h3, h4, h5, h6⟩ := hs n H a w gm.sr gm.wr
 have hlen : (byteRows l).length = l.length := by simp [byteRows]
 have hrun : (execOp a.eval ⟨dst, .convert t t' x, ty, pos, aft, g⟩).run E.P w = .ok (.value (.string ⟨l.toArray⟩)) w := by
  cases ad with
  | none =>
   have := h4 rfl
   have hl : l = [] := by simpa [byteRows] using this
   subst hl
   have hc := run_convert_bytes_string (P := E.P) w t t' e none 0 c (und_slice' (E.ok _ _ ht) hk) (und_int' (E.ok _ _ he) hke) (und_string (E.ok _ _ ht') hk')
   simp only [byteRows, List.map_nil, List.length_nil] at h1
   simp only [execOp, h1, Sem.run_bind, hc]
   simp [Conv.bytesToString]
   rfl
  | some ad =>
   have hb := run_convert_bytes_back (P := E.P) w t t' e ad c l (und_slice' (E.ok _ _ ht) hk) (und_int' (E.ok _ _ he) hke) (und_string (E.ok _ _ ht') hk') (fun j hj => by
    have hrow : (byteRows l)[j]? = some [.v (.int .u8 (l[j].toNat : Int))] := by simp [byteRows, hj]
    obtain ⟨_, q⟩ := h6 j _ hrow
    have q := (q 0 _ rfl).v_eq
    simp only [Nat.mul_one, Nat.add_zero] at q
    have hjn : j < news.length := by rw [h2, hlen]; omega
    have := h5 ad rfl j news[j] (List.getElem?_eq_getElem hjn)
    rw [this]
    simp only [List.getD, List.getElem?_eq_getElem hjn, Option.getD_some] at q
    rw [q])
   rw [hlen] at h1
   simp only [execOp, h1, Sem.run_bind, hb]
   rfl
 simp only [Oper.wp, hrun, Oper.upon]
 refine ⟨_, H, _, k, ?_, rfl, fun _ _ h => h, fun i p hp _ => ⟨hp, by intros; trivial⟩⟩
 have := gm.put (dst := dst) (v := .string ⟨l.toArray⟩) (x := .v (.string ⟨l.toArray⟩)) (.v _) hd
 cases dst <;> exact this
end
end Go.Aw
