/- Literals, make and append, at abstract values. No condition. -/
import Derived.Test.YtncfbhnecmnfpaaGreatDoorBwActs
namespace Go.Aw
set_option linter.unusedVariables false
set_option linter.unusedSimpArgs false

section
variable {E : Env} {n : Nat} {C : Ctx} {σ : St} {dst : Option Tmp} {ty : TypeId} {pos : String} {aft : Array Edge} {g : Option (Nat × Bool)}

/-! ### fill -/

theorem AR.fold {H : GH} {vs : Array Value} {cs : List T} (hv : AR H vs cs) {arr : Array Value} {l : List T} (ha : AR H arr l) {off : Nat} (hle : off + cs.length ≤ l.length) :
    AR H (vs.zipIdx.foldl (fun c (x : Value × Nat) => c.setIfInBounds (off + x.2) x.1) arr) (setC l off cs) := by
  have gen : ∀ (ws : List Value) (k : Nat) (arr : Array Value), (∀ j, j < ws.length → off + k + j < arr.size) →
      ((ws.zipIdx k).foldl (fun c (x : Value × Nat) => c.setIfInBounds (off + x.2) x.1) arr).size = arr.size ∧
      ∀ i, ((ws.zipIdx k).foldl (fun c (x : Value × Nat) => c.setIfInBounds (off + x.2) x.1) arr).getD i undef =
        if off + k ≤ i ∧ i < off + k + ws.length then ws.getD (i - (off + k)) undef else arr.getD i undef := by
    intro ws
    induction ws with
    | nil => intro k arr _; refine ⟨rfl, fun i => ?_⟩; simp; intro h1 h2; omega
    | cons v ws ih =>
      intro k arr hin
      have h0 := hin 0 (by simp)
      simp only [List.zipIdx_cons, List.foldl_cons]
      obtain ⟨s1, s2⟩ := ih (k + 1) (arr.setIfInBounds (off + k) v) (fun j hj => by simp; have := hin (j + 1) (by simp; omega); omega)
      refine ⟨by simpa using s1, fun i => ?_⟩
      rw [s2 i]
      by_cases h1 : off + (k + 1) ≤ i ∧ i < off + (k + 1) + ws.length
      · rw [if_pos h1, if_pos (by simp; omega), show i - (off + k) = (i - (off + (k + 1))) + 1 by omega]
        simp [List.getD]
      · rw [if_neg h1]
        by_cases h2 : i = off + k
        · subst h2
          rw [if_pos (by simp)]
          simp [Array.getD_eq_getD_getElem?, show off + k < arr.size by omega]
        · rw [if_neg (by simp; omega)]
          simp [Array.getD_eq_getD_getElem?, Array.getElem?_setIfInBounds_ne (Ne.symm h2)]
  have hgen := gen vs.toList 0 arr (fun j hj => by rw [ha.1]; have := hv.1; simp at hj; omega)
  have hfold : vs.zipIdx.foldl (fun c (x : Value × Nat) => c.setIfInBounds (off + x.2) x.1) arr = (vs.toList.zipIdx 0).foldl (fun c (x : Value × Nat) => c.setIfInBounds (off + x.2) x.1) arr := by
    rw [← Array.foldl_toList, Array.toList_zipIdx]
  rw [hfold]
  refine ⟨by rw [hgen.1, setC_length]; exact ha.1, fun j x hx => ?_⟩
  rw [hgen.2 j]
  rcases setC_get l off cs j x hx with ⟨q1, q2, q3⟩ | ⟨q1, q2⟩
  · rw [if_pos (by simp [hv.1]; omega)]
    have := hv.2 _ _ q3
    rw [Array.getD_eq_getD_getElem?, ← Array.getElem?_toList] at this
    simpa [List.getD] using this
  · rw [if_neg (by simp [hv.1]; omega)]
    exact ha.2 j x q2

/-- The parts of a literal, laid over its cells: place gives the offset and the size of each part. -/
def fillT (s : Slots) (place : Nat → Option (Nat × Nat)) : List T → List (Nat × Operand) → Option (List T)
  | l, [] => some l
  | l, (i, x) :: r =>
    match place i, (evalT s x).bind cellsT with
    | some (off, size), some cs => bif Nat.beq cs.length size && Nat.ble (off + cs.length) l.length then fillT s place (setC l off cs) r else none
    | _, _ => none

theorem fillT_spec {H : GH} {a : Act} {s : Slots} (r : SR n s H a) {place : Nat → Option (Nat × Nat)} : ∀ (ps : List (Nat × Operand)) (l l' : List T) (arr : Array Value), AR H arr l → fillT s place l ps = some l' →
    ∃ arr', Instr.fill place arr (ps.map fun p => (p.1, a.eval p.2)) = some arr' ∧ AR H arr' l' := by
  intro ps
  induction ps with
  | nil => intro l l' arr ha h; simp only [fillT, Option.some.injEq] at h; subst h; exact ⟨arr, rfl, ha⟩
  | cons p ps ih =>
    intro l l' arr ha h
    obtain ⟨i, x⟩ := p
    simp only [fillT] at h
    cases hp : place i with
    | none => simp [hp] at h
    | some q =>
      obtain ⟨off, size⟩ := q
      cases hx : evalT s x with
      | none => simp [hp, hx] at h
      | some y =>
        cases hc : cellsT y with
        | none => simp [hp, hx, hc] at h
        | some cs =>
          simp only [hp, hx, hc, Option.bind_some] at h
          cases hb : (Nat.beq cs.length size && Nat.ble (off + cs.length) l.length) with
          | false => simp [hb] at h
          | true =>
            simp only [hb, cond_true] at h
            simp only [Bool.and_eq_true] at hb
            have hb1 := Nat.eq_of_beq_eq_true hb.1
            have hb2 := Nat.le_of_ble_eq_true hb.2
            have hv := cellsT_spec (r.eval hx) hc
            obtain ⟨arr', h1, h2⟩ := ih _ l' _ (hv.fold ha hb2) h
            refine ⟨arr', ?_, h2⟩
            simp only [List.map_cons, Instr.fill, hp]
            rw [if_neg (by simp [hv.1, hb1, ha.1]; omega)]
            exact h1

def zeroT (z : Value) : List T := z.cells.toList.map T.v

theorem zeroT_AR {H : GH} {z : Value} (h1 : z.cells.toList.all (·.oneCell') = true) : AR H z.cells (zeroT z) := by
  refine ⟨by simp [zeroT], fun j x hx => ?_⟩
  simp only [zeroT, List.getElem?_map, Option.map_eq_some_iff] at hx
  obtain ⟨v, hv, rfl⟩ := hx
  have hv' : z.cells.getD j undef = v := by
    rw [Array.getD_eq_getD_getElem?, ← Array.getElem?_toList, hv]; rfl
  rw [hv']
  exact ⟨List.all_eq_true.1 h1 v (List.mem_of_getElem? hv), .v v⟩

theorem AR.agg {H : GH} {arr : Array Value} {l : List T} (h : AR H arr l) : VR H (.agg arr) (.agg l) :=
  .agg _ _ h.1 (fun j x hx => (h.2 j x hx).1) (fun j x hx => (h.2 j x hx).2)

def placeT (E : Env) (fs : List (Nat × Nat)) (i : Nat) : Option (Nat × Nat) :=
  match fs[i]? with
  | some (off, t) => (E.tab t).map fun ti => (off, ti.size)
  | none => none

theorem Yp.build {t : TypeId} {parts : Array (Nat × Operand)} {ti : TI} {fs : List (Nat × Nat)} {z : Value} {l : List T} {s : Slots}
    (ht : E.tab t = some ti) (hk : ti.kind = .struct fs) (hz : ti.zero = some z) (h1 : z.cells.toList.all (·.oneCell') = true) (hall : fs.all (fun f => (E.tab f.2).isSome) = true)
    (hf : fillT s (placeT E fs) (zeroT z) parts.toList = some l) : Yp E.P n s ⟨dst, .build t parts, ty, pos, aft, g⟩ (.agg l) := by
  intro H a r
  obtain ⟨ff, u1, u2⟩ := und_struct (E.ok _ _ ht) hk
  obtain ⟨arr, q1, q2⟩ := fillT_spec r parts.toList _ _ _ (zeroT_AR (H := H) h1) hf
  refine ⟨.agg arr, q2.agg, fun w => ?_⟩
  have hpl : (ff.mapM fun f => (do pure (f.offset, ← sizeOf f.type) : Sem (Nat × Nat))).run E.P w = .ok (ff.map fun f => (f.offset, ((E.tab f.type).map (·.size)).getD 0)) w := by
    rw [Array.mapM_eq_mapM_toList]
    have gen : ∀ (l : List Field), (∀ f, f ∈ l → (E.tab f.type).isSome = true) →
        (l.mapM fun f => (do pure (f.offset, ← sizeOf f.type) : Sem (Nat × Nat))).run E.P w = .ok (l.map fun f => (f.offset, ((E.tab f.type).map (·.size)).getD 0)) w := by
      intro l
      induction l with
      | nil => intro _; simp
      | cons f l ih =>
        intro hl
        have hs := hl f (by simp)
        obtain ⟨fi, hfi⟩ := Option.isSome_iff_exists.1 hs
        have ih' := ih (fun f hf => hl f (by simp [hf]))
        simp only [List.mapM_cons, Sem.run_bind, run_sizeOf_ti (E.ok _ _ hfi), Result.andThen_ok, Sem.run_pure, ih', hfi]
        simp [hfi]
    have := gen ff.toList (fun f hf => by
      have hm : (f.offset, f.type) ∈ fs := by rw [← u2]; exact List.mem_map_of_mem hf
      exact List.all_eq_true.1 hall _ hm)
    refine (Sem.run_map E.P w _ _).trans ?_
    rw [this]
    simp only [Result.andThen_ok]
    congr 1
    apply Array.ext'
    simp
  have hpe : (fun i => (ff.map fun f => (f.offset, ((E.tab f.type).map (·.size)).getD 0))[i]?) = placeT E fs := by
    funext i
    simp only [placeT, ← u2, List.getElem?_map, Array.getElem?_map, Array.getElem?_toList]
    cases hfi : ff[i]? with
    | none => simp
    | some f =>
      have hm : (f.offset, f.type) ∈ fs := by rw [← u2]; exact List.mem_map_of_mem (by simpa using Array.mem_of_getElem? hfi)
      obtain ⟨fi, hfi'⟩ := Option.isSome_iff_exists.1 (List.all_eq_true.1 hall _ hm)
      simp [hfi']
  simp only [execOp, Instr.build, Sem.run_bind, run_zeroValue_ti (E.ok _ _ ht) w hz, Result.andThen_ok, run_underlying u1, hpl]
  rw [show ((parts.map fun (x : Nat × Operand) => (x.1, a.eval x.2)).toList) = parts.toList.map fun p => (p.1, a.eval p.2) by simp]
  rw [hpe, q1]
  rfl

/-- What building a struct of a type needs to know of it: the places of the fields, and the row of zeros. -/
structure Bld (E : Env) (t : TypeId) (pl : List (Nat × Nat)) (z : List T) : Prop where
  intro ::
  ex : ∃ ti fs zv, E.tab t = some ti ∧ ti.kind = .struct fs ∧ ti.zero = some zv ∧ zv.cells.toList.all (·.oneCell') = true ∧ fs.all (fun f => (E.tab f.2).isSome) = true ∧
    fs.map (fun f => (f.1, ((E.tab f.2).map (·.size)).getD 0)) = pl ∧ zeroT zv = z

def placeL (pl : List (Nat × Nat)) (i : Nat) : Option (Nat × Nat) := pl[i]?

theorem placeT_placeL {fs : List (Nat × Nat)} (h : fs.all (fun f => (E.tab f.2).isSome) = true) : placeT E fs = placeL (fs.map fun f => (f.1, ((E.tab f.2).map (·.size)).getD 0)) := by
  funext i
  simp only [placeT, placeL, List.getElem?_map]
  cases hf : fs[i]? with
  | none => rfl
  | some f =>
    have := List.all_eq_true.1 h f (List.mem_of_getElem? hf)
    obtain ⟨o, t⟩ := f
    cases ht : E.tab t with
    | none => simp [ht] at this
    | some ti => simp [ht]

theorem Yp.buildP {t : TypeId} {parts : Array (Nat × Operand)} {pl : List (Nat × Nat)} {z l : List T} {s : Slots}
    (hb : Bld E t pl z) (hf : fillT s (placeL pl) z parts.toList = some l) : Yp E.P n s ⟨dst, .build t parts, ty, pos, aft, g⟩ (.agg l) := by
  obtain ⟨ti, fs, zv, h1, h2, h3, h4, h5, rfl, rfl⟩ := hb.ex
  exact Yp.build h1 h2 h3 h4 h5 (by rw [placeT_placeL h5]; exact hf)

/-- An array literal. -/
theorem Yp.buildA {t : TypeId} {parts : Array (Nat × Operand)} {ti ei : TI} {len e : Nat} {z : Value} {l : List T} {s : Slots}
    (ht : E.tab t = some ti) (hk : ti.kind = .array len e) (hz : ti.zero = some z) (h1 : z.cells.toList.all (·.oneCell') = true) (he : E.tab e = some ei)
    (hf : fillT s (fun i => some (i * ei.size, ei.size)) (zeroT z) parts.toList = some l) : Yp E.P n s ⟨dst, .build t parts, ty, pos, aft, g⟩ (.agg l) := by
  intro H a r
  obtain ⟨arr, q1, q2⟩ := fillT_spec r parts.toList _ _ _ (zeroT_AR (H := H) h1) hf
  refine ⟨.agg arr, q2.agg, fun w => ?_⟩
  simp only [execOp, Instr.build, Sem.run_bind, run_zeroValue_ti (E.ok _ _ ht) w hz, Result.andThen_ok, run_underlying (und_array (E.ok _ _ ht) hk), run_sizeOf_ti (E.ok _ _ he)]
  rw [show ((parts.map fun (x : Nat × Operand) => (x.1, a.eval x.2)).toList) = parts.toList.map fun p => (p.1, a.eval p.2) by simp]
  rw [q1]
  rfl

/-! ### Slice literals and make -/

/-- l, cut into m rows of sz cells. -/
def rows (sz : Nat) : Nat → List T → List (List T)
  | 0, _ => []
  | m + 1, l => l.take sz :: rows sz m (l.drop sz)

theorem rows_length (sz : Nat) : ∀ (m : Nat) (l : List T), (rows sz m l).length = m
  | 0, _ => rfl
  | m + 1, l => by simp [rows, rows_length sz m]

theorem rows_get (sz : Nat) : ∀ (m : Nat) (l : List T), m * sz ≤ l.length → ∀ (i : Nat) (e : List T), (rows sz m l)[i]? = some e → e.length = sz ∧ ∀ (j : Nat) (x : T), e[j]? = some x → l[i * sz + j]? = some x
  | 0, _, _, i, e, h => by simp [rows] at h
  | m + 1, l, hl, i, e, h => by
    rw [Nat.succ_mul] at hl
    cases i with
    | zero =>
      simp only [rows, List.getElem?_cons_zero, Option.some.injEq] at h
      subst h
      refine ⟨by simp; omega, fun j x hx => ?_⟩
      have hj : j < sz := by
        have := (List.getElem?_eq_some_iff.1 hx).1
        simp at this; omega
      rw [List.getElem?_take_of_lt hj] at hx
      simpa using hx
    | succ i =>
      simp only [rows, List.getElem?_cons_succ] at h
      obtain ⟨h1, h2⟩ := rows_get sz m (l.drop sz) (by simp; omega) i e h
      refine ⟨h1, fun j x hx => ?_⟩
      have := h2 j x hx
      rw [List.getElem?_drop] at this
      rw [Nat.succ_mul, show i * sz + sz + j = sz + (i * sz + j) by omega]; exact this

theorem OR.rows {H : GH} {w : World} {t : TypeId} {arr : Array Value} {l : List T} {b sz m : Nat} (h : w.heap[b]? = some (.cells arr t (0, 0))) (ha : AR H arr l) (hl : l.length = m * sz) (hm : m ≤ maxL) :
    OR H w (.arr b t sz m (rows sz m l)) := by
  refine ⟨arr, h, by rw [ha.1, hl], by rw [rows_length]; omega, by rw [rows_length]; exact hm, fun i e he => (rows_get sz m l (by omega) i e he).1, fun i e he j x hx => ?_⟩
  exact ha.2 _ _ ((rows_get sz m l (by omega) i e he).2 j x hx)

def repT (z : List T) : Nat → List T
  | 0 => []
  | m + 1 => z ++ repT z m

theorem repT_length (z : List T) : ∀ m, (repT z m).length = m * z.length
  | 0 => by simp [repT]
  | m + 1 => by simp [repT, repT_length z m, Nat.succ_mul]; omega

theorem repT_get (z : List T) : ∀ (m j : Nat) (x : T), (repT z m)[j]? = some x → z[j % z.length]? = some x
  | 0, j, x, h => by simp [repT] at h
  | m + 1, j, x, h => by
    simp only [repT, List.getElem?_append] at h
    split at h
    · rename_i hj; rw [Nat.mod_eq_of_lt hj]; exact h
    · rename_i hj
      have := repT_get z m _ x h
      rwa [Nat.mod_eq_sub_mod (by omega)]

theorem madeCells_AR {H : GH} {z : Value} (h1 : z.cells.toList.all (·.oneCell') = true) (m : Nat) :
    AR H ((Array.range (m * z.cells.size)).map (z.cells[· % z.cells.size]!)) (repT (zeroT z) m) := by
  have hz := zeroT_AR (H := H) h1
  refine ⟨by simp [repT_length, zeroT], fun j x hx => ?_⟩
  have hj := (List.getElem?_eq_some_iff.1 hx).1
  rw [repT_length] at hj
  have hzl : (zeroT z).length = z.cells.size := by simp [zeroT]
  rw [hzl] at hj
  have hpos : 0 < z.cells.size := by
    rcases Nat.eq_zero_or_pos z.cells.size with h | h
    · rw [h] at hj; simp at hj
    · exact h
  have := repT_get _ _ _ _ hx
  rw [hzl] at this
  have h2 := hz.2 _ _ this
  have hmod := Nat.mod_lt j hpos
  have he : ((Array.range (m * z.cells.size)).map (z.cells[· % z.cells.size]!)).getD j undef = z.cells.getD (j % z.cells.size) undef := by
    simp [Array.getD_eq_getD_getElem?, hj, hmod]
  rw [he]; exact h2

theorem AX.buildSlice {t : TypeId} {m : Nat} {parts : Array (Nat × Operand)} {ti ei : TI} {e : Nat} {z : Value} {l : List T} {R : St → Prop} {sz : Nat} {es : List (List T)}
    (ht : E.tab t = some ti) (hk : ti.kind = .slice e) (he : E.tab e = some ei) (hz : ei.zero = some z) (h1 : z.cells.toList.all (·.oneCell') = true) (hsz : ei.size = sz) (hzs : z.cells.size = sz) (hb : Nat.ble (m * sz) 16777216 = true)
    (hm : Nat.ble m 16777216 = true) (hf : fillT σ.slots (fun i => some (i * sz, sz)) (repT (zeroT z) m) parts.toList = some l) (hr : rows sz m l = es)
    (hd : ∀ d, dst = some d → d < n) (k : ∀ b, R ⟨putS σ.slots dst (.v b), σ.objs ++ [.us b e sz es]⟩) :
    AX E n C [] ⟨dst, .buildSlice t m parts, ty, pos, aft, g⟩ σ R := by
  refine AX.value fun H a w gm => ?_
  subst hr hzs
  have hmc := madeCells_AR (H := H) h1 m
  obtain ⟨arr, q1, q2⟩ := fillT_spec gm.sr parts.toList _ _ _ hmc hf
  have hbn := Nat.le_of_ble_eq_true hb
  have hll : l.length = m * z.cells.size := by
    have : ∀ (ps : List (Nat × Operand)) (l0 l : List T), fillT σ.slots (fun i => some (i * z.cells.size, z.cells.size)) l0 ps = some l → l.length = l0.length := by
      intro ps
      induction ps with
      | nil => intro l0 l h; simp only [fillT, Option.some.injEq] at h; rw [h]
      | cons p ps ih =>
        intro l0 l h
        simp only [fillT] at h
        split at h
        · rename_i off size cs h1 h2
          cases hb : (Nat.beq cs.length size && Nat.ble (off + cs.length) l0.length) with
          | false => simp [hb] at h
          | true => simp only [hb, cond_true] at h; rw [ih _ _ h, setC_length]
        · simp at h
    rw [this _ _ _ hf, repT_length]; simp [zeroT]
  have hor : OR H (w.alloc (.cells arr e)) (.arr w.heap.size e z.cells.size m (rows z.cells.size m l)) :=
    OR.rows (heap_alloc_new w _) q2 hll (by have := Nat.le_of_ble_eq_true hm; simp [maxL]; omega)
  refine ⟨.slice (some ⟨w.heap.size, 0, none⟩) m m, w.alloc (.cells arr e), _, H, ?_, k (.slice (some ⟨w.heap.size, 0, none⟩) m m), ?_, fun _ _ h => h, ?_⟩
  · have hpm : ((parts.map fun (x : Nat × Operand) => (x.1, a.eval x.2)).toList) = parts.toList.map fun p => (p.1, a.eval p.2) := by simp
    simp only [execOp, Instr.buildSlice, Sem.run_bind, run_underlying (und_slice (E.ok _ _ ht) hk), Result.andThen_ok, run_sizeOf_ti (E.ok _ _ he), hsz]
    rw [if_neg (by omega)]
    by_cases h0 : m * z.cells.size = 0
    · rw [if_pos h0]
      have hz0 : ∀ f : Nat → Value, (Array.range (m * z.cells.size)).map f = #[] := fun f => by rw [h0, Array.range_zero']; simp
      rw [hz0] at q1
      simp only [Sem.run_bind, Sem.run_pure, Result.andThen_ok, hz0, hpm, q1]
      simp [newRow]
    · rw [if_neg h0]
      simp only [Sem.run_bind, Result.andThen_ok, run_zeroValue_ti (E.ok _ _ he) w hz, Sem.run_pure, hpm, q1]
      simp [newRow]
  · have := (gm.alloc (ob := .us (.slice (some ⟨w.heap.size, 0, none⟩) m m) e z.cells.size _) (.inr ⟨_, m, m, by simp [rows_length], by simp [rows_length], Nat.le_refl _, hor⟩) rfl).put (dst := dst) (.v (.slice (some ⟨w.heap.size, 0, none⟩) m m)) hd
    cases dst <;> exact this
  · intro i p hp _
    exact ⟨append_keeps hp, fun b hb => heap_alloc_old w _ ((gm.objs p (List.mem_of_getElem? hp)).lt b hb)⟩

theorem rows_rep (z : List T) : ∀ m, rows z.length m (repT z m) = List.replicate m z
  | 0 => rfl
  | m + 1 => by simp [rows, repT, List.replicate_succ, rows_rep z m]

theorem AX.makeSlice {t : TypeId} {x y : Operand} {k1 k2 : IntKind} {i : Int} {m : Nat} {ti ei : TI} {e : Nat} {z : Value} {R : St → Prop} {sz : Nat}
    (ht : E.tab t = some ti) (hk : ti.kind = .slice e) (he : E.tab e = some ei) (hz : ei.zero = some z) (h1 : z.cells.toList.all (·.oneCell') = true) (hsz : ei.size = sz) (hzs : z.cells.size = sz)
    (hx : evalT σ.slots x = some (.v (.int k1 i))) (hy : evalT σ.slots y = some (.v (.int k2 i))) (hi : i = (m : Int)) (hm : m ≤ maxL) (hb : (ei.bytes : Int) * (m : Int) ≤ 140737488355328)
    (hd : ∀ d, dst = some d → d < n) (k : ∀ b, R ⟨putS σ.slots dst (.v b), σ.objs ++ [.us b e sz (List.replicate m (zeroT z))]⟩) :
    AX E n C [] ⟨dst, .makeSlice t x y, ty, pos, aft, g⟩ σ R := by
  refine AX.value fun H a w gm => ?_
  subst hi hzs
  obtain ⟨inf, f1, f2, f3, f4, f5⟩ := run_typeInfo_ti (E.ok _ _ he) w
  have hmm : m ≤ 140737488355328 := hm
  have hrun := run_make (P := E.P) w t e inf z (und_slice (E.ok _ _ ht) hk) f5 (by rw [f4]; exact hz) k1 k2 m m (by omega) (by omega) (by rw [f3]; omega) (by omega)
  have hmc := madeCells_AR (H := H) h1 m
  have hinf : inf.size = z.cells.size := by rw [f2, hsz]
  simp only [Int.toNat_natCast, madeCells, hinf] at hrun
  have hor : OR H (w.alloc (.cells ((Array.range (m * z.cells.size)).map (z.cells[· % z.cells.size]!)) e)) (.arr w.heap.size e z.cells.size m (rows z.cells.size m (repT (zeroT z) m))) :=
    OR.rows (heap_alloc_new w _) hmc (by rw [repT_length]; simp [zeroT]) hm
  have hzl : (zeroT z).length = z.cells.size := by simp [zeroT]
  have hrr := rows_rep (zeroT z) m
  rw [hzl] at hrr
  rw [hrr] at hor
  refine ⟨.slice (some ⟨w.heap.size, 0, none⟩) m m, w.alloc (.cells ((Array.range (m * z.cells.size)).map (z.cells[· % z.cells.size]!)) e), _, H, ?_, k (.slice (some ⟨w.heap.size, 0, none⟩) m m), ?_, fun _ _ h => h, ?_⟩
  · simp only [execOp, gm.sr.evalv hx, gm.sr.evalv hy, Sem.run_bind, hrun, Result.andThen_ok, Sem.run_pure]
  · have := (gm.alloc (ob := .us (.slice (some ⟨w.heap.size, 0, none⟩) m m) e z.cells.size _) (.inr ⟨_, m, m, by simp [rows_length], by simp [rows_length], Nat.le_refl _, hor⟩) rfl).put (dst := dst) (.v (.slice (some ⟨w.heap.size, 0, none⟩) m m)) hd
    cases dst <;> exact this
  · intro i p hp _
    exact ⟨append_keeps hp, fun b hb => heap_alloc_old w _ ((gm.objs p (List.mem_of_getElem? hp)).lt b hb)⟩

end
end Go.Aw
