/- A program logic over the model. No condition. -/
import Derived.Test.YtmaamhgjeampmaaGreatYtB0
import Derived.Laws.IdiomStrings
set_option maxRecDepth 100000
namespace Go.Aw
set_option linter.unusedVariables false
set_option linter.defProp false
set_option linter.unusedSimpArgs false
section
variable {E : Env} {n : Nat} {C : Ctx} {σ : St} {dst : Option Tmp} {ty : TypeId} {pos : String} {aft : Array Edge} {g : Option (Nat × Bool)}
theorem AR.fold {H : GH} {vs : Array Value} {cs : List T} (hv : AR H vs cs) {arr : Array Value} {l : List T} (X : AR H arr l) {off : Nat} (aa : off + cs.length ≤ l.length) :
  AR H (vs.zipIdx.foldl (fun c (x : Value × Nat) => c.setIfInBounds (off + x.2) x.1) arr) (Gq l off cs) := by
 have W : ∀ (D : List Value) (k : Nat) (arr : Array Value), (∀ j, j < D.length → off + k + j < arr.size) →
   ((D.zipIdx k).foldl (fun c (x : Value × Nat) => c.setIfInBounds (off + x.2) x.1) arr).size = arr.size ∧
   ∀ i, ((D.zipIdx k).foldl (fun c (x : Value × Nat) => c.setIfInBounds (off + x.2) x.1) arr).getD i undef =
    if off + k ≤ i ∧ i < off + k + D.length then D.getD (i - (off + k)) undef else arr.getD i undef := by
  intro D
  induction D with
  | nil => intro k arr _; refine ⟨rfl, fun i => ?_⟩; simp; intro h1 h2; omega
  | cons v D ih =>
   intro k arr O
   have h0 := O 0 (by simp)
   simp only [List.zipIdx_cons, List.foldl_cons]
   obtain ⟨s1, s2⟩ := ih (k + 1) (arr.setIfInBounds (off + k) v) (fun j Y => by simp; have := O (j + 1) (by simp; omega); omega)
   refine ⟨by simpa using s1, fun i => ?_⟩
   rw [s2 i]
   by_cases h1 : off + (k + 1) ≤ i ∧ i < off + (k + 1) + D.length
   ·rw [if_pos h1, if_pos (by simp; omega), show i - (off + k) = (i - (off + (k + 1))) + 1 by omega]
    simp [List.getD]
   ·rw [if_neg h1]
    by_cases h2 : i = off + k
    ·subst h2
     rw [if_pos (by simp)]
     simp [Array.getD_eq_getD_getElem?, show off + k < arr.size by omega]
    ·rw [if_neg (by simp; omega)]
     simp [Array.getD_eq_getD_getElem?, Array.getElem?_setIfInBounds_ne (Ne.symm h2)]
 have G := W vs.toList 0 arr (fun j Y => by rw [X.1]; have := hv.1; simp at Y; omega)
 have M : vs.zipIdx.foldl (fun c (x : Value × Nat) => c.setIfInBounds (off + x.2) x.1) arr = (vs.toList.zipIdx 0).foldl (fun c (x : Value × Nat) => c.setIfInBounds (off + x.2) x.1) arr := by
  rw [← Array.foldl_toList, Array.toList_zipIdx]
 rw [M]
 refine ⟨by rw [G.1, Gb]; exact X.1, fun j x hx => ?_⟩
 rw [G.2 j]
 rcases Lw l off cs j x hx with ⟨q1, Z, q3⟩ | ⟨q1, Z⟩
 ·rw [if_pos (by simp [hv.1]; omega)]
  have := hv.2 _ _ q3
  rw [Array.getD_eq_getD_getElem?, ← Array.getElem?_toList] at this
  simpa [List.getD] using this
 ·rw [if_neg (by simp [hv.1]; omega)]
  exact X.2 j x Z
def Gn (s : A1) (D : Nat → Option (Nat × Nat)) : List T → List (Nat × Operand) → Option (List T)
 | l, [] => some l
 | l, (i, x) :: r =>
  match D i, (Bn s x).bind Er with
  | some (off, size), some cs => bif Nat.beq cs.length size && Nat.ble (off + cs.length) l.length then Gn s D (Gq l off cs) r else none
  | _, _ => none
theorem Rd {H : GH} {a : Act} {s : A1} (r : SR n s H a) {D : Nat → Option (Nat × Nat)} : ∀ (O : List (Nat × Operand)) (l M : List T) (arr : Array Value), AR H arr l → Gn s D l O = some M →
  ∃ G, Instr.fill D arr (O.map fun p => (p.1, a.eval p.2)) = some G ∧ AR H G M := by
 intro O
 induction O with
 | nil => intro l M arr W h; simp only [Gn, Option.some.injEq] at h; subst h; exact ⟨arr, rfl, W⟩
 | cons p O ih =>
  intro l M arr W h
  obtain ⟨i, x⟩ := p
  simp only [Gn] at h
  cases hp : D i with
  | none => simp [hp] at h
  | some q =>
   obtain ⟨off, size⟩ := q
   cases hx : Bn s x with
   | none => simp [hp, hx] at h
   | some y =>
    cases hc : Er y with
    | none => simp [hp, hx, hc] at h
    | some cs =>
     simp only [hp, hx, hc, Option.bind_some] at h
     cases hb : (Nat.beq cs.length size && Nat.ble (off + cs.length) l.length) with
     | false => simp [hb] at h
     | true =>
      simp only [hb, cond_true] at h
      simp only [Bool.and_eq_true] at hb
      have X := Nat.eq_of_beq_eq_true hb.1
      have Y := Nat.le_of_ble_eq_true hb.2
      have hv := Jx (r.eval hx) hc
      obtain ⟨G, h1, h2⟩ := ih _ M _ (hv.fold W Y) h
      refine ⟨G, ?_, h2⟩
      simp only [List.map_cons, Instr.fill, hp]
      rw [if_neg (by simp [hv.1, X, W.1]; omega)]
      exact h1
def E6 (z : Value) : List T := z.cells.toList.map T.v
theorem U5 {H : GH} {z : Value} (h1 : z.cells.toList.all (·.oneCell') = true) : AR H z.cells (E6 z) := by
 refine ⟨by simp [E6], fun j x hx => ?_⟩
 simp only [E6, List.getElem?_map, Option.map_eq_some_iff] at hx
 obtain ⟨v, hv, rfl⟩ := hx
 have D : z.cells.getD j undef = v := by
  rw [Array.getD_eq_getD_getElem?, ← Array.getElem?_toList, hv]; rfl
 rw [D]
 exact ⟨List.all_eq_true.1 h1 v (List.mem_of_getElem? hv), .v v⟩
theorem AR.agg {H : GH} {arr : Array Value} {l : List T} (h : AR H arr l) : VR H (.agg arr) (.agg l) :=
 .agg _ _ h.1 (fun j x hx => (h.2 j x hx).1) (fun j x hx => (h.2 j x hx).2)
def Pn (E : Env) (fs : List (Nat × Nat)) (i : Nat) : Option (Nat × Nat) :=
 match fs[i]? with
 | some (off, t) => (E.tab t).map fun ti => (off, ti.size)
 | none => none
theorem Yp.build {t : TypeId} {D : Array (Nat × Operand)} {ti : TI} {fs : List (Nat × Nat)} {z : Value} {l : List T} {s : A1}
  (ht : E.tab t = some ti) (hk : ti.kind = .struct fs) (hz : ti.zero = some z) (h1 : z.cells.toList.all (·.oneCell') = true) (M : fs.all (fun f => (E.tab f.2).isSome) = true)
  (hf : Gn s (Pn E fs) (E6 z) D.toList = some l) : Yp E.P n s ⟨dst, .build t D, ty, pos, aft, g⟩ (.agg l) := by
 intro H a r
 obtain ⟨ff, u1, u2⟩ := Hb (E.ok _ _ ht) hk
 obtain ⟨arr, q1, q2⟩ := Rd r D.toList _ _ _ (U5 (H := H) h1) hf
 refine ⟨.agg arr, q2.agg, fun w => ?_⟩
 have Z : (ff.mapM fun f => (do pure (f.offset, ← sizeOf f.type) : Sem (Nat × Nat))).run E.P w = .ok (ff.map fun f => (f.offset, ((E.tab f.type).map (·.size)).getD 0)) w := by
  rw [Array.mapM_eq_mapM_toList]
  have W : ∀ (l : List Field), (∀ f, f ∈ l → (E.tab f.type).isSome = true) →
    (l.mapM fun f => (do pure (f.offset, ← sizeOf f.type) : Sem (Nat × Nat))).run E.P w = .ok (l.map fun f => (f.offset, ((E.tab f.type).map (·.size)).getD 0)) w := by
   intro l
   induction l with
   | nil => intro _; simp
   | cons f l ih =>
    intro hl
    have hs := hl f (by simp)
    obtain ⟨fi, G⟩ := Option.isSome_iff_exists.1 hs
    have aa := ih (fun f hf => hl f (by simp [hf]))
    simp only [List.mapM_cons, Sem.run_bind, C6 (E.ok _ _ G), Result.andThen_ok, Sem.run_pure, aa, G]
    simp [G]
  have := W ff.toList (fun f hf => by
   have X : (f.offset, f.type) ∈ fs := by rw [← u2]; exact List.mem_map_of_mem hf
   exact List.all_eq_true.1 M _ X)
  refine (Sem.run_map E.P w _ _).trans ?_
  rw [this]
  simp only [Result.andThen_ok]
  congr 1
  apply Array.ext'
  simp
 have Y : (fun i => (ff.map fun f => (f.offset, ((E.tab f.type).map (·.size)).getD 0))[i]?) = Pn E fs := by
  funext i
  simp only [Pn, ← u2, List.getElem?_map, Array.getElem?_map, Array.getElem?_toList]
  cases G : ff[i]? with
  | none => simp
  | some f =>
   have X : (f.offset, f.type) ∈ fs := by rw [← u2]; exact List.mem_map_of_mem (by simpa using Array.mem_of_getElem? G)
   obtain ⟨fi, O⟩ := Option.isSome_iff_exists.1 (List.all_eq_true.1 M _ X)
   simp [O]
 simp only [execOp, Instr.build, Sem.run_bind, Fx (E.ok _ _ ht) w hz, Result.andThen_ok, run_underlying u1, Z]
 rw [show ((D.map fun (x : Nat × Operand) => (x.1, a.eval x.2)).toList) = D.toList.map fun p => (p.1, a.eval p.2) by simp]
 rw [Y, q1]
 rfl
structure Bld (E : Env) (t : TypeId) (pl : List (Nat × Nat)) (z : List T) : Prop where
 intro ::
 ex : ∃ ti fs zv, E.tab t = some ti ∧ ti.kind = .struct fs ∧ ti.zero = some zv ∧ zv.cells.toList.all (·.oneCell') = true ∧ fs.all (fun f => (E.tab f.2).isSome) = true ∧
  fs.map (fun f => (f.1, ((E.tab f.2).map (·.size)).getD 0)) = pl ∧ E6 zv = z
def Wi (pl : List (Nat × Nat)) (i : Nat) : Option (Nat × Nat) := pl[i]?
theorem Rx {fs : List (Nat × Nat)} (h : fs.all (fun f => (E.tab f.2).isSome) = true) : Pn E fs = Wi (fs.map fun f => (f.1, ((E.tab f.2).map (·.size)).getD 0)) := by
 funext i
 simp only [Pn, Wi, List.getElem?_map]
 cases hf : fs[i]? with
 | none => rfl
 | some f =>
  have := List.all_eq_true.1 h f (List.mem_of_getElem? hf)
  obtain ⟨o, t⟩ := f
  cases ht : E.tab t with
  | none => simp [ht] at this
  | some ti => simp [ht]
theorem Ao {t : TypeId} {D : Array (Nat × Operand)} {pl : List (Nat × Nat)} {z l : List T} {s : A1}
  (hb : Bld E t pl z) (hf : Gn s (Wi pl) z D.toList = some l) : Yp E.P n s ⟨dst, .build t D, ty, pos, aft, g⟩ (.agg l) := by
 obtain ⟨ti, fs, zv, h1, h2, M, O, G, rfl, rfl⟩ := hb.ex
 exact Yp.build h1 h2 M O G (by rw [Rx G]; exact hf)
def rows (sz : Nat) : Nat → List T → List (List T)
 | 0, _ => []
 | m + 1, l => l.take sz :: rows sz m (l.drop sz)
theorem Ew (sz : Nat) : ∀ (m : Nat) (l : List T), (rows sz m l).length = m
 | 0, _ => rfl
 | m + 1, l => by simp [rows, Ew sz m]
theorem Qr (sz : Nat) : ∀ (m : Nat) (l : List T), m * sz ≤ l.length → ∀ (i : Nat) (e : List T), (rows sz m l)[i]? = some e → e.length = sz ∧ ∀ (j : Nat) (x : T), e[j]? = some x → l[i * sz + j]? = some x
 | 0, _, _, i, e, h => by simp [rows] at h
 | m + 1, l, hl, i, e, h => by
  rw [Nat.succ_mul] at hl
  cases i with
  | zero =>
   simp only [rows, List.getElem?_cons_zero, Option.some.injEq] at h
   subst h
   refine ⟨by simp; omega, fun j x hx => ?_⟩
   have D : j < sz := by
    have := (List.getElem?_eq_some_iff.1 hx).1
    simp at this; omega
   rw [List.getElem?_take_of_lt D] at hx
   simpa using hx
  | succ i =>
   simp only [rows, List.getElem?_cons_succ] at h
   obtain ⟨h1, h2⟩ := Qr sz m (l.drop sz) (by simp; omega) i e h
   refine ⟨h1, fun j x hx => ?_⟩
   have := h2 j x hx
   rw [List.getElem?_drop] at this
   rw [Nat.succ_mul, show i * sz + sz + j = sz + (i * sz + j) by omega]; exact this
theorem OR.rows {H : GH} {w : World} {t : TypeId} {arr : Array Value} {l : List T} {b sz m : Nat} (h : w.heap[b]? = some (.cells arr t (0, 0))) (D : AR H arr l) (hl : l.length = m * sz) (G : m ≤ Kv) :
  OR H w (.arr b t sz m (rows sz m l)) := by
 refine ⟨arr, h, by rw [D.1, hl], by rw [Ew]; omega, by rw [Ew]; exact G, fun i e he => (Qr sz m l (by omega) i e he).1, fun i e he j x hx => ?_⟩
 exact D.2 _ _ ((Qr sz m l (by omega) i e he).2 j x hx)
def Lj (z : List T) : Nat → List T
 | 0 => []
 | m + 1 => z ++ Lj z m
theorem Gc (z : List T) : ∀ m, (Lj z m).length = m * z.length
 | 0 => by simp [Lj]
 | m + 1 => by simp [Lj, Gc z m, Nat.succ_mul]; omega
theorem Vf (z : List T) : ∀ (m j : Nat) (x : T), (Lj z m)[j]? = some x → z[j % z.length]? = some x
 | 0, j, x, h => by simp [Lj] at h
 | m + 1, j, x, h => by
  simp only [Lj, List.getElem?_append] at h
  split at h
  ·rename_i D; rw [Nat.mod_eq_of_lt D]; exact h
  ·rename_i D
   have := Vf z m _ x h
   rwa [Nat.mod_eq_sub_mod (by omega)]
theorem L9 {H : GH} {z : Value} (h1 : z.cells.toList.all (·.oneCell') = true) (m : Nat) :
  AR H ((Array.range (m * z.cells.size)).map (z.cells[· % z.cells.size]!)) (Lj (E6 z) m) := by
 have W := U5 (H := H) h1
 refine ⟨by simp [Gc, E6], fun j x hx => ?_⟩
 have D := (List.getElem?_eq_some_iff.1 hx).1
 rw [Gc] at D
 have O : (E6 z).length = z.cells.size := by simp [E6]
 rw [O] at D
 have M : 0 < z.cells.size := by
  rcases Nat.eq_zero_or_pos z.cells.size with h | h
  ·rw [h] at D; simp at D
  ·exact h
 have := Vf _ _ _ _ hx
 rw [O] at this
 have h2 := W.2 _ _ this
 have G := Nat.mod_lt j M
 have he : ((Array.range (m * z.cells.size)).map (z.cells[· % z.cells.size]!)).getD j undef = z.cells.getD (j % z.cells.size) undef := by
  simp [Array.getD_eq_getD_getElem?, D, G]
 rw [he]; exact h2
theorem AX.buildSlice {t : TypeId} {m : Nat} {D : Array (Nat × Operand)} {ti X : TI} {e : Nat} {z : Value} {l : List T} {R : St → Prop} {sz : Nat} {es : List (List T)}
  (ht : E.tab t = some ti) (hk : ti.kind = .slice e) (he : E.tab e = some X) (hz : X.zero = some z) (h1 : z.cells.toList.all (·.oneCell') = true) (hsz : X.size = sz) (ad : z.cells.size = sz) (hb : Nat.ble (m * sz) 16777216 = true)
  (hm : Nat.ble m 16777216 = true) (hf : Gn σ.slots (fun i => some (i * sz, sz)) (Lj (E6 z) m) D.toList = some l) (hr : rows sz m l = es)
  (hd : ∀ d, dst = some d → d < n) (k : ∀ b, R ⟨Fn σ.slots dst (.v b), σ.objs ++ [.us b e sz es]⟩) :
  AX E n C [] ⟨dst, .buildSlice t m D, ty, pos, aft, g⟩ σ R := by
 refine AX.value fun H a w Y => ?_
 subst hr ad
 have ab := L9 (H := H) h1 m
 obtain ⟨arr, q1, q2⟩ := Rd Y.sr D.toList _ _ _ ab hf
 have hbn := Nat.le_of_ble_eq_true hb
 have aa : l.length = m * z.cells.size := by
  have : ∀ (W : List (Nat × Operand)) (O l : List T), Gn σ.slots (fun i => some (i * z.cells.size, z.cells.size)) O W = some l → l.length = O.length := by
   intro W
   induction W with
   | nil => intro O l h; simp only [Gn, Option.some.injEq] at h; rw [h]
   | cons p W ih =>
    intro O l h
    simp only [Gn] at h
    split at h
    ·rename_i off size cs h1 h2
     cases hb : (Nat.beq cs.length size && Nat.ble (off + cs.length) O.length) with
     | false => simp [hb] at h
     | true => simp only [hb, cond_true] at h; rw [ih _ _ h, Gb]
    ·simp at h
  rw [this _ _ _ hf, Gc]; simp [E6]
 have ac : OR H (w.alloc (.cells arr e)) (.arr w.heap.size e z.cells.size m (rows z.cells.size m l)) :=
  OR.rows (heap_alloc_new w _) q2 aa (by have := Nat.le_of_ble_eq_true hm; simp [Kv]; omega)
 refine ⟨.slice (some ⟨w.heap.size, 0, none⟩) m m, w.alloc (.cells arr e), _, H, ?_, k (.slice (some ⟨w.heap.size, 0, none⟩) m m), ?_, fun _ _ h => h, ?_⟩
 ·have G : ((D.map fun (x : Nat × Operand) => (x.1, a.eval x.2)).toList) = D.toList.map fun p => (p.1, a.eval p.2) := by simp
  simp only [execOp, Instr.buildSlice, Sem.run_bind, run_underlying (Ez (E.ok _ _ ht) hk), Result.andThen_ok, C6 (E.ok _ _ he), hsz]
  rw [if_neg (by omega)]
  by_cases Z : m * z.cells.size = 0
  ·rw [if_pos Z]
   have M : ∀ f : Nat → Value, (Array.range (m * z.cells.size)).map f = #[] := fun f => by rw [Z, Array.range_zero']; simp
   rw [M] at q1
   simp only [Sem.run_bind, Sem.run_pure, Result.andThen_ok, M, G, q1]
   simp [newRow]
  ·rw [if_neg Z]
   simp only [Sem.run_bind, Result.andThen_ok, Fx (E.ok _ _ he) w hz, Sem.run_pure, G, q1]
   simp [newRow]
 ·have := (Y.alloc (ob := .us (.slice (some ⟨w.heap.size, 0, none⟩) m m) e z.cells.size _) (.inr ⟨_, m, m, by simp [Ew], by simp [Ew], Nat.le_refl _, ac⟩) rfl).put (dst := dst) (.v (.slice (some ⟨w.heap.size, 0, none⟩) m m)) hd
  cases dst <;> exact this
 ·intro i p hp _
  exact ⟨Fj hp, fun b hb => heap_alloc_old w _ ((Y.objs p (List.mem_of_getElem? hp)).lt b hb)⟩
def nP := @AX.buildSlice
theorem Ve (z : List T) : ∀ m, rows z.length m (Lj z m) = List.replicate m z
 | 0 => rfl
 | m + 1 => by simp [rows, Lj, List.replicate_succ, Ve z m]
theorem AX.makeSlice {t : TypeId} {x y : Operand} {k1 k2 : IntKind} {i : Int} {m : Nat} {ti X : TI} {e : Nat} {z : Value} {R : St → Prop} {sz : Nat}
  (ht : E.tab t = some ti) (hk : ti.kind = .slice e) (he : E.tab e = some X) (hz : X.zero = some z) (h1 : z.cells.toList.all (·.oneCell') = true) (hsz : X.size = sz) (ab : z.cells.size = sz)
  (hx : Bn σ.slots x = some (.v (.int k1 i))) (hy : Bn σ.slots y = some (.v (.int k2 i))) (hi : i = (m : Int)) (hm : m ≤ Kv) (hb : (X.bytes : Int) * (m : Int) ≤ 140737488355328)
  (hd : ∀ d, dst = some d → d < n) (k : ∀ b, R ⟨Fn σ.slots dst (.v b), σ.objs ++ [.us b e sz (List.replicate m (E6 z))]⟩) :
  AX E n C [] ⟨dst, .makeSlice t x y, ty, pos, aft, g⟩ σ R := by
 refine AX.value fun H a w Y => ?_
 subst hi ab
 obtain ⟨W, f1, f2, f3, f4, f5⟩ := I8 (E.ok _ _ he) w
 have hmm : m ≤ 140737488355328 := hm
 have D := run_make (P := E.P) w t e W z (Ez (E.ok _ _ ht) hk) f5 (by rw [f4]; exact hz) k1 k2 m m (by omega) (by omega) (by rw [f3]; omega) (by omega)
 have Z := L9 (H := H) h1 m
 have G : W.size = z.cells.size := by rw [f2, hsz]
 simp only [Int.toNat_natCast, madeCells, G] at D
 have M : OR H (w.alloc (.cells ((Array.range (m * z.cells.size)).map (z.cells[· % z.cells.size]!)) e)) (.arr w.heap.size e z.cells.size m (rows z.cells.size m (Lj (E6 z) m))) :=
  OR.rows (heap_alloc_new w _) Z (by rw [Gc]; simp [E6]) hm
 have aa : (E6 z).length = z.cells.size := by simp [E6]
 have O := Ve (E6 z) m
 rw [aa] at O
 rw [O] at M
 refine ⟨.slice (some ⟨w.heap.size, 0, none⟩) m m, w.alloc (.cells ((Array.range (m * z.cells.size)).map (z.cells[· % z.cells.size]!)) e), _, H, ?_, k (.slice (some ⟨w.heap.size, 0, none⟩) m m), ?_, fun _ _ h => h, ?_⟩
 ·simp only [execOp, Y.sr.evalv hx, Y.sr.evalv hy, Sem.run_bind, D, Result.andThen_ok, Sem.run_pure]
 ·have := (Y.alloc (ob := .us (.slice (some ⟨w.heap.size, 0, none⟩) m m) e z.cells.size _) (.inr ⟨_, m, m, by simp [Ew], by simp [Ew], Nat.le_refl _, M⟩) rfl).put (dst := dst) (.v (.slice (some ⟨w.heap.size, 0, none⟩) m m)) hd
  cases dst <;> exact this
 ·intro i p hp _
  exact ⟨Fj hp, fun b hb => heap_alloc_old w _ ((Y.objs p (List.mem_of_getElem? hp)).lt b hb)⟩
end
section
variable {E : Env} {n : Nat} {C : Ctx} {σ : St} {dst : Option Tmp} {ty : TypeId} {pos : String} {aft : Array Edge} {g : Option (Nat × Bool)}
def AppSrc (s : A1) (objs : List Ob) (x : Operand) (sz : Nat) (es : List (List T)) : Prop :=
 ∀ n H a w, SR n s H a → WR objs H w → ∃ (G : Option Addr) (c : Nat) (news : List Value), a.eval x = .slice G es.length c ∧ news.length = es.length * sz ∧
  (∀ v, v ∈ news → v.oneCell' = true) ∧ (G = none → es = []) ∧ (∀ D, G = some D → ∀ j u, news[j]? = some u → w.cell? (D.add j) = some u) ∧
  (∀ (i : Nat) (e : List T), es[i]? = some e → e.length = sz ∧ ∀ (j : Nat) (x : T), e[j]? = some x → VR H (news.getD (i * sz + j) undef) x)
theorem W0 {cs : Array Value} {o m : Nat} (hsz : o + m ≤ cs.size) : (cs.toList.drop o |>.take m).length = m ∧ ∀ j, j < m → ((cs.toList.drop o).take m).getD j undef = cs.getD (o + j) undef ∧ ((cs.toList.drop o).take m)[j]? = cs[o + j]? := by
 refine ⟨by simp; omega, fun j D => ?_⟩
 have : ((cs.toList.drop o).take m)[j]? = cs[o + j]? := by
  rw [List.getElem?_take_of_lt D, List.getElem?_drop]; simp
 exact ⟨by simp [List.getD, this, Array.getD_eq_getD_getElem?], this⟩
theorem Ja {H : GH} {w : World} {b o : Nat} {cs : Array Value} {ty : TypeId} {fr : Nat × Nat} (hb : w.heap[b]? = some (.cells cs ty fr)) {sz : Nat} {es : List (List T)} (hsz : o + es.length * sz ≤ cs.size)
  (hel : ∀ (i : Nat) (e : List T), es[i]? = some e → e.length = sz)
  (h1 : ∀ (i : Nat) (e : List T), es[i]? = some e → ∀ (j : Nat) (x : T), e[j]? = some x → (cs.getD (o + i * sz + j) undef).oneCell' = true)
  (hv : ∀ (i : Nat) (e : List T), es[i]? = some e → ∀ (j : Nat) (x : T), e[j]? = some x → VR H (cs.getD (o + i * sz + j) undef) x) :
  ∃ news : List Value, news.length = es.length * sz ∧ (∀ v, v ∈ news → v.oneCell' = true) ∧ (∀ j u, news[j]? = some u → w.cell? ((⟨b, o, none⟩ : Addr).add j) = some u) ∧
   (∀ (i : Nat) (e : List T), es[i]? = some e → e.length = sz ∧ ∀ (j : Nat) (x : T), e[j]? = some x → VR H (news.getD (i * sz + j) undef) x) := by
 obtain ⟨X, Y⟩ := W0 hsz
 have idx : ∀ (i : Nat) (e : List T), es[i]? = some e → ∀ (j : Nat) (x : T), e[j]? = some x → i * sz + j < es.length * sz := by
  intro i e he j x hx
  have hi := (List.getElem?_eq_some_iff.1 he).1
  have hj := (List.getElem?_eq_some_iff.1 hx).1
  rw [hel i e he] at hj
  have : (i + 1) * sz ≤ es.length * sz := Nat.mul_le_mul_right _ hi
  rw [Nat.succ_mul] at this; omega
 refine ⟨(cs.toList.drop o).take (es.length * sz), X, ?_, ?_, ?_⟩
 ·intro v hvm
  obtain ⟨k, W, he⟩ := List.getElem_of_mem hvm
  rw [X] at W
  have O : ((cs.toList.drop o).take (es.length * sz)).getD k undef = v := by
   simp [List.getD, List.getElem?_eq_getElem (show k < ((cs.toList.drop o).take (es.length * sz)).length by rw [X]; exact W), he]
  rw [(Y k W).1] at O
  rcases Nat.eq_zero_or_pos sz with h0 | D
  ·subst h0; simp at W
  ·have hd : k / sz < es.length := by rw [Nat.div_lt_iff_lt_mul D]; exact W
   have G : es[k / sz]? = some es[k / sz] := List.getElem?_eq_getElem hd
   have hm := Nat.mod_lt k D
   have M := hel _ _ G
   have hx' : es[k / sz][k % sz]? = some (es[k / sz][k % sz]'(by rw [M]; exact hm)) := List.getElem?_eq_getElem _
   have := h1 _ _ G _ _ hx'
   have Z := Nat.div_add_mod k sz
   rw [Nat.mul_comm] at Z
   rw [show o + k / sz * sz + k % sz = o + k by omega, O] at this
   exact this
 ·intro j u hu
  have hj : j < es.length * sz := by have := (List.getElem?_eq_some_iff.1 hu).1; rw [X] at this; exact this
  rw [(Y j hj).2] at hu
  rw [D7]
  simp [World.cell?, hb, hu]
 ·intro i e he
  refine ⟨hel i e he, fun j x hx => ?_⟩
  rw [(Y _ (idx i e he j x hx)).1, ← Nat.add_assoc]
  exact hv i e he j x hx
theorem AppSrc.list {s : A1} {objs : List Ob} {x : Operand} {sz : Nat} {es : List (List T)} (hx : Bn s x = some (.list sz es)) : AppSrc s objs x sz es := by
 intro n H a w r wr
 have h := r.eval hx
 generalize hv : a.eval x = v at h
 cases h with
 | empty ad cap sz => exact ⟨ad, cap, [], rfl, by simp, by simp, fun _ => rfl, by simp, by simp⟩
 | list b off cap sz es cs ty fr hb hcap hmax hsz hel h1 hvs =>
  obtain ⟨news, G, M, O, W⟩ := Ja (H := H) (wr.held _ _ hb) hsz hel h1 hvs
  exact ⟨some ⟨b, off, none⟩, cap, news, rfl, G, M, (by simp), (fun D h => by cases h; exact O), W⟩
theorem Lg {s : A1} {objs : List Ob} {x : Operand} {sz : Nat} {es : List (List T)} (k : Nat) {v : Value} {M : Nat} (hx : Bn s x = some (.v v)) (hk : objs[k]? = some (.us v M sz es)) :
  AppSrc s objs x sz es := by
 intro n H a w r wr
 have D : UsR H w v M sz es := wr.objs _ (List.mem_of_getElem? hk)
 rcases D with ⟨rfl, rfl⟩ | ⟨b, c, cap, rfl, p1, p2, cs, O, W, X, a4, Y, G⟩
 ·exact ⟨none, 0, [], by rw [r.evalv hx]; rfl, by simp, by simp, fun _ => rfl, by simp, by simp⟩
 ·have hle : es.length * sz ≤ cs.size := by rw [W]; exact Nat.mul_le_mul_right _ X
  obtain ⟨news, q1, q2, q3, q4⟩ := Ja (H := H) O (o := 0) (by omega) Y (fun i e he j x hx => by simpa using (G i e he j x hx).1) (fun i e he j x hx => by simpa using (G i e he j x hx).2)
  exact ⟨some ⟨b, 0, none⟩, c, news, by rw [r.evalv hx], q1, q2, (by simp), (fun Z h => by cases h; exact q3), q4⟩
theorem Jz {H : GH} {w : World} {b : Nat} {e : TypeId} {cs : Array Value} {sz cap : Nat} {es D : List (List T)} (hb : w.heap[b]? = some (.cells cs e (0, 0))) (M : cs.size = cap * sz) (hcap : es.length + D.length ≤ cap)
  (hmax : es.length + D.length ≤ Kv) (hel : ∀ (i : Nat) (e : List T), es[i]? = some e → e.length = sz) (G : ∀ (i : Nat) (e : List T), D[i]? = some e → e.length = sz)
  (h1 : ∀ (i : Nat) (e : List T), es[i]? = some e → ∀ (j : Nat) (x : T), e[j]? = some x → CR H (cs.getD (i * sz + j) undef) x)
  (h2 : ∀ (i : Nat) (e : List T), D[i]? = some e → ∀ (j : Nat) (x : T), e[j]? = some x → CR H (cs.getD (es.length * sz + (i * sz + j)) undef) x) : ArrR H w b e sz cap (es ++ D) := by
 refine ⟨cs, hb, M, by simpa using hcap, by simpa using hmax, fun i e he => ?_, fun i e he j x hx => ?_⟩
 ·rw [List.getElem?_append] at he
  split at he
  ·exact hel _ _ he
  ·exact G _ _ he
 ·rw [List.getElem?_append] at he
  split at he
  ·exact h1 i e he j x hx
  ·rename_i hi
   have := h2 _ e he j x hx
   rw [← Nat.add_assoc, ← Nat.add_mul, show es.length + (i - es.length) = i by omega] at this
   exact this
theorem Qs {news : List Value} (h : ∀ v, v ∈ news → v.oneCell' = true) {j : Nat} (D : j < news.length) : (news.getD j undef).oneCell' = true := by
 rw [List.getD, List.getElem?_eq_getElem D]; exact h _ (List.getElem_mem D)
theorem Lm {es : List (List T)} {sz : Nat} (hel : ∀ (i : Nat) (e : List T), es[i]? = some e → e.length = sz) {i : Nat} {e : List T} (he : es[i]? = some e) {j : Nat} {x : T} (hx : e[j]? = some x) : i * sz + j < es.length * sz := by
 have hi := (List.getElem?_eq_some_iff.1 he).1
 have D := (List.getElem?_eq_some_iff.1 hx).1
 rw [hel i e he] at D
 have : (i + 1) * sz ≤ es.length * sz := Nat.mul_le_mul_right _ hi
 rw [Nat.succ_mul] at this; omega
theorem O2 {H : GH} {a : Act} {w : World} {objs : List Ob} {s : A1} (r : SR n s H a) (wr : WR objs H w) {x : Operand} {t : TypeId} {ti ei : TI} {e sz : Nat} {z : Value} {es D : List (List T)} {v : Value}
  (ht : E.tab t = some ti) (hk : ti.kind = .slice e) (he : E.tab e = some ei) (hz : ei.zero = some z) (hsz : ei.size = sz) (hzs : z.cells.size = sz)
  (hs : UsR H w v e sz es) (hx : AppSrc s objs x sz D) (hmax : es.length + D.length ≤ Kv) (hb : (es.length + D.length) * ei.bytes ≤ 140737488355328) :
  ∃ v' w', (Builtin.append_ #[t, t] ty #[v, a.eval x]).run E.P w = .ok v' w' ∧ UsR H w' v' e sz (es ++ D) ∧ (w'.os = w.os ∧ w'.tape = w.tape ∧ w'.output = w.output) ∧ w.heap.size ≤ w'.heap.size ∧
   (∀ i, i < w.heap.size → i ∉ Ku v → w'.heap[i]? = w.heap[i]?) ∧ ∀ b, b ∈ Ku v' → w.heap.size ≤ b ∨ b ∈ Ku v := by
 obtain ⟨Z, c, news, q1, q2, q3, q4, q5, q6⟩ := hx n H a w r wr
 have hmx : es.length + D.length ≤ 140737488355328 := hmax
 obtain ⟨inf, f1, f2, f3, f4, f5⟩ := I8 (E.ok _ _ he) w
 have W : ∀ (i : Nat) (e : List T), D[i]? = some e → e.length = sz := fun i e he => (q6 i e he).1
 have Y := Ez (E.ok _ _ ht) hk
 rw [q1]
 rcases hs with ⟨rfl, rfl⟩ | ⟨b, cp, cap, rfl, p1, p2, M, a1, a2, a3, a4, a5, a6⟩
 ·simp only [List.length_nil, Nat.zero_add, List.nil_append] at *
  cases Z with
  | none =>
   have := q4 rfl
   subst this
   refine ⟨.slice none 0 0, w, ?_, .inl ⟨rfl, rfl⟩, ⟨rfl, rfl, rfl⟩, Nat.le_refl _, fun _ _ _ => rfl, by simp [Ku]⟩
   simp [Builtin.append_, run_underlying Y, sizeOf, typeInfo, f5, Builtin.lenOf, Builtin.firstCells]
  | some Z =>
   rcases Nat.eq_zero_or_pos D.length with h0 | h0
   ·have : D = [] := List.length_eq_zero_iff.1 h0
    subst this
    refine ⟨.slice none 0 0, w, ?_, .inl ⟨rfl, rfl⟩, ⟨rfl, rfl, rfl⟩, Nat.le_refl _, fun _ _ _ => rfl, by simp [Ku]⟩
    have hfc := run_firstCells_some (P := E.P) w inf.size 0 Z 0 c [] (by simp) (by simp)
    simp [Builtin.append_, run_underlying Y, sizeOf, typeInfo, f5, Builtin.lenOf, hfc]
   ·have X := run_append_nil (P := E.P) w t ty e inf z Y f5 (by rw [f4]; exact hz) Z D.length c news (by rw [f2, hsz]; exact q2) (q5 Z rfl) h0 (by omega) (by rw [f3]; omega)
    have hge := grownCap_ge w D.length 0 e
    have hor : ArrR H (w.drew.alloc (.cells (news.toArray ++ Builtin.zeroCells z.cells (grownCap w D.length 0 e - D.length)) e)) w.heap.size e sz (grownCap w D.length 0 e) ([] ++ D) := by
     refine Jz (heap_alloc_new w.drew _) ?_ (by simpa using hge) (by simpa using hmax) (by simp) W (by simp) ?_
     ·rw [Array.size_append, size_zeroCells, hzs]; simp only [List.size_toArray, q2]
      rw [← Nat.add_mul]; congr 1; omega
     ·intro i e' G j y hy
      have hlt := Lm W G hy
      have hgd : (news.toArray ++ Builtin.zeroCells z.cells (grownCap w D.length 0 e - D.length)).getD (([] : List (List T)).length * sz + (i * sz + j)) undef = news.getD (i * sz + j) undef := by
       simp [Array.getD_eq_getD_getElem?, Array.getElem?_append, show i * sz + j < news.length by omega, List.getD]
      rw [hgd]
      exact ⟨Qs q3 (by omega), (q6 i e' G).2 j y hy⟩
    simp only [List.nil_append] at hor
    exact ⟨_, _, X, .inr ⟨_, _, _, rfl, hge, Nat.le_refl _, hor⟩, ⟨rfl, rfl, rfl⟩, by show w.heap.size ≤ (w.heap.push _).size; simp, fun k hk _ => heap_alloc_old w.drew _ hk, by simp [Ku]⟩
 ·cases Z with
  | none =>
   have := q4 rfl
   subst this
   refine ⟨.slice (some ⟨b, 0, none⟩) es.length cp, w, ?_, .inr ⟨b, cp, cap, by simp, by simpa using p1, p2, M, a1, a2, by simpa using a3, by simpa using a4, by simpa using a5, by simpa using a6⟩, ⟨rfl, rfl, rfl⟩, Nat.le_refl _, fun _ _ _ => rfl, fun b hb => .inr hb⟩
   have h2 : es.length ≤ cp := p1
   simp [Builtin.append_, run_underlying Y, sizeOf, typeInfo, f5, Builtin.lenOf, Builtin.firstCells, h2, storeCells]
  | some Z =>
   by_cases hroom : es.length + D.length ≤ cp
   ·have hfit : es.length * sz + news.length ≤ M.size := by rw [q2, a2, ← Nat.add_mul]; exact Nat.mul_le_mul_right _ (by omega)
    have X := run_append_room (P := E.P) w t ty e inf Y f5 b es.length cp M a1 Z D.length c news (by rw [f2, hsz]; exact q2) (q5 Z rfl) q3 hroom (by rw [f2, hsz]; exact hfit)
    rw [f2, hsz] at X
    refine ⟨_, _, X, .inr ⟨b, cp, cap, by simp, by simpa using hroom, p2, ?_⟩, ⟨rfl, rfl, rfl⟩, by rw [Ov]; exact Nat.le_refl _, fun k _ hk => setRow_other w b k _ (by simpa [Ku] using hk), fun b' hb' => .inr (by simpa [Ku] using hb')⟩
    refine Jz (setRow_heap w b M _ e _ a1) ?_ (by omega) hmax a5 W ?_ ?_
    ·simp only [List.size_toArray, List.length_append, List.length_take, List.length_drop, Array.length_toList]
     omega
    ·intro i e' G j y hy
     have hlt := Lm a5 G hy
     rw [Qy hfit, if_neg (by omega)]
     exact a6 i e' G j y hy
    ·intro i e' G j y hy
     have hlt := Lm W G hy
     rw [Qy hfit, if_pos (by omega), Nat.add_sub_cancel_left]
     exact ⟨Qs q3 (by omega), (q6 i e' G).2 j y hy⟩
   ·have O : (M.toList.take (es.length * sz)).length = es.length * sz := by
     have : es.length * sz ≤ M.size := by rw [a2]; exact Nat.mul_le_mul_right _ a3
     simp; omega
    have X := run_append_grow (P := E.P) w t ty e inf z Y f5 (by rw [f4]; exact hz) ⟨b, 0, none⟩ es.length cp (M.toList.take (es.length * sz)) (by rw [f2, hsz]; exact O)
     (fun j u hu => by
      rw [D7]
      have hj : j < es.length * sz := by have := (List.getElem?_eq_some_iff.1 hu).1; rw [O] at this; exact this
      rw [List.getElem?_take_of_lt hj] at hu
      simpa [World.cell?, a1] using hu)
     Z D.length c news (by rw [f2, hsz]; exact q2) (q5 Z rfl) (by omega) (by omega) (by rw [f3]; exact growslice_fits (by omega) hb)
    have hge := grownCap_ge w (es.length + D.length) cp e
    refine ⟨_, _, X, .inr ⟨w.heap.size, _, grownCap w (es.length + D.length) cp e, by simp, by simpa using hge, Nat.le_refl _, ?_⟩, ⟨rfl, rfl, rfl⟩, by show w.heap.size ≤ (w.heap.push _).size; simp, fun k hk _ => heap_alloc_old w.drew _ hk, fun b' hb' => .inl (by simp [Ku] at hb'; omega)⟩
    refine Jz (heap_alloc_new w.drew _) ?_ hge hmax a5 W ?_ ?_
    ·simp only [Array.size_append, size_zeroCells, hzs, List.size_toArray, O, q2]
     rw [← Nat.add_mul, ← Nat.add_mul]; congr 1; omega
    ·intro i e' G j y hy
     have hlt := Lm a5 G hy
     have hgd : ((M.toList.take (es.length * sz)).toArray ++ news.toArray ++ Builtin.zeroCells z.cells (grownCap w (es.length + D.length) cp e - (es.length + D.length))).getD (i * sz + j) undef = M.getD (i * sz + j) undef := by
      have hc : es.length * sz ≤ M.size := by rw [a2]; exact Nat.mul_le_mul_right _ a3
      simp only [Array.getD_eq_getD_getElem?, Array.getElem?_append, Array.size_append, List.size_toArray, O, List.getElem?_toArray]
      rw [if_pos (by omega), if_pos (by omega), List.getElem?_take_of_lt hlt]
      simp
     rw [hgd]
     exact a6 i e' G j y hy
    ·intro i e' G j y hy
     have hlt := Lm W G hy
     have hgd : ((M.toList.take (es.length * sz)).toArray ++ news.toArray ++ Builtin.zeroCells z.cells (grownCap w (es.length + D.length) cp e - (es.length + D.length))).getD (es.length * sz + (i * sz + j)) undef = news.getD (i * sz + j) undef := by
      simp only [Array.getD_eq_getD_getElem?, Array.getElem?_append, Array.size_append, List.size_toArray, O, List.getElem?_toArray]
      rw [if_pos (by omega), if_neg (by omega), Nat.add_sub_cancel_left]
      rfl
     rw [hgd]
     exact ⟨Qs q3 (by omega), (q6 i e' G).2 j y hy⟩
theorem N7 (v : Value) : (Ku v).Nodup := by
 unfold Ku
 split <;> simp
theorem O0 {a : Act} {w w' : World} {s x : Operand} {t : TypeId} {v D : Value} (G : a.eval s = v) (h : (Builtin.append_ #[t, t] ty #[v, a.eval x]).run E.P w = .ok D w') :
  (execOp a.eval ⟨dst, .call { callee := .builtin .append, args := #[s, x], argTypes := #[t, t] }, ty, pos, aft, g⟩).run E.P w = .ok (.value D) w' := by
 simp only [execOp, resolve, invoke, builtin, Sem.run_bind, Sem.run_pure, Result.andThen_ok, List.map_toArray, List.map_cons, List.map_nil, G, h]
theorem Fw (ks : Nat) {s x : Operand} {t : TypeId} {ti Y : TI} {e sz : Nat} {z v : Value} {es D es' : List (List T)} {R : St → Prop}
  (ht : E.tab t = some ti) (hk : ti.kind = .slice e) (he : E.tab e = some Y) (hz : Y.zero = some z) (hsz : Y.size = sz) (hzs : z.cells.size = sz) (Z : Nat.ble Y.bytes 2048 = true)
  (hs : Bn σ.slots s = some (.v v)) (O : σ.objs[ks]? = some (.us v e sz es))
  (hx : AppSrc σ.slots σ.objs x sz D) (hb : es.length + D.length ≤ 68719476736) (aa : es ++ D = es')
  (hd : ∀ d, dst = some d → d < n)
  (k : ∀ G, R ⟨Fn σ.slots dst (.v G), σ.objs.set ks (.us G e sz es')⟩) :
  AX E n C [ks] ⟨dst, .call { callee := .builtin .append, args := #[s, x], argTypes := #[t, t] }, ty, pos, aft, g⟩ σ R := by
 subst aa
 refine AX.value fun H a w M => ?_
 have W := Nat.le_of_ble_eq_true Z
 obtain ⟨G, w', h1, h2, h3, h4, h5, h6⟩ := O2 (ty := ty) M.sr M.wr ht hk he hz hsz hzs (M.objs _ (List.mem_of_getElem? O)) hx (by simp [Kv]; omega) (Nat.le_trans (Nat.mul_le_mul hb W) (by decide))
 refine ⟨G, w', _, H, O0 (M.sr.evalv hs) h1, k G, ?_, fun _ _ h => h, fun i p hp hm => ?_⟩
 ·have := (M.set (o' := .us G e sz (es ++ D)) O h3 h4 h5 h2 h6 (N7 G)).put (dst := dst) (.v G) hd
  cases dst <;> exact this
 ·have X : ks ≠ i := fun h => by subst h; simp at hm
  exact ⟨Nz hp X, fun b hb => h5 b ((M.objs p (List.mem_of_getElem? hp)).lt b hb) (M.apart O hp X b hb)⟩
theorem Rq {s x : Operand} {t : TypeId} {ti W : TI} {e sz : Nat} {z : Value} {D es' : List (List T)} {R : St → Prop}
  (ht : E.tab t = some ti) (hk : ti.kind = .slice e) (he : E.tab e = some W) (hz : W.zero = some z) (hsz : W.size = sz) (Z : z.cells.size = sz) (X : Nat.ble W.bytes 2048 = true)
  (hs : Bn σ.slots s = some (.v (.slice none 0 0)))
  (hx : AppSrc σ.slots σ.objs x sz D) (hb : D.length ≤ 68719476736) (Y : D = es')
  (hd : ∀ d, dst = some d → d < n)
  (k : ∀ G, R ⟨Fn σ.slots dst (.v G), σ.objs ++ [.us G e sz es']⟩) :
  AX E n C [] ⟨dst, .call { callee := .builtin .append, args := #[s, x], argTypes := #[t, t] }, ty, pos, aft, g⟩ σ R := by
 subst Y
 refine AX.value fun H a w M => ?_
 have O := Nat.le_of_ble_eq_true X
 obtain ⟨G, w', h1, h2, h3, h4, h5, h6⟩ := O2 (ty := ty) (es := []) M.sr M.wr ht hk he hz hsz Z (.inl ⟨rfl, rfl⟩) hx (by simp [Kv]; omega) (Nat.le_trans (Nat.mul_le_mul (by simpa using hb) O) (by decide))
 simp only [List.nil_append] at h2
 refine ⟨G, w', _, H, O0 (M.sr.evalv hs) h1, k G, ?_, fun _ _ h => h, fun i p hp hm => ?_⟩
 ·have := (M.more (ob := .us G e sz D) h3 h4 (fun i hi => h5 i hi (by simp [Ku])) h2 (fun b hb => (h6 b hb).resolve_right (by simp [Ku])) (N7 G)).put (dst := dst) (.v G) hd
  cases dst <;> exact this
 ·exact ⟨Fj hp, fun b hb => h5 b ((M.objs p (List.mem_of_getElem? hp)).lt b hb) (by simp [Ku])⟩
theorem mG {H : GH} {a : Act} {w : World} (M : Gam n C σ H a w) {k : Nat} {o : Ob} (hk : σ.objs[k]? = some o) :
  ∃ H', (∀ b o, H b = some o → H' b = some o) ∧ Gam n C ⟨σ.slots, σ.objs.eraseIdx k⟩ H' a w ∧ (∀ b, b ∈ o.fp → H' b = w.heap[b]?) ∧ OR H' w o := by
 have hm := List.mem_of_getElem? hk
 have X := M.free _ hm
 have Z := M.new _ hm
 have D : ∀ G x, H G = some x → (if G ∈ o.fp then w.heap[G]? else H G) = some x := by
  intro G x W
  by_cases hb : G ∈ o.fp
  ·rw [X G hb] at W; cases W
  ·simp [hb, W]
 refine ⟨fun G => if G ∈ o.fp then w.heap[G]? else H G, D, ?_, fun b hb => by simp [hb], (M.objs _ hm).mono D (fun _ _ => rfl)⟩
 have O : ∀ p, p ∈ σ.objs.eraseIdx k → p ∈ σ.objs ∧ ∀ b, b ∈ p.fp → b ∉ o.fp := by
  intro p Y
  obtain ⟨i, hi⟩ := List.mem_iff_getElem?.1 Y
  rw [List.getElem?_eraseIdx] at hi
  split at hi
  ·rename_i ab
   exact ⟨List.mem_of_getElem? hi, M.apart hk hi (by omega)⟩
  ·rename_i ab
   exact ⟨List.mem_of_getElem? hi, M.apart hk hi (by omega)⟩
 refine ⟨M.defers.mono D, M.size, fun i x h => (M.slots i x h).mono D, fun p Y => (M.objs p (O p Y).1).mono D (fun _ _ => rfl), fun p Y b hb => ?_, fun p Y => M.new p (O p Y).1, ?_, ?_, ?_, M.heap, ?_, M.env⟩
 ·obtain ⟨h1, h2⟩ := O p Y
  simp [h2 b hb, M.free p h1 b hb]
 ·exact (D5 (List.eraseIdx_sublist σ.objs k)).nodup M.nodup
 ·intro G x W
  by_cases hb : G ∈ o.fp
  ·simpa [hb] using W
  ·simp [hb] at W; exact M.held _ _ W
 ·intro G x W; exact D _ _ (M.grow _ _ W)
 ·intro G aa hf
  obtain ⟨h1, h2⟩ := M.frame G aa hf
  refine ⟨h1, ?_⟩
  have : G ∉ o.fp := fun h => by rcases Z G h with h | h; omega; exact hf h
  simp [this, h2]
theorem ArrR.list {H : GH} {w : World} {b G sz cap : Nat} {es : List (List T)} (h : ArrR H w b G sz cap es) (hb : H b = w.heap[b]?) {c : Nat} (hc : es.length ≤ c) : VR H (.slice (some ⟨b, 0, none⟩) es.length c) (.list sz es) := by
 obtain ⟨cs, M, O, W, X, Y, D⟩ := h
 refine .list b 0 c sz es cs G (0, 0) (hb.trans M) hc X ?_ Y (fun i e he j x hx => by simpa using (D i e he j x hx).1) (fun i e he j x hx => by simpa using (D i e he j x hx).2)
 rw [O, Nat.zero_add]; exact Nat.mul_le_mul_right _ W
theorem UsR.list {H : GH} {w : World} {v : Value} {G sz : Nat} {es : List (List T)} (h : UsR H w v G sz es) (hb : ∀ b, b ∈ Ku v → H b = w.heap[b]?) : VR H v (.list sz es) := by
 rcases h with ⟨rfl, rfl⟩ | ⟨b, c, cap, rfl, p1, p2, D⟩
 ·exact .empty _ _ _
 ·exact D.list (hb b (by simp [Ku])) p1
def G8 (szi : Nat) (L : List (List (List T))) : List (List T) := L.map fun es => [.list szi es]
theorem Zf {H : GH} {w : World} {v : Value} {ty tyi szi : Nat} {vs : List Value} {L : List (List (List T))} (h : OR H w (.uss v ty tyi szi vs (L.map some))) (hb : ∀ b, b ∈ (Ob.uss v ty tyi szi vs (L.map some)).fp → H b = w.heap[b]?) : VR H v (.list 1 (G8 szi L)) := by
 obtain ⟨h0, h1, h2⟩ := h
 have hlen : vs.length = L.length := by simpa using h0
 rcases h1 with ⟨rfl, h1⟩ | ⟨b, c, cap, rfl, p1, p2, cs, a1, a2, a3, a4, a5, a6⟩
 ·have : vs = [] := by simpa using h1
  subst this
  have : L = [] := List.length_eq_zero_iff.1 (by simpa using hlen.symm)
  subst this
  exact .empty _ _ _
 ·have hl : (G8 szi L).length = (vs.map fun x => [T.v x]).length := by simp [G8, hlen]
  rw [← hl]
  have G : ∀ (i : Nat) (e : List T), (G8 szi L)[i]? = some e → ∃ x es, e = [.list szi es] ∧ vs[i]? = some x ∧ VR H x (.list szi es) ∧ cs.getD (i * 1) undef = x ∧ x.oneCell' = true := by
   intro i e he
   simp only [G8, List.getElem?_map, Option.map_eq_some_iff] at he
   obtain ⟨es, M, rfl⟩ := he
   have hil := (List.getElem?_eq_some_iff.1 M).1
   have hx : vs[i]? = some vs[i] := List.getElem?_eq_getElem (by omega)
   have Z : (L.map some)[i]? = some (some es) := by simp [M]
   have hu := h2 i _ es hx Z
   have D := a6 i [T.v vs[i]] (by simp [hx]) 0 (T.v vs[i]) rfl
   simp only [Nat.add_zero] at D
   refine ⟨_, es, rfl, hx, hu.list (fun X W => hb X (by simp [Ob.fp, Kg hx Z X W])), D.2.v_eq, ?_⟩
   rw [← D.2.v_eq]; exact D.1
  refine .list b 0 c 1 (G8 szi L) cs ty (0, 0) ((hb b (by simp [Ob.fp, Ku])).trans a1) (by rw [hl]; exact p1) (by rw [hl]; exact a4) ?_ ?_ ?_ ?_
  ·rw [a2, Nat.zero_add]; rw [hl]; exact Nat.mul_le_mul_right _ a3
  ·intro i e he; obtain ⟨x, es, rfl, _⟩ := G i e he; rfl
  ·intro i e he j y hy
   obtain ⟨x, es, rfl, h3, Y, O, D⟩ := G i e he
   cases j with
   | zero => simp only [Nat.zero_add, Nat.add_zero]; rw [O]; exact D
   | succ j => simp at hy
  ·intro i e he j y hy
   obtain ⟨x, es, rfl, h3, Y, O, D⟩ := G i e he
   cases j with
   | zero => simp only [Nat.zero_add, Nat.add_zero]; rw [O]; simp at hy; subst hy; exact Y
   | succ j => simp at hy
def ACalls (E : Env) (f : FuncId) (G : List T) (fp : List Ob) (R : T → List Ob → Prop) : Prop :=
 (∃ fn, E.P.funcs[f]? = some fn ∧ (fn.name == "runtime.NumGoroutine") = false ∧ fn.body.isNone = false) ∧
 ∀ (H : GH) (w : World) (vs : Array Value), vs.size = G.length → (∀ (i : Nat) (x : T), G[i]? = some x → VR H (vs.getD i undef) x) → ((∀ b o, H b = some o → w.heap[b]? = some o) ∧ iK H) →
  (∀ p, p ∈ fp → OR H w p ∧ ∀ b, b ∈ p.fp → H b = none) → (fp.flatMap Ob.fp).Nodup →
  Calls E.P f vs w fun e w' => ∃ v x D H', e = .returned v ∧ R x D ∧ VR H' v x ∧ (∀ b o, H b = some o → H' b = some o) ∧ (∀ b o, H' b = some o → w'.heap[b]? = some o) ∧
   (∀ p, p ∈ D → OR H' w' p ∧ ∀ b, b ∈ p.fp → H' b = none ∧ (w.heap.size ≤ b ∨ b ∈ fp.flatMap Ob.fp)) ∧ (D.flatMap Ob.fp).Nodup ∧ w.heap.size ≤ w'.heap.size ∧
   (w'.os = w.os ∧ w'.tape = w.tape ∧ w'.output = w.output) ∧ ∀ b, b < w.heap.size → b ∉ fp.flatMap Ob.fp → w'.heap[b]? = w.heap[b]? ∧ H' b = H b
theorem ACalls.mono {f : FuncId} {G : List T} {fp : List Ob} {R R' : T → List Ob → Prop} (h : ACalls E f G fp R) (X : ∀ x D, R x D → R' x D) : ACalls E f G fp R' :=
 ⟨h.1, fun H w vs h1 h2 M O W => (h.2 H w vs h1 h2 M O W).mono fun e w' ⟨v, x, D, H', Y, Z, q⟩ => ⟨v, x, D, H', Y, X _ _ Z, q⟩⟩
def F7 (s : A1) : List Operand → Option (List T)
 | [] => some []
 | x :: l => match Bn s x, F7 s l with
  | some y, some ys => some (y :: ys)
  | _, _ => none
theorem Ft {s : A1} {H : GH} {a : Act} (r : SR n s H a) : ∀ {l : List Operand} {D : List T}, F7 s l = some D → (l.map a.eval).length = D.length ∧ ∀ (i : Nat) (y : T), D[i]? = some y → VR H ((l.map a.eval).getD i undef) y
 | [], D, h => by simp only [F7, Option.some.injEq] at h; subst h; simp
 | x :: l, D, h => by
  simp only [F7] at h
  split at h
  ·rename_i y W h1 h2
   simp only [Option.some.injEq] at h
   subst h
   obtain ⟨M, O⟩ := Ft r h2
   refine ⟨by simpa using M, fun i z G => ?_⟩
   cases i with
   | zero => simp at G; subst G; simpa using r.eval h1
   | succ i =>
    simp only [List.getElem?_cons_succ] at G
    simpa using O i z G
  ·simp at h
theorem Sr {H : GH} (l : List Value) : ∀ (i : Nat) (y : T), (l.map T.v)[i]? = some y → VR H (l.getD i undef) y := by
 intro i y h
 simp only [List.getElem?_map, Option.map_eq_some_iff] at h
 obtain ⟨v, hv, rfl⟩ := h
 simp [List.getD, hv]
 exact .v v
theorem VR.app {H : GH} {D M : List Value} {G O : List T} (hl : D.length = G.length) (h1 : ∀ (i : Nat) (y : T), G[i]? = some y → VR H (D.getD i undef) y) (h2 : ∀ (i : Nat) (y : T), O[i]? = some y → VR H (M.getD i undef) y) :
  ∀ (i : Nat) (y : T), (G ++ O)[i]? = some y → VR H ((D ++ M).getD i undef) y := by
 intro i y h
 rw [List.getElem?_append] at h
 split at h
 ·rename_i hi
  have := h1 i y h
  simpa [List.getD, List.getElem?_append, hl, hi] using this
 ·rename_i hi
  have := h2 _ y h
  simpa [List.getD, List.getElem?_append, hl, hi] using this
theorem Gam.called {H H' : GH} {a : Act} {w w' : World} (D : Gam n C σ H a w) {fp Z objs : List Ob} (aa : ∀ p, p ∈ fp → p ∈ σ.objs)
  (hH : ∀ b o, H b = some o → H' b = some o) (W : ∀ b o, H' b = some o → w'.heap[b]? = some o)
  (O : ∀ p, p ∈ Z → OR H' w' p ∧ ∀ b, b ∈ p.fp → H' b = none ∧ (w.heap.size ≤ b ∨ b ∈ fp.flatMap Ob.fp)) (hsz : w.heap.size ≤ w'.heap.size) (M : w'.os = w.os ∧ w'.tape = w.tape ∧ w'.output = w.output)
  (ab : ∀ b, b < w.heap.size → b ∉ fp.flatMap Ob.fp → w'.heap[b]? = w.heap[b]? ∧ H' b = H b)
  (G : ∀ p, p ∈ objs → p ∈ Z ∨ (p ∈ σ.objs ∧ ∀ b, b ∈ p.fp → b ∉ fp.flatMap Ob.fp)) (hnd : (objs.flatMap Ob.fp).Nodup) : Gam n C ⟨σ.slots, objs⟩ H' a w' := by
 have hold : ∀ p, p ∈ σ.objs → (∀ b, b ∈ p.fp → b ∉ fp.flatMap Ob.fp) → ∀ b, b ∈ p.fp → w'.heap[b]? = w.heap[b]? ∧ H' b = H b := fun p X Y b hb => ab b ((D.objs p X).lt b hb) (Y b hb)
 refine ⟨D.defers.mono hH, D.size, fun i x h => (D.slots i x h).mono hH, ?_, ?_, ?_, hnd, W, fun b o h => hH _ _ (D.grow _ _ h), Nat.le_trans D.heap hsz, ?_, ⟨M.1.trans D.env.1, M.2.1.trans D.env.2.1, M.2.2.trans D.env.2.2⟩⟩
 ·intro p X
  rcases G p X with h | ⟨h, Y⟩
  ·exact (O p h).1
  ·exact (D.objs p h).mono hH (fun b hb => (hold p h Y b hb).1)
 ·intro p X b hb
  rcases G p X with h | ⟨h, Y⟩
  ·exact ((O p h).2 b hb).1
  ·rw [(hold p h Y b hb).2]; exact D.free p h b hb
 ·intro p X b hb
  rcases G p X with h | ⟨h, Y⟩
  ·rcases ((O p h).2 b hb).2 with h | h
   ·exact .inl (Nat.le_trans D.heap h)
   ·obtain ⟨q, hq, he⟩ := List.mem_flatMap.1 h
    exact D.new q (aa q hq) b he
  ·exact D.new p h b hb
 ·intro b hb hf
  have hbn : b ∉ fp.flatMap Ob.fp := fun h => by
   obtain ⟨q, hq, he⟩ := List.mem_flatMap.1 h
   rcases D.new q (aa q hq) b he with h | h
   ·omega
   ·exact hf h
  obtain ⟨h1, h2⟩ := ab b (Nat.lt_of_lt_of_le hb D.heap) hbn
  obtain ⟨h3, h4⟩ := D.frame b hb hf
  exact ⟨h1.trans h3, h2.trans h4⟩
def D1 (objs : List Ob) : List Nat → Option (List Ob)
 | [] => some []
 | k :: ks => match objs[k]?, D1 objs ks with
  | some o, some l => some (o :: l)
  | _, _ => none
def Co (objs : List Ob) : List Nat → List Ob → List Ob
 | k :: ks, o :: os => Co (objs.set k o) ks os
 | _, _ => objs
theorem Hm {objs : List Ob} : ∀ {ks : List Nat} {fp : List Ob}, D1 objs ks = some fp → fp.length = ks.length ∧ (∀ (i : Nat) (k : Nat), ks[i]? = some k → ∃ o, objs[k]? = some o ∧ fp[i]? = some o)
 | [], fp, h => by simp only [D1, Option.some.injEq] at h; subst h; simp
 | k :: ks, fp, h => by
  simp only [D1] at h
  split at h
  ·rename_i o l h1 h2
   simp only [Option.some.injEq] at h
   subst h
   obtain ⟨M, O⟩ := Hm h2
   refine ⟨by simp [M], fun i G D => ?_⟩
   cases i with
   | zero => simp at D; subst D; exact ⟨o, h1, rfl⟩
   | succ i => simpa using O i G (by simpa using D)
  ·cases h
theorem Ow : ∀ {ks : List Nat} {os : List Ob} (objs : List Ob), os.length = ks.length → ks.Nodup → (∀ k, k ∈ ks → k < objs.length) →
  (Co objs ks os).length = objs.length ∧ (∀ (i : Nat) (k : Nat), ks[i]? = some k → (Co objs ks os)[k]? = os[i]?) ∧ ∀ k, k ∉ ks → (Co objs ks os)[k]? = objs[k]?
 | [], os, objs, h, _, _ => by simp [Co]
 | k :: ks, [], objs, h, _, _ => by simp at h
 | k :: ks, o :: os, objs, h, hn, hl => by
  rw [List.nodup_cons] at hn
  obtain ⟨O, W, M⟩ := Ow (ks := ks) (os := os) (objs.set k o) (by simpa using h) hn.2 (fun G D => by simpa using hl G (by simp [D]))
  simp only [Co]
  refine ⟨by simpa using O, fun i G D => ?_, fun G D => ?_⟩
  ·cases i with
   | zero =>
    simp at D; subst D
    rw [M k hn.1, List.getElem?_set_self (hl k (by simp))]; rfl
   | succ i => simpa using W i G (by simpa using D)
  ·simp only [List.mem_cons, not_or] at D
   rw [M G D.2, List.getElem?_set_ne (Ne.symm D.1)]
theorem Ed {l : List Ob} : (l.flatMap Ob.fp).Nodup ↔ (∀ (i : Nat) (p : Ob), l[i]? = some p → p.fp.Nodup) ∧ ∀ (i j : Nat) (p q : Ob), l[i]? = some p → l[j]? = some q → i ≠ j → ∀ b, b ∈ p.fp → b ∉ q.fp := by
 constructor
 ·intro h
  refine ⟨fun i p hi => ?_, fun i j p q hi D G b hb => R5 h hi D G b hb⟩
  obtain ⟨W, X, rfl, _⟩ := L6 hi
  rw [List.flatMap_append, List.flatMap_cons, List.nodup_append, List.nodup_append] at h
  exact h.2.1.1
 ·rintro ⟨h1, h2⟩
  induction l with
  | nil => simp
  | cons a l ih =>
   rw [List.flatMap_cons, List.nodup_append]
   refine ⟨h1 0 a rfl, ih (fun i p hi => h1 (i + 1) p (by simpa using hi)) (fun i j p q hi D G b hb => h2 (i + 1) (j + 1) p q (by simpa using hi) (by simpa using D) (by omega) b hb), ?_⟩
   intro x hx y hy M
   subst M
   obtain ⟨q, O, hb⟩ := List.mem_flatMap.1 hy
   obtain ⟨j, D⟩ := List.mem_iff_getElem?.1 O
   exact h2 0 (j + 1) a q rfl (by simpa using D) (by omega) x hx hb
def Mk : T → Option (FuncId × List T × List T)
 | .v (.func (.func f) first captured) => some (f, first.toList.map T.v, captured.toList.map T.v)
 | .fn f first caps => some (f, first, caps)
 | _ => none
theorem Qz {H : GH} {v : Value} {y : T} {f : FuncId} {G M : List T} (h : VR H v y) (hf : Mk y = some (f, G, M)) :
  ∃ vf vc : Array Value, v = .func (.func f) vf vc ∧ vf.size = G.length ∧ vc.size = M.length ∧ (∀ (i : Nat) (x : T), G[i]? = some x → VR H (vf.toList.getD i undef) x) ∧
   (∀ (i : Nat) (x : T), M[i]? = some x → VR H (vc.toList.getD i undef) x) := by
 have conv : ∀ (arr : Array Value) (i : Nat), arr.getD i undef = arr.toList.getD i undef := fun arr i => by
  simp [Array.getD_eq_getD_getElem?, List.getD]
 cases h with
 | v x =>
  unfold Mk at hf
  split at hf
  ·rename_i O first D he
   simp only [Option.some.injEq, Prod.mk.injEq] at hf
   obtain ⟨rfl, rfl, rfl⟩ := hf
   cases he
   exact ⟨first, D, rfl, by simp, by simp, Sr first.toList, Sr D.toList⟩
  ·rename_i he; cases he
  ·simp at hf
 | fn O vf vc fs cs h1 h2 h3 h4 =>
  simp only [Mk, Option.some.injEq, Prod.mk.injEq] at hf
  obtain ⟨rfl, rfl, rfl⟩ := hf
  exact ⟨vf, vc, rfl, h1, h2, fun i x hx => by rw [← conv]; exact h3 i x hx, fun i x hx => by rw [← conv]; exact h4 i x hx⟩
 | _ => simp [Mk] at hf
theorem AX.call {md : List Nat} {c : Operand} {args : Array Operand} {Z : Array TypeId} {f : FuncId} {X Y xs ys : List T} {fp : List Ob} {Rc : T → List Ob → Prop} {R : St → Prop}
  (hc : (Bn σ.slots c).bind Mk = some (f, X, Y)) (hx : F7 σ.slots args.toList = some xs) (ag : X ++ xs ++ Y = ys)
  (h : ACalls E f ys fp Rc) (O : ∀ p, p ∈ fp → p ∈ σ.objs) (af : (fp.flatMap Ob.fp).Nodup) (hd : ∀ d, dst = some d → d < n)
  (k : ∀ H a w H' w' v x G, Gam n C σ H a w → Rc x G → VR H' v x → (∀ b o, H b = some o → H' b = some o) → (∀ b o, H' b = some o → w'.heap[b]? = some o) →
   (∀ p, p ∈ G → OR H' w' p ∧ ∀ b, b ∈ p.fp → H' b = none ∧ (w.heap.size ≤ b ∨ b ∈ fp.flatMap Ob.fp)) → (G.flatMap Ob.fp).Nodup → w.heap.size ≤ w'.heap.size → (w'.os = w.os ∧ w'.tape = w.tape ∧ w'.output = w.output) →
   (∀ b, b < w.heap.size → b ∉ fp.flatMap Ob.fp → w'.heap[b]? = w.heap[b]? ∧ H' b = H b) →
   ∃ objs, R ⟨Fn σ.slots dst x, objs⟩ ∧ Gam n C ⟨σ.slots, objs⟩ H' a w' ∧ ∀ i p, σ.objs[i]? = some p → md.contains i = false → objs[i]? = some p ∧ ∀ b, b ∈ p.fp → w'.heap[b]? = w.heap[b]?) :
  AX E n C md ⟨dst, .call { callee := .value c, args := args, argTypes := Z }, ty, pos, aft, g⟩ σ R := by
 intro H a w M
 subst ag
 obtain ⟨⟨fn, f1, f2, f3⟩, h⟩ := h
 obtain ⟨k1, k2⟩ := Ft M.sr hx
 obtain ⟨y, hy, ad⟩ := Option.bind_eq_some_iff.1 hc
 obtain ⟨first, D, ac, z1, z2, z3, z4⟩ := Qz (M.sr.eval hy) ad
 have W : (execOp a.eval ⟨dst, .call { callee := .value c, args := args, argTypes := Z }, ty, pos, aft, g⟩).run E.P w = .ok (.enter f (first ++ args.map a.eval ++ D)) w := by
  have aa : ¬ fn.name = "runtime.NumGoroutine" := by simpa using f2
  have ab : ¬ fn.body = none := by
   intro hb; rw [hb] at f3; simp at f3
  simp [execOp, resolve, ac, Deferred.ofValue, invoke, callFunc, f1, aa, ab]
 simp only [Oper.wp, W, Oper.upon]
 have hl : (first ++ args.map a.eval ++ D).toList = first.toList ++ args.toList.map a.eval ++ D.toList := by simp
 refine (h H w (first ++ args.map a.eval ++ D) ?_ ?_ ⟨M.held, fun b l h => (C.hg b l h).mono M.grow⟩ (fun p hp => ⟨M.objs p (O p hp), M.free p (O p hp)⟩) af).mono ?_
 ·rw [← Array.length_toList, hl]; simp at k1 ⊢; omega
 ·intro i x ae
  rw [Array.getD_eq_getD_getElem?, ← Array.getElem?_toList, hl]
  have := VR.app (H := H) (by simp at k1 ⊢; omega) (VR.app (H := H) (by simp; omega) z3 k2) z4 i x ae
  simpa [List.getD] using this
 ·rintro e w' ⟨v, x, G, H', rfl, q2, q3, q4, q5, q6, q7, q8, ah, q9⟩
  obtain ⟨objs, r1, r2, r3⟩ := k H a w H' w' v x G M q2 q3 q4 q5 q6 q7 q8 ah q9
  refine ⟨_, H', v, r1, ?_, rfl, q4, r3⟩
  have := r2.put (dst := dst) q3 hd
  cases dst <;> exact this
theorem Vx (ks : List Nat) {c : Operand} {args : Array Operand} {tys : Array TypeId} {f : FuncId} {pre suf xs ys : List T} {fp : List Ob} {Rc : T → List Ob → List Ob → Prop} {R : St → Prop}
  (hc : (Bn σ.slots c).bind Mk = some (f, pre, suf)) (hx : F7 σ.slots args.toList = some xs) (hys : pre ++ xs ++ suf = ys)
  (hk : D1 σ.objs ks = some fp) (hkn : ks.Nodup) (h : ACalls E f ys fp (fun x fp' => ∃ os new, fp' = os ++ new ∧ os.length = fp.length ∧ Rc x os new)) (hd : ∀ d, dst = some d → d < n)
  (k : ∀ x os new, os.length = fp.length → Rc x os new → R ⟨Fn σ.slots dst x, Co σ.objs ks os ++ new⟩) :
  AX E n C ks ⟨dst, .call { callee := .value c, args := args, argTypes := tys }, ty, pos, aft, g⟩ σ R := by
 obtain ⟨p1, p2⟩ := Hm hk
 have X : ∀ p, p ∈ fp → ∃ (i k : Nat), fp[i]? = some p ∧ ks[i]? = some k ∧ σ.objs[k]? = some p := by
  intro p Z
  obtain ⟨i, hi⟩ := List.mem_iff_getElem?.1 Z
  have W := (List.getElem?_eq_some_iff.1 hi).1
  obtain ⟨o, h1, h2⟩ := p2 i ks[i] (List.getElem?_eq_getElem (by omega))
  rw [hi] at h2
  cases h2
  exact ⟨i, ks[i], hi, List.getElem?_eq_getElem (by omega), h1⟩
 have hfpm : ∀ p, p ∈ fp → p ∈ σ.objs := fun p Z => by obtain ⟨i, k, _, _, h⟩ := X p Z; exact List.mem_of_getElem? h
 refine fun H a w gm => AX.call (md := ks) hc hx hys h hfpm ?_ hd ?_ H a w gm
 ·refine Ed.2 ⟨fun i p hi => ?_, fun i j p q hi hj hne b hb => ?_⟩
  ·obtain ⟨_, k, _, _, hk⟩ := X p (List.mem_of_getElem? hi)
   exact (Ed.1 gm.nodup).1 k p hk
  ·have W := (List.getElem?_eq_some_iff.1 hi).1
   have hjl := (List.getElem?_eq_some_iff.1 hj).1
   obtain ⟨o, h1, h2⟩ := p2 i ks[i] (List.getElem?_eq_getElem (by omega))
   obtain ⟨o', h1', h2'⟩ := p2 j ks[j] (List.getElem?_eq_getElem (by omega))
   rw [hi] at h2; cases h2
   rw [hj] at h2'; cases h2'
   refine R5 gm.nodup h1 h1' (fun he => hne ?_) b hb
   exact (List.getElem?_inj (by omega) hkn).1 (by rw [List.getElem?_eq_getElem (by omega), List.getElem?_eq_getElem (by omega), he])
 ·rintro H a w H' w' v x fp' gm ⟨os, new, rfl, hol, q2⟩ q3 q4 q5 q6 q7 q8 q10 q9
  have hlt : ∀ k, k ∈ ks → k < σ.objs.length := by
   intro k hk
   obtain ⟨i, hi⟩ := List.mem_iff_getElem?.1 hk
   obtain ⟨o, h1, _⟩ := p2 i k hi
   exact (List.getElem?_eq_some_iff.1 h1).1
  obtain ⟨s1, s2, s3⟩ := Ow (ks := ks) (os := os) σ.objs (by omega) hkn hlt
  have M : ∀ (i : Nat) (p : Ob), σ.objs[i]? = some p → i ∉ ks → ∀ b, b ∈ p.fp → b ∉ fp.flatMap Ob.fp := by
   intro i p hi Y b hb O
   obtain ⟨q, hq, hbq⟩ := List.mem_flatMap.1 O
   obtain ⟨j, k, _, h2, h3⟩ := X q hq
   exact R5 gm.nodup hi h3 (fun he => Y (by rw [he]; exact List.mem_of_getElem? h2)) b hb hbq
  have D : ∀ (i : Nat) (p : Ob), (Co σ.objs ks os ++ new)[i]? = some p → (∃ m : Nat, (os ++ new)[m]? = some p ∧ ((i < σ.objs.length ∧ ks[m]? = some i) ∨ (σ.objs.length ≤ i ∧ m = os.length + (i - σ.objs.length)))) ∨ (i ∉ ks ∧ σ.objs[i]? = some p) := by
   intro i p hi
   rw [List.getElem?_append] at hi
   split at hi
   ·rename_i W
    by_cases hki : i ∈ ks
    ·obtain ⟨m, O⟩ := List.mem_iff_getElem?.1 hki
     rw [s2 m i O] at hi
     exact .inl ⟨m, by rw [List.getElem?_append_left (List.getElem?_eq_some_iff.1 hi).1]; exact hi, .inl ⟨by omega, O⟩⟩
    ·rw [s3 i hki] at hi
     exact .inr ⟨hki, hi⟩
   ·rename_i W
    refine .inl ⟨os.length + (i - σ.objs.length), ?_, .inr ⟨by omega, rfl⟩⟩
    rw [List.getElem?_append_right (by omega), Nat.add_sub_cancel_left, ← s1]; exact hi
  have hnd := Ed.1 q7
  have hnd0 := Ed.1 gm.nodup
  have hout : ∀ (i : Nat) (p : Ob), σ.objs[i]? = some p → i ∉ ks → ∀ q, q ∈ os ++ new → ∀ b, b ∈ q.fp → b ∉ p.fp := by
   intro i p hi Y q hq b hb hbp
   rcases ((q6 q hq).2 b hb).2 with h | h
   ·have := (gm.objs p (List.mem_of_getElem? hi)).lt b hbp; omega
   ·exact M i p hi Y b hbp h
  refine ⟨Co σ.objs ks os ++ new, k x os new hol q2, gm.called hfpm q4 q5 q6 q8 q10 q9 ?_ ?_, ?_⟩
  ·intro p Z
   obtain ⟨i, hi⟩ := List.mem_iff_getElem?.1 Z
   rcases D i p hi with ⟨m, O, _⟩ | ⟨Y, G⟩
   ·exact .inl (List.mem_of_getElem? O)
   ·exact .inr ⟨List.mem_of_getElem? G, M i p G Y⟩
  ·refine Ed.2 ⟨fun i p hi => ?_, fun i j p q hi hj hne b hb => ?_⟩
   ·rcases D i p hi with ⟨m, O, _⟩ | ⟨Y, G⟩
    ·exact hnd.1 m p O
    ·exact hnd0.1 i p G
   ·rcases D i p hi with ⟨m, O, hm'⟩ | ⟨Y, G⟩ <;> rcases D j q hj with ⟨m2, hm2, hm2'⟩ | ⟨hn2, hj'⟩
    ·refine hnd.2 m m2 p q O hm2 (fun he => ?_) b hb
     subst he
     rcases hm' with ⟨h1, h2⟩ | ⟨h1, h2⟩ <;> rcases hm2' with ⟨h3, h4⟩ | ⟨h3, h4⟩
     ·rw [h2] at h4; cases h4; exact hne rfl
     ·have := (List.getElem?_eq_some_iff.1 h2).1; omega
     ·have := (List.getElem?_eq_some_iff.1 h4).1; omega
     ·omega
    ·exact hout j q hj' hn2 p (List.mem_of_getElem? O) b hb
    ·exact fun hbq => hout i p G Y q (List.mem_of_getElem? hm2) b hbq hb
    ·exact hnd0.2 i j p q G hj' hne b hb
  ·intro i p Z O
   have Y : i ∉ ks := by simpa using O
   refine ⟨?_, fun b hb => (q9 b ((gm.objs p (List.mem_of_getElem? Z)).lt b hb) (M i p Z Y b hb)).1⟩
   have W := (List.getElem?_eq_some_iff.1 Z).1
   rw [List.getElem?_append_left (by rw [s1]; exact W), s3 i Y]; exact Z
theorem Bp {c : Operand} {args : Array Operand} {X : Array TypeId} {f : FuncId} {D G Y Z : List T} {Rc : T → List Ob → Prop} {R : St → Prop}
  (hc : (Bn σ.slots c).bind Mk = some (f, D, G)) (hx : F7 σ.slots args.toList = some Y) (W : D ++ Y ++ G = Z)
  (h : ACalls E f Z [] Rc) (hd : ∀ d, dst = some d → d < n) (k : ∀ x new, Rc x new → R ⟨Fn σ.slots dst x, σ.objs ++ new⟩) :
  AX E n C [] ⟨dst, .call { callee := .value c, args := args, argTypes := X }, ty, pos, aft, g⟩ σ R :=
 Vx [] hc hx W (Rc := fun x _ new => Rc x new) rfl (by simp) (h.mono fun x M O => ⟨[], M, rfl, rfl, O⟩) hd (fun x os new hl O => by
  have : os = [] := List.length_eq_zero_iff.1 (by simpa using hl)
  subst this
  exact k x new O)
mutual
/-- What is of the call's own, read as what nobody writes. -/
inductive Lend (objs : List Ob) : T → T → Prop
 | refl (x : T) : Lend objs x x
 | nil (sz : Nat) : Lend objs (.v (.slice none 0 0)) (.list sz [])
 | us (k : Nat) {v : Value} {ty sz : Nat} {es : List (List T)} (h : objs[k]? = some (.us v ty sz es)) : Lend objs (.v v) (.list sz es)
 | uss (k : Nat) {v : Value} {ty tyi szi : Nat} {vs : List Value} {L : List (List (List T))} {es : List (List T)} (h : objs[k]? = some (.uss v ty tyi szi vs (L.map some))) (he : G8 szi L = es) : Lend objs (.v v) (.list 1 es)
 | box (k : Nat) {b ty sz : Nat} {e e' : List T} (h : objs[k]? = some (.arr b ty sz 1 [e])) (hl : LendL objs e e') : Lend objs (.v (.pointer (some ⟨b, 0, none⟩))) (.eptr e')
 | agg {cs cs' : List T} (hl : LendL objs cs cs') : Lend objs (.agg cs) (.agg cs')
 | fn {f : FuncId} {a a' c c' : List T} (h1 : LendL objs a a') (h2 : LendL objs c c') : Lend objs (.fn f a c) (.fn f a' c')
 | usd (k : Nat) {v : Value} {ty sz : Nat} {es es' : List (List T)} (h : objs[k]? = some (.us v ty sz es)) (hl : LendLL objs es es') : Lend objs (.v v) (.list sz es')
inductive LendL (objs : List Ob) : List T → List T → Prop
 | nil : LendL objs [] []
 | cons {x y : T} {l m : List T} (h : Lend objs x y) (t : LendL objs l m) : LendL objs (x :: l) (y :: m)
 | rest (l : List T) : LendL objs l l
inductive LendLL (objs : List Ob) : List (List T) → List (List T) → Prop
 | nil : LendLL objs [] []
 | cons {x y : List T} {l m : List (List T)} (h : LendL objs x y) (t : LendLL objs l m) : LendLL objs (x :: l) (y :: m)
 | rest (l : List (List T)) : LendLL objs l l
end
theorem LendLL.length {objs : List Ob} : ∀ {l m : List (List T)}, LendLL objs l m → l.length = m.length
 | _, _, .nil => rfl
 | _, _, .cons _ t => by simp [t.length]
 | _, _, .rest _ => rfl
theorem VR.rows {H : GH} {v : Value} {sz : Nat} {es es' : List (List T)} (h : VR H v (.list sz es)) (hl : es.length = es'.length)
  (M : ∀ (i : Nat) (e' : List T), es'[i]? = some e' → ∃ e, es[i]? = some e ∧ e.length = e'.length ∧ ∀ (j : Nat) (y : T), e'[j]? = some y → ∀ {v : Value}, (∀ x, e[j]? = some x → VR H v x) → VR H v y) : VR H v (.list sz es') := by
 cases h with
 | empty a cap sz =>
  have : es' = [] := List.length_eq_zero_iff.1 (by simpa using hl.symm)
  subst this; exact .empty _ _ _
 | list b off cap sz es cs ty fr hb hcap hmax hsz hel h1 hv =>
  rw [hl]
  refine .list b off cap sz es' cs ty fr hb (by omega) (by omega) (by rw [← hl]; exact hsz) (fun i e' D => ?_) (fun i e' D j y hy => ?_) (fun i e' D j y hy => ?_)
  ·obtain ⟨e, he, G, _⟩ := M i e' D
   rw [← G]; exact hel i e he
  ·obtain ⟨e, he, G, _⟩ := M i e' D
   have O : j < e.length := by rw [G]; exact (List.getElem?_eq_some_iff.1 hy).1
   exact h1 i e he j _ (List.getElem?_eq_getElem O)
  ·obtain ⟨e, he, G, W⟩ := M i e' D
   exact W j y hy fun x hx => hv i e he j x hx
theorem LendL.length {objs : List Ob} : ∀ {l m : List T}, LendL objs l m → l.length = m.length
 | _, _, .nil => rfl
 | _, _, .cons _ t => by simp [t.length]
 | _, _, .rest _ => rfl
theorem LendL.get {objs : List Ob} : ∀ {l m : List T}, LendL objs l m → ∀ (i : Nat) (y : T), m[i]? = some y → ∃ x, l[i]? = some x ∧ Lend objs x y
 | _, _, .nil, i, y, h => by simp at h
 | _, _, .cons h t, 0, y, hy => by simp at hy; subst hy; exact ⟨_, rfl, h⟩
 | _, _, .cons h t, i + 1, y, hy => by simpa using t.get i y (by simpa using hy)
 | _, _, .rest _, i, y, hy => ⟨y, hy, .refl y⟩
def E9 : T → Bool
 | .v _ => true
 | .tup l => flatL l
 | .agg l => flatL l
 | _ => false
where flatL : List T → Bool
 | [] => true
 | x :: l => E9 x && flatL l
theorem N4 : ∀ {l : List T}, E9.flatL l = true → ∀ (i : Nat) (x : T), l[i]? = some x → E9 x = true
 | [], _, i, x, h => by simp at h
 | y :: l, hl, 0, x, h => by simp at h; subst h; simp only [E9.flatL, Bool.and_eq_true] at hl; exact hl.1
 | y :: l, hl, i + 1, x, h => by simp only [E9.flatL, Bool.and_eq_true] at hl; exact N4 hl.2 i x (by simpa using h)
theorem VR.flat {H H' : GH} {v : Value} {x : T} (h : VR H v x) : E9 x = true → VR H' v x := by
 induction h with
 | v x => exact fun _ => .v x
 | empty a cap sz => intro h; simp [E9] at h
 | list => intro h; simp [E9] at h
 | agg vs cs hl h1 hv ih => exact fun h => .agg vs cs hl h1 (fun j x hx => ih j x hx (N4 (by simpa [E9] using h) j x hx))
 | tup vs cs hl hv ih => exact fun h => .tup vs cs hl (fun j x hx => ih j x hx (N4 (by simpa [E9] using h) j x hx))
 | eptr => intro h; simp [E9] at h
 | fn => intro h; simp [E9] at h
mutual
theorem Pb {H H1 : GH} {w : World} {objs : List Ob} (W : ∀ p, p ∈ objs → OR H1 w p) (hb : ∀ p, p ∈ objs → ∀ b, b ∈ p.fp → H1 b = w.heap[b]?) (X : ∀ b o, H b = some o → H1 b = some o) {x y : T} : Lend objs x y → ∀ {v : Value}, VR H v x → VR H1 v y
 | .refl _, v, h => h.mono X
 | .nil sz, v, h => by rw [h.v_eq]; exact .empty _ _ _
 | .us k hk, v, h => by
  rw [h.v_eq]
  have G := List.mem_of_getElem? hk
  exact UsR.list (W _ G) (hb _ G)
 | .uss k hk he, v, h => by
  rw [h.v_eq]
  subst he
  have G := List.mem_of_getElem? hk
  exact Zf (W _ G) (hb _ G)
 | .box k hk hl, v, h => by
  rw [h.v_eq]
  have G := List.mem_of_getElem? hk
  obtain ⟨cs, Z, a2, a3, a4, a5, Y⟩ : ArrR H1 w _ _ _ _ _ := W _ G
  have h5 := a5 0 _ rfl
  refine .eptr _ 0 _ cs _ _ ((hb _ G _ (by simp [Ob.fp])).trans Z) ?_ (fun j z M => ?_) (fun j z M => ?_)
  ·rw [← hl.length, h5, a2]; omega
  ·obtain ⟨O, D, _⟩ := hl.get j z M
   have := (Y 0 _ rfl j O D).1
   simpa using this
  ·exact Fi W hb (fun _ _ h => h) hl j z M (fun O D => by have := (Y 0 _ rfl j O D).2; simpa using this)
 | .agg hl, v, h => by
  cases h with
  | agg vs cs hsz h1 hv =>
   refine .agg vs _ (hsz.trans hl.length) (fun j z M => ?_) (fun j z M => Fi W hb X hl j z M (fun O D => hv j O D))
   obtain ⟨O, D, _⟩ := hl.get j z M
   exact h1 j O D
 | .usd k hk hl, v, h => by
  rw [h.v_eq]
  have G := List.mem_of_getElem? hk
  exact (UsR.list (W _ G) (hb _ G)).rows hl.length (Oc W hb (fun _ _ h => h) hl)
 | .fn ha hc, v, h => by
  cases h with
  | fn f vf vc fs cs h1 h2 h3 h4 =>
   exact .fn _ vf vc _ _ (h1.trans ha.length) (h2.trans hc.length) (fun j z M => Fi W hb X ha j z M (fun O D => h3 j O D)) (fun j z M => Fi W hb X hc j z M (fun O D => h4 j O D))
theorem Fi {H H1 : GH} {w : World} {objs : List Ob} (G : ∀ p, p ∈ objs → OR H1 w p) (hb : ∀ p, p ∈ objs → ∀ b, b ∈ p.fp → H1 b = w.heap[b]?) (D : ∀ b o, H b = some o → H1 b = some o) {l m : List T} : LendL objs l m →
  ∀ (j : Nat) (y : T), m[j]? = some y → ∀ {v : Value}, (∀ x, l[j]? = some x → VR H v x) → VR H1 v y
 | .nil, j, y, h, v, _ => by simp at h
 | .cons h t, 0, y, hy, v, hv => by simp at hy; subst hy; exact Pb G hb D h (hv _ rfl)
 | .cons h t, j + 1, y, hy, v, hv => Fi G hb D t j y (by simpa using hy) (fun x hx => hv x (by simpa using hx))
 | .rest _, j, y, hy, v, hv => (hv y hy).mono D
theorem Oc {H H1 : GH} {w : World} {objs : List Ob} (G : ∀ p, p ∈ objs → OR H1 w p) (hb : ∀ p, p ∈ objs → ∀ b, b ∈ p.fp → H1 b = w.heap[b]?) (D : ∀ b o, H b = some o → H1 b = some o) {l m : List (List T)} : LendLL objs l m →
  ∀ (i : Nat) (e' : List T), m[i]? = some e' → ∃ e, l[i]? = some e ∧ e.length = e'.length ∧ ∀ (j : Nat) (y : T), e'[j]? = some y → ∀ {v : Value}, (∀ x, e[j]? = some x → VR H v x) → VR H1 v y
 | .nil, i, y, h => by simp at h
 | .cons h t, 0, e', he => by simp at he; subst he; exact ⟨_, rfl, h.length, fun j y hy v hv => Fi G hb D h j y hy hv⟩
 | .cons h t, i + 1, e', he => by simpa using Oc G hb D t i e' (by simpa using he)
 | .rest _, i, e', he => ⟨e', he, rfl, fun j y hy v hv => (hv y hy).mono D⟩
end
theorem Dq {c : Operand} {args : Array Operand} {tys : Array TypeId} {f : FuncId} {xs ac ae af ys : List T} {y y' : T} {Rc : T → List Ob → Prop} {R : St → Prop}
  (hc : Bn σ.slots c = some y) (hy : Lend σ.objs y y') (hf : Mk y' = some (f, ae, af)) (hx : F7 σ.slots args.toList = some xs) (hl : LendL σ.objs xs ac) (hys : ae ++ ac ++ af = ys)
  (h : ACalls E f ys [] Rc) (hd : ∀ d, dst = some d → d < n) (ah : ∀ x new, Rc x new → E9 x = true) (k : ∀ x, (∃ new, Rc x new) → R ⟨Fn σ.slots dst x, σ.objs⟩) :
  AX E n C [] ⟨dst, .call { callee := .value c, args := args, argTypes := tys }, ty, pos, aft, g⟩ σ R := by
 intro H a w G
 subst hys
 obtain ⟨⟨fn, f1, f2, f3⟩, h⟩ := h
 obtain ⟨k1, k2⟩ := Ft G.sr hx
 have ad : ∀ b o, H b = some o → b ∉ σ.objs.flatMap Ob.fp := fun b o hb hm => by
  obtain ⟨p, M, ag⟩ := List.mem_flatMap.1 hm
  rw [G.free p M b ag] at hb; cases hb
 obtain ⟨H1, Z⟩ : ∃ H1 : GH, H1 = fun b => if b ∈ σ.objs.flatMap Ob.fp then w.heap[b]? else H b := ⟨_, rfl⟩
 have W : ∀ b o, H b = some o → H1 b = some o := fun b o hb => by rw [Z]; simp only [ad b o hb, if_false]; exact hb
 have ho1 : ∀ p, p ∈ σ.objs → OR H1 w p := fun p M => (G.objs p M).mono W (fun _ _ => rfl)
 have ak : ∀ p, p ∈ σ.objs → ∀ b, b ∈ p.fp → H1 b = w.heap[b]? := fun p M b hb => by
  rw [Z]; simp only [List.mem_flatMap.2 ⟨p, M, hb⟩, if_true]
 have ab : ∀ b o, H1 b = some o → w.heap[b]? = some o := fun b o hb => by
  rw [Z] at hb
  dsimp only at hb
  split at hb
  ·exact hb
  ·exact G.held b o hb
 have hvy := Pb ho1 ak W hy (G.sr.eval hc)
 obtain ⟨first, D, hev, z1, z2, z3, z4⟩ := Qz hvy hf
 have hrun : (execOp a.eval ⟨dst, .call { callee := .value c, args := args, argTypes := tys }, ty, pos, aft, g⟩).run E.P w = .ok (.enter f (first ++ args.map a.eval ++ D)) w := by
  have f2' : ¬ fn.name = "runtime.NumGoroutine" := by simpa using f2
  have f3' : ¬ fn.body = none := by
   intro hb; rw [hb] at f3; simp at f3
  simp [execOp, resolve, hev, Deferred.ofValue, invoke, callFunc, f1, f2', f3']
 simp only [Oper.wp, hrun, Oper.upon]
 have hxl : xs.length = ac.length := hl.length
 have O : (first ++ args.map a.eval ++ D).toList = first.toList ++ args.toList.map a.eval ++ D.toList := by simp
 refine (h H1 w (first ++ args.map a.eval ++ D) ?_ ?_ ⟨ab, fun b l h => (C.hg b l h).mono fun b o hb => W b o (G.grow b o hb)⟩ (by simp) (by simp)).mono ?_
 ·rw [← Array.length_toList, O]; simp at k1 ⊢; omega
 ·intro i x hix
  rw [Array.getD_eq_getD_getElem?, ← Array.getElem?_toList, O]
  have hxs : ∀ (i : Nat) (y : T), ac[i]? = some y → VR H1 ((args.toList.map a.eval).getD i undef) y := fun i y hy => Fi ho1 ak W hl i y hy (fun x hx => k2 i x hx)
  have := VR.app (H := H1) (by simp at k1 ⊢; omega) (VR.app (H := H1) (by simp; omega) z3 hxs) z4 i x hix
  simpa [List.getD] using this
 ·rintro e w' ⟨v, x, aj, H', rfl, q2, q3, q4, q5, q6, q7, q8, ai, q9⟩
  have q9' : ∀ b, b < w.heap.size → w'.heap[b]? = w.heap[b]? ∧ H' b = H1 b := fun b hb => q9 b hb (by simp)
  obtain ⟨H2, aa⟩ : ∃ H2 : GH, H2 = fun b => if b ∈ σ.objs.flatMap Ob.fp then none else H' b := ⟨_, rfl⟩
  have X : ∀ b o, H b = some o → H2 b = some o := fun b o hb => by
   rw [aa]; simp only [ad b o hb, if_false]; exact q4 _ _ (W b o hb)
  have h2' : ∀ b o, H2 b = some o → H' b = some o := fun b o hb => by
   rw [aa] at hb
   dsimp only at hb
   split at hb
   ·cases hb
   ·exact hb
  have Y : ∀ p, p ∈ σ.objs → ∀ b, b ∈ p.fp → w'.heap[b]? = w.heap[b]? := fun p M b hb => (q9' b ((G.objs p M).lt b hb)).1
  refine ⟨_, H2, v, k x ⟨aj, q2⟩, ?_, rfl, X, fun i p M _ => ⟨M, Y p (List.mem_of_getElem? M)⟩⟩
  have g2 : Gam n C σ H2 a w' := by
   refine ⟨G.defers.mono X, G.size, fun i x h => (G.slots i x h).mono X, fun p M => (G.objs p M).mono X (Y p M), fun p M b hb => ?_, G.new, G.nodup, fun b o hb => q5 _ _ (h2' b o hb), fun b o hb => X _ _ (G.grow _ _ hb), Nat.le_trans G.heap q8, fun b hb hf => ?_, ⟨ai.1.trans G.env.1, ai.2.1.trans G.env.2.1, ai.2.2.trans G.env.2.2⟩⟩
   ·rw [aa]; simp only [List.mem_flatMap.2 ⟨p, M, hb⟩, if_true]
   ·obtain ⟨h1, h2⟩ := q9' b (Nat.lt_of_lt_of_le hb G.heap)
    obtain ⟨h3, h4⟩ := G.frame b hb hf
    refine ⟨h1.trans h3, ?_⟩
    rw [aa]
    dsimp only
    split
    ·rename_i hm
     obtain ⟨p, M, ag⟩ := List.mem_flatMap.1 hm
     rcases G.new p M b ag with h | h
     ·omega
     ·exact absurd h hf
    ·rename_i hm
     rw [h2, Z]
     simp only [hm, if_false]; exact h4
  have := g2.put (dst := dst) (q3.flat (H' := H2) (ah x aj q2)) hd
  cases dst <;> exact this
def T0 : Ob → Bool
 | .us _ _ _ es => es.all fun e => e.all E9
 | _ => false
theorem OR.flat {H H' : GH} {w : World} {o : Ob} (h : OR H w o) (hf : T0 o = true) : OR H' w o := by
 cases o with
 | us v ty sz es =>
  rcases h with h | ⟨b, c, cap, rfl, h1, h2, cs, G, M, O, W, X, D⟩
  ·exact .inl h
  ·refine .inr ⟨b, c, cap, rfl, h1, h2, cs, G, M, O, W, X, fun i e he j x hx => ⟨(D i e he j x hx).1, (D i e he j x hx).2.flat ?_⟩⟩
   have := List.all_eq_true.1 hf e (List.mem_of_getElem? he)
   exact List.all_eq_true.1 this x (List.mem_of_getElem? hx)
 | _ => cases hf
theorem F8 {α : Type} {f : α → List T} {l : List α} {v : Value} {ty sz : Nat} (h : ∀ x, (f x).all E9 = true) : T0 (.us v ty sz (l.map f)) = true := by
 simp only [T0, List.all_map, List.all_eq_true]
 exact fun x _ => by simpa using h x
theorem ACalls.sub {f : FuncId} {W : List T} {fp : List Ob} {R R' : T → List Ob → Prop} (h : ACalls E f W fp R) (hr : ∀ x G, R x G → ∃ D, D.Sublist G ∧ R' x D) : ACalls E f W fp R' :=
 ⟨h.1, fun H w vs h1 h2 X Y Z => (h.2 H w vs h1 h2 X Y Z).mono fun e w' ⟨v, x, G, H', q1, q2, q3, q4, q5, q6, q7, q⟩ => by
  obtain ⟨D, O, M⟩ := hr x G q2
  exact ⟨v, x, D, H', q1, M, q3, q4, q5, fun p hp => q6 p (O.subset hp), q7.sublist (D5 O), q⟩⟩
theorem F9 {c : Operand} {args : Array Operand} {tys : Array TypeId} {f : FuncId} {xs ae ag ah ys : List T} {y y' : T} {Rc : T → List Ob → Prop} {R : St → Prop}
  (hc : Bn σ.slots c = some y) (hy : Lend σ.objs y y') (hf : Mk y' = some (f, ag, ah)) (hx : F7 σ.slots args.toList = some xs) (hl : LendL σ.objs xs ae) (hys : ag ++ ae ++ ah = ys)
  (h : ACalls E f ys [] Rc) (hd : ∀ d, dst = some d → d < n) (X : ∀ x new, Rc x new → E9 x = true ∧ ∀ p, p ∈ new → T0 p = true) (k : ∀ x new, Rc x new → R ⟨Fn σ.slots dst x, σ.objs ++ new⟩) :
  AX E n C [] ⟨dst, .call { callee := .value c, args := args, argTypes := tys }, ty, pos, aft, g⟩ σ R := by
 intro H a w M
 subst hys
 obtain ⟨⟨fn, f1, f2, f3⟩, h⟩ := h
 obtain ⟨k1, k2⟩ := Ft M.sr hx
 have af : ∀ b o, H b = some o → b ∉ σ.objs.flatMap Ob.fp := fun b o hb hm => by
  obtain ⟨p, D, ai⟩ := List.mem_flatMap.1 hm
  rw [M.free p D b ai] at hb; cases hb
 obtain ⟨H1, ac⟩ : ∃ H1 : GH, H1 = fun b => if b ∈ σ.objs.flatMap Ob.fp then w.heap[b]? else H b := ⟨_, rfl⟩
 have Z : ∀ b o, H b = some o → H1 b = some o := fun b o hb => by rw [ac]; simp only [af b o hb, if_false]; exact hb
 have ho1 : ∀ p, p ∈ σ.objs → OR H1 w p := fun p D => (M.objs p D).mono Z (fun _ _ => rfl)
 have ak : ∀ p, p ∈ σ.objs → ∀ b, b ∈ p.fp → H1 b = w.heap[b]? := fun p D b hb => by
  rw [ac]; simp only [List.mem_flatMap.2 ⟨p, D, hb⟩, if_true]
 have ad : ∀ b o, H1 b = some o → w.heap[b]? = some o := fun b o hb => by
  rw [ac] at hb
  dsimp only at hb
  split at hb
  ·exact hb
  ·exact M.held b o hb
 have hvy := Pb ho1 ak Z hy (M.sr.eval hc)
 obtain ⟨first, G, hev, z1, z2, z3, z4⟩ := Qz hvy hf
 have hrun : (execOp a.eval ⟨dst, .call { callee := .value c, args := args, argTypes := tys }, ty, pos, aft, g⟩).run E.P w = .ok (.enter f (first ++ args.map a.eval ++ G)) w := by
  have f2' : ¬ fn.name = "runtime.NumGoroutine" := by simpa using f2
  have f3' : ¬ fn.body = none := by
   intro hb; rw [hb] at f3; simp at f3
  simp [execOp, resolve, hev, Deferred.ofValue, invoke, callFunc, f1, f2', f3']
 simp only [Oper.wp, hrun, Oper.upon]
 have hxl : xs.length = ae.length := hl.length
 have Y : (first ++ args.map a.eval ++ G).toList = first.toList ++ args.toList.map a.eval ++ G.toList := by simp
 refine (h H1 w (first ++ args.map a.eval ++ G) ?_ ?_ ⟨ad, fun b l h => (C.hg b l h).mono fun b o hb => Z b o (M.grow b o hb)⟩ (by simp) (by simp)).mono ?_
 ·rw [← Array.length_toList, Y]; simp at k1 ⊢; omega
 ·intro i x hix
  rw [Array.getD_eq_getD_getElem?, ← Array.getElem?_toList, Y]
  have hxs : ∀ (i : Nat) (y : T), ae[i]? = some y → VR H1 ((args.toList.map a.eval).getD i undef) y := fun i y hy => Fi ho1 ak Z hl i y hy (fun x hx => k2 i x hx)
  have := VR.app (H := H1) (by simp at k1 ⊢; omega) (VR.app (H := H1) (by simp; omega) z3 hxs) z4 i x hix
  simpa [List.getD] using this
 ·rintro e w' ⟨v, x, O, H', rfl, q2, q3, q4, q5, q6, q7, q8, aj, q9⟩
  have al : ∀ p, p ∈ O → ∀ b, b ∈ p.fp → w.heap.size ≤ b := fun p D b hb => by simpa using ((q6 p D).2 b hb).2
  have hlt : ∀ p, p ∈ σ.objs → ∀ b, b ∈ p.fp → b < w.heap.size := fun p D b hb => (M.objs p D).lt b hb
  have q9' : ∀ b, b < w.heap.size → w'.heap[b]? = w.heap[b]? ∧ H' b = H1 b := fun b hb => q9 b hb (by simp)
  obtain ⟨H2, W⟩ : ∃ H2 : GH, H2 = fun b => if b ∈ σ.objs.flatMap Ob.fp then none else H' b := ⟨_, rfl⟩
  have aa : ∀ b o, H b = some o → H2 b = some o := fun b o hb => by
   rw [W]; simp only [af b o hb, if_false]; exact q4 _ _ (Z b o hb)
  have h2' : ∀ b o, H2 b = some o → H' b = some o := fun b o hb => by
   rw [W] at hb
   dsimp only at hb
   split at hb
   ·cases hb
   ·exact hb
  have ab : ∀ p, p ∈ σ.objs → ∀ b, b ∈ p.fp → w'.heap[b]? = w.heap[b]? := fun p D b hb => (q9' b ((M.objs p D).lt b hb)).1
  refine ⟨_, H2, v, k x O q2, ?_, rfl, aa, fun i p D _ => ⟨by rw [List.getElem?_append_left (List.getElem?_eq_some_iff.1 D).1]; exact D, ab p (List.mem_of_getElem? D)⟩⟩
  have g2 : Gam n C ⟨σ.slots, σ.objs ++ O⟩ H2 a w' := by
   refine ⟨M.defers.mono aa, M.size, fun i x h => (M.slots i x h).mono aa, fun p D => ?_, fun p D b hb => ?_, fun p D b hb => ?_, ?_, fun b o hb => q5 _ _ (h2' b o hb), fun b o hb => aa _ _ (M.grow _ _ hb), Nat.le_trans M.heap q8, fun b hb hf => ?_, ⟨aj.1.trans M.env.1, aj.2.1.trans M.env.2.1, aj.2.2.trans M.env.2.2⟩⟩
   ·rcases List.mem_append.1 D with D | D
    ·exact (M.objs p D).mono aa (ab p D)
    ·exact ((q6 p D).1).flat ((X x O q2).2 p D)
   ·rcases List.mem_append.1 D with D | D
    ·rw [W]; simp only [List.mem_flatMap.2 ⟨p, D, hb⟩, if_true]
    ·rw [W]
     dsimp only
     split
     ·rfl
     ·exact ((q6 p D).2 b hb).1
   ·rcases List.mem_append.1 D with D | D
    ·exact M.new p D b hb
    ·exact .inl (Nat.le_trans M.heap (al p D b hb))
   ·rw [List.flatMap_append]
    refine List.nodup_append.2 ⟨M.nodup, q7, fun b hb b' hb' he => ?_⟩
    obtain ⟨p, D, h1⟩ := List.mem_flatMap.1 hb
    obtain ⟨q, hq, h2⟩ := List.mem_flatMap.1 hb'
    have := hlt p D b h1
    have := al q hq b' h2
    omega
   ·obtain ⟨h1, h2⟩ := q9' b (Nat.lt_of_lt_of_le hb M.heap)
    obtain ⟨h3, h4⟩ := M.frame b hb hf
    refine ⟨h1.trans h3, ?_⟩
    rw [W]
    dsimp only
    split
    ·rename_i hm
     obtain ⟨p, D, ai⟩ := List.mem_flatMap.1 hm
     rcases M.new p D b ai with h | h
     ·omega
     ·exact absurd h hf
    ·rename_i hm
     rw [h2, ac]
     simp only [hm, if_false]; exact h4
  have := g2.put (dst := dst) (q3.flat (H' := H2) (X x O q2).1) hd
  cases dst <;> exact this
def Wg : Nat → List T → A1
 | _, [] => []
 | k, x :: l => (k, x) :: Wg (k + 1) l
theorem Vt : ∀ (l : List T) (k i : Nat) (x : T), get (Wg k l) i = some x → k ≤ i ∧ l[i - k]? = some x
 | [], k, i, x, h => by simp [Wg, get] at h
 | y :: l, k, i, x, h => by
  simp only [Wg, get] at h
  cases hb : Nat.beq k i with
  | true =>
   have := Nat.eq_of_beq_eq_true hb
   subst this
   simp only [hb, cond_true, Option.some.injEq] at h
   subst h; simp
  | false =>
   simp only [hb, cond_false] at h
   obtain ⟨h1, h2⟩ := Vt l (k + 1) i x h
   refine ⟨by omega, ?_⟩
   rw [show i - k = (i - (k + 1)) + 1 by omega]
   simpa using h2
def Yt (E : Env) (s : A1) (objs : List Ob) : List ResultVar → List T → Prop
 | [], [] => True
 | .tmp t :: l, x :: xs => get s t = some x ∧ Yt E s objs l xs
 | .cell c t :: l, x :: xs => (∃ (k b D sz cap : Nat) (es : List (List T)) (e : List T) (ti : TI), get s c = some (.v (.pointer (some ⟨b, 0, none⟩))) ∧ objs[k]? = some (.arr b D sz cap es) ∧ es[0]? = some e ∧
   E.tab t = some ti ∧ Ep ti e 0 = some x) ∧ Yt E s objs l xs
 | _, _ => False
def iF : List T → T
 | [x] => x
 | l => .tup l
def iJ (E : Env) (fn : Func) (R : T → List Ob → Prop) (e : Exit) (σ : St) : Prop :=
 (e = .normal ∨ e = .ret) ∧ ∃ G D, Yt E σ.slots σ.objs fn.results.toList G ∧ D.Sublist σ.objs ∧ R (iF G) D
theorem Oa {s : A1} {objs : List Ob} {H : GH} {a : Act} {w : World} (r : SR n s H a) (wr : WR objs H w) : ∀ {l : List ResultVar} {M : List T}, Yt E s objs l M →
  ∃ vs : List Value, (l.mapM fun (x : ResultVar) => (match x with | .tmp t => pure (a.tmps.getD t undef) | .cell c t => do loadVar t (← asAddr (a.tmps.getD c undef)) : Sem Value)).run E.P w = .ok vs w ∧
   vs.length = M.length ∧ ∀ (i : Nat) (x : T), M[i]? = some x → VR H (vs.getD i undef) x
 | [], [], _ => ⟨[], by simp, rfl, by simp⟩
 | .tmp t :: l, x :: M, h => by
  obtain ⟨h1, h2⟩ := h
  obtain ⟨vs, O, W, X⟩ := Oa r wr h2
  refine ⟨a.tmps.getD t undef :: vs, ?_, by simp [W], fun i y hy => ?_⟩
  ·simp only [List.mapM_cons, Sem.run_bind, Sem.run_pure, Result.andThen_ok, O]
  ·cases i with
   | zero => simp at hy; subst hy; exact r.slots t _ h1
   | succ i => simp only [List.getElem?_cons_succ] at hy; simpa using X i y hy
 | .cell c t :: l, x :: M, h => by
  obtain ⟨⟨k, b, tt, sz, cap, es, e, ti, g1, g2, g3, g4, Z⟩, h2⟩ := h
  obtain ⟨vs, O, W, X⟩ := Oa r wr h2
  have hv := (r.slots c _ g1).v_eq
  obtain ⟨cs, a1, Y, a3, h1, G⟩ := OR.cells (wr.objs _ (List.mem_of_getElem? g2)) g3
  have hl := Fy (j := 0) (E.ok _ _ g4) a1 Y h1 G Z
  obtain ⟨p1, p2⟩ := Ho Y h1 G Z
  simp only [Nat.zero_mul, Nat.zero_add] at hl p1 p2
  refine ⟨Ff ti cs 0 :: vs, ?_, by simp [W], fun i y hy => ?_⟩
  ·have D : (asAddr (a.tmps.getD c undef)).run E.P w = .ok ⟨b, 0, none⟩ w := by rw [hv]; rfl
   simp only [List.mapM_cons, Sem.run_bind, Sem.run_pure, Result.andThen_ok, D, hl, O]
  ·cases i with
   | zero =>
    simp at hy; subst hy
    cases D : ti.isAgg with
    | true => simpa [Ff, D] using (p1 D).2
    | false => simpa [Ff, D] using (p2 D).2
   | succ i => simp only [List.getElem?_cons_succ] at hy; simpa using X i y hy
 | [], _ :: _, h => h.elim
 | .tmp _ :: _, [], h => h.elim
 | .cell _ _ :: _, [], h => h.elim
theorem Us {s : A1} {objs : List Ob} {H : GH} {a : Act} {w : World} (r : SR n s H a) (wr : WR objs H w) {fn : Func} {D : List T} (h : Yt E s objs fn.results.toList D) :
  ∃ v, (results fn a.tmps).run E.P w = .ok v w ∧ VR H v (iF D) := by
 obtain ⟨vs, X, M, O⟩ := Oa r wr h
 have W : (fn.results.mapM fun (x : ResultVar) => (match x with | .tmp t => pure (a.tmps.getD t undef) | .cell c t => do loadVar t (← asAddr (a.tmps.getD c undef)) : Sem Value)).run E.P w = .ok vs.toArray w := by
  rw [Array.mapM_eq_mapM_toList]
  refine (Sem.run_map E.P w _ _).trans ?_
  rw [X]; rfl
 refine ⟨if h : vs.toArray.size = 1 then vs.toArray[0] else .tuple vs.toArray, ?_, ?_⟩
 ·unfold results
  refine (Sem.run_bind E.P w _ _).trans ?_
  refine (congrArg (fun r => Result.andThen r _) W).trans ?_
  rfl
 ·by_cases h1 : vs.length = 1
  ·obtain ⟨v, rfl⟩ := List.length_eq_one_iff.1 h1
   obtain ⟨x, rfl⟩ := List.length_eq_one_iff.1 (M.symm.trans h1)
   simpa [iF] using O 0 x (by simp)
  ·have G : iF D = .tup D := by
    cases D with
    | nil => rfl
    | cons x l =>
     cases l with
     | nil => exact absurd M (by simpa using h1)
     | cons y l => rfl
   rw [G]
   simp only [List.size_toArray, h1, dite_false]
   exact .tup _ _ (by simpa using M) (fun j x hx => by simpa [Array.getD_eq_getD_getElem?, List.getD] using O j x hx)
theorem Gam.unmark {m : Nat} {σ : St} {H : GH} {a : Act} {w : World} {d : Deferred} {ds : List Deferred} (M : Gam m C σ H a w) (hd : a.defers = d :: ds) (h0 : ∀ b o, C.H0 b = some o → b < C.w0.heap.size) :
  ∃ b H1, d = { target := .collected b, args := #[] } ∧ (Instr.takeDeferred b).run E.P w = .ok [] (w.putObj b (.deferred none)) ∧ Gam m C σ H1 { a with defers := ds } (w.putObj b (.deferred none)) := by
 have Z := M.defers
 rw [hd] at Z
 obtain ⟨aa, Z⟩ := Z
 obtain ⟨b, X, O, hb3⟩ := Z d (by simp)
 have hw := M.held _ _ O
 have hc : ∀ k cs ty fr, H k = some (.cells cs ty fr) → (fun k => if k = b then none else H k) k = some (.cells cs ty fr) := by
  intro k cs ty fr D
  by_cases G : k = b
  ·rw [G, O] at D; cases D
  ·simp only [G, if_false]; exact D
 have hh : ∀ k, k ≠ b → (w.putObj b (.deferred none)).heap[k]? = w.heap[k]? := fun k D => World.putObj_heap_other D
 have ab : ∀ p, p ∈ σ.objs → ∀ k, k ∈ p.fp → k ≠ b := fun p W k D he => by have := M.free p W k D; rw [he, O] at this; cases this
 refine ⟨b, fun k => if k = b then none else H k, X, run_takeDeferred hw, ⟨?_, M.size, fun i x h => (M.slots i x h).monoC hc, fun p W => (M.objs p W).monoC hc (fun k D => hh k (ab p W k D)), fun p W k D => ?_, M.new, M.nodup, fun k o D => ?_, fun k o D => ?_, ?_, fun k D hf => ?_, M.env⟩⟩
 ·refine ⟨(List.nodup_cons.1 aa).2, fun d' Y => ?_⟩
  obtain ⟨b', q1, q2, q3⟩ := Z d' (by simp [Y])
  refine ⟨b', q1, ?_, q3⟩
  have : b' ≠ b := fun he => (List.nodup_cons.1 aa).1 (by rw [X, ← he, ← q1]; exact Y)
  simp only [this, if_false]; exact q2
 ·simp only [ab p W k D, if_false]; exact M.free p W k D
 ·split at D
  ·cases D
  ·rename_i G; rw [hh k G]; exact M.held _ _ D
 ·have := h0 _ _ D
  have G : k ≠ b := by omega
  simp only [G, if_false]; exact M.grow _ _ D
 ·simpa using M.heap
 ·have G : k ≠ b := by omega
  simp only [G, if_false]; exact ⟨(hh k G).trans (M.frame k D hf).1, (M.frame k D hf).2⟩
theorem Rp {fn : Func} {C : Ctx} {σ : St} {R : Ending → World → Prop} (D : ∀ b o, C.H0 b = some o → b < C.w0.heap.size)
  (h : ∀ H a w, Gam fn.ntmps C σ H a w → ∃ v, (results fn a.tmps).run E.P w = .ok v w ∧ R (.returned v) w) :
  ∀ (ds : List Deferred) (H : GH) (a : Act) (w : World), a.defers = ds → Gam fn.ntmps C σ H a w → LeavesInM Fence.wide 0 E.P fn a.tmps R ds .returning w
 | [], H, a, w, hd, gm => h H a w gm
 | d :: ds, H, a, w, hd, gm => by
  obtain ⟨b, H1, h1, h2, G⟩ := gm.unmark (E := E) hd D
  exact ⟨by simp, .inl ⟨b, _, by rw [h1], h2, Rp D h ds H1 { a with defers := ds } _ rfl G⟩⟩
def eK (H : GH) (w : World) (fp : List Ob) (w' : World) (H' : GH) (D : List Ob) : Prop :=
 (∀ b o, H b = some o → H' b = some o) ∧ (∀ b o, H' b = some o → w'.heap[b]? = some o) ∧
   (∀ p, p ∈ D → OR H' w' p ∧ ∀ b, b ∈ p.fp → H' b = none ∧ (w.heap.size ≤ b ∨ b ∈ fp.flatMap Ob.fp)) ∧ (D.flatMap Ob.fp).Nodup ∧ w.heap.size ≤ w'.heap.size ∧
   (w'.os = w.os ∧ w'.tape = w.tape ∧ w'.output = w.output) ∧ ∀ b, b < w.heap.size → b ∉ fp.flatMap Ob.fp → w'.heap[b]? = w.heap[b]? ∧ H' b = H b
theorem Rs {f : FuncId} {fn : Func} {c : Code} {W : List T} {fp : List Ob} {R : T → List Ob → Prop} (hf : E.P.funcs[f]? = some fn) (hb : fn.body = some c)
  (hn : Nat.ble W.length fn.ntmps = true) {H : GH} {w : World} {vs : Array Value} (hsz : vs.size = W.length) (hv : ∀ (i : Nat) (x : T), W[i]? = some x → VR H (vs.getD i undef) x) (G : (∀ b o, H b = some o → w.heap[b]? = some o) ∧ iK H)
  (X : ∀ p, p ∈ fp → OR H w p ∧ ∀ b, b ∈ p.fp → H b = none) (Z : (fp.flatMap Ob.fp).Nodup) (h : AW E fn.ntmps ⟨w, H, fp.flatMap Ob.fp, G.2⟩ c ⟨Wg 0 W, fp⟩ (iJ E fn R)) :
  Calls E.P f vs w fun e w' => ∃ v x M H', e = .returned v ∧ R x M ∧ VR H' v x ∧ eK H w fp w' H' M := by
 refine callsIn_wide.1 (callsIn_of_wp_marks (F := Fence.wide) (n := 0) hf hb trivial ?_)
 have hn' := Nat.le_of_ble_eq_true hn
 have gm : Gam fn.ntmps ⟨w, H, fp.flatMap Ob.fp, G.2⟩ ⟨Wg 0 W, fp⟩ H { tmps := vs ++ Array.replicate (fn.ntmps - vs.size) undef, defers := [] } w := by
  refine ⟨.nil, by simp; omega, fun i x hx => ?_, fun p O => (X p O).1, fun p O => (X p O).2, fun p O b hb => .inr (List.mem_flatMap.2 ⟨p, O, hb⟩), Z, G.1, fun _ _ h => h, Nat.le_refl _, fun _ _ _ => ⟨rfl, rfl⟩, ⟨rfl, rfl, rfl⟩⟩
  obtain ⟨_, h2⟩ := Vt W 0 i x hx
  simp only [Nat.sub_zero] at h2
  have hi := (List.getElem?_eq_some_iff.1 h2).1
  have he : (vs ++ Array.replicate (fn.ntmps - vs.size) undef).getD i undef = vs.getD i undef := by
   simp [Array.getD_eq_getD_getElem?, Array.getElem?_append, show i < vs.size by omega]
  rw [he]; exact hv i x h2
 refine wpIn_mono (h H _ w gm none (fun h => by cases h)) ?_
 rintro e a' w' ⟨σ', H', ⟨he, ys, M, r1, r2, r3⟩, D⟩
 have Y : LeavesInM Fence.wide 0 E.P fn a'.tmps (fun e w' => ∃ v x M H', e = .returned v ∧ R x M ∧ VR H' v x ∧ eK H w fp w' H' M) a'.defers .returning w' := by
  refine Rp (fun b o hb => (Array.getElem?_eq_some_iff.1 (G.1 b o hb)).1) ?_ a'.defers H' a' w' rfl D
  intro H' a' w' D
  obtain ⟨v, k1, k2⟩ := Us D.sr D.wr r1
  exact ⟨v, k1, v, _, M, H', rfl, r3, k2, D.grow, D.held, fun p O => ⟨D.objs p (r2.subset O), fun b hb => ⟨D.free p (r2.subset O) b hb, D.new p (r2.subset O) b hb⟩⟩, (D5 r2).nodup D.nodup, D.heap, D.env, D.frame⟩
 rcases he with rfl | rfl
 ·exact Y
 ·exact Y
theorem Ag {f : FuncId} {fn : Func} {c : Code} {W : List T} {fp : List Ob} {R : T → List Ob → Prop} (hf : E.P.funcs[f]? = some fn) (hb : fn.body = some c) (G : (fn.name == "runtime.NumGoroutine") = false)
  (X : Nat.ble W.length fn.ntmps = true) (h : ∀ C : Ctx, C.fp = fp.flatMap Ob.fp → AW E fn.ntmps C c ⟨Wg 0 W, fp⟩ (iJ E fn R)) : ACalls E f W fp R :=
 ⟨⟨fn, hf, G, by simp [hb]⟩, fun H w vs hsz hv D M O => Rs hf hb X hsz hv D M O (h _ rfl)⟩
end
set_option linter.unusedVariables false
set_option linter.defProp false
set_option linter.unusedSimpArgs false
theorem mU {x : Int} (h : -9223372036854775808 ≤ x ∧ x ≤ 9223372036854775807) : IntKind.i64.wrap x = x := by
 rw [IntKind.wrap_i64]; omega
section
variable {E : Env} {n : Nat} {C : Ctx} {s : A1} {ob : List Ob} {Q : Exit → St → Prop} {ops : Array Oper} {R : St → Prop}
theorem AO.d {d : Nat} {op : Op} {ty : TypeId} {pos : String} {aft : Array Edge} {l : List Oper} {x : T} (hy : Yd E.P n s ob ⟨some d, op, ty, pos, aft, none⟩ x) (D : Nat.blt d n = true)
  (k : AO E n C ops l ⟨(d, x) :: s, ob⟩ R) : AO E n C ops (⟨some d, op, ty, pos, aft, none⟩ :: l) ⟨s, ob⟩ R :=
 AO.still hy rfl (C3 D) k
def nS := @AO.d
theorem Ck {d : Nat} {op : Op} {ty : TypeId} {pos : String} {aft : Array Edge} {l : List Oper} {x : T} (hy : Yp E.P n s ⟨some d, op, ty, pos, aft, none⟩ x) (D : Nat.blt d n = true)
  (k : AO E n C ops l ⟨(d, x) :: s, ob⟩ R) : AO E n C ops (⟨some d, op, ty, pos, aft, none⟩ :: l) ⟨s, ob⟩ R :=
 AO.still hy.yd rfl (C3 D) k
theorem Ma {t : Nat} {x : T} (h : get s t = some x) : ∀ i y, get ((t, x) :: s) i = some y → get s i = some y := by
 intro i y hy
 simp only [get] at hy
 cases hb : Nat.beq t i with
 | true =>
  have := Nat.eq_of_beq_eq_true hb
  subst this
  simp only [hb, cond_true, Option.some.injEq] at hy
  subst hy; exact h
 | false => simpa only [hb, cond_false] using hy
theorem Gam.same {C : Ctx} {H : GH} {a : Act} {w : World} (D : Gam n C ⟨s, ob⟩ H a w) {t : Nat} {x : T} (h : get s t = some x) : Gam n C ⟨(t, x) :: s, ob⟩ H a w :=
 { D with slots := fun i y hy => D.slots i y (Ma h i y hy) }
theorem AO.g {d : Option Nat} {op : Op} {ty : TypeId} {pos : String} {aft : Array Edge} {l : List Oper} {j : Nat} {Dc b : Bool} {t : Tmp}
  (W : (ops[j]?).bind (·.dst) = some t) (G : get s t = some (.v (.bool b))) (O : ∀ M, d = some M → M < n)
  (h1 : b = Dc → AO E n C ops (⟨d, op, ty, pos, aft, none⟩ :: l) ⟨(t, .v (.bool Dc)) :: s, ob⟩ R)
  (h2 : b = !Dc → AO E n C ops l ⟨Fn ((t, .v (.bool (!Dc))) :: s) d (.v undef), ob⟩ R) : AO E n C ops (⟨d, op, ty, pos, aft, some (j, Dc)⟩ :: l) ⟨s, ob⟩ R := by
 refine AO.guard W G O (fun hb H a w D => ?_) (fun hb H a w D => ?_)
 ·subst hb; exact h1 rfl H a w (D.same G)
 ·subst hb
  refine h2 rfl H a w ?_
  cases d with
  | none => exact D.same G
  | some d =>
   refine { D with slots := fun i y hy => ?_ }
   simp only [Fn, get] at hy
   have hg : get ((d, T.v undef) :: s) i = some y := by
    simp only [get]
    cases hb : Nat.beq d i with
    | true => simpa only [hb, cond_true] using hy
    | false =>
     simp only [hb, cond_false] at hy ⊢
     exact Ma G i y (by simpa only [get] using hy)
   exact D.slots i y hg
theorem Br {d : Nat} {op : Op} {ty : TypeId} {pos : String} {aft : Array Edge} {l : List Oper} {j : Nat} {Dc : Bool} {t : Tmp}
  (G : (ops[j]?).bind (·.dst) = some t) (M : get s t = some (.v (.bool Dc))) (D : Nat.blt d n = true)
  (k : AO E n C ops (⟨some d, op, ty, pos, aft, none⟩ :: l) ⟨(t, .v (.bool Dc)) :: s, ob⟩ R) : AO E n C ops (⟨some d, op, ty, pos, aft, some (j, Dc)⟩ :: l) ⟨s, ob⟩ R :=
 AO.g G M (C3 D) (fun _ => k) (fun h => by cases Dc <;> cases h)
theorem nA {d : Nat} {x : Operand} {y : T} {ty : TypeId} {pos : String} {aft : Array Edge} {l : List Oper} (hx : Bn s x = some y) (D : Nat.blt d n = true)
  (k : AO E n C ops l ⟨(d, y) :: s, ob⟩ R) : AO E n C ops (⟨some d, .move x, ty, pos, aft, none⟩ :: l) ⟨s, ob⟩ R := Ck (Yp.move hx) D k
theorem nB {d : Nat} {x : Operand} {y : T} {ty : TypeId} {pos : String} {aft : Array Edge} {l : List Oper} (hx : Bn s x = some y) (D : Nat.blt d n = true)
  (k : AO E n C ops l ⟨(d, y) :: s, ob⟩ R) : AO E n C ops (⟨some d, .assign x, ty, pos, aft, none⟩ :: l) ⟨s, ob⟩ R := Ck (oB hx) D k
theorem I {α : Type} {a : α} : a = a := rfl
theorem Ad {l : List Oper} {b c : Bool} (t : Nat) (G : get s t = some (.v (.bool b))) (hb : b = c) (k : AO E n C ops l ⟨(t, .v (.bool c)) :: s, ob⟩ R) : AO E n C ops l ⟨s, ob⟩ R :=
 fun H a w D => by subst hb; exact k H a w (D.same G)
theorem AP.o {G : List Nat} {D : List Ob} {so : A1} {i : Nat} {r : PL} {d : Nat} {op : Op} {ty : TypeId} {pos : String} {aft : Array Edge} {x : T} (O : ops[i]? = some ⟨some d, op, ty, pos, aft, none⟩)
  (hy : Yd E.P n so D ⟨some d, op, ty, pos, aft, none⟩ x) (M : Nat.blt d n = true) (k : AP E n C ops G D r ((d, x) :: so) ⟨(d, x) :: s, ob⟩ R) :
  AP E n C ops G D (.still i r) so ⟨s, ob⟩ R :=
 Ws O hy rfl (C3 M) k
theorem AP.op {G : List Nat} {D : List Ob} {so : A1} {i : Nat} {r : PL} {d : Nat} {op : Op} {ty : TypeId} {pos : String} {aft : Array Edge} {x : T} (O : ops[i]? = some ⟨some d, op, ty, pos, aft, none⟩)
  (hy : Yp E.P n so ⟨some d, op, ty, pos, aft, none⟩ x) (M : Nat.blt d n = true) (k : AP E n C ops G D r ((d, x) :: so) ⟨(d, x) :: s, ob⟩ R) :
  AP E n C ops G D (.still i r) so ⟨s, ob⟩ R :=
 Ws O hy.yd rfl (C3 M) k
def nV := @AP.op
theorem Cr {G : List Nat} {D : List Ob} {so : A1} {i : Nat} {r : PL} {d : Nat} {op : Op} {ty : TypeId} {pos : String} {aft : Array Edge} {x : T} (O : ops[i]? = some ⟨some d, op, ty, pos, aft, none⟩)
  (hy : Yp E.P n s ⟨some d, op, ty, pos, aft, none⟩ x) (M : Nat.blt d n = true) (k : AP E n C ops G D r so ⟨(d, x) :: s, ob⟩ R) (hf : free so (some d) = true := by rfl) :
  AP E n C ops G D (.still i r) so ⟨s, ob⟩ R :=
 AP.new O hy rfl (C3 M) k hf
theorem mH {pl : PL} {so : A1} {G : List Nat} {D : List Ob} {b : Bool} (t : Nat) (Y : get s t = some (.v (.bool b)))
  (h1 : b = true → AP E n C ops G D pl so ⟨(t, .v (.bool true)) :: s, ob⟩ R) (h2 : b = false → AP E n C ops G D pl so ⟨(t, .v (.bool false)) :: s, ob⟩ R) :
  AP E n C ops G D pl so ⟨s, ob⟩ R := by
 intro Hs Z H a w sr wr M W X O
 cases b with
 | true => exact h1 rfl Hs Z H a w sr wr M W X (O.same Y)
 | false => exact h2 rfl Hs Z H a w sr wr M W X (O.same Y)
theorem Av {c : Operand} {x y : Code} {t : Nat} {b v : Bool} (D : get s t = some (.v (.bool b))) (hb : b = v) (h : AW E n C (match v with | true => x | false => y) ⟨s, ob⟩ Q) (hc : c = .tmp t := by rfl) : AW E n C (.cond c x y) ⟨s, ob⟩ Q := by
 subst hb
 refine AW.cond hc D (fun hb => ?_) (fun hb => ?_)
 ·subst hb; exact h
 ·subst hb; exact h
def Ghost (n : Nat) (C : Ctx) (s : A1) (ob : List Ob) (D : A1) (ob' : List Ob) : Prop :=
 ∀ (H : GH) (a : Act) (w : World), Gam n C ⟨s, ob⟩ H a w → ∃ H', (∀ b o, H b = some o → H' b = some o) ∧ Gam n C ⟨D, ob'⟩ H' a w
theorem AW.ghost {c : Code} {D : A1} {ob' : List Ob} (h : Ghost n C s ob D ob') (k : AW E n C c ⟨D, ob'⟩ Q) : AW E n C c ⟨s, ob⟩ Q := fun H a w G => let ⟨H', _, g⟩ := h H a w G; k H' a w g
def nM := @AW.ghost
theorem AO.ghost {l : List Oper} {D : A1} {ob' : List Ob} (h : Ghost n C s ob D ob') (k : AO E n C ops l ⟨D, ob'⟩ R) : AO E n C ops l ⟨s, ob⟩ R := fun H a w G => let ⟨H', _, g⟩ := h H a w G; k H' a w g
def oA := @AO.ghost
theorem AP.ghost {pl : PL} {so M : A1} {D : List Nat} {G : List Ob} {Z : A1} {ob' : List Ob} (h : Ghost n C s ob Z ob') (hp : D.map (fun i => ob'[i]?) = D.map (fun i => ob[i]?)) (Y : Sub M so)
  (k : AP E n C ops D G pl M ⟨Z, ob'⟩ R) : AP E n C ops D G pl so ⟨s, ob⟩ R := by
 intro Hs ws H a w sr wr ag hH X gm
 obtain ⟨H', h1, g⟩ := h H a w gm
 refine k Hs ws H' a w ⟨sr.size, fun i x hx => sr.slots i x (Y.get i x hx)⟩ wr ag (fun b o hb => h1 _ _ (hH _ _ hb)) (fun p W => ?_) g
 obtain ⟨i, hi, he⟩ := X p W
 have O : i ∈ D := by simpa using hi
 have : ob'[i]? = ob[i]? := List.map_inj_left.1 hp i O
 exact ⟨i, hi, this.trans he⟩
theorem Ghost.trans {M G : A1} {ob' D : List Ob} (h1 : Ghost n C s ob M ob') (h2 : Ghost n C M ob' G D) : Ghost n C s ob G D := fun H a w O =>
 let ⟨H1, m1, g1⟩ := h1 H a w O
 let ⟨H2, m2, g2⟩ := h2 H1 a w g1
 ⟨H2, fun b o hb => m2 _ _ (m1 _ _ hb), g2⟩
theorem Ghost.weaken {D : A1} {ob' : List Ob} (O : Sub D s) (M : ob'.Sublist ob) : Ghost n C s ob D ob' := fun H _ _ G => ⟨H, fun _ _ h => h, G.weaken O M⟩
theorem Wb {o : Ob} (hf : o.fp = []) (G : ∀ H w, OR H w o) : Ghost n C s ob s (ob ++ [o]) := fun H a w D =>
 ⟨H, fun _ _ h => h, D.more (ob := o) ⟨rfl, rfl, rfl⟩ (Nat.le_refl _) (fun _ _ => rfl) (G H w) (by rw [hf]; simp) (by rw [hf]; simp)⟩
theorem Bo (ty sz : Nat) : Ghost n C s ob s (ob ++ [.us (.slice none 0 0) ty sz []]) := Wb rfl (fun _ _ => .inl ⟨rfl, rfl⟩)
theorem Nx : ∀ {vs : List Value} {L : List (Option (List (List T)))} {m : Nat} {es : List (List T)}, vs.length = L.length → L[m]? = some (some es) →
  (∀ b, b ∈ E2 vs (L.set m none) → b ∈ E2 vs L) ∧ (∀ b, b ∈ Ku (vs.getD m undef) → b ∈ E2 vs L) ∧ ((E2 vs L).Nodup → (E2 vs (L.set m none)).Nodup ∧ ∀ b, b ∈ Ku (vs.getD m undef) → b ∉ E2 vs (L.set m none))
 | [], L, m, es, hl, h => by have := (List.getElem?_eq_some_iff.1 h).1; simp at hl; omega
 | v :: vs, [], m, es, hl, h => by simp at h
 | v :: vs, y :: L, 0, es, hl, h => by
  simp at h
  subst h
  simp only [List.set_cons_zero, E2, List.mem_append, List.nodup_append, List.getD, List.getElem?_cons_zero, Option.getD_some]
  exact ⟨fun b hb => .inr hb, fun b hb => .inl hb, fun ⟨_, h2, G⟩ => ⟨h2, fun b hb D => G b hb b D rfl⟩⟩
 | v :: vs, none :: L, m + 1, es, hl, h => by
  have O := Nx (vs := vs) (L := L) (m := m) (es := es) (by simpa using hl) (by simpa using h)
  simpa [E2, List.getD] using O
 | v :: vs, some z :: L, m + 1, es, hl, h => by
  obtain ⟨h1, h2, G⟩ := Nx (vs := vs) (L := L) (m := m) (es := es) (by simpa using hl) (by simpa using h)
  have hg : (v :: vs).getD (m + 1) undef = vs.getD m undef := by simp [List.getD]
  rw [hg]
  simp only [List.set_cons_succ, E2, List.mem_append, List.nodup_append]
  refine ⟨fun b hb => hb.imp id (h1 b), fun b hb => .inr (h2 b hb), fun ⟨W, X, M⟩ => ?_⟩
  obtain ⟨r1, r2⟩ := G X
  refine ⟨⟨W, r1, fun x hx y hy => M x hx y (h1 y hy)⟩, fun b hb D => ?_⟩
  rcases D with D | D
  ·exact M b D b (h2 b hb) rfl
  ·exact r2 b hb D
theorem Ghost.take (k m : Nat) {v : Value} {ty tyi szi : Nat} {vs : List Value} {L : List (Option (List (List T)))} {es : List (List T)} (M : ob[k]? = some (.uss v ty tyi szi vs L)) (Z : L[m]? = some (some es)) :
  Ghost n C s ob s (ob.set k (.uss v ty tyi szi vs (L.set m none)) ++ [.us (vs.getD m undef) tyi szi es]) := by
 intro H a w W
 have aa : OR H w (.uss v ty tyi szi vs L) := W.objs _ (List.mem_of_getElem? M)
 obtain ⟨h0, h1, h2⟩ := aa
 have X := (Ed.1 W.nodup).1 k _ M
 obtain ⟨u1, u2, u3⟩ := Nx h0 Z
 simp only [Ob.fp, List.nodup_append] at X
 obtain ⟨n1, n2, n3⟩ := X
 obtain ⟨u4, u5⟩ := u3 n2
 have hml := (List.getElem?_eq_some_iff.1 Z).1
 have ab : vs[m]? = some (vs.getD m undef) := by
  have : m < vs.length := by omega
  simp [List.getD, this]
 refine ⟨H, fun _ _ h => h, W.world (fun _ => False) ⟨rfl, rfl, rfl⟩ (Nat.le_refl _) (fun _ _ _ => rfl) (fun _ h => h.elim) ?_ ?_⟩
 ·intro p G
  rcases List.mem_append.1 G with G | G
  ·rcases List.mem_or_eq_of_mem_set G with G | rfl
   ·exact .inl ⟨G, fun _ _ h => h⟩
   ·refine .inr ⟨⟨by simpa using h0, h1, fun i x es' hx he => ?_⟩, fun b hb => .inr ⟨_, List.mem_of_getElem? M, ?_⟩⟩
    ·rw [List.getElem?_set] at he
     split at he
     ·cases he
     ·exact h2 i x es' hx he
    ·simp only [Ob.fp, List.mem_append] at hb ⊢
     exact hb.imp id (u1 b)
  ·simp only [List.mem_singleton] at G
   subst G
   refine .inr ⟨h2 m _ es ab Z, fun b hb => .inr ⟨_, List.mem_of_getElem? M, ?_⟩⟩
   simp only [Ob.fp, List.mem_append] at hb ⊢
   exact .inr (u2 b hb)
 ·rw [List.flatMap_append, List.nodup_append]
  have Y : ∀ b, b ∈ (Ob.uss v ty tyi szi vs (L.set m none)).fp → b ∈ (Ob.uss v ty tyi szi vs L).fp := fun b hb => by
   simp only [Ob.fp, List.mem_append] at hb ⊢
   exact hb.imp id (u1 b)
  refine ⟨Vj W.nodup M ?_ (fun b hb => .inl (Y b hb)), by simpa [Ob.fp] using N7 _, ?_⟩
  ·simp only [Ob.fp, List.nodup_append]
   exact ⟨n1, u4, fun x hx y hy => n3 x hx y (u1 y hy)⟩
  ·intro x hx y hy ac
   subst ac
   simp only [List.flatMap_cons, List.flatMap_nil, List.append_nil, Ob.fp] at hy
   obtain ⟨p, G, D⟩ := List.mem_flatMap.1 hx
   obtain ⟨i, hi⟩ := List.mem_iff_getElem?.1 G
   by_cases O : k = i
   ·subst O
    rw [List.getElem?_set_self (List.getElem?_eq_some_iff.1 M).1] at hi
    cases hi
    simp only [Ob.fp, List.mem_append] at D
    rcases D with D | D
    ·exact n3 x D x (u2 x hy) rfl
    ·exact u5 x hy D
   ·rw [List.getElem?_set_ne O] at hi
    exact W.apart M hi O x D (by simp only [Ob.fp, List.mem_append]; exact .inr (u2 x hy))
def Ha (ob : List Ob) (ks : List Nat) : List Ob := (ob.zipIdx.filter fun p => !ks.contains p.2).map Prod.fst
def LendS (K : List Ob) (s : A1) : A1 → Prop
 | [] => True
 | (t, y) :: l => (∃ x, get s t = some x ∧ Lend K x y) ∧ LendS K s l
theorem LendS.get {K : List Ob} {s : A1} : ∀ {l : A1}, LendS K s l → ∀ i y, Aw.get l i = some y → ∃ x, Aw.get s i = some x ∧ Lend K x y
 | [], _, i, y, h => by simp [Aw.get] at h
 | (t, z) :: l, hl, i, y, h => by
  obtain ⟨h1, h2⟩ := hl
  simp only [Aw.get] at h
  cases hb : Nat.beq t i with
  | true =>
   have := Nat.eq_of_beq_eq_true hb
   subst this
   simp only [hb, cond_true, Option.some.injEq] at h
   subst h; exact h1
  | false => simp only [hb, cond_false] at h; exact LendS.get h2 i y h
inductive LendO (K : List Ob) : Ob → Ob → Prop
 | same (o : Ob) : LendO K o o
 | arr {b ty sz cap : Nat} {e e' : List T} (h : LendL K e e') : LendO K (.arr b ty sz cap [e]) (.arr b ty sz cap [e'])
inductive LendOs (K : List Ob) : List Ob → List Ob → Prop
 | nil : LendOs K [] []
 | cons {x y : Ob} {l m : List Ob} (h : LendO K x y) (t : LendOs K l m) : LendOs K (x :: l) (y :: m)
 | rest (l : List Ob) : LendOs K l l
theorem LendO.fp {K : List Ob} {x y : Ob} (h : LendO K x y) : y.fp = x.fp := by cases h <;> rfl
theorem LendOs.fp {K : List Ob} {l m : List Ob} (h : LendOs K l m) : m.flatMap Ob.fp = l.flatMap Ob.fp := by
 induction h with
 | nil => rfl
 | cons h _ ih => simp [h.fp, ih]
 | rest => rfl
theorem LendOs.mem {K : List Ob} {l m : List Ob} (h : LendOs K l m) : ∀ y, y ∈ m → ∃ x, x ∈ l ∧ LendO K x y := by
 induction h with
 | nil => intro y hy; simp at hy
 | cons h _ ih =>
  intro z D
  rcases List.mem_cons.1 D with rfl | D
  ·exact ⟨_, by simp, h⟩
  ·obtain ⟨x, hx, hl⟩ := ih z D; exact ⟨x, by simp [hx], hl⟩
 | rest => intro y hy; exact ⟨y, hy, .same y⟩
theorem A0 (ks : List Nat) {K : List Ob} (hK : D1 ob ks = some K) (cs : A1) (hc : LendS K s cs) {ob' : List Ob} (ho : LendOs K (Ha ob ks) ob') : Ghost n C s ob (cs ++ s) ob' := by
 intro H a w G
 obtain ⟨p1, p2⟩ := Hm hK
 have aa : ∀ p, p ∈ K → ∃ k, k ∈ ks ∧ ob[k]? = some p := by
  intro p D
  obtain ⟨i, hi⟩ := List.mem_iff_getElem?.1 D
  have hil := (List.getElem?_eq_some_iff.1 hi).1
  obtain ⟨o, h1, h2⟩ := p2 i ks[i] (List.getElem?_eq_getElem (by omega))
  rw [hi] at h2
  cases h2
  exact ⟨ks[i], List.getElem_mem _, h1⟩
 have W : ∀ p, p ∈ K → p ∈ ob := fun p D => by obtain ⟨k, _, h⟩ := aa p D; exact List.mem_of_getElem? h
 have hown : ∀ b o, H b = some o → b ∉ K.flatMap Ob.fp := fun b o hb hm => by
  obtain ⟨p, D, hbp⟩ := List.mem_flatMap.1 hm
  rw [G.free p (W p D) b hbp] at hb; cases hb
 obtain ⟨H1, O⟩ : ∃ H1 : GH, H1 = fun b => if b ∈ K.flatMap Ob.fp then w.heap[b]? else H b := ⟨_, rfl⟩
 have M : ∀ b o, H b = some o → H1 b = some o := fun b o hb => by rw [O]; simp only [hown b o hb, if_false]; exact hb
 have ho1 : ∀ p, p ∈ K → OR H1 w p := fun p D => (G.objs p (W p D)).mono M (fun _ _ => rfl)
 have ae : ∀ p, p ∈ K → ∀ b, b ∈ p.fp → H1 b = w.heap[b]? := fun p D b hb => by
  rw [O]; simp only [List.mem_flatMap.2 ⟨p, D, hb⟩, if_true]
 have ac : ∀ p, p ∈ Ha ob ks → ∃ i, i ∉ ks ∧ ob[i]? = some p := by
  intro p D
  simp only [Ha, List.mem_map, List.mem_filter] at D
  obtain ⟨⟨q, i⟩, ⟨h1, h2⟩, rfl⟩ := D
  exact ⟨i, by simpa using h2, by have := List.mem_zipIdx_iff_getElem?.1 h1; simpa using this⟩
 have X : ∀ p, p ∈ Ha ob ks → p ∈ ob ∧ ∀ b, b ∈ p.fp → b ∉ K.flatMap Ob.fp := by
  intro p D
  obtain ⟨i, hi, hp'⟩ := ac p D
  refine ⟨List.mem_of_getElem? hp', fun b hb hm => ?_⟩
  obtain ⟨q, Z, ab⟩ := List.mem_flatMap.1 hm
  obtain ⟨k, hk, hq'⟩ := aa q Z
  exact R5 G.nodup hp' hq' (fun he => hi (he ▸ hk)) b hb ab
 have ad : (Ha ob ks).Sublist ob := by
  have h1 : ((ob.zipIdx.filter fun p => !ks.contains p.2).map Prod.fst).Sublist (ob.zipIdx.map Prod.fst) := List.Sublist.map _ List.filter_sublist
  have h2 : ob.zipIdx.map Prod.fst = ob := by simp
  rw [h2] at h1
  exact h1
 refine ⟨H1, M, G.defers.mono M, G.size, ?_, ?_, ?_, ?_, ?_, ?_, ?_, G.heap, ?_, G.env⟩
 ·intro i x hx
  have Y : (get cs i = some x) ∨ get s i = some x := by
   have : ∀ (l : A1), get (l ++ s) i = some x → get l i = some x ∨ get s i = some x := by
    intro l
    induction l with
    | nil => exact fun h => .inr h
    | cons p l ih =>
     obtain ⟨t, y⟩ := p
     simp only [List.cons_append, get]
     cases Nat.beq t i with
     | true => exact fun h => .inl h
     | false => exact ih
   exact this cs hx
  rcases Y with Y | Y
  ·obtain ⟨y, hy, hl⟩ := hc.get i x Y
   exact Pb ho1 ae M hl (G.slots i y hy)
  ·exact (G.slots i x Y).mono M
 ·intro p D
  obtain ⟨q, Z, hl⟩ := ho.mem p D
  have hor := (G.objs q (X q Z).1)
  cases hl with
  | same => exact hor.mono M (fun _ _ => rfl)
  | arr h =>
   obtain ⟨cur, a1, a2, a3, a4, a5, a6⟩ := hor
   refine ⟨cur, a1, a2, a3, a4, fun i e he => ?_, fun i e he j x hx => ?_⟩
   ·cases i with
    | zero => simp at he; subst he; rw [← h.length]; exact a5 0 _ rfl
    | succ i => simp at he
   ·cases i with
    | zero =>
     simp at he; subst he
     obtain ⟨z, hz, _⟩ := h.get j x hx
     exact ⟨(a6 0 _ rfl j z hz).1, Fi ho1 ae M h j x hx (fun z' hz' => (a6 0 _ rfl j z' hz').2)⟩
    | succ i => simp at he
 ·intro p D b hb
  obtain ⟨q, Z, hl⟩ := ho.mem p D
  rw [hl.fp] at hb
  obtain ⟨h1, h2⟩ := X q Z
  rw [O]; simp only [h2 b hb, if_false]; exact G.free q h1 b hb
 ·intro p D b hb
  obtain ⟨q, Z, hl⟩ := ho.mem p D
  rw [hl.fp] at hb
  exact G.new q (X q Z).1 b hb
 ·show (ob'.flatMap Ob.fp).Nodup
  rw [ho.fp]; exact (D5 ad).nodup G.nodup
 ·intro b o hb
  rw [O] at hb
  dsimp only at hb
  split at hb
  ·exact hb
  ·exact G.held b o hb
 ·intro b o hb; exact M _ _ (G.grow _ _ hb)
 ·intro b hb hf
  obtain ⟨h1, h2⟩ := G.frame b hb hf
  refine ⟨h1, ?_⟩
  have : b ∉ K.flatMap Ob.fp := fun hm => by
   obtain ⟨q, Z, ab⟩ := List.mem_flatMap.1 hm
   rcases G.new q (W q Z) b ab with h | h
   ·omega
   ·exact hf h
  rw [O]; simp only [this, if_false]; exact h2
theorem Rz (x : Ob) : Ha (ob ++ [x]) [ob.length] = ob := by
 unfold Ha
 rw [List.zipIdx_append, List.filter_append, List.map_append]
 have h1 : ob.zipIdx.filter (fun p => !([ob.length].contains p.2)) = ob.zipIdx := by
  rw [List.filter_eq_self]
  rintro ⟨y, i⟩ h
  have := List.mem_zipIdx_iff_getElem?.1 h
  have := (List.getElem?_eq_some_iff.1 this).1
  simp only at this
  simp; omega
 rw [h1]
 simp
theorem Uu (x : Ob) : D1 (ob ++ [x]) [ob.length] = some [x] := by simp [D1]
theorem kB {d : Nat} {ty : TypeId} {pos : String} {aft : Array Edge} {g : Option (Nat × Bool)} {t : TypeId} {m : Nat} {D : Array (Nat × Operand)} {ti M : TI} {e : Nat} {z : Value} {l : List T} {sz : Nat} {es : List (List T)}
  (ht : E.tab t = some ti) (hk : ti.kind = .slice e) (he : E.tab e = some M) (hz : M.zero = some z) (h1 : z.cells.toList.all (·.oneCell') = true) (hsz : M.size = sz) (Z : z.cells.size = sz) (hb : Nat.ble (m * sz) 16777216 = true)
  (Y : Nat.ble m 16777216 = true) (hf : Gn s (fun i => some (i * sz, sz)) (Lj (E6 z) m) D.toList = some l) (hr : rows sz m l = es)
  (hd : ∀ d', some d = some d' → d' < n) (k : R ⟨(d, .list sz es) :: s, ob⟩) :
  AX E n C [] ⟨some d, .buildSlice t m D, ty, pos, aft, g⟩ ⟨s, ob⟩ R := by
 intro H a w gm
 refine D8 ?_ (fun _ _ _ h => h) (AX.buildSlice (R := fun σ' => ∃ b, σ' = ⟨(d, .v b) :: s, ob ++ [.us b e sz es]⟩) ht hk he hz h1 hsz Z hb Y hf hr hd (fun b => ⟨b, rfl⟩) H a w gm)
 rintro a' w' ⟨_, H', v, ⟨b, rfl⟩, O, ha, W, X⟩
 obtain ⟨H'', h2, G⟩ := A0 [ob.length] (K := [.us b e sz es]) (Uu _) [(d, .list sz es)] ⟨⟨_, by simp [get], .us 0 rfl⟩, trivial⟩ (ob' := ob) (by rw [Rz]; exact .rest _) H' a' w' O
 refine ⟨⟨(d, .list sz es) :: s, ob⟩, H'', v, k, { G with slots := ?_ }, ha, fun b o h => h2 _ _ (W _ _ h), fun i p hp Y => ⟨hp, (X i p hp Y).2⟩⟩
 intro i x hx
 refine G.slots i x ?_
 show get ((d, .list sz es) :: (d, .v b) :: s) i = some x
 simp only [get] at hx ⊢
 cases hbq : Nat.beq d i with
 | true => rw [hbq] at hx; exact hx
 | false => rw [hbq] at hx; simpa using hx
theorem Sub.append : ∀ {D G s : A1}, Sub D s → Sub G s → Sub (D ++ G) s
 | [], _, _, _, h2 => h2
 | (_, _) :: _, _, _, h1, h2 => ⟨h1.1, Sub.append h1.2 h2⟩
theorem Ah {α β : Type} {f : α → β} {l : List α} {k : Nat} {x : α} (h : l[k]? = some x) : (l.map f)[k]? = some (f x) := by simp [h]
theorem Bs {a b : Nat} (h : Nat.ble a b = true) : a ≤ b := Nat.le_of_ble_eq_true h
theorem Dn {a b : Ob} {l m : List Ob} (h : a = b) (t : l.Sublist m) : (a :: l).Sublist (b :: m) := h ▸ t.cons_cons a
theorem Cf {l : List Ob} : ([] : List Ob).Sublist l := List.nil_sublist l
theorem Dz {a b : Bool} (h : a = b) : some (T.v (.bool a)) = some (T.v (.bool b)) := by rw [h]
end
theorem oi {α : Type _} {a b : α} (h : some a = some b) : a = b := Option.some.inj h
theorem bt (b : Bool) : b = true ∨ b = false := by cases b <;> simp
theorem J : True := True.intro
abbrev T.V (x : Int) : T := .v (.int .i64 x)
abbrev T.N : T := .v (.slice none 0 0)
theorem gs {α : Type _} {l : List α} {i : Nat} {a : α} (h : l[i]? = some a) : ∃ w : i < l.length, l[i] = a := List.getElem?_eq_some_iff.1 h
theorem gq {α : Type _} {l : List α} {i : Nat} (h : i < l.length) : l[i]? = some l[i] := List.getElem?_eq_getElem h
theorem mg {α : Type _} {l : List α} {i : Nat} {a : α} (h : l[i]? = some a) : a ∈ l := List.mem_of_getElem? h
theorem dS {n d : Nat} (h : Nat.blt d n = true := by exact rfl) : ∀ D, some d = some D → D < n := C3 h
section
variable {E : Env} {n : Nat} {C : Ctx} {ops : Array Oper} {s : A1} {ob : List Ob} {R : St → Prop} {dst : Option Tmp} {ty : TypeId} {pos : String} {aft : Array Edge} {g : Option (Nat × Bool)}
def PAll (F : Nat × List Nat → Prop) : List (Nat × List Nat) → Prop
 | [] => True
 | p :: l => F p ∧ PAll F l
theorem PAll.get {F : Nat × List Nat → Prop} : ∀ {l : List (Nat × List Nat)}, PAll F l → ∀ p, p ∈ l → F p
 | [], _, _, h => by simp at h
 | q :: l, ⟨h1, h2⟩, p, h => by
  rcases List.mem_cons.1 h with rfl | h
  ·exact h1
  ·exact PAll.get h2 p h
theorem Qv {A : List (Nat × List Nat)} {dst : Nat → Tmp} {vals : Nat → T} {s : A1} (M : (A.all fun p => A.all fun q => Nat.beq p.1 q.1 || !Nat.beq (dst p.1) (dst q.1)) = true) :
  ∀ (D : List Nat), (∀ d, d ∈ D → ∃ p, p ∈ A ∧ p.1 = d) → ∀ d, d ∈ D → get (D.map (fun d => (dst d, vals d)) ++ s) (dst d) = some (vals d)
 | [], _, d, h => by simp at h
 | d0 :: D, hA, d, h => by
  simp only [List.map_cons, List.cons_append, get]
  cases hb : Nat.beq (dst d0) (dst d) with
  | true =>
   obtain ⟨p, O, rfl⟩ := hA d0 (by simp)
   obtain ⟨q, W, rfl⟩ := hA d h
   have := List.all_eq_true.1 (List.all_eq_true.1 M p O) q W
   rw [hb] at this
   have : p.1 = q.1 := Nat.eq_of_beq_eq_true (by simpa using this)
   rw [this]; rfl
  | false =>
   have G : d ≠ d0 := fun he => by rw [he] at hb; simp at hb
   rw [cond_false]
   exact Qv M D (fun x hx => hA x (by simp [hx])) d (by simpa [G] using h)
theorem Qw {A : List (Nat × List Nat)} {dst : Nat → Tmp} {vals : Nat → T} {s : A1} (G : (A.all fun p => (get s (dst p.1)).isNone) = true) :
  ∀ (D : List Nat), (∀ d, d ∈ D → ∃ p, p ∈ A ∧ p.1 = d) → ∀ i x, get s i = some x → get (D.map (fun d => (dst d, vals d)) ++ s) i = some x
 | [], _, i, x, h => by simpa using h
 | d0 :: D, hA, i, x, h => by
  simp only [List.map_cons, List.cons_append, get]
  cases hb : Nat.beq (dst d0) i with
  | true =>
   obtain ⟨p, M, rfl⟩ := hA d0 (by simp)
   have := List.all_eq_true.1 G p M
   rw [Nat.eq_of_beq_eq_true hb, h] at this
   simp at this
  | false => rw [cond_false]; exact Qw G D (fun x hx => hA x (by simp [hx])) i x h
theorem Lf : ∀ {l s : A1}, (∀ p, p ∈ l → Aw.get s p.1 = some p.2) → Sub l s
 | [], _, _ => trivial
 | (i, x) :: _, _, h => ⟨h (i, x) (by simp), Lf fun p D => h p (by simp [D])⟩
theorem hY {A : List (Nat × List Nat)} {dst : Nat → Tmp} {vals : Nat → T} {s : A1} (W : (A.all fun p => A.all fun q => Nat.beq p.1 q.1 || !Nat.beq (dst p.1) (dst q.1)) = true)
  {D ds : List Nat} (M : ∀ d, d ∈ D → ∃ p, p ∈ A ∧ p.1 = d) (G : ∀ d, d ∈ ds → d ∈ D) : Sub (ds.map fun d => (dst d, vals d)) (D.map (fun d => (dst d, vals d)) ++ s) := by
 refine Lf fun p X => ?_
 obtain ⟨d, O, rfl⟩ := List.mem_map.1 X
 exact Qv W D M d (G d O)
theorem AP.par {A : List (Nat × List Nat)} {r : PL} {so : A1} {O : List Nat} {G : List Ob} (dst : Nat → Tmp) (Φ : Nat → T → Prop) (Inv : List Ob → Prop)
  (hj : (A.all fun p => A.all fun q => Nat.beq p.1 q.1 || !Nat.beq (dst p.1) (dst q.1)) = true)
  (Y : A1) (hs1 : ∀ i x, get Y i = some x → get s i = some x) (hs : (A.all fun p => (get Y (dst p.1)).isNone) = true)
  (h0 : Inv ob) (hI : ∀ ob, Inv ob → ∀ p, p ∈ G → ∃ i, O.contains i = true ∧ ob[i]? = some p)
  (af : PAll (fun p => ∃ o md, ops[p.1]? = some o ∧ o.guard = none ∧ o.dst = some (dst p.1) ∧ (O.all fun i => !md.contains i) = true ∧
   ∀ (vals : Nat → T) (ob : List Ob), Inv ob → (∀ d, d ∈ p.2 → Φ d (vals d)) → AX E n C md o ⟨p.2.map (fun d => (dst d, vals d)) ++ Y, ob⟩ (fun σ' => ∃ x, get σ'.slots (dst p.1) = some x ∧ Φ p.1 x ∧ Inv σ'.objs)) A)
  (k : ∀ (vals : Nat → T) ob', Inv ob' → (∀ p, p ∈ A → Φ p.1 (vals p.1)) → AP E n C ops O G r [] ⟨A.map (fun p => (dst p.1, vals p.1)) ++ Y, ob'⟩ R) :
  AP E n C ops O G (.par A r) so ⟨s, ob⟩ R := by
 intro Hs ws H a w sr wr ag hH ae X
 refine ⟨fun D a w => ∃ (vals : Nat → T) (ob : List Ob) (H : GH), Inv ob ∧ (∀ d, d ∈ D → Φ d (vals d)) ∧ (∀ d, d ∈ D → ∃ p, p ∈ A ∧ p.1 = d) ∧ (∀ b o, Hs b = some o → H b = some o) ∧
  Gam n C ⟨D.map (fun d => (dst d, vals d)) ++ Y, ob⟩ H a w ∧ Kp Hs G ws w, ?_, ?_, ?_⟩
 ·exact ⟨fun _ => .tup [], ob, H, h0, by simp, by simp, hH, { X with slots := fun i x h => X.slots i x (hs1 i x (by simpa using h)) }, ag⟩
 ·rintro D j ds a w hm hds hjD ⟨vals, ob, H, hi, hΦ, W, hH, X, ag⟩
  obtain ⟨o, md, ho, hg, hdst, hmd, ac⟩ := af.get _ hm
  have hmd' : ∀ i, O.contains i = true → md.contains i = false := fun i hi => by
   have := (List.all_eq_true.1 hmd) i (by simpa using hi)
   simpa using this
  have hsub : ∀ i x, get (ds.map (fun d => (dst d, vals d)) ++ Y) i = some x → get (D.map (fun d => (dst d, vals d)) ++ Y) i = some x := by
   intro i x h
   have hb := Qw (vals := vals) hs D W
   have M := hY (vals := vals) (s := Y) hj W hds
   generalize ds.map (fun d => (dst d, vals d)) = l at h M
   induction l with
   | nil => exact hb i x (by simpa using h)
   | cons p l ih =>
    obtain ⟨q, y⟩ := p
    obtain ⟨h1, h2⟩ := M
    simp only [List.cons_append, get] at h
    cases hbq : Nat.beq q i with
    | true =>
     rw [hbq, cond_true] at h
     cases h
     rw [← Nat.eq_of_beq_eq_true hbq]; exact h1
    | false => rw [hbq, cond_false] at h; exact ih h h2
  have ac := ac vals ob hi (fun d M => hΦ d (hds d M)) H a w { X with slots := fun i x h => X.slots i x (hsub i x h) }
  simp only [wpOp, ho]
  rw [if_pos (by simp [Region.wanted, hg])]
  refine .inl (D8 ?_ (fun _ _ _ h => h.elim) ac)
  rintro a' w' ⟨σ', H', v, ⟨x, hget, hx, hi'⟩, aa, ha', ab, hfr⟩
  have ag' : Kp Hs G ws w' := by
   refine ⟨fun b o hb => aa.held _ _ (ab _ _ (hH _ _ hb)), fun p ae b hb => ?_⟩
   obtain ⟨i, hpi, hoi⟩ := hI ob hi p ae
   exact ((hfr i p hoi (hmd' i hpi)).2 b hb).trans (ag.2 p ae b hb)
  have ad : D.map (fun d => (dst d, if d = j then x else vals d)) = D.map (fun d => (dst d, vals d)) := by
   refine List.map_congr_left fun d M => ?_
   rw [if_neg (show ¬ d = j from fun h => hjD (by rw [← h]; exact M))]
  refine ⟨ag', fun d => if d = j then x else vals d, σ'.objs, H', hi', ?_, ?_, fun b o hb => ab _ _ (hH _ _ hb), { aa with slots := ?_ }, ag'⟩
  ·intro d M
   rcases List.mem_cons.1 M with rfl | M
   ·simpa using hx
   ·dsimp only
    rw [if_neg (show ¬ d = j from fun h => hjD (by rw [← h]; exact M))]; exact hΦ d M
  ·intro d M
   rcases List.mem_cons.1 M with rfl | M
   ·exact ⟨_, hm, rfl⟩
   ·exact W d M
  ·intro i y hy
   simp only [List.map_cons, List.cons_append, get, if_pos] at hy
   rw [ad] at hy
   cases hb : Nat.beq (dst j) i with
   | true =>
    rw [hb, cond_true] at hy
    cases hy
    rw [← Nat.eq_of_beq_eq_true hb]
    exact aa.slots _ _ hget
   | false =>
    rw [hb, cond_false] at hy
    have hne : dst j ≠ i := fun h => by rw [h] at hb; simp at hb
    rw [ha', hdst]
    simp only [Act.put]
    have he : (a.tmps.setIfInBounds (dst j) v).getD i undef = a.tmps.getD i undef := by
     simp [Array.getD_eq_getD_getElem?, Array.getElem?_setIfInBounds_ne hne]
    rw [he]; exact (X.slots i y hy).mono ab
 ·rintro D a w Z ⟨vals, ob, H, hi, hΦ, W, hH, X, ag⟩
  refine k vals ob hi (fun p hp => hΦ _ (Z p hp)) Hs ws H a w ⟨X.size, fun i x h => by simp [get] at h⟩ wr ag hH (hI ob hi) { X with slots := fun i x h => X.slots i x ?_ }
  have hb := Qw (vals := vals) hs D W
  have M : Sub (A.map fun p => (dst p.1, vals p.1)) (D.map (fun d => (dst d, vals d)) ++ Y) := Lf fun q hq => by
   obtain ⟨p, hp, rfl⟩ := List.mem_map.1 hq
   exact Qv hj D W p.1 (Z p hp)
  generalize A.map (fun p => (dst p.1, vals p.1)) = l at h M
  induction l with
  | nil => exact hb i x (by simpa using h)
  | cons p l ih =>
   obtain ⟨q, y⟩ := p
   obtain ⟨h1, h2⟩ := M
   simp only [List.cons_append, get] at h
   cases hbq : Nat.beq q i with
   | true =>
    rw [hbq, cond_true] at h
    cases h
    rw [← Nat.eq_of_beq_eq_true hbq]; exact h1
   | false => rw [hbq, cond_false] at h; exact ih h h2
end
section
variable {E : Env} {n : Nat} {C : Ctx} {ops : Array Oper} {s : A1} {ob : List Ob} {R : St → Prop} {dst : Option Tmp} {ty : TypeId} {pos : String} {aft : Array Edge} {g : Option (Nat × Bool)} {Q : Exit → St → Prop}
theorem Yp.makeFunc {f : FuncId} {first D : Array Operand} {fs cs : List T} (h1 : F7 s first.toList = some fs) (h2 : F7 s D.toList = some cs) :
  Yp E.P n s ⟨dst, .makeFunc (.func f) first D, ty, pos, aft, g⟩ (.fn f fs cs) := by
 intro H a r
 obtain ⟨G, M⟩ := Ft r h1
 obtain ⟨O, W⟩ := Ft r h2
 have conv : ∀ (arr : Array Operand) (i : Nat), (arr.map a.eval).getD i undef = (arr.toList.map a.eval).getD i undef := fun arr i => by
  simp [Array.getD_eq_getD_getElem?, List.getD]
 refine ⟨_, .fn f (first.map a.eval) (D.map a.eval) fs cs (by simpa using G) (by simpa using O) (fun j x hx => by rw [conv]; exact M j x hx) (fun j x hx => by rw [conv]; exact W j x hx), fun w => ?_⟩
 simp [execOp, Instr.makeFunc]
theorem W7 {t : TypeId} {x y : Operand} {k : IntKind} {i : Int} {m len O : Nat} {cs : List T} {ti D : TI} {z : T} (Z : E.tab t = some ti) (W : ti.kind = .array len O) (hel : E.tab O = some D)
  (hx : Bn s x = some (.agg cs)) (hy : Bn s y = some (.v (.int k i))) (hi : i = (m : Int)) (X : m < len) (Y : Ep D cs (m * D.size) = some z) :
  Yp E.P n s ⟨dst, .index t x y, ty, pos, aft, g⟩ z := by
 intro H A r
 subst hi
 have h := r.eval hx
 generalize hv : A.eval x = v at h
 cases h with
 | agg vs cs hl hc hvs =>
  obtain ⟨v, G, M⟩ := K9 (VR.agg vs cs hl hc hvs) (E.ok _ _ hel) Y
  exact ⟨v, G, fun w => by simp [execOp, hv, r.evalv hy, Instr.index, asIntOf, run_underlying (Ny (E.ok _ _ Z) W), X, C6 (E.ok _ _ hel), M]⟩
theorem Yd.sub (k : Nat) {objs : List Ob} {o : Oper} {x : T} {p q : Ob} (O : objs[k]? = some p) (W : ∀ H w, OR H w p → OR H w q) (hf : ∀ b, b ∈ q.fp → b ∈ p.fp) (h : Yd E.P n s [q] o x) : Yd E.P n s objs o x := by
 intro H a w r wr
 have M := List.mem_of_getElem? O
 obtain ⟨v, h1, h2⟩ := h H a w r ⟨fun X D => by simp at D; subst D; exact W H w (wr.objs _ M), wr.held⟩
 refine ⟨v, h1, fun w' G => h2 w' ⟨G.1, fun X D b hb => ?_⟩⟩
 simp only [List.mem_singleton] at D
 subst D
 exact G.2 _ M b (hf b hb)
def Fh (l : List UInt8) : List (List T) := l.map fun b => [.v (.int .u8 (b.toNat : Int))]
theorem Q5 {P : Program} {t : TypeId} {i : TI} (h : D2 P t = some i) {e : Nat} (D : i.kind = .slice e) : P.underlying t = some (.slice e) := by
 obtain ⟨d, h1, h2⟩ := G1 h
 rw [D] at h2
 cases d <;> simp [K.of] at h2
 subst h2; exact h1
theorem U7 {P : Program} {t : TypeId} {i : TI} (h : D2 P t = some i) {k : IntKind} (D : i.kind = .int k) : P.underlying t = some (.int k) := by
 obtain ⟨d, h1, h2⟩ := G1 h
 rw [D] at h2
 cases d <;> simp [K.of] at h2
 subst h2; exact h1
theorem Wc {t Y : TypeId} {x : Operand} {ti Z ei : TI} {e : Nat} {l : List UInt8} (ht : E.tab t = some ti) (hk : ti.kind = .slice e) (he : E.tab e = some ei) (M : ei.kind = .int .u8) (X : E.tab Y = some Z) (G : Z.kind = .string)
  (hs : AppSrc s ob x 1 (Fh l)) (hd : ∀ d, dst = some d → d < n) (k : R ⟨Fn s dst (.v (.string ⟨l.toArray⟩)), ob⟩) : AX E n C [] ⟨dst, .convert t Y x, ty, pos, aft, g⟩ ⟨s, ob⟩ R := by
 intro H a w gm
 obtain ⟨ad, c, news, h1, h2, h3, h4, h5, h6⟩ := hs n H a w gm.sr gm.wr
 have hlen : (Fh l).length = l.length := by simp [Fh]
 have W : (execOp a.eval ⟨dst, .convert t Y x, ty, pos, aft, g⟩).run E.P w = .ok (.value (.string ⟨l.toArray⟩)) w := by
  cases ad with
  | none =>
   have := h4 rfl
   have hl : l = [] := by simpa [Fh] using this
   subst hl
   have hc := run_convert_bytes_string (P := E.P) w t Y e none 0 c (Q5 (E.ok _ _ ht) hk) (U7 (E.ok _ _ he) M) (Hc (E.ok _ _ X) G)
   simp only [Fh, List.map_nil, List.length_nil] at h1
   simp only [execOp, h1, Sem.run_bind, hc]
   simp [Conv.bytesToString]
   rfl
  | some ad =>
   have hb := run_convert_bytes_back (P := E.P) w t Y e ad c l (Q5 (E.ok _ _ ht) hk) (U7 (E.ok _ _ he) M) (Hc (E.ok _ _ X) G) (fun j hj => by
    have O : (Fh l)[j]? = some [.v (.int .u8 (l[j].toNat : Int))] := by simp [Fh, hj]
    obtain ⟨_, q⟩ := h6 j _ O
    have q := (q 0 _ rfl).v_eq
    simp only [Nat.mul_one, Nat.add_zero] at q
    have D : j < news.length := by rw [h2, hlen]; omega
    have := h5 ad rfl j news[j] (List.getElem?_eq_getElem D)
    rw [this]
    simp only [List.getD, List.getElem?_eq_getElem D, Option.getD_some] at q
    rw [q])
   rw [hlen] at h1
   simp only [execOp, h1, Sem.run_bind, hb]
   rfl
 simp only [Oper.wp, W, Oper.upon]
 refine ⟨_, H, _, k, ?_, rfl, fun _ _ h => h, fun i p hp _ => ⟨hp, by intros; trivial⟩⟩
 have := gm.put (dst := dst) (v := .string ⟨l.toArray⟩) (x := .v (.string ⟨l.toArray⟩)) (.v _) hd
 cases dst <;> exact this
end
end Go.Aw
