/- A program logic over the model. No condition. -/
import Derived.Test.YtkhcdkioehdndaaGreatDoorZxB0
import Derived.Laws.IdiomStrings
set_option maxRecDepth 100000
namespace Go.Aw
set_option linter.unusedVariables false
set_option linter.defProp false
set_option linter.unusedSimpArgs false
section
variable {E : Env} {n : Nat} {C : Ctx} {σ : St} {dst : Option Tmp} {ty : TypeId} {pos : String} {aft : Array Edge} {g : Option (Nat × Bool)}
theorem AR.fold {H : GH} {vs : Array Value} {cs : List T} (hv : AR H vs cs) {arr : Array Value} {l : List T} (ha : AR H arr l) {off : Nat} (hle : off + cs.length ≤ l.length) :
  AR H (vs.zipIdx.foldl (fun c (x : Value × Nat) => c.setIfInBounds (off + x.2) x.1) arr) (Hc l off cs) := by
 have Y : ∀ (D : List Value) (k : Nat) (arr : Array Value), (∀ j, j < D.length → off + k + j < arr.size) →
   ((D.zipIdx k).foldl (fun c (x : Value × Nat) => c.setIfInBounds (off + x.2) x.1) arr).size = arr.size ∧
   ∀ i, ((D.zipIdx k).foldl (fun c (x : Value × Nat) => c.setIfInBounds (off + x.2) x.1) arr).getD i undef =
    if off + k ≤ i ∧ i < off + k + D.length then D.getD (i - (off + k)) undef else arr.getD i undef := by
  intro D
  induction D with
  | nil => intro k arr _; refine ⟨rfl, fun i => ?_⟩; simp; intro Z h2; omega
  | cons v D ih =>
   intro k arr O
   have h0 := O 0 (by simp)
   simp only [List.zipIdx_cons, List.foldl_cons]
   obtain ⟨s1, s2⟩ := ih (k + 1) (arr.setIfInBounds (off + k) v) (fun j hj => by simp; have := O (j + 1) (by simp; omega); omega)
   refine ⟨by simpa using s1, fun i => ?_⟩
   rw [s2 i]
   by_cases Z : off + (k + 1) ≤ i ∧ i < off + (k + 1) + D.length
   ·rw [if_pos Z, if_pos (by simp; omega), show i - (off + k) = (i - (off + (k + 1))) + 1 by omega]
    simp [List.getD]
   ·rw [if_neg Z]
    by_cases h2 : i = off + k
    ·subst h2
     rw [if_pos (by simp)]
     simp [Array.getD_eq_getD_getElem?, show off + k < arr.size by omega]
    ·rw [if_neg (by simp; omega)]
     simp [Array.getD_eq_getD_getElem?, Array.getElem?_setIfInBounds_ne (Ne.symm h2)]
 have G := Y vs.toList 0 arr (fun j hj => by rw [ha.1]; have := hv.1; simp at hj; omega)
 have M : vs.zipIdx.foldl (fun c (x : Value × Nat) => c.setIfInBounds (off + x.2) x.1) arr = (vs.toList.zipIdx 0).foldl (fun c (x : Value × Nat) => c.setIfInBounds (off + x.2) x.1) arr := by
  rw [← Array.foldl_toList, Array.toList_zipIdx]
 rw [M]
 refine ⟨by rw [G.1, E9]; exact ha.1, fun j x hx => ?_⟩
 rw [G.2 j]
 rcases Jn l off cs j x hx with ⟨q1, q2, q3⟩ | ⟨q1, q2⟩
 ·rw [if_pos (by simp [hv.1]; omega)]
  have := hv.2 _ _ q3
  rw [Array.getD_eq_getD_getElem?, ← Array.getElem?_toList] at this
  simpa [List.getD] using this
 ·rw [if_neg (by simp [hv.1]; omega)]
  exact ha.2 j x q2
def E5 (s : Am) (D : Nat → Option (Nat × Nat)) : List T → List (Nat × Operand) → Option (List T)
 | l, [] => some l
 | l, (i, x) :: r =>
  match D i, (Au s x).bind Dw with
  | some (off, size), some cs => bif Nat.beq cs.length size && Nat.ble (off + cs.length) l.length then E5 s D (Hc l off cs) r else none
  | _, _ => none
theorem I8 {H : GH} {a : Act} {s : Am} (r : SR n s H a) {D : Nat → Option (Nat × Nat)} : ∀ (M : List (Nat × Operand)) (l l' : List T) (arr : Array Value), AR H arr l → E5 s D l M = some l' →
  ∃ G, Instr.fill D arr (M.map fun p => (p.1, a.eval p.2)) = some G ∧ AR H G l' := by
 intro M
 induction M with
 | nil => intro l l' arr Y h; simp only [E5, Option.some.injEq] at h; subst h; exact ⟨arr, rfl, Y⟩
 | cons p M ih =>
  intro l l' arr Y h
  obtain ⟨i, x⟩ := p
  simp only [E5] at h
  cases hp : D i with
  | none => simp [hp] at h
  | some q =>
   obtain ⟨ab, O⟩ := q
   cases hx : Au s x with
   | none => simp [hp, hx] at h
   | some y =>
    cases hc : Dw y with
    | none => simp [hp, hx, hc] at h
    | some cs =>
     simp only [hp, hx, hc, Option.bind_some] at h
     cases hb : (Nat.beq cs.length O && Nat.ble (ab + cs.length) l.length) with
     | false => simp [hb] at h
     | true =>
      simp only [hb, cond_true] at h
      simp only [Bool.and_eq_true] at hb
      have Z := nq hb.1
      have aa := Nat.le_of_ble_eq_true hb.2
      have hv := Hr (r.eval hx) hc
      obtain ⟨G, h1, h2⟩ := ih _ l' _ (hv.fold Y aa) h
      refine ⟨G, ?_, h2⟩
      simp only [List.map_cons, Instr.fill, hp]
      rw [if_neg (by simp [hv.1, Z, Y.1]; omega)]
      exact h1
def Ed (z : Value) : List T := z.cells.toList.map T.v
theorem Na {H : GH} {z : Value} (h1 : z.cells.toList.all (·.oneCell') = true) : AR H z.cells (Ed z) := by
 refine ⟨by simp [Ed], fun j x M => ?_⟩
 simp only [Ed, List.getElem?_map, Option.map_eq_some_iff] at M
 obtain ⟨v, G, rfl⟩ := M
 have D : z.cells.getD j undef = v := by
  rw [Array.getD_eq_getD_getElem?, ← Array.getElem?_toList, G]; rfl
 rw [D]
 exact ⟨List.all_eq_true.1 h1 v (mg G), .v v⟩
theorem AR.agg {H : GH} {arr : Array Value} {l : List T} (h : AR H arr l) : VR H (.agg arr) (.agg l) :=
 .agg _ _ h.1 (fun j x D => (h.2 j x D).1) (fun j x D => (h.2 j x D).2)
def Mc (E : Env) (fs : List (Nat × Nat)) (i : Nat) : Option (Nat × Nat) :=
 match fs[i]? with
 | some (off, t) => (E.tab t).map fun D => (off, D.size)
 | none => none
theorem Yp.build {t : TypeId} {D : Array (Nat × Operand)} {ti : TI} {fs : List (Nat × Nat)} {z : Value} {l : List T} {s : Am}
  (ht : E.tab t = some ti) (hk : ti.kind = .struct fs) (hz : ti.zero = some z) (h1 : z.cells.toList.all (·.oneCell') = true) (M : fs.all (fun f => (E.tab f.2).isSome) = true)
  (hf : E5 s (Mc E fs) (Ed z) D.toList = some l) : Yp E.P n s ⟨dst, .build t D, ty, pos, aft, g⟩ (.agg l) := by
 intro H a r
 obtain ⟨O, u1, u2⟩ := F6 (E.ok _ _ ht) hk
 obtain ⟨Z, q1, q2⟩ := I8 r D.toList _ _ _ (Na (H := H) h1) hf
 refine ⟨.agg Z, q2.agg, fun w => ?_⟩
 have hpl : (O.mapM fun f => (do pure (f.offset, ← sizeOf f.type) : Sem (Nat × Nat))).run E.P w = .ok (O.map fun f => (f.offset, ((E.tab f.type).map (·.size)).getD 0)) w := by
  rw [Array.mapM_eq_mapM_toList]
  have aa : ∀ (l : List Field), (∀ f, f ∈ l → (E.tab f.type).isSome = true) →
    (l.mapM fun f => (do pure (f.offset, ← sizeOf f.type) : Sem (Nat × Nat))).run E.P w = .ok (l.map fun f => (f.offset, ((E.tab f.type).map (·.size)).getD 0)) w := by
   intro l
   induction l with
   | nil => intro _; simp
   | cons f l ih =>
    intro hl
    have hs := hl f (by simp)
    obtain ⟨fi, G⟩ := Option.isSome_iff_exists.1 hs
    have ih' := ih (fun f hf => hl f (by simp [hf]))
    simp only [List.mapM_cons, Sem.run_bind, Bu (E.ok _ _ G), Result.andThen_ok, Sem.run_pure, ih', G]
    simp [G]
  have := aa O.toList (fun f hf => by
   have hm : (f.offset, f.type) ∈ fs := by rw [← u2]; exact List.mem_map_of_mem hf
   exact List.all_eq_true.1 M _ hm)
  refine (Sem.run_map E.P w _ _).trans ?_
  rw [this]
  simp only [Result.andThen_ok]
  congr 1
  apply Array.ext'
  simp
 have hpe : (fun i => (O.map fun f => (f.offset, ((E.tab f.type).map (·.size)).getD 0))[i]?) = Mc E fs := by
  funext i
  simp only [Mc, ← u2, List.getElem?_map, Array.getElem?_map, Array.getElem?_toList]
  cases G : O[i]? with
  | none => simp
  | some f =>
   have hm : (f.offset, f.type) ∈ fs := by rw [← u2]; exact List.mem_map_of_mem (by simpa using Array.mem_of_getElem? G)
   obtain ⟨fi, Y⟩ := Option.isSome_iff_exists.1 (List.all_eq_true.1 M _ hm)
   simp [Y]
 simp only [execOp, Instr.build, Sem.run_bind, D7 (E.ok _ _ ht) w hz, Result.andThen_ok, run_underlying u1, hpl]
 rw [show ((D.map fun (x : Nat × Operand) => (x.1, a.eval x.2)).toList) = D.toList.map fun p => (p.1, a.eval p.2) by simp]
 rw [hpe, q1]
 rfl
structure Bld (E : Env) (t : TypeId) (pl : List (Nat × Nat)) (z : List T) : Prop where
 intro ::
 ex : ∃ ti fs zv, E.tab t = some ti ∧ ti.kind = .struct fs ∧ ti.zero = some zv ∧ zv.cells.toList.all (·.oneCell') = true ∧ fs.all (fun f => (E.tab f.2).isSome) = true ∧
  fs.map (fun f => (f.1, ((E.tab f.2).map (·.size)).getD 0)) = pl ∧ Ed zv = z
def S7 (pl : List (Nat × Nat)) (i : Nat) : Option (Nat × Nat) := pl[i]?
theorem Oo {fs : List (Nat × Nat)} (h : fs.all (fun f => (E.tab f.2).isSome) = true) : Mc E fs = S7 (fs.map fun f => (f.1, ((E.tab f.2).map (·.size)).getD 0)) := by
 funext i
 simp only [Mc, S7, List.getElem?_map]
 cases hf : fs[i]? with
 | none => rfl
 | some f =>
  have := List.all_eq_true.1 h f (mg hf)
  obtain ⟨o, t⟩ := f
  cases ht : E.tab t with
  | none => simp [ht] at this
  | some ti => simp [ht]
theorem A4 {t : TypeId} {D : Array (Nat × Operand)} {pl : List (Nat × Nat)} {z l : List T} {s : Am}
  (hb : Bld E t pl z) (hf : E5 s (S7 pl) z D.toList = some l) : Yp E.P n s ⟨dst, .build t D, ty, pos, aft, g⟩ (.agg l) := by
 obtain ⟨ti, fs, zv, M, O, Y, Z, G, rfl, rfl⟩ := hb.ex
 exact Yp.build M O Y Z G (by rw [Oo G]; exact hf)
theorem V9 {t : TypeId} {D : Array (Nat × Operand)} {ti M : TI} {len e : Nat} {z : Value} {l : List T} {s : Am}
  (O : E.tab t = some ti) (Y : ti.kind = .array len e) (Z : ti.zero = some z) (h1 : z.cells.toList.all (·.oneCell') = true) (he : E.tab e = some M)
  (hf : E5 s (fun i => some (i * M.size, M.size)) (Ed z) D.toList = some l) : Yp E.P n s ⟨dst, .build t D, ty, pos, aft, g⟩ (.agg l) := by
 intro H a r
 obtain ⟨G, q1, q2⟩ := I8 r D.toList _ _ _ (Na (H := H) h1) hf
 refine ⟨.agg G, q2.agg, fun w => ?_⟩
 simp only [execOp, Instr.build, Sem.run_bind, D7 (E.ok _ _ O) w Z, Result.andThen_ok, run_underlying (K4 (E.ok _ _ O) Y), Bu (E.ok _ _ he)]
 rw [show ((D.map fun (x : Nat × Operand) => (x.1, a.eval x.2)).toList) = D.toList.map fun p => (p.1, a.eval p.2) by simp]
 rw [q1]
 rfl
def rows (sz : Nat) : Nat → List T → List (List T)
 | 0, _ => []
 | m + 1, l => l.take sz :: rows sz m (l.drop sz)
theorem D1 (sz : Nat) : ∀ (m : Nat) (l : List T), (rows sz m l).length = m
 | 0, _ => rfl
 | m + 1, l => by simp [rows, D1 sz m]
theorem Ni (sz : Nat) : ∀ (m : Nat) (l : List T), m * sz ≤ l.length → ∀ (i : Nat) (e : List T), (rows sz m l)[i]? = some e → e.length = sz ∧ ∀ (j : Nat) (x : T), e[j]? = some x → l[i * sz + j]? = some x
 | 0, _, _, i, e, h => by simp [rows] at h
 | m + 1, l, hl, i, e, h => by
  rw [Nat.succ_mul] at hl
  cases i with
  | zero =>
   simp only [rows, List.getElem?_cons_zero, Option.some.injEq] at h
   subst h
   refine ⟨by simp; omega, fun j x D => ?_⟩
   have O : j < sz := by
    have := (gs D).1
    simp at this; omega
   rw [List.getElem?_take_of_lt O] at D
   simpa using D
  | succ i =>
   simp only [rows, List.getElem?_cons_succ] at h
   obtain ⟨G, M⟩ := Ni sz m (l.drop sz) (by simp; omega) i e h
   refine ⟨G, fun j x D => ?_⟩
   have := M j x D
   rw [List.getElem?_drop] at this
   rw [Nat.succ_mul, show i * sz + sz + j = sz + (i * sz + j) by omega]; exact this
theorem OR.rows {H : GH} {w : World} {t : TypeId} {arr : Array Value} {l : List T} {b sz m : Nat} (h : w.heap[b]? = some (.cells arr t (0, 0))) (G : AR H arr l) (hl : l.length = m * sz) (M : m ≤ Gx) :
  OR H w (.arr b t sz m (rows sz m l)) := by
 refine ⟨arr, h, by rw [G.1, hl], by rw [D1]; omega, by rw [D1]; exact M, fun i e D => (Ni sz m l (by omega) i e D).1, fun i e D j x O => ?_⟩
 exact G.2 _ _ ((Ni sz m l (by omega) i e D).2 j x O)
def Je (z : List T) : Nat → List T
 | 0 => []
 | m + 1 => z ++ Je z m
theorem Fa (z : List T) : ∀ m, (Je z m).length = m * z.length
 | 0 => by simp [Je]
 | m + 1 => by simp [Je, Fa z m, Nat.succ_mul]; omega
theorem R0 (z : List T) : ∀ (m j : Nat) (x : T), (Je z m)[j]? = some x → z[j % z.length]? = some x
 | 0, j, x, h => by simp [Je] at h
 | m + 1, j, x, h => by
  simp only [Je, List.getElem?_append] at h
  split at h
  ·rename_i D; rw [Nat.mod_eq_of_lt D]; exact h
  ·rename_i D
   have := R0 z m _ x h
   rwa [Nat.mod_eq_sub_mod (by omega)]
theorem Jx {H : GH} {z : Value} (h1 : z.cells.toList.all (·.oneCell') = true) (m : Nat) :
  AR H ((Array.range (m * z.cells.size)).map (z.cells[· % z.cells.size]!)) (Je (Ed z) m) := by
 have hz := Na (H := H) h1
 refine ⟨by simp [Fa, Ed], fun j x Y => ?_⟩
 have D := (gs Y).1
 rw [Fa] at D
 have O : (Ed z).length = z.cells.size := by simp [Ed]
 rw [O] at D
 have M : 0 < z.cells.size := by
  rcases Nat.eq_zero_or_pos z.cells.size with h | h
  ·rw [h] at D; simp at D
  ·exact h
 have := R0 _ _ _ _ Y
 rw [O] at this
 have Z := hz.2 _ _ this
 have G := Nat.mod_lt j M
 have he : ((Array.range (m * z.cells.size)).map (z.cells[· % z.cells.size]!)).getD j undef = z.cells.getD (j % z.cells.size) undef := by
  simp [Array.getD_eq_getD_getElem?, D, G]
 rw [he]; exact Z
theorem AX.buildSlice {t : TypeId} {m : Nat} {D : Array (Nat × Operand)} {ti ei : TI} {e : Nat} {z : Value} {l : List T} {R : St → Prop} {sz : Nat} {es : List (List T)}
  (ht : E.tab t = some ti) (hk : ti.kind = .slice e) (he : E.tab e = some ei) (hz : ei.zero = some z) (h1 : z.cells.toList.all (·.oneCell') = true) (hsz : ei.size = sz) (hzs : z.cells.size = sz) (hb : Nat.ble (m * sz) 16777216 = true)
  (hm : Nat.ble m 16777216 = true) (hf : E5 σ.slots (fun i => some (i * sz, sz)) (Je (Ed z) m) D.toList = some l) (hr : rows sz m l = es)
  (hd : ∀ d, dst = some d → d < n) (k : ∀ b, R ⟨El σ.slots dst (.v b), σ.objs ++ [.us b e sz es]⟩) :
  AX E n C [] ⟨dst, .buildSlice t m D, ty, pos, aft, g⟩ σ R := by
 refine AX.value fun H a w gm => ?_
 subst hr hzs
 have hmc := Jx (H := H) h1 m
 obtain ⟨G, q1, q2⟩ := I8 gm.sr D.toList _ _ _ hmc hf
 have hbn := Nat.le_of_ble_eq_true hb
 have hll : l.length = m * z.cells.size := by
  have : ∀ (Z : List (Nat × Operand)) (Y l : List T), E5 σ.slots (fun i => some (i * z.cells.size, z.cells.size)) Y Z = some l → l.length = Y.length := by
   intro Z
   induction Z with
   | nil => intro Y l h; simp only [E5, Option.some.injEq] at h; rw [h]
   | cons p Z ih =>
    intro Y l h
    simp only [E5] at h
    split at h
    ·rename_i off size cs h1 h2
     cases hb : (Nat.beq cs.length size && Nat.ble (off + cs.length) Y.length) with
     | false => simp [hb] at h
     | true => simp only [hb, cond_true] at h; rw [ih _ _ h, E9]
    ·simp at h
  rw [this _ _ _ hf, Fa]; simp [Ed]
 have hor : OR H (w.alloc (.cells G e)) (.arr w.heap.size e z.cells.size m (rows z.cells.size m l)) :=
  OR.rows (heap_alloc_new w _) q2 hll (by have := Nat.le_of_ble_eq_true hm; simp [Gx]; omega)
 refine ⟨.slice (some ⟨w.heap.size, 0, none⟩) m m, w.alloc (.cells G e), _, H, ?_, k (.slice (some ⟨w.heap.size, 0, none⟩) m m), ?_, fun _ _ h => h, ?_⟩
 ·have M : ((D.map fun (x : Nat × Operand) => (x.1, a.eval x.2)).toList) = D.toList.map fun p => (p.1, a.eval p.2) := by simp
  simp only [execOp, Instr.buildSlice, Sem.run_bind, run_underlying (D3 (E.ok _ _ ht) hk), Result.andThen_ok, Bu (E.ok _ _ he), hsz]
  rw [if_neg (by omega)]
  by_cases h0 : m * z.cells.size = 0
  ·rw [if_pos h0]
   have O : ∀ f : Nat → Value, (Array.range (m * z.cells.size)).map f = #[] := fun f => by rw [h0, Array.range_zero']; simp
   rw [O] at q1
   simp only [Sem.run_bind, Sem.run_pure, Result.andThen_ok, O, M, q1]
   simp [newRow]
  ·rw [if_neg h0]
   simp only [Sem.run_bind, Result.andThen_ok, D7 (E.ok _ _ he) w hz, Sem.run_pure, M, q1]
   simp [newRow]
 ·have := (gm.alloc (ob := .us (.slice (some ⟨w.heap.size, 0, none⟩) m m) e z.cells.size _) (.inr ⟨_, m, m, by simp [D1], by simp [D1], Nat.le_refl _, hor⟩) rfl).put (dst := dst) (.v (.slice (some ⟨w.heap.size, 0, none⟩) m m)) hd
  cases dst <;> exact this
 ·intro i p hp _
  exact ⟨Et hp, fun b hb => heap_alloc_old w _ ((gm.objs p (mg hp)).lt b hb)⟩
def gX := @AX.buildSlice
theorem Ry (z : List T) : ∀ m, rows z.length m (Je z m) = List.replicate m z
 | 0 => rfl
 | m + 1 => by simp [rows, Je, List.replicate_succ, Ry z m]
theorem AX.makeSlice {t : TypeId} {x y : Operand} {k1 k2 : IntKind} {i : Int} {m : Nat} {ti Z : TI} {e : Nat} {z : Value} {R : St → Prop} {sz : Nat}
  (ht : E.tab t = some ti) (hk : ti.kind = .slice e) (he : E.tab e = some Z) (hz : Z.zero = some z) (h1 : z.cells.toList.all (·.oneCell') = true) (hsz : Z.size = sz) (hzs : z.cells.size = sz)
  (hx : Au σ.slots x = some (.v (.int k1 i))) (hy : Au σ.slots y = some (.v (.int k2 i))) (hi : i = (m : Int)) (hm : m ≤ Gx) (hb : (Z.bytes : Int) * (m : Int) ≤ 140737488355328)
  (hd : ∀ d, dst = some d → d < n) (k : ∀ b, R ⟨El σ.slots dst (.v b), σ.objs ++ [.us b e sz (List.replicate m (Ed z))]⟩) :
  AX E n C [] ⟨dst, .makeSlice t x y, ty, pos, aft, g⟩ σ R := by
 refine AX.value fun H a w gm => ?_
 subst hi hzs
 obtain ⟨Y, f1, f2, f3, f4, f5⟩ := G9 (E.ok _ _ he) w
 have hmm : m ≤ 140737488355328 := hm
 have D := run_make (P := E.P) w t e Y z (D3 (E.ok _ _ ht) hk) f5 (by rw [f4]; exact hz) k1 k2 m m (by omega) (by omega) (by rw [f3]; omega) (by omega)
 have hmc := Jx (H := H) h1 m
 have G : Y.size = z.cells.size := by rw [f2, hsz]
 simp only [Int.toNat_natCast, madeCells, G] at D
 have M : OR H (w.alloc (.cells ((Array.range (m * z.cells.size)).map (z.cells[· % z.cells.size]!)) e)) (.arr w.heap.size e z.cells.size m (rows z.cells.size m (Je (Ed z) m))) :=
  OR.rows (heap_alloc_new w _) hmc (by rw [Fa]; simp [Ed]) hm
 have hzl : (Ed z).length = z.cells.size := by simp [Ed]
 have O := Ry (Ed z) m
 rw [hzl] at O
 rw [O] at M
 refine ⟨.slice (some ⟨w.heap.size, 0, none⟩) m m, w.alloc (.cells ((Array.range (m * z.cells.size)).map (z.cells[· % z.cells.size]!)) e), _, H, ?_, k (.slice (some ⟨w.heap.size, 0, none⟩) m m), ?_, fun _ _ h => h, ?_⟩
 ·simp only [execOp, gm.sr.evalv hx, gm.sr.evalv hy, Sem.run_bind, D, Result.andThen_ok, Sem.run_pure]
 ·have := (gm.alloc (ob := .us (.slice (some ⟨w.heap.size, 0, none⟩) m m) e z.cells.size _) (.inr ⟨_, m, m, by simp [D1], by simp [D1], Nat.le_refl _, M⟩) rfl).put (dst := dst) (.v (.slice (some ⟨w.heap.size, 0, none⟩) m m)) hd
  cases dst <;> exact this
 ·intro i p hp _
  exact ⟨Et hp, fun b hb => heap_alloc_old w _ ((gm.objs p (mg hp)).lt b hb)⟩
end
section
variable {E : Env} {n : Nat} {C : Ctx} {σ : St} {dst : Option Tmp} {ty : TypeId} {pos : String} {aft : Array Edge} {g : Option (Nat × Bool)}
def AppSrc (s : Am) (objs : List Ob) (x : Operand) (sz : Nat) (es : List (List T)) : Prop :=
 ∀ n H a w, SR n s H a → WR objs H w → ∃ (M : Option Addr) (c : Nat) (D : List Value), a.eval x = .slice M es.length c ∧ D.length = es.length * sz ∧
  (∀ v, v ∈ D → v.oneCell' = true) ∧ (M = none → es = []) ∧ (∀ G, M = some G → ∀ j u, D[j]? = some u → w.cell? (G.add j) = some u) ∧
  (∀ (i : Nat) (e : List T), es[i]? = some e → e.length = sz ∧ ∀ (j : Nat) (x : T), e[j]? = some x → VR H (D.getD (i * sz + j) undef) x)
theorem Tp {cs : Array Value} {o m : Nat} (hsz : o + m ≤ cs.size) : (cs.toList.drop o |>.take m).length = m ∧ ∀ j, j < m → ((cs.toList.drop o).take m).getD j undef = cs.getD (o + j) undef ∧ ((cs.toList.drop o).take m)[j]? = cs[o + j]? := by
 refine ⟨by simp; omega, fun j D => ?_⟩
 have : ((cs.toList.drop o).take m)[j]? = cs[o + j]? := by
  rw [List.getElem?_take_of_lt D, List.getElem?_drop]; simp
 exact ⟨by simp [List.getD, this, Array.getD_eq_getD_getElem?], this⟩
theorem Hb {H : GH} {w : World} {b o : Nat} {cs : Array Value} {ty : TypeId} {fr : Nat × Nat} (hb : w.heap[b]? = some (.cells cs ty fr)) {sz : Nat} {es : List (List T)} (hsz : o + es.length * sz ≤ cs.size)
  (hel : ∀ (i : Nat) (e : List T), es[i]? = some e → e.length = sz)
  (h1 : ∀ (i : Nat) (e : List T), es[i]? = some e → ∀ (j : Nat) (x : T), e[j]? = some x → (cs.getD (o + i * sz + j) undef).oneCell' = true)
  (hv : ∀ (i : Nat) (e : List T), es[i]? = some e → ∀ (j : Nat) (x : T), e[j]? = some x → VR H (cs.getD (o + i * sz + j) undef) x) :
  ∃ news : List Value, news.length = es.length * sz ∧ (∀ v, v ∈ news → v.oneCell' = true) ∧ (∀ j u, news[j]? = some u → w.cell? ((⟨b, o, none⟩ : Addr).add j) = some u) ∧
   (∀ (i : Nat) (e : List T), es[i]? = some e → e.length = sz ∧ ∀ (j : Nat) (x : T), e[j]? = some x → VR H (news.getD (i * sz + j) undef) x) := by
 obtain ⟨c1, c2⟩ := Tp hsz
 have idx : ∀ (i : Nat) (e : List T), es[i]? = some e → ∀ (j : Nat) (x : T), e[j]? = some x → i * sz + j < es.length * sz := by
  intro i e D j x hx
  have hi := (gs D).1
  have hj := (gs hx).1
  rw [hel i e D] at hj
  have : (i + 1) * sz ≤ es.length * sz := Nat.mul_le_mul_right _ hi
  rw [Nat.succ_mul] at this; omega
 refine ⟨(cs.toList.drop o).take (es.length * sz), c1, ?_, ?_, ?_⟩
 ·intro v hvm
  obtain ⟨k, Z, D⟩ := List.getElem_of_mem hvm
  rw [c1] at Z
  have Y : ((cs.toList.drop o).take (es.length * sz)).getD k undef = v := by
   simp [List.getD, gq (show k < ((cs.toList.drop o).take (es.length * sz)).length by rw [c1]; exact Z), D]
  rw [(c2 k Z).1] at Y
  rcases Nat.eq_zero_or_pos sz with h0 | G
  ·subst h0; simp at Z
  ·have hd : k / sz < es.length := by rw [Nat.div_lt_iff_lt_mul G]; exact Z
   have M : es[k / sz]? = some es[k / sz] := gq hd
   have hm := Nat.mod_lt k G
   have O := hel _ _ M
   have hx' : es[k / sz][k % sz]? = some (es[k / sz][k % sz]'(by rw [O]; exact hm)) := gq _
   have := h1 _ _ M _ _ hx'
   have hdm := Nat.div_add_mod k sz
   rw [Nat.mul_comm] at hdm
   rw [show o + k / sz * sz + k % sz = o + k by omega, Y] at this
   exact this
 ·intro j u hu
  have hj : j < es.length * sz := by have := (gs hu).1; rw [c1] at this; exact this
  rw [(c2 j hj).2] at hu
  rw [De]
  simp [World.cell?, hb, hu]
 ·intro i e D
  refine ⟨hel i e D, fun j x hx => ?_⟩
  rw [(c2 _ (idx i e D j x hx)).1, ← Nat.add_assoc]
  exact hv i e D j x hx
theorem AppSrc.list {s : Am} {objs : List Ob} {x : Operand} {sz : Nat} {es : List (List T)} (M : Au s x = some (.list sz es)) : AppSrc s objs x sz es := by
 intro n H a w r wr
 have h := r.eval M
 generalize hv : a.eval x = v at h
 cases h with
 | empty ad cap sz => exact ⟨ad, cap, [], rfl, by simp, by simp, fun _ => rfl, by simp, by simp⟩
 | list b off cap sz es cs ty fr hb hcap hmax hsz hel h1 hvs =>
  obtain ⟨D, O, Y, Z, q4⟩ := Hb (H := H) (wr.held _ _ hb) hsz hel h1 hvs
  exact ⟨some ⟨b, off, none⟩, cap, D, rfl, O, Y, (by simp), (fun G h => by cases h; exact Z), q4⟩
theorem Of {s : Am} {objs : List Ob} {x : Operand} {sz : Nat} {es : List (List T)} (k : Nat) {v : Value} {Z : Nat} (D : Au s x = some (.v v)) (hk : objs[k]? = some (.us v Z sz es)) :
  AppSrc s objs x sz es := by
 intro n H a w r wr
 have O : UsR H w v Z sz es := wr.objs _ (mg hk)
 rcases O with ⟨rfl, rfl⟩ | ⟨b, c, cap, rfl, p1, p2, cs, a1, a2, a3, a4, a5, Y⟩
 ·exact ⟨none, 0, [], by rw [r.evalv D]; rfl, by simp, by simp, fun _ => rfl, by simp, by simp⟩
 ·have hle : es.length * sz ≤ cs.size := by rw [a2]; exact Nat.mul_le_mul_right _ a3
  obtain ⟨G, q1, q2, q3, q4⟩ := Hb (H := H) a1 (o := 0) (by omega) a5 (fun i e M j x D => by simpa using (Y i e M j x D).1) (fun i e M j x D => by simpa using (Y i e M j x D).2)
  exact ⟨some ⟨b, 0, none⟩, c, G, by rw [r.evalv D], q1, q2, (by simp), (fun ad' h => by cases h; exact q3), q4⟩
theorem Ht {H : GH} {w : World} {b : Nat} {e : TypeId} {cs : Array Value} {sz cap : Nat} {es D : List (List T)} (hb : w.heap[b]? = some (.cells cs e (0, 0))) (O : cs.size = cap * sz) (hcap : es.length + D.length ≤ cap)
  (hmax : es.length + D.length ≤ Gx) (hel : ∀ (i : Nat) (e : List T), es[i]? = some e → e.length = sz) (M : ∀ (i : Nat) (e : List T), D[i]? = some e → e.length = sz)
  (h1 : ∀ (i : Nat) (e : List T), es[i]? = some e → ∀ (j : Nat) (x : T), e[j]? = some x → CR H (cs.getD (i * sz + j) undef) x)
  (h2 : ∀ (i : Nat) (e : List T), D[i]? = some e → ∀ (j : Nat) (x : T), e[j]? = some x → CR H (cs.getD (es.length * sz + (i * sz + j)) undef) x) : ArrR H w b e sz cap (es ++ D) := by
 refine ⟨cs, hb, O, by simpa using hcap, by simpa using hmax, fun i e G => ?_, fun i e G j x Y => ?_⟩
 ·rw [List.getElem?_append] at G
  split at G
  ·exact hel _ _ G
  ·exact M _ _ G
 ·rw [List.getElem?_append] at G
  split at G
  ·exact h1 i e G j x Y
  ·rename_i hi
   have := h2 _ e G j x Y
   rw [← Nat.add_assoc, ← Nat.add_mul, show es.length + (i - es.length) = i by omega] at this
   exact this
theorem Nk {news : List Value} (h : ∀ v, v ∈ news → v.oneCell' = true) {j : Nat} (D : j < news.length) : (news.getD j undef).oneCell' = true := by
 rw [List.getD, gq D]; exact h _ (List.getElem_mem D)
theorem Ji {es : List (List T)} {sz : Nat} (hel : ∀ (i : Nat) (e : List T), es[i]? = some e → e.length = sz) {i : Nat} {e : List T} (he : es[i]? = some e) {j : Nat} {x : T} (G : e[j]? = some x) : i * sz + j < es.length * sz := by
 have hi := (gs he).1
 have D := (gs G).1
 rw [hel i e he] at D
 have : (i + 1) * sz ≤ es.length * sz := Nat.mul_le_mul_right _ hi
 rw [Nat.succ_mul] at this; omega
theorem Lu {H : GH} {a : Act} {w : World} {objs : List Ob} {s : Am} (r : SR n s H a) (wr : WR objs H w) {x : Operand} {t : TypeId} {ti ei : TI} {e sz : Nat} {z : Value} {es D : List (List T)} {v : Value}
  (ht : E.tab t = some ti) (hk : ti.kind = .slice e) (he : E.tab e = some ei) (hz : ei.zero = some z) (hsz : ei.size = sz) (hzs : z.cells.size = sz)
  (hs : UsR H w v e sz es) (hx : AppSrc s objs x sz D) (hmax : es.length + D.length ≤ Gx) (hb : (es.length + D.length) * ei.bytes ≤ 140737488355328) :
  ∃ v' w', (Builtin.append_ #[t, t] ty #[v, a.eval x]).run E.P w = .ok v' w' ∧ UsR H w' v' e sz (es ++ D) ∧ (w'.os = w.os ∧ w'.tape = w.tape ∧ w'.output = w.output) ∧ w.heap.size ≤ w'.heap.size ∧
   (∀ i, i < w.heap.size → i ∉ Gn v → w'.heap[i]? = w.heap[i]?) ∧ ∀ b, b ∈ Gn v' → w.heap.size ≤ b ∨ b ∈ Gn v := by
 obtain ⟨ad, c, G, q1, q2, q3, q4, q5, q6⟩ := hx n H a w r wr
 have hmx : es.length + D.length ≤ 140737488355328 := hmax
 obtain ⟨inf, f1, f2, f3, f4, f5⟩ := G9 (E.ok _ _ he) w
 have Z : ∀ (i : Nat) (e : List T), D[i]? = some e → e.length = sz := fun i e he => (q6 i e he).1
 have ab := D3 (E.ok _ _ ht) hk
 rw [q1]
 rcases hs with ⟨rfl, rfl⟩ | ⟨b, cp, cap, rfl, p1, p2, O, a1, a2, a3, a4, a5, a6⟩
 ·simp only [List.length_nil, Nat.zero_add, List.nil_append] at *
  cases ad with
  | none =>
   have := q4 rfl
   subst this
   refine ⟨.slice none 0 0, w, ?_, .inl ⟨rfl, rfl⟩, ⟨rfl, rfl, rfl⟩, Nat.le_refl _, fun _ _ _ => rfl, by simp [Gn]⟩
   simp [Builtin.append_, run_underlying ab, sizeOf, typeInfo, f5, Builtin.lenOf, Builtin.firstCells]
  | some ad =>
   rcases Nat.eq_zero_or_pos D.length with h0 | h0
   ·have : D = [] := List.length_eq_zero_iff.1 h0
    subst this
    refine ⟨.slice none 0 0, w, ?_, .inl ⟨rfl, rfl⟩, ⟨rfl, rfl, rfl⟩, Nat.le_refl _, fun _ _ _ => rfl, by simp [Gn]⟩
    have hfc := run_firstCells_some (P := E.P) w inf.size 0 ad 0 c [] (by simp) (by simp)
    simp [Builtin.append_, run_underlying ab, sizeOf, typeInfo, f5, Builtin.lenOf, hfc]
   ·have aa := run_append_nil (P := E.P) w t ty e inf z ab f5 (by rw [f4]; exact hz) ad D.length c G (by rw [f2, hsz]; exact q2) (q5 ad rfl) h0 (by omega) (by rw [f3]; omega)
    have hge := grownCap_ge w D.length 0 e
    have hor : ArrR H (w.drew.alloc (.cells (G.toArray ++ Builtin.zeroCells z.cells (grownCap w D.length 0 e - D.length)) e)) w.heap.size e sz (grownCap w D.length 0 e) ([] ++ D) := by
     refine Ht (heap_alloc_new w.drew _) ?_ (by simpa using hge) (by simpa using hmax) (by simp) Z (by simp) ?_
     ·rw [Array.size_append, size_zeroCells, hzs]; simp only [List.size_toArray, q2]
      rw [← Nat.add_mul]; congr 1; omega
     ·intro i e' M j y hy
      have hlt := Ji Z M hy
      have hgd : (G.toArray ++ Builtin.zeroCells z.cells (grownCap w D.length 0 e - D.length)).getD (([] : List (List T)).length * sz + (i * sz + j)) undef = G.getD (i * sz + j) undef := by
       simp [Array.getD_eq_getD_getElem?, Array.getElem?_append, show i * sz + j < G.length by omega, List.getD]
      rw [hgd]
      exact ⟨Nk q3 (by omega), (q6 i e' M).2 j y hy⟩
    simp only [List.nil_append] at hor
    exact ⟨_, _, aa, .inr ⟨_, _, _, rfl, hge, Nat.le_refl _, hor⟩, ⟨rfl, rfl, rfl⟩, by show w.heap.size ≤ (w.heap.push _).size; simp, fun k hk _ => heap_alloc_old w.drew _ hk, by simp [Gn]⟩
 ·cases ad with
  | none =>
   have := q4 rfl
   subst this
   refine ⟨.slice (some ⟨b, 0, none⟩) es.length cp, w, ?_, .inr ⟨b, cp, cap, by simp, by simpa using p1, p2, O, a1, a2, by simpa using a3, by simpa using a4, by simpa using a5, by simpa using a6⟩, ⟨rfl, rfl, rfl⟩, Nat.le_refl _, fun _ _ _ => rfl, fun b hb => .inr hb⟩
   have h2 : es.length ≤ cp := p1
   simp [Builtin.append_, run_underlying ab, sizeOf, typeInfo, f5, Builtin.lenOf, Builtin.firstCells, h2, storeCells]
  | some ad =>
   by_cases hroom : es.length + D.length ≤ cp
   ·have hfit : es.length * sz + G.length ≤ O.size := by rw [q2, a2, ← Nat.add_mul]; exact Nat.mul_le_mul_right _ (by omega)
    have aa := run_append_room (P := E.P) w t ty e inf ab f5 b es.length cp O a1 ad D.length c G (by rw [f2, hsz]; exact q2) (q5 ad rfl) q3 hroom (by rw [f2, hsz]; exact hfit)
    rw [f2, hsz] at aa
    refine ⟨_, _, aa, .inr ⟨b, cp, cap, by simp, by simpa using hroom, p2, ?_⟩, ⟨rfl, rfl, rfl⟩, by rw [Lo]; exact Nat.le_refl _, fun k _ hk => setRow_other w b k _ (by simpa [Gn] using hk), fun b' hb' => .inr (by simpa [Gn] using hb')⟩
    refine Ht (setRow_heap w b O _ e _ a1) ?_ (by omega) hmax a5 Z ?_ ?_
    ·simp only [List.size_toArray, List.length_append, List.length_take, List.length_drop, Array.length_toList]
     omega
    ·intro i e' M j y hy
     have hlt := Ji a5 M hy
     rw [Ns hfit, if_neg (by omega)]
     exact a6 i e' M j y hy
    ·intro i e' M j y hy
     have hlt := Ji Z M hy
     rw [Ns hfit, if_pos (by omega), Nat.add_sub_cancel_left]
     exact ⟨Nk q3 (by omega), (q6 i e' M).2 j y hy⟩
   ·have Y : (O.toList.take (es.length * sz)).length = es.length * sz := by
     have : es.length * sz ≤ O.size := by rw [a2]; exact Nat.mul_le_mul_right _ a3
     simp; omega
    have aa := run_append_grow (P := E.P) w t ty e inf z ab f5 (by rw [f4]; exact hz) ⟨b, 0, none⟩ es.length cp (O.toList.take (es.length * sz)) (by rw [f2, hsz]; exact Y)
     (fun j u hu => by
      rw [De]
      have hj : j < es.length * sz := by have := (gs hu).1; rw [Y] at this; exact this
      rw [List.getElem?_take_of_lt hj] at hu
      simpa [World.cell?, a1] using hu)
     ad D.length c G (by rw [f2, hsz]; exact q2) (q5 ad rfl) (by omega) (by omega) (by rw [f3]; exact growslice_fits (by omega) hb)
    have hge := grownCap_ge w (es.length + D.length) cp e
    refine ⟨_, _, aa, .inr ⟨w.heap.size, _, grownCap w (es.length + D.length) cp e, by simp, by simpa using hge, Nat.le_refl _, ?_⟩, ⟨rfl, rfl, rfl⟩, by show w.heap.size ≤ (w.heap.push _).size; simp, fun k hk _ => heap_alloc_old w.drew _ hk, fun b' hb' => .inl (by simp [Gn] at hb'; omega)⟩
    refine Ht (heap_alloc_new w.drew _) ?_ hge hmax a5 Z ?_ ?_
    ·simp only [Array.size_append, size_zeroCells, hzs, List.size_toArray, Y, q2]
     rw [← Nat.add_mul, ← Nat.add_mul]; congr 1; omega
    ·intro i e' M j y hy
     have hlt := Ji a5 M hy
     have hgd : ((O.toList.take (es.length * sz)).toArray ++ G.toArray ++ Builtin.zeroCells z.cells (grownCap w (es.length + D.length) cp e - (es.length + D.length))).getD (i * sz + j) undef = O.getD (i * sz + j) undef := by
      have hc : es.length * sz ≤ O.size := by rw [a2]; exact Nat.mul_le_mul_right _ a3
      simp only [Array.getD_eq_getD_getElem?, Array.getElem?_append, Array.size_append, List.size_toArray, Y, List.getElem?_toArray]
      rw [if_pos (by omega), if_pos (by omega), List.getElem?_take_of_lt hlt]
      simp
     rw [hgd]
     exact a6 i e' M j y hy
    ·intro i e' M j y hy
     have hlt := Ji Z M hy
     have hgd : ((O.toList.take (es.length * sz)).toArray ++ G.toArray ++ Builtin.zeroCells z.cells (grownCap w (es.length + D.length) cp e - (es.length + D.length))).getD (es.length * sz + (i * sz + j)) undef = G.getD (i * sz + j) undef := by
      simp only [Array.getD_eq_getD_getElem?, Array.getElem?_append, Array.size_append, List.size_toArray, Y, List.getElem?_toArray]
      rw [if_pos (by omega), if_neg (by omega), Nat.add_sub_cancel_left]
      rfl
     rw [hgd]
     exact ⟨Nk q3 (by omega), (q6 i e' M).2 j y hy⟩
theorem La (v : Value) : (Gn v).Nodup := by
 unfold Gn
 split <;> simp
theorem Ls {a : Act} {w w' : World} {s x : Operand} {t : TypeId} {v D : Value} (G : a.eval s = v) (h : (Builtin.append_ #[t, t] ty #[v, a.eval x]).run E.P w = .ok D w') :
  (execOp a.eval ⟨dst, .call { callee := .builtin .append, args := #[s, x], argTypes := #[t, t] }, ty, pos, aft, g⟩).run E.P w = .ok (.value D) w' := by
 simp only [execOp, resolve, invoke, builtin, Sem.run_bind, Sem.run_pure, Result.andThen_ok, List.map_toArray, List.map_cons, List.map_nil, G, h]
theorem Ja (ks : Nat) {s x : Operand} {t : TypeId} {ti ei : TI} {e sz : Nat} {z v : Value} {es D es' : List (List T)} {R : St → Prop}
  (ht : E.tab t = some ti) (hk : ti.kind = .slice e) (he : E.tab e = some ei) (hz : ei.zero = some z) (hsz : ei.size = sz) (hzs : z.cells.size = sz) (hby : Nat.ble ei.bytes 2048 = true)
  (hs : Au σ.slots s = some (.v v)) (O : σ.objs[ks]? = some (.us v e sz es))
  (hx : AppSrc σ.slots σ.objs x sz D) (hb : es.length + D.length ≤ 68719476736) (hes : es ++ D = es')
  (hd : ∀ d, dst = some d → d < n)
  (k : ∀ G, R ⟨El σ.slots dst (.v G), σ.objs.set ks (.us G e sz es')⟩) :
  AX E n C [ks] ⟨dst, .call { callee := .builtin .append, args := #[s, x], argTypes := #[t, t] }, ty, pos, aft, g⟩ σ R := by
 subst hes
 refine AX.value fun H a w M => ?_
 have Y := Nat.le_of_ble_eq_true hby
 obtain ⟨G, w', h1, h2, h3, h4, h5, h6⟩ := Lu (ty := ty) M.sr M.wr ht hk he hz hsz hzs (M.objs _ (mg O)) hx (by simp [Gx]; omega) (Nat.le_trans (Nat.mul_le_mul hb Y) (by decide))
 refine ⟨G, w', _, H, Ls (M.sr.evalv hs) h1, k G, ?_, fun _ _ h => h, fun i p hp hm => ?_⟩
 ·have := (M.set (o' := .us G e sz (es ++ D)) O h3 h4 h5 h2 h6 (La G)).put (dst := dst) (.v G) hd
  cases dst <;> exact this
 ·have Z : ks ≠ i := fun h => by subst h; simp at hm
  exact ⟨K5 hp Z, fun b hb => h5 b ((M.objs p (mg hp)).lt b hb) (M.apart O hp Z b hb)⟩
theorem Tz {s x : Operand} {t : TypeId} {ti Y : TI} {e sz : Nat} {z : Value} {D es' : List (List T)} {R : St → Prop}
  (ht : E.tab t = some ti) (hk : ti.kind = .slice e) (he : E.tab e = some Y) (hz : Y.zero = some z) (hsz : Y.size = sz) (ab : z.cells.size = sz) (Z : Nat.ble Y.bytes 2048 = true)
  (hs : Au σ.slots s = some (.v (.slice none 0 0)))
  (hx : AppSrc σ.slots σ.objs x sz D) (hb : D.length ≤ 68719476736) (aa : D = es')
  (hd : ∀ d, dst = some d → d < n)
  (k : ∀ G, R ⟨El σ.slots dst (.v G), σ.objs ++ [.us G e sz es']⟩) :
  AX E n C [] ⟨dst, .call { callee := .builtin .append, args := #[s, x], argTypes := #[t, t] }, ty, pos, aft, g⟩ σ R := by
 subst aa
 refine AX.value fun H a w M => ?_
 have O := Nat.le_of_ble_eq_true Z
 obtain ⟨G, w', h1, h2, h3, h4, h5, h6⟩ := Lu (ty := ty) (es := []) M.sr M.wr ht hk he hz hsz ab (.inl ⟨rfl, rfl⟩) hx (by simp [Gx]; omega) (Nat.le_trans (Nat.mul_le_mul (by simpa using hb) O) (by decide))
 simp only [List.nil_append] at h2
 refine ⟨G, w', _, H, Ls (M.sr.evalv hs) h1, k G, ?_, fun _ _ h => h, fun i p hp hm => ?_⟩
 ·have := (M.more (ob := .us G e sz D) h3 h4 (fun i hi => h5 i hi (by simp [Gn])) h2 (fun b hb => (h6 b hb).resolve_right (by simp [Gn])) (La G)).put (dst := dst) (.v G) hd
  cases dst <;> exact this
 ·exact ⟨Et hp, fun b hb => h5 b ((M.objs p (mg hp)).lt b hb) (by simp [Gn])⟩
theorem fS {H : GH} {a : Act} {w : World} (M : Gam n C σ H a w) {k : Nat} {o : Ob} (hk : σ.objs[k]? = some o) :
  ∃ H', (∀ b o, H b = some o → H' b = some o) ∧ Gam n C ⟨σ.slots, σ.objs.eraseIdx k⟩ H' a w ∧ (∀ b, b ∈ o.fp → H' b = w.heap[b]?) ∧ OR H' w o := by
 have hm := mg hk
 have aa := M.free _ hm
 have hnew := M.new _ hm
 have D : ∀ G x, H G = some x → (if G ∈ o.fp then w.heap[G]? else H G) = some x := by
  intro G x Z
  by_cases Y : G ∈ o.fp
  ·rw [aa G Y] at Z; cases Z
  ·simp [Y, Z]
 refine ⟨fun G => if G ∈ o.fp then w.heap[G]? else H G, D, ?_, fun b Y => by simp [Y], (M.objs _ hm).mono D (fun _ _ => rfl)⟩
 have O : ∀ p, p ∈ σ.objs.eraseIdx k → p ∈ σ.objs ∧ ∀ b, b ∈ p.fp → b ∉ o.fp := by
  intro p hp
  obtain ⟨i, hi⟩ := List.mem_iff_getElem?.1 hp
  rw [List.getElem?_eraseIdx] at hi
  split at hi
  ·rename_i hik
   exact ⟨mg hi, M.apart hk hi (by omega)⟩
  ·rename_i hik
   exact ⟨mg hi, M.apart hk hi (by omega)⟩
 refine ⟨M.defers.mono D, M.size, fun i x h => (M.slots i x h).mono D, fun p hp => (M.objs p (O p hp).1).mono D (fun _ _ => rfl), fun p hp b Y => ?_, fun p hp => M.new p (O p hp).1, ?_, ?_, ?_, M.heap, ?_, M.env⟩
 ·obtain ⟨h1, h2⟩ := O p hp
  simp [h2 b Y, M.free p h1 b Y]
 ·exact (C9 (List.eraseIdx_sublist σ.objs k)).nodup M.nodup
 ·intro G x Z
  by_cases Y : G ∈ o.fp
  ·simpa [Y] using Z
  ·simp [Y] at Z; exact M.held _ _ Z
 ·intro G x Z; exact D _ _ (M.grow _ _ Z)
 ·intro G hb' hf
  obtain ⟨h1, h2⟩ := M.frame G hb' hf
  refine ⟨h1, ?_⟩
  have : G ∉ o.fp := fun h => by rcases hnew G h with h | h; omega; exact hf h
  simp [this, h2]
theorem ArrR.list {H : GH} {w : World} {b O sz cap : Nat} {es : List (List T)} (h : ArrR H w b O sz cap es) (hb : H b = w.heap[b]?) {c : Nat} (hc : es.length ≤ c) : VR H (.slice (some ⟨b, 0, none⟩) es.length c) (.list sz es) := by
 obtain ⟨cs, Y, Z, a3, a4, a5, M⟩ := h
 refine .list b 0 c sz es cs O (0, 0) (hb.trans Y) hc a4 ?_ a5 (fun i e D j x G => by simpa using (M i e D j x G).1) (fun i e D j x G => by simpa using (M i e D j x G).2)
 rw [Z, Nat.zero_add]; exact Nat.mul_le_mul_right _ a3
theorem UsR.list {H : GH} {w : World} {v : Value} {O sz : Nat} {es : List (List T)} (h : UsR H w v O sz es) (hb : ∀ b, b ∈ Gn v → H b = w.heap[b]?) : VR H v (.list sz es) := by
 rcases h with ⟨rfl, rfl⟩ | ⟨b, c, D, rfl, G, Y, M⟩
 ·exact .empty _ _ _
 ·exact M.list (hb b (by simp [Gn])) G
def Fz (szi : Nat) (L : List (List (List T))) : List (List T) := L.map fun es => [.list szi es]
theorem Wa {H : GH} {w : World} {v : Value} {ty tyi szi : Nat} {vs : List Value} {L : List (List (List T))} (h : OR H w (.uss v ty tyi szi vs (L.map some))) (hb : ∀ b, b ∈ (Ob.uss v ty tyi szi vs (L.map some)).fp → H b = w.heap[b]?) : VR H v (.list 1 (Fz szi L)) := by
 obtain ⟨h0, h1, h2⟩ := h
 have M : vs.length = L.length := by simpa using h0
 rcases h1 with ⟨rfl, h1⟩ | ⟨b, c, cap, rfl, p1, p2, cs, a1, a2, a3, a4, a5, a6⟩
 ·have : vs = [] := by simpa using h1
  subst this
  have : L = [] := List.length_eq_zero_iff.1 (by simpa using M.symm)
  subst this
  exact .empty _ _ _
 ·have hl : (Fz szi L).length = (vs.map fun x => [T.v x]).length := by simp [Fz, M]
  rw [← hl]
  have Y : ∀ (i : Nat) (e : List T), (Fz szi L)[i]? = some e → ∃ x D, e = [.list szi D] ∧ vs[i]? = some x ∧ VR H x (.list szi D) ∧ cs.getD (i * 1) undef = x ∧ x.oneCell' = true := by
   intro i e G
   simp only [Fz, List.getElem?_map, Option.map_eq_some_iff] at G
   obtain ⟨D, Z, rfl⟩ := G
   have hil := (gs Z).1
   have hx : vs[i]? = some vs[i] := gq (by omega)
   have hL : (L.map some)[i]? = some (some D) := by simp [Z]
   have hu := h2 i _ D hx hL
   have O := a6 i [T.v vs[i]] (by simp [hx]) 0 (T.v vs[i]) rfl
   simp only [Nat.add_zero] at O
   refine ⟨_, D, rfl, hx, hu.list (fun b' hb' => hb b' (by simp [Ob.fp, H6 hx hL b' hb'])), O.2.v_eq, ?_⟩
   rw [← O.2.v_eq]; exact O.1
  refine .list b 0 c 1 (Fz szi L) cs ty (0, 0) ((hb b (by simp [Ob.fp, Gn])).trans a1) (by rw [hl]; exact p1) (by rw [hl]; exact a4) ?_ ?_ ?_ ?_
  ·rw [a2, Nat.zero_add]; rw [hl]; exact Nat.mul_le_mul_right _ a3
  ·intro i e G; obtain ⟨x, D, rfl, _⟩ := Y i e G; rfl
  ·intro i e G j y hy
   obtain ⟨x, D, rfl, h3, h4, h5, O⟩ := Y i e G
   cases j with
   | zero => simp only [Nat.zero_add, Nat.add_zero]; rw [h5]; exact O
   | succ j => simp at hy
  ·intro i e G j y hy
   obtain ⟨x, D, rfl, h3, h4, h5, O⟩ := Y i e G
   cases j with
   | zero => simp only [Nat.zero_add, Nat.add_zero]; rw [h5]; simp at hy; subst hy; exact h4
   | succ j => simp at hy
def ACalls (E : Env) (f : FuncId) (Y : List T) (fp : List Ob) (R : T → List Ob → Prop) : Prop :=
 (∃ M, E.P.funcs[f]? = some M ∧ (M.name == "runtime.NumGoroutine") = false ∧ M.body.isNone = false) ∧
 ∀ (H : GH) (w : World) (O : Array Value), O.size = Y.length → (∀ (i : Nat) (x : T), Y[i]? = some x → VR H (O.getD i undef) x) → ((∀ b o, H b = some o → w.heap[b]? = some o) ∧ Vg H) →
  (∀ p, p ∈ fp → OR H w p ∧ ∀ b, b ∈ p.fp → H b = none) → (fp.flatMap Ob.fp).Nodup →
  Calls E.P f O w fun e G => ∃ v x D H', e = .returned v ∧ R x D ∧ VR H' v x ∧ (∀ b o, H b = some o → H' b = some o) ∧ (∀ b o, H' b = some o → G.heap[b]? = some o) ∧
   (∀ p, p ∈ D → OR H' G p ∧ ∀ b, b ∈ p.fp → H' b = none ∧ (w.heap.size ≤ b ∨ b ∈ fp.flatMap Ob.fp)) ∧ (D.flatMap Ob.fp).Nodup ∧ w.heap.size ≤ G.heap.size ∧
   (G.os = w.os ∧ G.tape = w.tape ∧ G.output = w.output) ∧ ∀ b, b < w.heap.size → b ∉ fp.flatMap Ob.fp → G.heap[b]? = w.heap[b]? ∧ H' b = H b
theorem ACalls.mono {f : FuncId} {G : List T} {fp : List Ob} {R R' : T → List Ob → Prop} (h : ACalls E f G fp R) (hr : ∀ x D, R x D → R' x D) : ACalls E f G fp R' :=
 ⟨h.1, fun H w vs M O Y Z h5 => (h.2 H w vs M O Y Z h5).mono fun e w' ⟨v, x, D, H', q1, q2, q⟩ => ⟨v, x, D, H', q1, hr _ _ q2, q⟩⟩
def Fh (s : Am) : List Operand → Option (List T)
 | [] => some []
 | x :: l => match Au s x, Fh s l with
  | some y, some ys => some (y :: ys)
  | _, _ => none
theorem F8 {s : Am} {H : GH} {a : Act} (r : SR n s H a) : ∀ {l : List Operand} {D : List T}, Fh s l = some D → (l.map a.eval).length = D.length ∧ ∀ (i : Nat) (y : T), D[i]? = some y → VR H ((l.map a.eval).getD i undef) y
 | [], D, h => by simp only [Fh, Option.some.injEq] at h; subst h; simp
 | x :: l, D, h => by
  simp only [Fh] at h
  split at h
  ·rename_i y aa M O
   simp only [Option.some.injEq] at h
   subst h
   obtain ⟨Y, Z⟩ := F8 r O
   refine ⟨by simpa using Y, fun i z G => ?_⟩
   cases i with
   | zero => simp at G; subst G; simpa using r.eval M
   | succ i =>
    simp only [List.getElem?_cons_succ] at G
    simpa using Z i z G
  ·simp at h
theorem Pm {H : GH} (l : List Value) : ∀ (i : Nat) (y : T), (l.map T.v)[i]? = some y → VR H (l.getD i undef) y := by
 intro i y h
 simp only [List.getElem?_map, Option.map_eq_some_iff] at h
 obtain ⟨v, D, rfl⟩ := h
 simp [List.getD, D]
 exact .v v
theorem VR.app {H : GH} {D M : List Value} {G O : List T} (hl : D.length = G.length) (h1 : ∀ (i : Nat) (y : T), G[i]? = some y → VR H (D.getD i undef) y) (h2 : ∀ (i : Nat) (y : T), O[i]? = some y → VR H (M.getD i undef) y) :
  ∀ (i : Nat) (y : T), (G ++ O)[i]? = some y → VR H ((D ++ M).getD i undef) y := by
 intro i y h
 rw [List.getElem?_append] at h
 split at h
 ·rename_i hi
  have := h1 i y h
  simpa [List.getD, List.getElem?_append, hl, hi] using this
 ·rename_i hi
  have := h2 _ y h
  simpa [List.getD, List.getElem?_append, hl, hi] using this
theorem Gam.called {H H' : GH} {a : Act} {w w' : World} (D : Gam n C σ H a w) {fp fp' objs : List Ob} (hfp : ∀ p, p ∈ fp → p ∈ σ.objs)
  (hH : ∀ b o, H b = some o → H' b = some o) (Z : ∀ b o, H' b = some o → w'.heap[b]? = some o)
  (Y : ∀ p, p ∈ fp' → OR H' w' p ∧ ∀ b, b ∈ p.fp → H' b = none ∧ (w.heap.size ≤ b ∨ b ∈ fp.flatMap Ob.fp)) (hsz : w.heap.size ≤ w'.heap.size) (O : w'.os = w.os ∧ w'.tape = w.tape ∧ w'.output = w.output)
  (hfr : ∀ b, b < w.heap.size → b ∉ fp.flatMap Ob.fp → w'.heap[b]? = w.heap[b]? ∧ H' b = H b)
  (G : ∀ p, p ∈ objs → p ∈ fp' ∨ (p ∈ σ.objs ∧ ∀ b, b ∈ p.fp → b ∉ fp.flatMap Ob.fp)) (hnd : (objs.flatMap Ob.fp).Nodup) : Gam n C ⟨σ.slots, objs⟩ H' a w' := by
 have hold : ∀ p, p ∈ σ.objs → (∀ b, b ∈ p.fp → b ∉ fp.flatMap Ob.fp) → ∀ b, b ∈ p.fp → w'.heap[b]? = w.heap[b]? ∧ H' b = H b := fun p hp hn b M => hfr b ((D.objs p hp).lt b M) (hn b M)
 refine ⟨D.defers.mono hH, D.size, fun i x h => (D.slots i x h).mono hH, ?_, ?_, ?_, hnd, Z, fun b o h => hH _ _ (D.grow _ _ h), Nat.le_trans D.heap hsz, ?_, ⟨O.1.trans D.env.1, O.2.1.trans D.env.2.1, O.2.2.trans D.env.2.2⟩⟩
 ·intro p hp
  rcases G p hp with h | ⟨h, hn⟩
  ·exact (Y p h).1
  ·exact (D.objs p h).mono hH (fun b M => (hold p h hn b M).1)
 ·intro p hp b M
  rcases G p hp with h | ⟨h, hn⟩
  ·exact ((Y p h).2 b M).1
  ·rw [(hold p h hn b M).2]; exact D.free p h b M
 ·intro p hp b M
  rcases G p hp with h | ⟨h, hn⟩
  ·rcases ((Y p h).2 b M).2 with h | h
   ·exact .inl (Nat.le_trans D.heap h)
   ·obtain ⟨q, hq, he⟩ := List.mem_flatMap.1 h
    exact D.new q (hfp q hq) b he
  ·exact D.new p h b M
 ·intro b M hf
  have hbn : b ∉ fp.flatMap Ob.fp := fun h => by
   obtain ⟨q, hq, he⟩ := List.mem_flatMap.1 h
   rcases D.new q (hfp q hq) b he with h | h
   ·omega
   ·exact hf h
  obtain ⟨h1, h2⟩ := hfr b (Nat.lt_of_lt_of_le M D.heap) hbn
  obtain ⟨h3, h4⟩ := D.frame b M hf
  exact ⟨h1.trans h3, h2.trans h4⟩
def C1 (objs : List Ob) : List Nat → Option (List Ob)
 | [] => some []
 | k :: ks => match objs[k]?, C1 objs ks with
  | some o, some l => some (o :: l)
  | _, _ => none
def Fr (objs : List Ob) : List Nat → List Ob → List Ob
 | k :: ks, o :: os => Fr (objs.set k o) ks os
 | _, _ => objs
theorem Ge {objs : List Ob} : ∀ {ks : List Nat} {fp : List Ob}, C1 objs ks = some fp → fp.length = ks.length ∧ (∀ (i : Nat) (k : Nat), ks[i]? = some k → ∃ o, objs[k]? = some o ∧ fp[i]? = some o)
 | [], fp, h => by simp only [C1, Option.some.injEq] at h; subst h; simp
 | k :: ks, fp, h => by
  simp only [C1] at h
  split at h
  ·rename_i o l G M
   simp only [Option.some.injEq] at h
   subst h
   obtain ⟨Y, Z⟩ := Ge M
   refine ⟨by simp [Y], fun i O D => ?_⟩
   cases i with
   | zero => simp at D; subst D; exact ⟨o, G, rfl⟩
   | succ i => simpa using Z i O (by simpa using D)
  ·cases h
theorem Lp : ∀ {ks : List Nat} {os : List Ob} (objs : List Ob), os.length = ks.length → ks.Nodup → (∀ k, k ∈ ks → k < objs.length) →
  (Fr objs ks os).length = objs.length ∧ (∀ (i : Nat) (k : Nat), ks[i]? = some k → (Fr objs ks os)[k]? = os[i]?) ∧ ∀ k, k ∉ ks → (Fr objs ks os)[k]? = objs[k]?
 | [], os, objs, h, _, _ => by simp [Fr]
 | k :: ks, [], objs, h, _, _ => by simp at h
 | k :: ks, o :: os, objs, h, hn, hl => by
  rw [List.nodup_cons] at hn
  obtain ⟨O, Y, M⟩ := Lp (ks := ks) (os := os) (objs.set k o) (by simpa using h) hn.2 (fun G D => by simpa using hl G (by simp [D]))
  simp only [Fr]
  refine ⟨by simpa using O, fun i G D => ?_, fun G D => ?_⟩
  ·cases i with
   | zero =>
    simp at D; subst D
    rw [M k hn.1, List.getElem?_set_self (hl k (by simp))]; rfl
   | succ i => simpa using Y i G (by simpa using D)
  ·simp only [List.mem_cons, not_or] at D
   rw [M G D.2, List.getElem?_set_ne (Ne.symm D.1)]
theorem Dk {l : List Ob} : (l.flatMap Ob.fp).Nodup ↔ (∀ (i : Nat) (p : Ob), l[i]? = some p → p.fp.Nodup) ∧ ∀ (i j : Nat) (p q : Ob), l[i]? = some p → l[j]? = some q → i ≠ j → ∀ b, b ∈ p.fp → b ∉ q.fp := by
 constructor
 ·intro h
  refine ⟨fun i p hi => ?_, fun i j p q hi G M b D => Ox h hi G M b D⟩
  obtain ⟨l1, l2, rfl, _⟩ := Jt hi
  rw [List.flatMap_append, List.flatMap_cons, List.nodup_append, List.nodup_append] at h
  exact h.2.1.1
 ·rintro ⟨Y, Z⟩
  induction l with
  | nil => simp
  | cons a l ih =>
   rw [List.flatMap_cons, List.nodup_append]
   refine ⟨Y 0 a rfl, ih (fun i p hi => Y (i + 1) p (by simpa using hi)) (fun i j p q hi G M b D => Z (i + 1) (j + 1) p q (by simpa using hi) (by simpa using G) (by omega) b D), ?_⟩
   intro x hx y hy O
   subst O
   obtain ⟨q, hq, D⟩ := List.mem_flatMap.1 hy
   obtain ⟨j, G⟩ := List.mem_iff_getElem?.1 hq
   exact Z 0 (j + 1) a q rfl (by simpa using G) (by omega) x hx D
def Kg : T → Option (FuncId × List T × List T)
 | .v (.func (.func f) first captured) => some (f, first.toList.map T.v, captured.toList.map T.v)
 | .fn f first caps => some (f, first, caps)
 | _ => none
theorem R8 {H : GH} {v : Value} {y : T} {f : FuncId} {M O : List T} (h : VR H v y) (hf : Kg y = some (f, M, O)) :
  ∃ vf vc : Array Value, v = .func (.func f) vf vc ∧ vf.size = M.length ∧ vc.size = O.length ∧ (∀ (i : Nat) (x : T), M[i]? = some x → VR H (vf.toList.getD i undef) x) ∧
   (∀ (i : Nat) (x : T), O[i]? = some x → VR H (vc.toList.getD i undef) x) := by
 have conv : ∀ (G : Array Value) (i : Nat), G.getD i undef = G.toList.getD i undef := fun G i => by
  simp [Array.getD_eq_getD_getElem?, List.getD]
 cases h with
 | v x =>
  unfold Kg at hf
  split at hf
  ·rename_i f' first D Y
   simp only [Option.some.injEq, Prod.mk.injEq] at hf
   obtain ⟨rfl, rfl, rfl⟩ := hf
   cases Y
   exact ⟨first, D, rfl, by simp, by simp, Pm first.toList, Pm D.toList⟩
  ·rename_i Y; cases Y
  ·simp at hf
 | fn f' vf vc fs cs h1 h2 h3 h4 =>
  simp only [Kg, Option.some.injEq, Prod.mk.injEq] at hf
  obtain ⟨rfl, rfl, rfl⟩ := hf
  exact ⟨vf, vc, rfl, h1, h2, fun i x Z => by rw [← conv]; exact h3 i x Z, fun i x Z => by rw [← conv]; exact h4 i x Z⟩
 | _ => simp [Kg] at hf
theorem AX.call {md : List Nat} {c : Operand} {args : Array Operand} {ab : Array TypeId} {f : FuncId} {Z aa xs ys : List T} {fp : List Ob} {Rc : T → List Ob → Prop} {R : St → Prop}
  (hc : (Au σ.slots c).bind Kg = some (f, Z, aa)) (hx : Fh σ.slots args.toList = some xs) (ai : Z ++ xs ++ aa = ys)
  (h : ACalls E f ys fp Rc) (O : ∀ p, p ∈ fp → p ∈ σ.objs) (ah : (fp.flatMap Ob.fp).Nodup) (hd : ∀ d, dst = some d → d < n)
  (k : ∀ H a w H' w' v x G, Gam n C σ H a w → Rc x G → VR H' v x → (∀ b o, H b = some o → H' b = some o) → (∀ b o, H' b = some o → w'.heap[b]? = some o) →
   (∀ p, p ∈ G → OR H' w' p ∧ ∀ b, b ∈ p.fp → H' b = none ∧ (w.heap.size ≤ b ∨ b ∈ fp.flatMap Ob.fp)) → (G.flatMap Ob.fp).Nodup → w.heap.size ≤ w'.heap.size → (w'.os = w.os ∧ w'.tape = w.tape ∧ w'.output = w.output) →
   (∀ b, b < w.heap.size → b ∉ fp.flatMap Ob.fp → w'.heap[b]? = w.heap[b]? ∧ H' b = H b) →
   ∃ objs, R ⟨El σ.slots dst x, objs⟩ ∧ Gam n C ⟨σ.slots, objs⟩ H' a w' ∧ ∀ i p, σ.objs[i]? = some p → md.contains i = false → objs[i]? = some p ∧ ∀ b, b ∈ p.fp → w'.heap[b]? = w.heap[b]?) :
  AX E n C md ⟨dst, .call { callee := .value c, args := args, argTypes := ab }, ty, pos, aft, g⟩ σ R := by
 intro H a w M
 subst ai
 obtain ⟨⟨fn, f1, f2, f3⟩, h⟩ := h
 obtain ⟨k1, k2⟩ := F8 M.sr hx
 obtain ⟨y, hy, af⟩ := Option.bind_eq_some_iff.1 hc
 obtain ⟨first, D, ae, z1, z2, z3, z4⟩ := R8 (M.sr.eval hy) af
 have Y : (execOp a.eval ⟨dst, .call { callee := .value c, args := args, argTypes := ab }, ty, pos, aft, g⟩).run E.P w = .ok (.enter f (first ++ args.map a.eval ++ D)) w := by
  have ac : ¬ fn.name = "runtime.NumGoroutine" := by simpa using f2
  have ad : ¬ fn.body = none := by
   intro hb; rw [hb] at f3; simp at f3
  simp [execOp, resolve, ae, Deferred.ofValue, invoke, callFunc, f1, ac, ad]
 simp only [Oper.wp, Y, Oper.upon]
 have hl : (first ++ args.map a.eval ++ D).toList = first.toList ++ args.toList.map a.eval ++ D.toList := by simp
 refine (h H w (first ++ args.map a.eval ++ D) ?_ ?_ ⟨M.held, fun b l h => (C.hg b l h).mono M.grow⟩ (fun p hp => ⟨M.objs p (O p hp), M.free p (O p hp)⟩) ah).mono ?_
 ·rw [← Array.length_toList, hl]; simp at k1 ⊢; omega
 ·intro i x ag
  rw [Array.getD_eq_getD_getElem?, ← Array.getElem?_toList, hl]
  have := VR.app (H := H) (by simp at k1 ⊢; omega) (VR.app (H := H) (by simp; omega) z3 k2) z4 i x ag
  simpa [List.getD] using this
 ·rintro e w' ⟨v, x, G, H', rfl, q2, q3, q4, q5, q6, q7, q8, aj, q9⟩
  obtain ⟨objs, r1, r2, r3⟩ := k H a w H' w' v x G M q2 q3 q4 q5 q6 q7 q8 aj q9
  refine ⟨_, H', v, r1, ?_, rfl, q4, r3⟩
  have := r2.put (dst := dst) q3 hd
  cases dst <;> exact this
theorem Sj (ks : List Nat) {c : Operand} {args : Array Operand} {tys : Array TypeId} {f : FuncId} {pre suf xs ys : List T} {fp : List Ob} {Rc : T → List Ob → List Ob → Prop} {R : St → Prop}
  (hc : (Au σ.slots c).bind Kg = some (f, pre, suf)) (hx : Fh σ.slots args.toList = some xs) (hys : pre ++ xs ++ suf = ys)
  (hk : C1 σ.objs ks = some fp) (hkn : ks.Nodup) (h : ACalls E f ys fp (fun x fp' => ∃ os new, fp' = os ++ new ∧ os.length = fp.length ∧ Rc x os new)) (hd : ∀ d, dst = some d → d < n)
  (k : ∀ x os new, os.length = fp.length → Rc x os new → R ⟨El σ.slots dst x, Fr σ.objs ks os ++ new⟩) :
  AX E n C ks ⟨dst, .call { callee := .value c, args := args, argTypes := tys }, ty, pos, aft, g⟩ σ R := by
 obtain ⟨p1, p2⟩ := Ge hk
 have ab : ∀ p, p ∈ fp → ∃ (i k : Nat), fp[i]? = some p ∧ ks[i]? = some k ∧ σ.objs[k]? = some p := by
  intro p hp
  obtain ⟨i, hi⟩ := List.mem_iff_getElem?.1 hp
  have aa := (gs hi).1
  obtain ⟨o, h1, Z⟩ := p2 i ks[i] (gq (by omega))
  rw [hi] at Z
  cases Z
  exact ⟨i, ks[i], hi, gq (by omega), h1⟩
 have hfpm : ∀ p, p ∈ fp → p ∈ σ.objs := fun p hp => by obtain ⟨i, k, _, _, h⟩ := ab p hp; exact mg h
 refine fun H a w gm => AX.call (md := ks) hc hx hys h hfpm ?_ hd ?_ H a w gm
 ·refine Dk.2 ⟨fun i p hi => ?_, fun i j p q hi hj hne b O => ?_⟩
  ·obtain ⟨_, k, _, _, hk⟩ := ab p (mg hi)
   exact (Dk.1 gm.nodup).1 k p hk
  ·have aa := (gs hi).1
   have hjl := (gs hj).1
   obtain ⟨o, h1, Z⟩ := p2 i ks[i] (gq (by omega))
   obtain ⟨o', h1', h2'⟩ := p2 j ks[j] (gq (by omega))
   rw [hi] at Z; cases Z
   rw [hj] at h2'; cases h2'
   refine Ox gm.nodup h1 h1' (fun he => hne ?_) b O
   exact (List.getElem?_inj (by omega) hkn).1 (by rw [gq (by omega), gq (by omega), he])
 ·rintro H a w H' w' v x fp' gm ⟨os, new, rfl, hol, q2⟩ q3 q4 q5 q6 q7 q8 q10 q9
  have hlt : ∀ k, k ∈ ks → k < σ.objs.length := by
   intro k hk
   obtain ⟨i, hi⟩ := List.mem_iff_getElem?.1 hk
   obtain ⟨o, h1, _⟩ := p2 i k hi
   exact (gs h1).1
  obtain ⟨s1, s2, s3⟩ := Lp (ks := ks) (os := os) σ.objs (by omega) hkn hlt
  have M : ∀ (i : Nat) (p : Ob), σ.objs[i]? = some p → i ∉ ks → ∀ b, b ∈ p.fp → b ∉ fp.flatMap Ob.fp := by
   intro i p hi hn b O Y
   obtain ⟨q, hq, hbq⟩ := List.mem_flatMap.1 Y
   obtain ⟨j, k, _, Z, h3⟩ := ab q hq
   exact Ox gm.nodup hi h3 (fun he => hn (by rw [he]; exact mg Z)) b O hbq
  have D : ∀ (i : Nat) (p : Ob), (Fr σ.objs ks os ++ new)[i]? = some p → (∃ m : Nat, (os ++ new)[m]? = some p ∧ ((i < σ.objs.length ∧ ks[m]? = some i) ∨ (σ.objs.length ≤ i ∧ m = os.length + (i - σ.objs.length)))) ∨ (i ∉ ks ∧ σ.objs[i]? = some p) := by
   intro i p hi
   rw [List.getElem?_append] at hi
   split at hi
   ·rename_i aa
    by_cases hki : i ∈ ks
    ·obtain ⟨m, Y⟩ := List.mem_iff_getElem?.1 hki
     rw [s2 m i Y] at hi
     exact .inl ⟨m, by rw [List.getElem?_append_left (gs hi).1]; exact hi, .inl ⟨by omega, Y⟩⟩
    ·rw [s3 i hki] at hi
     exact .inr ⟨hki, hi⟩
   ·rename_i aa
    refine .inl ⟨os.length + (i - σ.objs.length), ?_, .inr ⟨by omega, rfl⟩⟩
    rw [List.getElem?_append_right (by omega), Nat.add_sub_cancel_left, ← s1]; exact hi
  have hnd := Dk.1 q7
  have hnd0 := Dk.1 gm.nodup
  have hout : ∀ (i : Nat) (p : Ob), σ.objs[i]? = some p → i ∉ ks → ∀ q, q ∈ os ++ new → ∀ b, b ∈ q.fp → b ∉ p.fp := by
   intro i p hi hn q hq b O hbp
   rcases ((q6 q hq).2 b O).2 with h | h
   ·have := (gm.objs p (mg hi)).lt b hbp; omega
   ·exact M i p hi hn b hbp h
  refine ⟨Fr σ.objs ks os ++ new, k x os new hol q2, gm.called hfpm q4 q5 q6 q8 q10 q9 ?_ ?_, ?_⟩
  ·intro p hp
   obtain ⟨i, hi⟩ := List.mem_iff_getElem?.1 hp
   rcases D i p hi with ⟨m, Y, _⟩ | ⟨hn, G⟩
   ·exact .inl (mg Y)
   ·exact .inr ⟨mg G, M i p G hn⟩
  ·refine Dk.2 ⟨fun i p hi => ?_, fun i j p q hi hj hne b O => ?_⟩
   ·rcases D i p hi with ⟨m, Y, _⟩ | ⟨hn, G⟩
    ·exact hnd.1 m p Y
    ·exact hnd0.1 i p G
   ·rcases D i p hi with ⟨m, Y, hm'⟩ | ⟨hn, G⟩ <;> rcases D j q hj with ⟨m2, hm2, hm2'⟩ | ⟨hn2, hj'⟩
    ·refine hnd.2 m m2 p q Y hm2 (fun he => ?_) b O
     subst he
     rcases hm' with ⟨h1, Z⟩ | ⟨h1, Z⟩ <;> rcases hm2' with ⟨h3, h4⟩ | ⟨h3, h4⟩
     ·rw [Z] at h4; cases h4; exact hne rfl
     ·have := (gs Z).1; omega
     ·have := (gs h4).1; omega
     ·omega
    ·exact hout j q hj' hn2 p (mg Y) b O
    ·exact fun hbq => hout i p G hn q (mg hm2) b hbq O
    ·exact hnd0.2 i j p q G hj' hne b O
  ·intro i p hp Y
   have hn : i ∉ ks := by simpa using Y
   refine ⟨?_, fun b O => (q9 b ((gm.objs p (mg hp)).lt b O) (M i p hp hn b O)).1⟩
   have aa := (gs hp).1
   rw [List.getElem?_append_left (by rw [s1]; exact aa), s3 i hn]; exact hp
theorem A5 {c : Operand} {args : Array Operand} {Z : Array TypeId} {f : FuncId} {D G xs ys : List T} {Rc : T → List Ob → Prop} {R : St → Prop}
  (hc : (Au σ.slots c).bind Kg = some (f, D, G)) (hx : Fh σ.slots args.toList = some xs) (Y : D ++ xs ++ G = ys)
  (h : ACalls E f ys [] Rc) (hd : ∀ d, dst = some d → d < n) (k : ∀ x new, Rc x new → R ⟨El σ.slots dst x, σ.objs ++ new⟩) :
  AX E n C [] ⟨dst, .call { callee := .value c, args := args, argTypes := Z }, ty, pos, aft, g⟩ σ R :=
 Sj [] hc hx Y (Rc := fun x _ new => Rc x new) rfl (by simp) (h.mono fun x M O => ⟨[], M, rfl, rfl, O⟩) hd (fun x os new hl O => by
  have : os = [] := List.length_eq_zero_iff.1 (by simpa using hl)
  subst this
  exact k x new O)
mutual
/-- What is of the call's own, read as what nobody writes. -/
inductive Lend (objs : List Ob) : T → T → Prop
 | refl (x : T) : Lend objs x x
 | nil (sz : Nat) : Lend objs (.v (.slice none 0 0)) (.list sz [])
 | us (k : Nat) {v : Value} {ty sz : Nat} {es : List (List T)} (h : objs[k]? = some (.us v ty sz es)) : Lend objs (.v v) (.list sz es)
 | uss (k : Nat) {v : Value} {ty tyi szi : Nat} {vs : List Value} {L : List (List (List T))} {es : List (List T)} (h : objs[k]? = some (.uss v ty tyi szi vs (L.map some))) (he : Fz szi L = es) : Lend objs (.v v) (.list 1 es)
 | box (k : Nat) {b ty sz : Nat} {e e' : List T} (h : objs[k]? = some (.arr b ty sz 1 [e])) (hl : LendL objs e e') : Lend objs (.v (.pointer (some ⟨b, 0, none⟩))) (.eptr e')
 | agg {cs cs' : List T} (hl : LendL objs cs cs') : Lend objs (.agg cs) (.agg cs')
 | fn {f : FuncId} {a a' c c' : List T} (h1 : LendL objs a a') (h2 : LendL objs c c') : Lend objs (.fn f a c) (.fn f a' c')
 | usd (k : Nat) {v : Value} {ty sz : Nat} {es es' : List (List T)} (h : objs[k]? = some (.us v ty sz es)) (hl : LendLL objs es es') : Lend objs (.v v) (.list sz es')
inductive LendL (objs : List Ob) : List T → List T → Prop
 | nil : LendL objs [] []
 | cons {x y : T} {l m : List T} (h : Lend objs x y) (t : LendL objs l m) : LendL objs (x :: l) (y :: m)
 | rest (l : List T) : LendL objs l l
inductive LendLL (objs : List Ob) : List (List T) → List (List T) → Prop
 | nil : LendLL objs [] []
 | cons {x y : List T} {l m : List (List T)} (h : LendL objs x y) (t : LendLL objs l m) : LendLL objs (x :: l) (y :: m)
 | rest (l : List (List T)) : LendLL objs l l
end
theorem LendLL.length {objs : List Ob} : ∀ {l m : List (List T)}, LendLL objs l m → l.length = m.length
 | _, _, .nil => rfl
 | _, _, .cons _ t => by simp [t.length]
 | _, _, .rest _ => rfl
theorem VR.rows {H : GH} {v : Value} {sz : Nat} {es es' : List (List T)} (h : VR H v (.list sz es)) (hl : es.length = es'.length)
  (O : ∀ (i : Nat) (e' : List T), es'[i]? = some e' → ∃ e, es[i]? = some e ∧ e.length = e'.length ∧ ∀ (j : Nat) (y : T), e'[j]? = some y → ∀ {v : Value}, (∀ x, e[j]? = some x → VR H v x) → VR H v y) : VR H v (.list sz es') := by
 cases h with
 | empty a cap sz =>
  have : es' = [] := List.length_eq_zero_iff.1 (by simpa using hl.symm)
  subst this; exact .empty _ _ _
 | list b off cap sz es cs ty fr hb hcap hmax hsz hel h1 hv =>
  rw [hl]
  refine .list b off cap sz es' cs ty fr hb (by omega) (by omega) (by rw [← hl]; exact hsz) (fun i e' D => ?_) (fun i e' D j y Y => ?_) (fun i e' D j y Y => ?_)
  ·obtain ⟨e, M, G, _⟩ := O i e' D
   rw [← G]; exact hel i e M
  ·obtain ⟨e, M, G, _⟩ := O i e' D
   have Z : j < e.length := by rw [G]; exact (gs Y).1
   exact h1 i e M j _ (gq Z)
  ·obtain ⟨e, M, G, hq⟩ := O i e' D
   exact hq j y Y fun x hx => hv i e M j x hx
theorem LendL.length {objs : List Ob} : ∀ {l m : List T}, LendL objs l m → l.length = m.length
 | _, _, .nil => rfl
 | _, _, .cons _ t => by simp [t.length]
 | _, _, .rest _ => rfl
theorem LendL.get {objs : List Ob} : ∀ {l m : List T}, LendL objs l m → ∀ (i : Nat) (y : T), m[i]? = some y → ∃ x, l[i]? = some x ∧ Lend objs x y
 | _, _, .nil, i, y, h => by simp at h
 | _, _, .cons h t, 0, y, hy => by simp at hy; subst hy; exact ⟨_, rfl, h⟩
 | _, _, .cons h t, i + 1, y, hy => by simpa using t.get i y (by simpa using hy)
 | _, _, .rest _, i, y, hy => ⟨y, hy, .refl y⟩
def Eu : T → Bool
 | .v _ => true
 | .tup l => flatL l
 | .agg l => flatL l
 | _ => false
where flatL : List T → Bool
 | [] => true
 | x :: l => Eu x && flatL l
theorem K7 : ∀ {l : List T}, Eu.flatL l = true → ∀ (i : Nat) (x : T), l[i]? = some x → Eu x = true
 | [], _, i, x, h => by simp at h
 | y :: l, hl, 0, x, h => by simp at h; subst h; simp only [Eu.flatL, Bool.and_eq_true] at hl; exact hl.1
 | y :: l, hl, i + 1, x, h => by simp only [Eu.flatL, Bool.and_eq_true] at hl; exact K7 hl.2 i x (by simpa using h)
theorem VR.flat {H H' : GH} {v : Value} {x : T} (h : VR H v x) : Eu x = true → VR H' v x := by
 induction h with
 | v x => exact fun _ => .v x
 | empty a cap sz => intro h; simp [Eu] at h
 | list => intro h; simp [Eu] at h
 | agg vs cs hl h1 hv ih => exact fun h => .agg vs cs hl h1 (fun j x D => ih j x D (K7 (by simpa [Eu] using h) j x D))
 | tup vs cs hl hv ih => exact fun h => .tup vs cs hl (fun j x D => ih j x D (K7 (by simpa [Eu] using h) j x D))
 | eptr => intro h; simp [Eu] at h
 | fn => intro h; simp [Eu] at h
mutual
theorem Ra {H H1 : GH} {w : World} {objs : List Ob} (Y : ∀ p, p ∈ objs → OR H1 w p) (hb : ∀ p, p ∈ objs → ∀ b, b ∈ p.fp → H1 b = w.heap[b]?) (Z : ∀ b o, H b = some o → H1 b = some o) {x y : T} : Lend objs x y → ∀ {v : Value}, VR H v x → VR H1 v y
 | .refl _, v, h => h.mono Z
 | .nil sz, v, h => by rw [h.v_eq]; exact .empty _ _ _
 | .us k hk, v, h => by
  rw [h.v_eq]
  have G := mg hk
  exact UsR.list (Y _ G) (hb _ G)
 | .uss k hk he, v, h => by
  rw [h.v_eq]
  subst he
  have G := mg hk
  exact Wa (Y _ G) (hb _ G)
 | .box k hk hl, v, h => by
  rw [h.v_eq]
  have G := mg hk
  obtain ⟨cs, a1, a2, a3, a4, a5, a6⟩ : ArrR H1 w _ _ _ _ _ := Y _ G
  have h5 := a5 0 _ rfl
  refine .eptr _ 0 _ cs _ _ ((hb _ G _ (by simp [Ob.fp])).trans a1) ?_ (fun j z M => ?_) (fun j z M => ?_)
  ·rw [← hl.length, h5, a2]; omega
  ·obtain ⟨O, D, _⟩ := hl.get j z M
   have := (a6 0 _ rfl j O D).1
   simpa using this
  ·exact E6 Y hb (fun _ _ h => h) hl j z M (fun O D => by have := (a6 0 _ rfl j O D).2; simpa using this)
 | .agg hl, v, h => by
  cases h with
  | agg vs cs hsz h1 hv =>
   refine .agg vs _ (hsz.trans hl.length) (fun j z M => ?_) (fun j z M => E6 Y hb Z hl j z M (fun O D => hv j O D))
   obtain ⟨O, D, _⟩ := hl.get j z M
   exact h1 j O D
 | .usd k hk hl, v, h => by
  rw [h.v_eq]
  have G := mg hk
  exact (UsR.list (Y _ G) (hb _ G)).rows hl.length (Le Y hb (fun _ _ h => h) hl)
 | .fn ha hc, v, h => by
  cases h with
  | fn f vf vc fs cs h1 h2 h3 h4 =>
   exact .fn _ vf vc _ _ (h1.trans ha.length) (h2.trans hc.length) (fun j z M => E6 Y hb Z ha j z M (fun O D => h3 j O D)) (fun j z M => E6 Y hb Z hc j z M (fun O D => h4 j O D))
theorem E6 {H H1 : GH} {w : World} {objs : List Ob} (G : ∀ p, p ∈ objs → OR H1 w p) (hb : ∀ p, p ∈ objs → ∀ b, b ∈ p.fp → H1 b = w.heap[b]?) (D : ∀ b o, H b = some o → H1 b = some o) {l m : List T} : LendL objs l m →
  ∀ (j : Nat) (y : T), m[j]? = some y → ∀ {v : Value}, (∀ x, l[j]? = some x → VR H v x) → VR H1 v y
 | .nil, j, y, h, v, _ => by simp at h
 | .cons h t, 0, y, hy, v, hv => by simp at hy; subst hy; exact Ra G hb D h (hv _ rfl)
 | .cons h t, j + 1, y, hy, v, hv => E6 G hb D t j y (by simpa using hy) (fun x M => hv x (by simpa using M))
 | .rest _, j, y, hy, v, hv => (hv y hy).mono D
theorem Le {H H1 : GH} {w : World} {objs : List Ob} (O : ∀ p, p ∈ objs → OR H1 w p) (hb : ∀ p, p ∈ objs → ∀ b, b ∈ p.fp → H1 b = w.heap[b]?) (D : ∀ b o, H b = some o → H1 b = some o) {l m : List (List T)} : LendLL objs l m →
  ∀ (i : Nat) (e' : List T), m[i]? = some e' → ∃ e, l[i]? = some e ∧ e.length = e'.length ∧ ∀ (j : Nat) (y : T), e'[j]? = some y → ∀ {v : Value}, (∀ x, e[j]? = some x → VR H v x) → VR H1 v y
 | .nil, i, y, h => by simp at h
 | .cons h t, 0, e', he => by simp at he; subst he; exact ⟨_, rfl, h.length, fun j y M v G => E6 O hb D h j y M G⟩
 | .cons h t, i + 1, e', he => by simpa using Le O hb D t i e' (by simpa using he)
 | .rest _, i, e', he => ⟨e', he, rfl, fun j y M v G => (G y M).mono D⟩
end
theorem By {c : Operand} {args : Array Operand} {tys : Array TypeId} {f : FuncId} {xs af ah ai ys : List T} {y y' : T} {Rc : T → List Ob → Prop} {R : St → Prop}
  (hc : Au σ.slots c = some y) (hy : Lend σ.objs y y') (hf : Kg y' = some (f, ah, ai)) (hx : Fh σ.slots args.toList = some xs) (hl : LendL σ.objs xs af) (hys : ah ++ af ++ ai = ys)
  (h : ACalls E f ys [] Rc) (hd : ∀ d, dst = some d → d < n) (ak : ∀ x new, Rc x new → Eu x = true) (k : ∀ x, (∃ new, Rc x new) → R ⟨El σ.slots dst x, σ.objs⟩) :
  AX E n C [] ⟨dst, .call { callee := .value c, args := args, argTypes := tys }, ty, pos, aft, g⟩ σ R := by
 intro H a w M
 subst hys
 obtain ⟨⟨fn, f1, f2, f3⟩, h⟩ := h
 obtain ⟨k1, k2⟩ := F8 M.sr hx
 have ag : ∀ b o, H b = some o → b ∉ σ.objs.flatMap Ob.fp := fun b o D hm => by
  obtain ⟨p, O, aj⟩ := List.mem_flatMap.1 hm
  rw [M.free p O b aj] at D; cases D
 obtain ⟨H1, ac⟩ : ∃ H1 : GH, H1 = fun b => if b ∈ σ.objs.flatMap Ob.fp then w.heap[b]? else H b := ⟨_, rfl⟩
 have Z : ∀ b o, H b = some o → H1 b = some o := fun b o D => by rw [ac]; simp only [ag b o D, if_false]; exact D
 have ho1 : ∀ p, p ∈ σ.objs → OR H1 w p := fun p O => (M.objs p O).mono Z (fun _ _ => rfl)
 have an : ∀ p, p ∈ σ.objs → ∀ b, b ∈ p.fp → H1 b = w.heap[b]? := fun p O b D => by
  rw [ac]; simp only [List.mem_flatMap.2 ⟨p, O, D⟩, if_true]
 have ae : ∀ b o, H1 b = some o → w.heap[b]? = some o := fun b o D => by
  rw [ac] at D
  dsimp only at D
  split at D
  ·exact D
  ·exact M.held b o D
 have hvy := Ra ho1 an Z hy (M.sr.eval hc)
 obtain ⟨first, G, hev, z1, z2, z3, z4⟩ := R8 hvy hf
 have hrun : (execOp a.eval ⟨dst, .call { callee := .value c, args := args, argTypes := tys }, ty, pos, aft, g⟩).run E.P w = .ok (.enter f (first ++ args.map a.eval ++ G)) w := by
  have f2' : ¬ fn.name = "runtime.NumGoroutine" := by simpa using f2
  have f3' : ¬ fn.body = none := by
   intro D; rw [D] at f3; simp at f3
  simp [execOp, resolve, hev, Deferred.ofValue, invoke, callFunc, f1, f2', f3']
 simp only [Oper.wp, hrun, Oper.upon]
 have hxl : xs.length = af.length := hl.length
 have Y : (first ++ args.map a.eval ++ G).toList = first.toList ++ args.toList.map a.eval ++ G.toList := by simp
 refine (h H1 w (first ++ args.map a.eval ++ G) ?_ ?_ ⟨ae, fun b l h => (C.hg b l h).mono fun b o D => Z b o (M.grow b o D)⟩ (by simp) (by simp)).mono ?_
 ·rw [← Array.length_toList, Y]; simp at k1 ⊢; omega
 ·intro i x hix
  rw [Array.getD_eq_getD_getElem?, ← Array.getElem?_toList, Y]
  have hxs : ∀ (i : Nat) (y : T), af[i]? = some y → VR H1 ((args.toList.map a.eval).getD i undef) y := fun i y hy => E6 ho1 an Z hl i y hy (fun x hx => k2 i x hx)
  have := VR.app (H := H1) (by simp at k1 ⊢; omega) (VR.app (H := H1) (by simp; omega) z3 hxs) z4 i x hix
  simpa [List.getD] using this
 ·rintro e w' ⟨v, x, am, H', rfl, q2, q3, q4, q5, q6, q7, q8, al, q9⟩
  have q9' : ∀ b, b < w.heap.size → w'.heap[b]? = w.heap[b]? ∧ H' b = H1 b := fun b D => q9 b D (by simp)
  obtain ⟨H2, ad⟩ : ∃ H2 : GH, H2 = fun b => if b ∈ σ.objs.flatMap Ob.fp then none else H' b := ⟨_, rfl⟩
  have aa : ∀ b o, H b = some o → H2 b = some o := fun b o D => by
   rw [ad]; simp only [ag b o D, if_false]; exact q4 _ _ (Z b o D)
  have h2' : ∀ b o, H2 b = some o → H' b = some o := fun b o D => by
   rw [ad] at D
   dsimp only at D
   split at D
   ·cases D
   ·exact D
  have ab : ∀ p, p ∈ σ.objs → ∀ b, b ∈ p.fp → w'.heap[b]? = w.heap[b]? := fun p O b D => (q9' b ((M.objs p O).lt b D)).1
  refine ⟨_, H2, v, k x ⟨am, q2⟩, ?_, rfl, aa, fun i p O _ => ⟨O, ab p (mg O)⟩⟩
  have g2 : Gam n C σ H2 a w' := by
   refine ⟨M.defers.mono aa, M.size, fun i x h => (M.slots i x h).mono aa, fun p O => (M.objs p O).mono aa (ab p O), fun p O b D => ?_, M.new, M.nodup, fun b o D => q5 _ _ (h2' b o D), fun b o D => aa _ _ (M.grow _ _ D), Nat.le_trans M.heap q8, fun b D hf => ?_, ⟨al.1.trans M.env.1, al.2.1.trans M.env.2.1, al.2.2.trans M.env.2.2⟩⟩
   ·rw [ad]; simp only [List.mem_flatMap.2 ⟨p, O, D⟩, if_true]
   ·obtain ⟨h1, h2⟩ := q9' b (Nat.lt_of_lt_of_le D M.heap)
    obtain ⟨h3, h4⟩ := M.frame b D hf
    refine ⟨h1.trans h3, ?_⟩
    rw [ad]
    dsimp only
    split
    ·rename_i hm
     obtain ⟨p, O, aj⟩ := List.mem_flatMap.1 hm
     rcases M.new p O b aj with h | h
     ·omega
     ·exact absurd h hf
    ·rename_i hm
     rw [h2, ac]
     simp only [hm, if_false]; exact h4
  have := g2.put (dst := dst) (q3.flat (H' := H2) (ak x am q2)) hd
  cases dst <;> exact this
def eW : Ob → Bool
 | .us _ _ _ es => es.all fun e => e.all Eu
 | _ => false
theorem OR.flat {H H' : GH} {w : World} {o : Ob} (h : OR H w o) (hf : eW o = true) : OR H' w o := by
 cases o with
 | us v ty sz es =>
  rcases h with h | ⟨b, c, D, rfl, h1, h2, cs, Y, Z, a3, a4, a5, O⟩
  ·exact .inl h
  ·refine .inr ⟨b, c, D, rfl, h1, h2, cs, Y, Z, a3, a4, a5, fun i e G j x M => ⟨(O i e G j x M).1, (O i e G j x M).2.flat ?_⟩⟩
   have := List.all_eq_true.1 hf e (mg G)
   exact List.all_eq_true.1 this x (mg M)
 | _ => cases hf
theorem ACalls.sub {f : FuncId} {Y : List T} {fp : List Ob} {R R' : T → List Ob → Prop} (h : ACalls E f Y fp R) (hr : ∀ x G, R x G → ∃ D, D.Sublist G ∧ R' x D) : ACalls E f Y fp R' :=
 ⟨h.1, fun H w vs Z h2 h3 h4 h5 => (h.2 H w vs Z h2 h3 h4 h5).mono fun e w' ⟨v, x, G, H', q1, q2, q3, q4, q5, q6, q7, q⟩ => by
  obtain ⟨D, O, M⟩ := hr x G q2
  exact ⟨v, x, D, H', q1, M, q3, q4, q5, fun p hp => q6 p (O.subset hp), q7.sublist (C9 O), q⟩⟩
def S5 : Nat → List T → Am
 | _, [] => []
 | k, x :: l => (k, x) :: S5 (k + 1) l
theorem Se : ∀ (l : List T) (k i : Nat) (x : T), get (S5 k l) i = some x → k ≤ i ∧ l[i - k]? = some x
 | [], k, i, x, h => by simp [S5, get] at h
 | y :: l, k, i, x, h => by
  simp only [S5, get] at h
  cases hb : Nat.beq k i with
  | true =>
   have := nq hb
   subst this
   simp only [hb, cond_true, Option.some.injEq] at h
   subst h; simp
  | false =>
   simp only [hb, cond_false] at h
   obtain ⟨G, D⟩ := Se l (k + 1) i x h
   refine ⟨by omega, ?_⟩
   rw [show i - k = (i - (k + 1)) + 1 by omega]
   simpa using D
def Vf (E : Env) (s : Am) (objs : List Ob) : List ResultVar → List T → Prop
 | [], [] => True
 | .tmp t :: l, x :: xs => get s t = some x ∧ Vf E s objs l xs
 | .cell c t :: l, x :: xs => (∃ (k b Y O D : Nat) (G : List (List T)) (e : List T) (M : TI), get s c = some (.v (.pointer (some ⟨b, 0, none⟩))) ∧ objs[k]? = some (.arr b Y O D G) ∧ G[0]? = some e ∧
   E.tab t = some M ∧ Ef M e 0 = some x) ∧ Vf E s objs l xs
 | _, _ => False
def bU : List T → T
 | [x] => x
 | l => .tup l
def eG (E : Env) (fn : Func) (R : T → List Ob → Prop) (e : Exit) (σ : St) : Prop :=
 (e = .normal ∨ e = .ret) ∧ ∃ G D, Vf E σ.slots σ.objs fn.results.toList G ∧ D.Sublist σ.objs ∧ R (bU G) D
theorem Ld {s : Am} {objs : List Ob} {H : GH} {a : Act} {w : World} (r : SR n s H a) (wr : WR objs H w) : ∀ {l : List ResultVar} {O : List T}, Vf E s objs l O →
  ∃ vs : List Value, (l.mapM fun (x : ResultVar) => (match x with | .tmp t => pure (a.tmps.getD t undef) | .cell c t => do loadVar t (← asAddr (a.tmps.getD c undef)) : Sem Value)).run E.P w = .ok vs w ∧
   vs.length = O.length ∧ ∀ (i : Nat) (x : T), O[i]? = some x → VR H (vs.getD i undef) x
 | [], [], _ => ⟨[], by simp, rfl, by simp⟩
 | .tmp t :: l, x :: O, h => by
  obtain ⟨Y, Z⟩ := h
  obtain ⟨vs, k1, k2, k3⟩ := Ld r wr Z
  refine ⟨a.tmps.getD t undef :: vs, ?_, by simp [k2], fun i y D => ?_⟩
  ·simp only [List.mapM_cons, Sem.run_bind, Sem.run_pure, Result.andThen_ok, k1]
  ·cases i with
   | zero => simp at D; subst D; exact r.slots t _ Y
   | succ i => simp only [List.getElem?_cons_succ] at D; simpa using k3 i y D
 | .cell c t :: l, x :: O, h => by
  obtain ⟨⟨k, b, tt, sz, cap, es, e, ti, g1, g2, g3, g4, g5⟩, Z⟩ := h
  obtain ⟨vs, k1, k2, k3⟩ := Ld r wr Z
  have hv := (r.slots c _ g1).v_eq
  obtain ⟨cs, a1, a2, a3, Y, M⟩ := OR.cells (wr.objs _ (mg g2)) g3
  have hl := D8 (j := 0) (E.ok _ _ g4) a1 a2 Y M g5
  obtain ⟨p1, p2⟩ := Fb a2 Y M g5
  simp only [Nat.zero_mul, Nat.zero_add] at hl p1 p2
  refine ⟨Dr ti cs 0 :: vs, ?_, by simp [k2], fun i y D => ?_⟩
  ·have G : (asAddr (a.tmps.getD c undef)).run E.P w = .ok ⟨b, 0, none⟩ w := by rw [hv]; rfl
   simp only [List.mapM_cons, Sem.run_bind, Sem.run_pure, Result.andThen_ok, G, hl, k1]
  ·cases i with
   | zero =>
    simp at D; subst D
    cases G : ti.isAgg with
    | true => simpa [Dr, G] using (p1 G).2
    | false => simpa [Dr, G] using (p2 G).2
   | succ i => simp only [List.getElem?_cons_succ] at D; simpa using k3 i y D
 | [], _ :: _, h => h.elim
 | .tmp _ :: _, [], h => h.elim
 | .cell _ _ :: _, [], h => h.elim
theorem Re {s : Am} {objs : List Ob} {H : GH} {a : Act} {w : World} (r : SR n s H a) (wr : WR objs H w) {fn : Func} {xs : List T} (h : Vf E s objs fn.results.toList xs) :
  ∃ v, (results fn a.tmps).run E.P w = .ok v w ∧ VR H v (bU xs) := by
 obtain ⟨D, k1, O, Y⟩ := Ld r wr h
 have Z : (fn.results.mapM fun (x : ResultVar) => (match x with | .tmp t => pure (a.tmps.getD t undef) | .cell c t => do loadVar t (← asAddr (a.tmps.getD c undef)) : Sem Value)).run E.P w = .ok D.toArray w := by
  rw [Array.mapM_eq_mapM_toList]
  refine (Sem.run_map E.P w _ _).trans ?_
  rw [k1]; rfl
 refine ⟨if h : D.toArray.size = 1 then D.toArray[0] else .tuple D.toArray, ?_, ?_⟩
 ·unfold results
  refine (Sem.run_bind E.P w _ _).trans ?_
  refine (congrArg (fun r => Result.andThen r _) Z).trans ?_
  rfl
 ·by_cases G : D.length = 1
  ·obtain ⟨v, rfl⟩ := List.length_eq_one_iff.1 G
   obtain ⟨x, rfl⟩ := List.length_eq_one_iff.1 (O.symm.trans G)
   simpa [bU] using Y 0 x (by simp)
  ·have M : bU xs = .tup xs := by
    cases xs with
    | nil => rfl
    | cons x l =>
     cases l with
     | nil => exact absurd O (by simpa using G)
     | cons y l => rfl
   rw [M]
   simp only [List.size_toArray, G, dite_false]
   exact .tup _ _ (by simpa using O) (fun j x hx => by simpa [Array.getD_eq_getD_getElem?, List.getD] using Y j x hx)
theorem Gam.unmark {m : Nat} {σ : St} {H : GH} {a : Act} {w : World} {d : Deferred} {ds : List Deferred} (M : Gam m C σ H a w) (hd : a.defers = d :: ds) (h0 : ∀ b o, C.H0 b = some o → b < C.w0.heap.size) :
  ∃ b H1, d = { target := .collected b, args := #[] } ∧ (Instr.takeDeferred b).run E.P w = .ok [] (w.putObj b (.deferred none)) ∧ Gam m C σ H1 { a with defers := ds } (w.putObj b (.deferred none)) := by
 have hm := M.defers
 rw [hd] at hm
 obtain ⟨hnd, hm⟩ := hm
 obtain ⟨b, Z, O, hb3⟩ := hm d (by simp)
 have hw := M.held _ _ O
 have hc : ∀ k cs ty fr, H k = some (.cells cs ty fr) → (fun k => if k = b then none else H k) k = some (.cells cs ty fr) := by
  intro k cs ty fr D
  by_cases G : k = b
  ·rw [G, O] at D; cases D
  ·simp only [G, if_false]; exact D
 have hh : ∀ k, k ≠ b → (w.putObj b (.deferred none)).heap[k]? = w.heap[k]? := fun k D => World.putObj_heap_other D
 have hne : ∀ p, p ∈ σ.objs → ∀ k, k ∈ p.fp → k ≠ b := fun p Y k D he => by have := M.free p Y k D; rw [he, O] at this; cases this
 refine ⟨b, fun k => if k = b then none else H k, Z, run_takeDeferred hw, ⟨?_, M.size, fun i x h => (M.slots i x h).monoC hc, fun p Y => (M.objs p Y).monoC hc (fun k D => hh k (hne p Y k D)), fun p Y k D => ?_, M.new, M.nodup, fun k o D => ?_, fun k o D => ?_, ?_, fun k D hf => ?_, M.env⟩⟩
 ·refine ⟨(List.nodup_cons.1 hnd).2, fun d' aa => ?_⟩
  obtain ⟨b', q1, q2, q3⟩ := hm d' (by simp [aa])
  refine ⟨b', q1, ?_, q3⟩
  have : b' ≠ b := fun he => (List.nodup_cons.1 hnd).1 (by rw [Z, ← he, ← q1]; exact aa)
  simp only [this, if_false]; exact q2
 ·simp only [hne p Y k D, if_false]; exact M.free p Y k D
 ·split at D
  ·cases D
  ·rename_i G; rw [hh k G]; exact M.held _ _ D
 ·have := h0 _ _ D
  have G : k ≠ b := by omega
  simp only [G, if_false]; exact M.grow _ _ D
 ·simpa using M.heap
 ·have G : k ≠ b := by omega
  simp only [G, if_false]; exact ⟨(hh k G).trans (M.frame k D hf).1, (M.frame k D hf).2⟩
theorem Oe {fn : Func} {C : Ctx} {σ : St} {R : Ending → World → Prop} (D : ∀ b o, C.H0 b = some o → b < C.w0.heap.size)
  (h : ∀ H a w, Gam fn.ntmps C σ H a w → ∃ v, (results fn a.tmps).run E.P w = .ok v w ∧ R (.returned v) w) :
  ∀ (ds : List Deferred) (H : GH) (a : Act) (w : World), a.defers = ds → Gam fn.ntmps C σ H a w → LeavesInM Fence.wide 0 E.P fn a.tmps R ds .returning w
 | [], H, a, w, hd, gm => h H a w gm
 | d :: ds, H, a, w, hd, gm => by
  obtain ⟨b, H1, G, M, O⟩ := gm.unmark (E := E) hd D
  exact ⟨by simp, .inl ⟨b, _, by rw [G], M, Oe D h ds H1 { a with defers := ds } _ rfl O⟩⟩
def Zr (H : GH) (w : World) (fp : List Ob) (w' : World) (H' : GH) (D : List Ob) : Prop :=
 (∀ b o, H b = some o → H' b = some o) ∧ (∀ b o, H' b = some o → w'.heap[b]? = some o) ∧
   (∀ p, p ∈ D → OR H' w' p ∧ ∀ b, b ∈ p.fp → H' b = none ∧ (w.heap.size ≤ b ∨ b ∈ fp.flatMap Ob.fp)) ∧ (D.flatMap Ob.fp).Nodup ∧ w.heap.size ≤ w'.heap.size ∧
   (w'.os = w.os ∧ w'.tape = w.tape ∧ w'.output = w.output) ∧ ∀ b, b < w.heap.size → b ∉ fp.flatMap Ob.fp → w'.heap[b]? = w.heap[b]? ∧ H' b = H b
theorem Oj {f : FuncId} {fn : Func} {c : Code} {O : List T} {fp : List Ob} {R : T → List Ob → Prop} (hf : E.P.funcs[f]? = some fn) (hb : fn.body = some c)
  (hn : Nat.ble O.length fn.ntmps = true) {H : GH} {w : World} {vs : Array Value} (hsz : vs.size = O.length) (hv : ∀ (i : Nat) (x : T), O[i]? = some x → VR H (vs.getD i undef) x) (G : (∀ b o, H b = some o → w.heap[b]? = some o) ∧ Vg H)
  (Z : ∀ p, p ∈ fp → OR H w p ∧ ∀ b, b ∈ p.fp → H b = none) (hnd : (fp.flatMap Ob.fp).Nodup) (h : AW E fn.ntmps ⟨w, H, fp.flatMap Ob.fp, G.2⟩ c ⟨S5 0 O, fp⟩ (eG E fn R)) :
  Calls E.P f vs w fun e w' => ∃ v x fp' H', e = .returned v ∧ R x fp' ∧ VR H' v x ∧ Zr H w fp w' H' fp' := by
 refine callsIn_wide.1 (callsIn_of_wp_marks (F := Fence.wide) (n := 0) hf hb trivial ?_)
 have hn' := Nat.le_of_ble_eq_true hn
 have gm : Gam fn.ntmps ⟨w, H, fp.flatMap Ob.fp, G.2⟩ ⟨S5 0 O, fp⟩ H { tmps := vs ++ Array.replicate (fn.ntmps - vs.size) undef, defers := [] } w := by
  refine ⟨.nil, by simp; omega, fun i x hx => ?_, fun p M => (Z p M).1, fun p M => (Z p M).2, fun p M b hb => .inr (List.mem_flatMap.2 ⟨p, M, hb⟩), hnd, G.1, fun _ _ h => h, Nat.le_refl _, fun _ _ _ => ⟨rfl, rfl⟩, ⟨rfl, rfl, rfl⟩⟩
  obtain ⟨_, h2⟩ := Se O 0 i x hx
  simp only [Nat.sub_zero] at h2
  have hi := (gs h2).1
  have he : (vs ++ Array.replicate (fn.ntmps - vs.size) undef).getD i undef = vs.getD i undef := by
   simp [Array.getD_eq_getD_getElem?, Array.getElem?_append, show i < vs.size by omega]
  rw [he]; exact hv i x h2
 refine wpIn_mono (h H _ w gm none (fun h => by cases h)) ?_
 rintro e Y w' ⟨σ', H', ⟨he, ys, fp', r1, r2, r3⟩, D⟩
 have aa : LeavesInM Fence.wide 0 E.P fn Y.tmps (fun e w' => ∃ v x fp' H', e = .returned v ∧ R x fp' ∧ VR H' v x ∧ Zr H w fp w' H' fp') Y.defers .returning w' := by
  refine Oe (fun b o hb => (Array.getElem?_eq_some_iff.1 (G.1 b o hb)).1) ?_ Y.defers H' Y w' rfl D
  intro H' Y w' D
  obtain ⟨v, k1, k2⟩ := Re D.sr D.wr r1
  exact ⟨v, k1, v, _, fp', H', rfl, r3, k2, D.grow, D.held, fun p M => ⟨D.objs p (r2.subset M), fun b hb => ⟨D.free p (r2.subset M) b hb, D.new p (r2.subset M) b hb⟩⟩, (C9 r2).nodup D.nodup, D.heap, D.env, D.frame⟩
 rcases he with rfl | rfl
 ·exact aa
 ·exact aa
theorem Ad {f : FuncId} {fn : Func} {c : Code} {Z : List T} {fp : List Ob} {R : T → List Ob → Prop} (hf : E.P.funcs[f]? = some fn) (hb : fn.body = some c) (G : (fn.name == "runtime.NumGoroutine") = false)
  (hn : Nat.ble Z.length fn.ntmps = true) (h : ∀ C : Ctx, C.fp = fp.flatMap Ob.fp → AW E fn.ntmps C c ⟨S5 0 Z, fp⟩ (eG E fn R)) : ACalls E f Z fp R :=
 ⟨⟨fn, hf, G, by simp [hb]⟩, fun H w vs Y hv D M O => Oj hf hb hn Y hv D M O (h _ rfl)⟩
end
set_option linter.unusedVariables false
set_option linter.defProp false
set_option linter.unusedSimpArgs false
theorem gB {x : Int} (h : -9223372036854775808 ≤ x ∧ x ≤ 9223372036854775807) : IntKind.i64.wrap x = x := by
 rw [IntKind.wrap_i64]; omega
section
variable {E : Env} {n : Nat} {C : Ctx} {s : Am} {ob : List Ob} {Q : Exit → St → Prop} {ops : Array Oper} {R : St → Prop}
theorem AO.d {d : Nat} {D : Op} {ty : TypeId} {pos : String} {aft : Array Edge} {l : List Oper} {x : T} (M : Yd E.P n s ob ⟨some d, D, ty, pos, aft, none⟩ x) (G : Nat.blt d n = true)
  (k : AO E n C ops l ⟨(d, x) :: s, ob⟩ R) : AO E n C ops (⟨some d, D, ty, pos, aft, none⟩ :: l) ⟨s, ob⟩ R :=
 AO.still M rfl (Cj G) k
def hF := @AO.d
theorem Bk {d : Nat} {D : Op} {ty : TypeId} {pos : String} {aft : Array Edge} {l : List Oper} {x : T} (M : Yp E.P n s ⟨some d, D, ty, pos, aft, none⟩ x) (G : Nat.blt d n = true)
  (k : AO E n C ops l ⟨(d, x) :: s, ob⟩ R) : AO E n C ops (⟨some d, D, ty, pos, aft, none⟩ :: l) ⟨s, ob⟩ R :=
 AO.still M.yd rfl (Cj G) k
theorem Jy {t : Nat} {x : T} (h : get s t = some x) : ∀ i y, get ((t, x) :: s) i = some y → get s i = some y := by
 intro i y D
 simp only [get] at D
 cases hb : Nat.beq t i with
 | true =>
  have := nq hb
  subst this
  simp only [hb, cond_true, Option.some.injEq] at D
  subst D; exact h
 | false => simpa only [hb, cond_false] using D
theorem Gam.same {C : Ctx} {H : GH} {a : Act} {w : World} (D : Gam n C ⟨s, ob⟩ H a w) {t : Nat} {x : T} (h : get s t = some x) : Gam n C ⟨(t, x) :: s, ob⟩ H a w :=
 { D with slots := fun i y G => D.slots i y (Jy h i y G) }
theorem gA {d : Option Nat} {op : Op} {ty : TypeId} {pos : String} {aft : Array Edge} {l : List Oper} {j : Nat} {D b : Bool} {t : Tmp}
  (hj : (ops[j]?).bind (·.dst) = some t) (O : get s t = some (.v (.bool b))) (hd : ∀ Z, d = some Z → Z < n)
  (h1 : b = D → AO E n C ops (⟨d, op, ty, pos, aft, none⟩ :: l) ⟨(t, .v (.bool D)) :: s, ob⟩ R)
  (h2 : b = !D → AO E n C ops l ⟨El ((t, .v (.bool (!D))) :: s) d (.v undef), ob⟩ R) : AO E n C ops (⟨d, op, ty, pos, aft, some (j, D)⟩ :: l) ⟨s, ob⟩ R := by
 refine AO.guard hj O hd (fun G H a w M => ?_) (fun G H a w M => ?_)
 ·subst G; exact h1 rfl H a w (M.same O)
 ·subst G
  refine h2 rfl H a w ?_
  cases d with
  | none => exact M.same O
  | some d =>
   refine { M with slots := fun i y Y => ?_ }
   simp only [El, get] at Y
   have hg : get ((d, T.v undef) :: s) i = some y := by
    simp only [get]
    cases G : Nat.beq d i with
    | true => simpa only [G, cond_true] using Y
    | false =>
     simp only [G, cond_false] at Y ⊢
     exact Jy O i y (by simpa only [get] using Y)
   exact M.slots i y hg
theorem Bm {d : Nat} {G : Op} {ty : TypeId} {pos : String} {aft : Array Edge} {l : List Oper} {j : Nat} {D : Bool} {t : Tmp}
  (O : (ops[j]?).bind (·.dst) = some t) (Y : get s t = some (.v (.bool D))) (M : Nat.blt d n = true)
  (k : AO E n C ops (⟨some d, G, ty, pos, aft, none⟩ :: l) ⟨(t, .v (.bool D)) :: s, ob⟩ R) : AO E n C ops (⟨some d, G, ty, pos, aft, some (j, D)⟩ :: l) ⟨s, ob⟩ R :=
 gA O Y (Cj M) (fun _ => k) (fun h => by cases D <;> cases h)
theorem gK {d : Nat} {x : Operand} {y : T} {ty : TypeId} {pos : String} {aft : Array Edge} {l : List Oper} (G : Au s x = some y) (D : Nat.blt d n = true)
  (k : AO E n C ops l ⟨(d, y) :: s, ob⟩ R) : AO E n C ops (⟨some d, .move x, ty, pos, aft, none⟩ :: l) ⟨s, ob⟩ R := Bk (Yp.move G) D k
theorem gL {d : Nat} {x : Operand} {y : T} {ty : TypeId} {pos : String} {aft : Array Edge} {l : List Oper} (G : Au s x = some y) (D : Nat.blt d n = true)
  (k : AO E n C ops l ⟨(d, y) :: s, ob⟩ R) : AO E n C ops (⟨some d, .assign x, ty, pos, aft, none⟩ :: l) ⟨s, ob⟩ R := Bk (Yp.assign G) D k
theorem I {α : Type} {a : α} : a = a := rfl
theorem Ae {l : List Oper} {b c : Bool} (t : Nat) (G : get s t = some (.v (.bool b))) (hb : b = c) (k : AO E n C ops l ⟨(t, .v (.bool c)) :: s, ob⟩ R) : AO E n C ops l ⟨s, ob⟩ R :=
 fun H a w D => by subst hb; exact k H a w (D.same G)
theorem AP.o {G : List Nat} {D : List Ob} {M : Am} {i : Nat} {r : PL} {d : Nat} {op : Op} {ty : TypeId} {pos : String} {aft : Array Edge} {x : T} (Y : ops[i]? = some ⟨some d, op, ty, pos, aft, none⟩)
  (Z : Yd E.P n M D ⟨some d, op, ty, pos, aft, none⟩ x) (O : Nat.blt d n = true) (k : AP E n C ops G D r ((d, x) :: M) ⟨(d, x) :: s, ob⟩ R) :
  AP E n C ops G D (.still i r) M ⟨s, ob⟩ R :=
 Tg Y Z rfl (Cj O) k
theorem AP.op {G : List Nat} {D : List Ob} {M : Am} {i : Nat} {r : PL} {d : Nat} {op : Op} {ty : TypeId} {pos : String} {aft : Array Edge} {x : T} (Y : ops[i]? = some ⟨some d, op, ty, pos, aft, none⟩)
  (Z : Yp E.P n M ⟨some d, op, ty, pos, aft, none⟩ x) (O : Nat.blt d n = true) (k : AP E n C ops G D r ((d, x) :: M) ⟨(d, x) :: s, ob⟩ R) :
  AP E n C ops G D (.still i r) M ⟨s, ob⟩ R :=
 Tg Y Z.yd rfl (Cj O) k
def gZ := @AP.op
theorem Vi {G : List Nat} {D : List Ob} {M : Am} {i : Nat} {r : PL} {d : Nat} {op : Op} {ty : TypeId} {pos : String} {aft : Array Edge} {x : T} (Y : ops[i]? = some ⟨some d, op, ty, pos, aft, none⟩)
  (Z : Yp E.P n s ⟨some d, op, ty, pos, aft, none⟩ x) (O : Nat.blt d n = true) (k : AP E n C ops G D r M ⟨(d, x) :: s, ob⟩ R) (hf : free M (some d) = true := by rfl) :
  AP E n C ops G D (.still i r) M ⟨s, ob⟩ R :=
 AP.new Y Z rfl (Cj O) k hf
theorem fT {pl : PL} {M : Am} {G : List Nat} {D : List Ob} {b : Bool} (t : Nat) (hs : get s t = some (.v (.bool b)))
  (h1 : b = true → AP E n C ops G D pl M ⟨(t, .v (.bool true)) :: s, ob⟩ R) (h2 : b = false → AP E n C ops G D pl M ⟨(t, .v (.bool false)) :: s, ob⟩ R) :
  AP E n C ops G D pl M ⟨s, ob⟩ R := by
 intro Hs ws H a w sr wr O Z hp Y
 cases b with
 | true => exact h1 rfl Hs ws H a w sr wr O Z hp (Y.same hs)
 | false => exact h2 rfl Hs ws H a w sr wr O Z hp (Y.same hs)
theorem Sm {c : Operand} {x y : Code} {t : Nat} {b v : Bool} (D : get s t = some (.v (.bool b))) (hb : b = v) (h : AW E n C (match v with | true => x | false => y) ⟨s, ob⟩ Q) (hc : c = .tmp t := by rfl) : AW E n C (.cond c x y) ⟨s, ob⟩ Q := by
 subst hb
 refine AW.cond hc D (fun hb => ?_) (fun hb => ?_)
 ·subst hb; exact h
 ·subst hb; exact h
def Ghost (n : Nat) (C : Ctx) (s : Am) (ob : List Ob) (s' : Am) (ob' : List Ob) : Prop :=
 ∀ (H : GH) (a : Act) (w : World), Gam n C ⟨s, ob⟩ H a w → ∃ H', (∀ b o, H b = some o → H' b = some o) ∧ Gam n C ⟨s', ob'⟩ H' a w
theorem AW.ghost {c : Code} {s' : Am} {ob' : List Ob} (h : Ghost n C s ob s' ob') (k : AW E n C c ⟨s', ob'⟩ Q) : AW E n C c ⟨s, ob⟩ Q := fun H a w D => let ⟨H', _, g⟩ := h H a w D; k H' a w g
def gU := @AW.ghost
theorem AO.ghost {l : List Oper} {s' : Am} {ob' : List Ob} (h : Ghost n C s ob s' ob') (k : AO E n C ops l ⟨s', ob'⟩ R) : AO E n C ops l ⟨s, ob⟩ R := fun H a w D => let ⟨H', _, g⟩ := h H a w D; k H' a w g
theorem AP.ghost {pl : PL} {so G : Am} {prot : List Nat} {D : List Ob} {s' : Am} {ob' : List Ob} (h : Ghost n C s ob s' ob') (hp : prot.map (fun i => ob'[i]?) = prot.map (fun i => ob[i]?)) (Z : Sub G so)
  (k : AP E n C ops prot D pl G ⟨s', ob'⟩ R) : AP E n C ops prot D pl so ⟨s, ob⟩ R := by
 intro Hs ws H a w sr wr ag hH Y gm
 obtain ⟨H', h1, g⟩ := h H a w gm
 refine k Hs ws H' a w ⟨sr.size, fun i x hx => sr.slots i x (Z.get i x hx)⟩ wr ag (fun b o hb => h1 _ _ (hH _ _ hb)) (fun p O => ?_) g
 obtain ⟨i, hi, he⟩ := Y p O
 have M : i ∈ prot := by simpa using hi
 have : ob'[i]? = ob[i]? := List.map_inj_left.1 hp i M
 exact ⟨i, hi, this.trans he⟩
theorem Ghost.trans {s' D : Am} {ob' ob'' : List Ob} (h1 : Ghost n C s ob s' ob') (h2 : Ghost n C s' ob' D ob'') : Ghost n C s ob D ob'' := fun H a w G =>
 let ⟨H1, m1, g1⟩ := h1 H a w G
 let ⟨H2, m2, g2⟩ := h2 H1 a w g1
 ⟨H2, fun b o hb => m2 _ _ (m1 _ _ hb), g2⟩
theorem Ghost.weaken {s' : Am} {ob' : List Ob} (M : Sub s' s) (G : ob'.Sublist ob) : Ghost n C s ob s' ob' := fun H _ _ D => ⟨H, fun _ _ h => h, D.weaken M G⟩
theorem S0 {o : Ob} (hf : o.fp = []) (G : ∀ H w, OR H w o) : Ghost n C s ob s (ob ++ [o]) := fun H a w D =>
 ⟨H, fun _ _ h => h, D.more (ob := o) ⟨rfl, rfl, rfl⟩ (Nat.le_refl _) (fun _ _ => rfl) (G H w) (by rw [hf]; simp) (by rw [hf]; simp)⟩
theorem Be (ty sz : Nat) : Ghost n C s ob s (ob ++ [.us (.slice none 0 0) ty sz []]) := S0 rfl (fun _ _ => .inl ⟨rfl, rfl⟩)
theorem K3 : ∀ {vs : List Value} {L : List (Option (List (List T)))} {m : Nat} {es : List (List T)}, vs.length = L.length → L[m]? = some (some es) →
  (∀ b, b ∈ Ee vs (L.set m none) → b ∈ Ee vs L) ∧ (∀ b, b ∈ Gn (vs.getD m undef) → b ∈ Ee vs L) ∧ ((Ee vs L).Nodup → (Ee vs (L.set m none)).Nodup ∧ ∀ b, b ∈ Gn (vs.getD m undef) → b ∉ Ee vs (L.set m none))
 | [], L, m, es, hl, h => by have := (gs h).1; simp at hl; omega
 | v :: vs, [], m, es, hl, h => by simp at h
 | v :: vs, y :: L, 0, es, hl, h => by
  simp at h
  subst h
  simp only [List.set_cons_zero, Ee, List.mem_append, List.nodup_append, List.getD, List.getElem?_cons_zero, Option.getD_some]
  exact ⟨fun b G => .inr G, fun b G => .inl G, fun ⟨_, M, O⟩ => ⟨M, fun b G D => O b G b D rfl⟩⟩
 | v :: vs, none :: L, m + 1, es, hl, h => by
  have ih := K3 (vs := vs) (L := L) (m := m) (es := es) (by simpa using hl) (by simpa using h)
  simpa [Ee, List.getD] using ih
 | v :: vs, some z :: L, m + 1, es, hl, h => by
  obtain ⟨Y, M, O⟩ := K3 (vs := vs) (L := L) (m := m) (es := es) (by simpa using hl) (by simpa using h)
  have hg : (v :: vs).getD (m + 1) undef = vs.getD m undef := by simp [List.getD]
  rw [hg]
  simp only [List.set_cons_succ, Ee, List.mem_append, List.nodup_append]
  refine ⟨fun b G => G.imp id (Y b), fun b G => .inr (M b G), fun ⟨q1, q2, Z⟩ => ?_⟩
  obtain ⟨r1, r2⟩ := O q2
  refine ⟨⟨q1, r1, fun x hx y hy => Z x hx y (Y y hy)⟩, fun b G D => ?_⟩
  rcases D with D | D
  ·exact Z b D b (M b G) rfl
  ·exact r2 b G D
theorem Ghost.take (k m : Nat) {v : Value} {ty tyi szi : Nat} {vs : List Value} {L : List (Option (List (List T)))} {es : List (List T)} (O : ob[k]? = some (.uss v ty tyi szi vs L)) (hm : L[m]? = some (some es)) :
  Ghost n C s ob s (ob.set k (.uss v ty tyi szi vs (L.set m none)) ++ [.us (vs.getD m undef) tyi szi es]) := by
 intro H a w gm
 have hor : OR H w (.uss v ty tyi szi vs L) := gm.objs _ (mg O)
 obtain ⟨h0, h1, h2⟩ := hor
 have hn0 := (Dk.1 gm.nodup).1 k _ O
 obtain ⟨u1, u2, u3⟩ := K3 h0 hm
 simp only [Ob.fp, List.nodup_append] at hn0
 obtain ⟨n1, n2, n3⟩ := hn0
 obtain ⟨u4, u5⟩ := u3 n2
 have hml := (gs hm).1
 have hvm : vs[m]? = some (vs.getD m undef) := by
  have : m < vs.length := by omega
  simp [List.getD, this]
 refine ⟨H, fun _ _ h => h, gm.world (fun _ => False) ⟨rfl, rfl, rfl⟩ (Nat.le_refl _) (fun _ _ _ => rfl) (fun _ h => h.elim) ?_ ?_⟩
 ·intro p M
  rcases List.mem_append.1 M with M | M
  ·rcases List.mem_or_eq_of_mem_set M with M | rfl
   ·exact .inl ⟨M, fun _ _ h => h⟩
   ·refine .inr ⟨⟨by simpa using h0, h1, fun i x es' hx he => ?_⟩, fun b G => .inr ⟨_, mg O, ?_⟩⟩
    ·rw [List.getElem?_set] at he
     split at he
     ·cases he
     ·exact h2 i x es' hx he
    ·simp only [Ob.fp, List.mem_append] at G ⊢
     exact G.imp id (u1 b)
  ·simp only [List.mem_singleton] at M
   subst M
   refine .inr ⟨h2 m _ es hvm hm, fun b G => .inr ⟨_, mg O, ?_⟩⟩
   simp only [Ob.fp, List.mem_append] at G ⊢
   exact .inr (u2 b G)
 ·rw [List.flatMap_append, List.nodup_append]
  have hsub : ∀ b, b ∈ (Ob.uss v ty tyi szi vs (L.set m none)).fp → b ∈ (Ob.uss v ty tyi szi vs L).fp := fun b G => by
   simp only [Ob.fp, List.mem_append] at G ⊢
   exact G.imp id (u1 b)
  refine ⟨R3 gm.nodup O ?_ (fun b G => .inl (hsub b G)), by simpa [Ob.fp] using La _, ?_⟩
  ·simp only [Ob.fp, List.nodup_append]
   exact ⟨n1, u4, fun x hx y Z => n3 x hx y (u1 y Z)⟩
  ·intro x hx y Z hxy
   subst hxy
   simp only [List.flatMap_cons, List.flatMap_nil, List.append_nil, Ob.fp] at Z
   obtain ⟨p, M, D⟩ := List.mem_flatMap.1 hx
   obtain ⟨i, hi⟩ := List.mem_iff_getElem?.1 M
   by_cases Y : k = i
   ·subst Y
    rw [List.getElem?_set_self (gs O).1] at hi
    cases hi
    simp only [Ob.fp, List.mem_append] at D
    rcases D with D | D
    ·exact n3 x D x (u2 x Z) rfl
    ·exact u5 x Z D
   ·rw [List.getElem?_set_ne Y] at hi
    exact gm.apart O hi Y x D (by simp only [Ob.fp, List.mem_append]; exact .inr (u2 x Z))
def F0 (ob : List Ob) (ks : List Nat) : List Ob := (ob.zipIdx.filter fun p => !ks.contains p.2).map Prod.fst
def LendS (K : List Ob) (s : Am) : Am → Prop
 | [] => True
 | (t, y) :: l => (∃ x, get s t = some x ∧ Lend K x y) ∧ LendS K s l
theorem LendS.get {K : List Ob} {s : Am} : ∀ {l : Am}, LendS K s l → ∀ i y, Aw.get l i = some y → ∃ x, Aw.get s i = some x ∧ Lend K x y
 | [], _, i, y, h => by simp [Aw.get] at h
 | (t, z) :: l, hl, i, y, h => by
  obtain ⟨D, G⟩ := hl
  simp only [Aw.get] at h
  cases hb : Nat.beq t i with
  | true =>
   have := nq hb
   subst this
   simp only [hb, cond_true, Option.some.injEq] at h
   subst h; exact D
  | false => simp only [hb, cond_false] at h; exact LendS.get G i y h
inductive LendO (K : List Ob) : Ob → Ob → Prop
 | same (o : Ob) : LendO K o o
 | arr {b ty sz cap : Nat} {e e' : List T} (h : LendL K e e') : LendO K (.arr b ty sz cap [e]) (.arr b ty sz cap [e'])
inductive LendOs (K : List Ob) : List Ob → List Ob → Prop
 | nil : LendOs K [] []
 | cons {x y : Ob} {l m : List Ob} (h : LendO K x y) (t : LendOs K l m) : LendOs K (x :: l) (y :: m)
 | rest (l : List Ob) : LendOs K l l
theorem LendO.fp {K : List Ob} {x y : Ob} (h : LendO K x y) : y.fp = x.fp := by cases h <;> rfl
theorem LendOs.fp {K : List Ob} {l m : List Ob} (h : LendOs K l m) : m.flatMap Ob.fp = l.flatMap Ob.fp := by
 induction h with
 | nil => rfl
 | cons h _ ih => simp [h.fp, ih]
 | rest => rfl
theorem LendOs.mem {K : List Ob} {l m : List Ob} (h : LendOs K l m) : ∀ y, y ∈ m → ∃ x, x ∈ l ∧ LendO K x y := by
 induction h with
 | nil => intro y D; simp at D
 | cons h _ ih =>
  intro z G
  rcases List.mem_cons.1 G with rfl | G
  ·exact ⟨_, by simp, h⟩
  ·obtain ⟨x, O, M⟩ := ih z G; exact ⟨x, by simp [O], M⟩
 | rest => intro y D; exact ⟨y, D, .same y⟩
theorem Ba (ks : List Nat) {K : List Ob} (hK : C1 ob ks = some K) (cs : Am) (hc : LendS K s cs) {ob' : List Ob} (ho : LendOs K (F0 ob ks) ob') : Ghost n C s ob (cs ++ s) ob' := by
 intro H a w M
 obtain ⟨p1, p2⟩ := Ge hK
 have hmem : ∀ p, p ∈ K → ∃ k, k ∈ ks ∧ ob[k]? = some p := by
  intro p G
  obtain ⟨i, hi⟩ := List.mem_iff_getElem?.1 G
  have hil := (gs hi).1
  obtain ⟨o, h1, h2⟩ := p2 i ks[i] (gq (by omega))
  rw [hi] at h2
  cases h2
  exact ⟨ks[i], List.getElem_mem _, h1⟩
 have Z : ∀ p, p ∈ K → p ∈ ob := fun p G => by obtain ⟨k, _, h⟩ := hmem p G; exact mg h
 have hown : ∀ b o, H b = some o → b ∉ K.flatMap Ob.fp := fun b o D hm => by
  obtain ⟨p, G, hbp⟩ := List.mem_flatMap.1 hm
  rw [M.free p (Z p G) b hbp] at D; cases D
 obtain ⟨H1, Y⟩ : ∃ H1 : GH, H1 = fun b => if b ∈ K.flatMap Ob.fp then w.heap[b]? else H b := ⟨_, rfl⟩
 have O : ∀ b o, H b = some o → H1 b = some o := fun b o D => by rw [Y]; simp only [hown b o D, if_false]; exact D
 have ho1 : ∀ p, p ∈ K → OR H1 w p := fun p G => (M.objs p (Z p G)).mono O (fun _ _ => rfl)
 have hb1 : ∀ p, p ∈ K → ∀ b, b ∈ p.fp → H1 b = w.heap[b]? := fun p G b D => by
  rw [Y]; simp only [List.mem_flatMap.2 ⟨p, G, D⟩, if_true]
 have hkept : ∀ p, p ∈ F0 ob ks → ∃ i, i ∉ ks ∧ ob[i]? = some p := by
  intro p G
  simp only [F0, List.mem_map, List.mem_filter] at G
  obtain ⟨⟨q, i⟩, ⟨h1, h2⟩, rfl⟩ := G
  exact ⟨i, by simpa using h2, by have := List.mem_zipIdx_iff_getElem?.1 h1; simpa using this⟩
 have aa : ∀ p, p ∈ F0 ob ks → p ∈ ob ∧ ∀ b, b ∈ p.fp → b ∉ K.flatMap Ob.fp := by
  intro p G
  obtain ⟨i, hi, hp'⟩ := hkept p G
  refine ⟨mg hp', fun b D hm => ?_⟩
  obtain ⟨q, hq, hbq⟩ := List.mem_flatMap.1 hm
  obtain ⟨k, hk, hq'⟩ := hmem q hq
  exact Ox M.nodup hp' hq' (fun he => hi (he ▸ hk)) b D hbq
 have hsubl : (F0 ob ks).Sublist ob := by
  have h1 : ((ob.zipIdx.filter fun p => !ks.contains p.2).map Prod.fst).Sublist (ob.zipIdx.map Prod.fst) := List.Sublist.map _ List.filter_sublist
  have h2 : ob.zipIdx.map Prod.fst = ob := by simp
  rw [h2] at h1
  exact h1
 refine ⟨H1, O, M.defers.mono O, M.size, ?_, ?_, ?_, ?_, ?_, ?_, ?_, M.heap, ?_, M.env⟩
 ·intro i x hx
  have ab : (get cs i = some x) ∨ get s i = some x := by
   have : ∀ (l : Am), get (l ++ s) i = some x → get l i = some x ∨ get s i = some x := by
    intro l
    induction l with
    | nil => exact fun h => .inr h
    | cons p l ih =>
     obtain ⟨t, y⟩ := p
     simp only [List.cons_append, get]
     cases Nat.beq t i with
     | true => exact fun h => .inl h
     | false => exact ih
   exact this cs hx
  rcases ab with ab | ab
  ·obtain ⟨y, hy, hl⟩ := hc.get i x ab
   exact Ra ho1 hb1 O hl (M.slots i y hy)
  ·exact (M.slots i x ab).mono O
 ·intro p G
  obtain ⟨q, hq, hl⟩ := ho.mem p G
  have hor := (M.objs q (aa q hq).1)
  cases hl with
  | same => exact hor.mono O (fun _ _ => rfl)
  | arr h =>
   obtain ⟨cur, a1, a2, a3, a4, a5, a6⟩ := hor
   refine ⟨cur, a1, a2, a3, a4, fun i e he => ?_, fun i e he j x hx => ?_⟩
   ·cases i with
    | zero => simp at he; subst he; rw [← h.length]; exact a5 0 _ rfl
    | succ i => simp at he
   ·cases i with
    | zero =>
     simp at he; subst he
     obtain ⟨z, hz, _⟩ := h.get j x hx
     exact ⟨(a6 0 _ rfl j z hz).1, E6 ho1 hb1 O h j x hx (fun z' hz' => (a6 0 _ rfl j z' hz').2)⟩
    | succ i => simp at he
 ·intro p G b D
  obtain ⟨q, hq, hl⟩ := ho.mem p G
  rw [hl.fp] at D
  obtain ⟨h1, h2⟩ := aa q hq
  rw [Y]; simp only [h2 b D, if_false]; exact M.free q h1 b D
 ·intro p G b D
  obtain ⟨q, hq, hl⟩ := ho.mem p G
  rw [hl.fp] at D
  exact M.new q (aa q hq).1 b D
 ·show (ob'.flatMap Ob.fp).Nodup
  rw [ho.fp]; exact (C9 hsubl).nodup M.nodup
 ·intro b o D
  rw [Y] at D
  dsimp only at D
  split at D
  ·exact D
  ·exact M.held b o D
 ·intro b o D; exact O _ _ (M.grow _ _ D)
 ·intro b D hf
  obtain ⟨h1, h2⟩ := M.frame b D hf
  refine ⟨h1, ?_⟩
  have : b ∉ K.flatMap Ob.fp := fun hm => by
   obtain ⟨q, hq, hbq⟩ := List.mem_flatMap.1 hm
   rcases M.new q (Z q hq) b hbq with h | h
   ·omega
   ·exact hf h
  rw [Y]; simp only [this, if_false]; exact h2
theorem Oq (x : Ob) : F0 (ob ++ [x]) [ob.length] = ob := by
 unfold F0
 rw [List.zipIdx_append, List.filter_append, List.map_append]
 have D : ob.zipIdx.filter (fun p => !([ob.length].contains p.2)) = ob.zipIdx := by
  rw [List.filter_eq_self]
  rintro ⟨y, i⟩ h
  have := List.mem_zipIdx_iff_getElem?.1 h
  have := (gs this).1
  simp only at this
  simp; omega
 rw [D]
 simp
theorem Rf (x : Ob) : C1 (ob ++ [x]) [ob.length] = some [x] := by simp [C1]
theorem dN {d : Nat} {ty : TypeId} {pos : String} {aft : Array Edge} {g : Option (Nat × Bool)} {t : TypeId} {m : Nat} {D : Array (Nat × Operand)} {ti O : TI} {e : Nat} {z : Value} {l : List T} {sz : Nat} {es : List (List T)}
  (ht : E.tab t = some ti) (hk : ti.kind = .slice e) (he : E.tab e = some O) (hz : O.zero = some z) (h1 : z.cells.toList.all (·.oneCell') = true) (hsz : O.size = sz) (hzs : z.cells.size = sz) (hb : Nat.ble (m * sz) 16777216 = true)
  (hm : Nat.ble m 16777216 = true) (hf : E5 s (fun i => some (i * sz, sz)) (Je (Ed z) m) D.toList = some l) (hr : rows sz m l = es)
  (hd : ∀ d', some d = some d' → d' < n) (k : R ⟨(d, .list sz es) :: s, ob⟩) :
  AX E n C [] ⟨some d, .buildSlice t m D, ty, pos, aft, g⟩ ⟨s, ob⟩ R := by
 intro H a w gm
 refine Df ?_ (fun _ _ _ h => h) (AX.buildSlice (R := fun σ' => ∃ b, σ' = ⟨(d, .v b) :: s, ob ++ [.us b e sz es]⟩) ht hk he hz h1 hsz hzs hb hm hf hr hd (fun b => ⟨b, rfl⟩) H a w gm)
 rintro a' w' ⟨_, H', v, ⟨b, rfl⟩, Y, ha, Z, aa⟩
 obtain ⟨H'', h2, G⟩ := Ba [ob.length] (K := [.us b e sz es]) (Rf _) [(d, .list sz es)] ⟨⟨_, by simp [get], .us 0 rfl⟩, trivial⟩ (ob' := ob) (by rw [Oq]; exact .rest _) H' a' w' Y
 refine ⟨⟨(d, .list sz es) :: s, ob⟩, H'', v, k, { G with slots := ?_ }, ha, fun b o h => h2 _ _ (Z _ _ h), fun i p hp hm => ⟨hp, (aa i p hp hm).2⟩⟩
 intro i x M
 refine G.slots i x ?_
 show get ((d, .list sz es) :: (d, .v b) :: s) i = some x
 simp only [get] at M ⊢
 cases hbq : Nat.beq d i with
 | true => rw [hbq] at M; exact M
 | false => rw [hbq] at M; simpa using M
theorem Sub.append : ∀ {D G s : Am}, Sub D s → Sub G s → Sub (D ++ G) s
 | [], _, _, _, h2 => h2
 | (_, _) :: _, _, _, h1, h2 => ⟨h1.1, Sub.append h1.2 h2⟩
theorem Ag {α β : Type} {f : α → β} {l : List α} {k : Nat} {x : α} (h : l[k]? = some x) : (l.map f)[k]? = some (f x) := by simp [h]
theorem Bn {a b : Nat} (h : Nat.ble a b = true) : a ≤ b := Nat.le_of_ble_eq_true h
theorem Dp {a b : Ob} {l m : List Ob} (h : a = b) (t : l.Sublist m) : (a :: l).Sublist (b :: m) := h ▸ t.cons_cons a
theorem Cv {l : List Ob} : ([] : List Ob).Sublist l := List.nil_sublist l
theorem Dg {a b : Bool} (h : a = b) : some (T.v (.bool a)) = some (T.v (.bool b)) := by rw [h]
end
theorem oi {α : Type _} {a b : α} (h : some a = some b) : a = b := Option.some.inj h
theorem bt (b : Bool) : b = true ∨ b = false := by cases b <;> simp
theorem J : True := True.intro
abbrev T.V (x : Int) : T := .v (.int .i64 x)
abbrev T.N : T := .v (.slice none 0 0)
theorem dS {n d : Nat} (h : Nat.blt d n = true := by exact rfl) : ∀ D, some d = some D → D < n := Cj h
section
variable {E : Env} {n : Nat} {C : Ctx} {ops : Array Oper} {s : Am} {ob : List Ob} {R : St → Prop} {dst : Option Tmp} {ty : TypeId} {pos : String} {aft : Array Edge} {g : Option (Nat × Bool)}
def PAll (F : Nat × List Nat → Prop) : List (Nat × List Nat) → Prop
 | [] => True
 | p :: l => F p ∧ PAll F l
theorem PAll.get {F : Nat × List Nat → Prop} : ∀ {l : List (Nat × List Nat)}, PAll F l → ∀ p, p ∈ l → F p
 | [], _, _, h => by simp at h
 | q :: l, ⟨h1, h2⟩, p, h => by
  rcases List.mem_cons.1 h with rfl | h
  ·exact h1
  ·exact PAll.get h2 p h
theorem Np {A : List (Nat × List Nat)} {dst : Nat → Tmp} {vals : Nat → T} {s : Am} (M : (A.all fun p => A.all fun q => Nat.beq p.1 q.1 || !Nat.beq (dst p.1) (dst q.1)) = true) :
  ∀ (D : List Nat), (∀ d, d ∈ D → ∃ p, p ∈ A ∧ p.1 = d) → ∀ d, d ∈ D → get (D.map (fun d => (dst d, vals d)) ++ s) (dst d) = some (vals d)
 | [], _, d, h => by simp at h
 | d0 :: D, hA, d, h => by
  simp only [List.map_cons, List.cons_append, get]
  cases hb : Nat.beq (dst d0) (dst d) with
  | true =>
   obtain ⟨p, Y, rfl⟩ := hA d0 (by simp)
   obtain ⟨q, Z, rfl⟩ := hA d h
   have := List.all_eq_true.1 (List.all_eq_true.1 M p Y) q Z
   rw [hb] at this
   have : p.1 = q.1 := nq (by simpa using this)
   rw [this]; rfl
  | false =>
   have G : d ≠ d0 := fun O => by rw [O] at hb; simp at hb
   rw [cond_false]
   exact Np M D (fun x hx => hA x (by simp [hx])) d (by simpa [G] using h)
theorem Nq {A : List (Nat × List Nat)} {dst : Nat → Tmp} {vals : Nat → T} {s : Am} (G : (A.all fun p => (get s (dst p.1)).isNone) = true) :
  ∀ (D : List Nat), (∀ d, d ∈ D → ∃ p, p ∈ A ∧ p.1 = d) → ∀ i x, get s i = some x → get (D.map (fun d => (dst d, vals d)) ++ s) i = some x
 | [], _, i, x, h => by simpa using h
 | d0 :: D, hA, i, x, h => by
  simp only [List.map_cons, List.cons_append, get]
  cases hb : Nat.beq (dst d0) i with
  | true =>
   obtain ⟨p, M, rfl⟩ := hA d0 (by simp)
   have := List.all_eq_true.1 G p M
   rw [nq hb, h] at this
   simp at this
  | false => rw [cond_false]; exact Nq G D (fun x O => hA x (by simp [O])) i x h
theorem I9 : ∀ {l s : Am}, (∀ p, p ∈ l → Aw.get s p.1 = some p.2) → Sub l s
 | [], _, _ => trivial
 | (i, x) :: _, _, h => ⟨h (i, x) (by simp), I9 fun p D => h p (by simp [D])⟩
theorem bL {A : List (Nat × List Nat)} {dst : Nat → Tmp} {vals : Nat → T} {s : Am} (Y : (A.all fun p => A.all fun q => Nat.beq p.1 q.1 || !Nat.beq (dst p.1) (dst q.1)) = true)
  {D ds : List Nat} (M : ∀ d, d ∈ D → ∃ p, p ∈ A ∧ p.1 = d) (G : ∀ d, d ∈ ds → d ∈ D) : Sub (ds.map fun d => (dst d, vals d)) (D.map (fun d => (dst d, vals d)) ++ s) := by
 refine I9 fun p Z => ?_
 obtain ⟨d, O, rfl⟩ := List.mem_map.1 Z
 exact Np Y D M d (G d O)
theorem AP.par {A : List (Nat × List Nat)} {r : PL} {so : Am} {O : List Nat} {G : List Ob} (dst : Nat → Tmp) (Φ : Nat → T → Prop) (Inv : List Ob → Prop)
  (hj : (A.all fun p => A.all fun q => Nat.beq p.1 q.1 || !Nat.beq (dst p.1) (dst q.1)) = true)
  (s1 : Am) (hs1 : ∀ i x, get s1 i = some x → get s i = some x) (hs : (A.all fun p => (get s1 (dst p.1)).isNone) = true)
  (h0 : Inv ob) (hI : ∀ ob, Inv ob → ∀ p, p ∈ G → ∃ i, O.contains i = true ∧ ob[i]? = some p)
  (hstep : PAll (fun p => ∃ o md, ops[p.1]? = some o ∧ o.guard = none ∧ o.dst = some (dst p.1) ∧ (O.all fun i => !md.contains i) = true ∧
   ∀ (vals : Nat → T) (ob : List Ob), Inv ob → (∀ d, d ∈ p.2 → Φ d (vals d)) → AX E n C md o ⟨p.2.map (fun d => (dst d, vals d)) ++ s1, ob⟩ (fun σ' => ∃ x, get σ'.slots (dst p.1) = some x ∧ Φ p.1 x ∧ Inv σ'.objs)) A)
  (k : ∀ (vals : Nat → T) ob', Inv ob' → (∀ p, p ∈ A → Φ p.1 (vals p.1)) → AP E n C ops O G r [] ⟨A.map (fun p => (dst p.1, vals p.1)) ++ s1, ob'⟩ R) :
  AP E n C ops O G (.par A r) so ⟨s, ob⟩ R := by
 intro Hs ws H a w sr wr ag hH hpp gm
 refine ⟨fun D a w => ∃ (vals : Nat → T) (ob : List Ob) (H : GH), Inv ob ∧ (∀ d, d ∈ D → Φ d (vals d)) ∧ (∀ d, d ∈ D → ∃ p, p ∈ A ∧ p.1 = d) ∧ (∀ b o, Hs b = some o → H b = some o) ∧
  Gam n C ⟨D.map (fun d => (dst d, vals d)) ++ s1, ob⟩ H a w ∧ Ij Hs G ws w, ?_, ?_, ?_⟩
 ·exact ⟨fun _ => .tup [], ob, H, h0, by simp, by simp, hH, { gm with slots := fun i x h => gm.slots i x (hs1 i x (by simpa using h)) }, ag⟩
 ·rintro D j ds a w hm hds hjD ⟨vals, ob, H, hi, hΦ, Z, hH, gm, ag⟩
  obtain ⟨o, md, ho, hg, hdst, hmd, hax⟩ := hstep.get _ hm
  have hmd' : ∀ i, O.contains i = true → md.contains i = false := fun i hi => by
   have := (List.all_eq_true.1 hmd) i (by simpa using hi)
   simpa using this
  have hsub : ∀ i x, get (ds.map (fun d => (dst d, vals d)) ++ s1) i = some x → get (D.map (fun d => (dst d, vals d)) ++ s1) i = some x := by
   intro i x h
   have Y := Nq (vals := vals) hs D Z
   have M := bL (vals := vals) (s := s1) hj Z hds
   generalize ds.map (fun d => (dst d, vals d)) = l at h M
   induction l with
   | nil => exact Y i x (by simpa using h)
   | cons p l ih =>
    obtain ⟨q, y⟩ := p
    obtain ⟨h1, h2⟩ := M
    simp only [List.cons_append, get] at h
    cases hbq : Nat.beq q i with
    | true =>
     rw [hbq, cond_true] at h
     cases h
     rw [← nq hbq]; exact h1
    | false => rw [hbq, cond_false] at h; exact ih h h2
  have hax := hax vals ob hi (fun d M => hΦ d (hds d M)) H a w { gm with slots := fun i x h => gm.slots i x (hsub i x h) }
  simp only [wpOp, ho]
  rw [if_pos (by simp [Region.wanted, hg])]
  refine .inl (Df ?_ (fun _ _ _ h => h.elim) hax)
  rintro a' w' ⟨σ', H', v, ⟨x, hget, hx, hi'⟩, gm', ha', hHH, hfr⟩
  have ag' : Ij Hs G ws w' := by
   refine ⟨fun b o Y => gm'.held _ _ (hHH _ _ (hH _ _ Y)), fun p hpp b Y => ?_⟩
   obtain ⟨i, hpi, hoi⟩ := hI ob hi p hpp
   exact ((hfr i p hoi (hmd' i hpi)).2 b Y).trans (ag.2 p hpp b Y)
  have hcong : D.map (fun d => (dst d, if d = j then x else vals d)) = D.map (fun d => (dst d, vals d)) := by
   refine List.map_congr_left fun d M => ?_
   rw [if_neg (show ¬ d = j from fun h => hjD (by rw [← h]; exact M))]
  refine ⟨ag', fun d => if d = j then x else vals d, σ'.objs, H', hi', ?_, ?_, fun b o Y => hHH _ _ (hH _ _ Y), { gm' with slots := ?_ }, ag'⟩
  ·intro d M
   rcases List.mem_cons.1 M with rfl | M
   ·simpa using hx
   ·dsimp only
    rw [if_neg (show ¬ d = j from fun h => hjD (by rw [← h]; exact M))]; exact hΦ d M
  ·intro d M
   rcases List.mem_cons.1 M with rfl | M
   ·exact ⟨_, hm, rfl⟩
   ·exact Z d M
  ·intro i y hy
   simp only [List.map_cons, List.cons_append, get, if_pos] at hy
   rw [hcong] at hy
   cases Y : Nat.beq (dst j) i with
   | true =>
    rw [Y, cond_true] at hy
    cases hy
    rw [← nq Y]
    exact gm'.slots _ _ hget
   | false =>
    rw [Y, cond_false] at hy
    have hne : dst j ≠ i := fun h => by rw [h] at Y; simp at Y
    rw [ha', hdst]
    simp only [Act.put]
    have he : (a.tmps.setIfInBounds (dst j) v).getD i undef = a.tmps.getD i undef := by
     simp [Array.getD_eq_getD_getElem?, Array.getElem?_setIfInBounds_ne hne]
    rw [he]; exact (gm.slots i y hy).mono hHH
 ·rintro D a w hall ⟨vals, ob, H, hi, hΦ, Z, hH, gm, ag⟩
  refine k vals ob hi (fun p hp => hΦ _ (hall p hp)) Hs ws H a w ⟨gm.size, fun i x h => by simp [get] at h⟩ wr ag hH (hI ob hi) { gm with slots := fun i x h => gm.slots i x ?_ }
  have Y := Nq (vals := vals) hs D Z
  have M : Sub (A.map fun p => (dst p.1, vals p.1)) (D.map (fun d => (dst d, vals d)) ++ s1) := I9 fun q hq => by
   obtain ⟨p, hp, rfl⟩ := List.mem_map.1 hq
   exact Np hj D Z p.1 (hall p hp)
  generalize A.map (fun p => (dst p.1, vals p.1)) = l at h M
  induction l with
  | nil => exact Y i x (by simpa using h)
  | cons p l ih =>
   obtain ⟨q, y⟩ := p
   obtain ⟨h1, h2⟩ := M
   simp only [List.cons_append, get] at h
   cases hbq : Nat.beq q i with
   | true =>
    rw [hbq, cond_true] at h
    cases h
    rw [← nq hbq]; exact h1
   | false => rw [hbq, cond_false] at h; exact ih h h2
end
section
variable {E : Env} {n : Nat} {C : Ctx} {ops : Array Oper} {s : Am} {ob : List Ob} {R : St → Prop} {dst : Option Tmp} {ty : TypeId} {pos : String} {aft : Array Edge} {g : Option (Nat × Bool)} {Q : Exit → St → Prop}
theorem Yp.makeFunc {f : FuncId} {first captured : Array Operand} {fs cs : List T} (h1 : Fh s first.toList = some fs) (h2 : Fh s captured.toList = some cs) :
  Yp E.P n s ⟨dst, .makeFunc (.func f) first captured, ty, pos, aft, g⟩ (.fn f fs cs) := by
 intro H a r
 obtain ⟨M, O⟩ := F8 r h1
 obtain ⟨Y, Z⟩ := F8 r h2
 have conv : ∀ (D : Array Operand) (i : Nat), (D.map a.eval).getD i undef = (D.toList.map a.eval).getD i undef := fun D i => by
  simp [Array.getD_eq_getD_getElem?, List.getD]
 refine ⟨_, .fn f (first.map a.eval) (captured.map a.eval) fs cs (by simpa using M) (by simpa using Y) (fun j x G => by rw [conv]; exact O j x G) (fun j x G => by rw [conv]; exact Z j x G), fun w => ?_⟩
 simp [execOp, Instr.makeFunc]
theorem N8 {t : TypeId} {x y : Operand} {k : IntKind} {i : Int} {m len O : Nat} {cs : List T} {ti D : TI} {z : T} (ht : E.tab t = some ti) (Y : ti.kind = .array len O) (hel : E.tab O = some D)
  (hx : Au s x = some (.agg cs)) (hy : Au s y = some (.v (.int k i))) (hi : i = (m : Int)) (Z : m < len) (hp : Ef D cs (m * D.size) = some z) :
  Yp E.P n s ⟨dst, .index t x y, ty, pos, aft, g⟩ z := by
 intro H A r
 subst hi
 have h := r.eval hx
 generalize hv : A.eval x = v at h
 cases h with
 | agg vs cs hl hc hvs =>
  obtain ⟨v, G, M⟩ := G4 (VR.agg vs cs hl hc hvs) (E.ok _ _ hel) hp
  exact ⟨v, G, fun w => by simp [execOp, hv, r.evalv hy, Instr.index, asIntOf, run_underlying (K4 (E.ok _ _ ht) Y), Z, Bu (E.ok _ _ hel), M]⟩
theorem Yd.sub (k : Nat) {objs : List Ob} {o : Oper} {x : T} {p q : Ob} (hk : objs[k]? = some p) (ho : ∀ H w, OR H w p → OR H w q) (hf : ∀ b, b ∈ q.fp → b ∈ p.fp) (h : Yd E.P n s [q] o x) : Yd E.P n s objs o x := by
 intro H a w r wr
 have M := mg hk
 obtain ⟨v, O, Y⟩ := h H a w r ⟨fun p' D => by simp at D; subst D; exact ho H w (wr.objs _ M), wr.held⟩
 refine ⟨v, O, fun w' G => Y w' ⟨G.1, fun p' D b Z => ?_⟩⟩
 simp only [List.mem_singleton] at D
 subst D
 exact G.2 _ M b (hf b Z)
def Es (l : List UInt8) : List (List T) := l.map fun b => [.v (.int .u8 (b.toNat : Int))]
theorem Nz {P : Program} {t : TypeId} {i : TI} (h : Hd P t = some i) {e : Nat} (M : i.kind = .slice e) : P.underlying t = some (.slice e) := by
 obtain ⟨d, G, D⟩ := Gi h
 rw [M] at D
 cases d <;> simp [Ki] at D
 subst D; exact G
theorem Rv {P : Program} {t : TypeId} {i : TI} (h : Hd P t = some i) {k : IntKind} (M : i.kind = .int k) : P.underlying t = some (.int k) := by
 obtain ⟨d, G, D⟩ := Gi h
 rw [M] at D
 cases d <;> simp [Ki] at D
 subst D; exact G
theorem S1 {t t' : TypeId} {x : Operand} {ti ti' ei : TI} {e : Nat} {l : List UInt8} (ht : E.tab t = some ti) (hk : ti.kind = .slice e) (he : E.tab e = some ei) (Y : ei.kind = .int .u8) (ab : E.tab t' = some ti') (O : ti'.kind = .string)
  (hs : AppSrc s ob x 1 (Es l)) (hd : ∀ d, dst = some d → d < n) (k : R ⟨El s dst (.v (.string ⟨l.toArray⟩)), ob⟩) : AX E n C [] ⟨dst, .convert t t' x, ty, pos, aft, g⟩ ⟨s, ob⟩ R := by
 intro H a w gm
 obtain ⟨ad, c, G, h1, h2, h3, h4, h5, h6⟩ := hs n H a w gm.sr gm.wr
 have D : (Es l).length = l.length := by simp [Es]
 have aa : (execOp a.eval ⟨dst, .convert t t' x, ty, pos, aft, g⟩).run E.P w = .ok (.value (.string ⟨l.toArray⟩)) w := by
  cases ad with
  | none =>
   have := h4 rfl
   have hl : l = [] := by simpa [Es] using this
   subst hl
   have hc := run_convert_bytes_string (P := E.P) w t t' e none 0 c (Nz (E.ok _ _ ht) hk) (Rv (E.ok _ _ he) Y) (F7 (E.ok _ _ ab) O)
   simp only [Es, List.map_nil, List.length_nil] at h1
   simp only [execOp, h1, Sem.run_bind, hc]
   simp [Conv.bytesToString]
   rfl
  | some ad =>
   have hb := run_convert_bytes_back (P := E.P) w t t' e ad c l (Nz (E.ok _ _ ht) hk) (Rv (E.ok _ _ he) Y) (F7 (E.ok _ _ ab) O) (fun j hj => by
    have Z : (Es l)[j]? = some [.v (.int .u8 (l[j].toNat : Int))] := by simp [Es, hj]
    obtain ⟨_, q⟩ := h6 j _ Z
    have q := (q 0 _ rfl).v_eq
    simp only [Nat.mul_one, Nat.add_zero] at q
    have M : j < G.length := by rw [h2, D]; omega
    have := h5 ad rfl j G[j] (gq M)
    rw [this]
    simp only [List.getD, gq M, Option.getD_some] at q
    rw [q])
   rw [D] at h1
   simp only [execOp, h1, Sem.run_bind, hb]
   rfl
 simp only [Oper.wp, aa, Oper.upon]
 refine ⟨_, H, _, k, ?_, rfl, fun _ _ h => h, fun i p hp _ => ⟨hp, by intros; trivial⟩⟩
 have := gm.put (dst := dst) (v := .string ⟨l.toArray⟩) (x := .v (.string ⟨l.toArray⟩)) (.v _) hd
 cases dst <;> exact this
end
end Go.Aw
