/- Maps with whole numbers for keys that one variable holds. No condition. -/
import Derived.Test.YtndfiddakngjdaaBwEq
namespace Go.Aw
set_option linter.unusedVariables false
set_option linter.unusedSimpArgs false

/-! ### The map as a list of entries -/

def mget {α : Type} : List (Int × α) → Int → Option α
  | [], _ => none
  | (k, x) :: l, i => if k = i then some x else mget l i
/-- With another value at a key. -/
def mset {α : Type} : List (Int × α) → Int → α → List (Int × α)
  | [], _, _ => []
  | (k, x) :: l, i, y => if k = i then (k, y) :: l else (k, x) :: mset l i y
def mput {α : Type} (l : List (Int × α)) (i : Int) (y : α) : List (Int × α) := if (mget l i).isSome then mset l i y else l ++ [(i, y)]

def mEnts {α : Type} (f : α → Value) : List (Int × α) → Nat → List MapEntry
  | [], _ => []
  | (k, x) :: l, n => { key := .int .i64 k, val := f x, born := n } :: mEnts f l (n + 1)
def mapOb {α : Type} (f : α → Value) (l : List (Int × α)) : Obj := .map (mEnts f l 0).toArray l.length

theorem mEnts_append {α : Type} (f : α → Value) (i : Int) (y : α) : ∀ (l : List (Int × α)) (n : Nat), mEnts f (l ++ [(i, y)]) n = mEnts f l n ++ [{ key := .int .i64 i, val := f y, born := n + l.length }]
  | [], n => rfl
  | (k, x) :: l, n => by simp only [List.cons_append, mEnts, mEnts_append f i y l (n + 1), List.length_cons]; rw [show n + 1 + l.length = n + (l.length + 1) by omega]

theorem find_ents {α : Type} (f : α → Value) (i : Int) : ∀ (l : List (Int × α)) (n j : Nat), ∃ m, Instr.findNow (.int .i64) (.int .i64 i) (mEnts f l n) j = some ((mget l i).map fun x => (m, f x)) ∧
    ((mget l i).isSome → j ≤ m ∧ (mEnts f l n)[m - j]? = some { key := .int .i64 i, val := (f <$> mget l i).getD undef, born := n + (m - j) } ∧ ∀ y : α, (mEnts f l n).modify (m - j) (fun e => { e with key := .int .i64 i, val := f y }) = mEnts f (mset l i y) n)
  | [], n, j => ⟨0, by simp [mEnts, Instr.findNow, mget]⟩
  | (k, x) :: l, n, j => by
    by_cases h : k = i
    · subst h
      refine ⟨j, by simp [mEnts, Instr.findNow, Instr.sameNow, mget], fun _ => ⟨Nat.le_refl _, ?_, fun y => ?_⟩⟩
      · simp [mEnts, mget]
      · simp [mEnts, mset]
    · obtain ⟨m, h1, h2⟩ := find_ents f i l (n + 1) (j + 1)
      have hs : (i == k) = false := by simp; omega
      refine ⟨m, by simp [mEnts, Instr.findNow, Instr.sameNow, mget, h, hs, h1], fun hh => ?_⟩
      simp only [mget, h, if_false] at hh ⊢
      obtain ⟨q1, q2, q3⟩ := h2 hh
      have e : m - j = (m - (j + 1)) + 1 := by omega
      refine ⟨by omega, ?_, fun y => ?_⟩
      · rw [e]; simp only [mEnts, List.getElem?_cons_succ]; rw [q2]; congr 2; omega
      · rw [e]; simp only [mEnts, mset, h, if_false, List.modify_succ_cons]; rw [q3 y]

theorem mset_len {α : Type} (i : Int) (y : α) : ∀ l : List (Int × α), (mset l i y).length = l.length
  | [] => rfl
  | (k, x) :: l => by simp only [mset]; split <;> simp [mset_len i y l]

section
variable {E : Env} {n : Nat} {C : Ctx} {σ : St} {s : Slots} {ob : List Ob} {dst : Option Tmp} {ty : TypeId} {pos : String} {aft : Array Edge} {g : Option (Nat × Bool)} {R : St → Prop}

theorem und_map {P : Program} {t : TypeId} {i : TI} (h : tiOf P t = some i) {k e : Nat} (hk : i.kind = .map k e) : P.underlying t = some (.map k e) := by
  obtain ⟨d, h1, h2⟩ := und_ti h
  rw [hk] at h2
  cases d <;> simp [K.of] at h2
  obtain ⟨rfl, rfl⟩ := h2; exact h1
/-- A new map. -/
theorem AX.makeMap {α : Type} (f : α → Value) {t : TypeId} (hd : ∀ d, dst = some d → d < n) (k : ∀ b, R ⟨putS σ.slots dst (.v (.map (some b))), σ.objs ++ [.raw b (mapOb f [])]⟩) :
    AX E n C [] ⟨dst, .makeMap t none, ty, pos, aft, g⟩ σ R := by
  refine AX.value fun H a w gm => ?_
  have hor : OR H (w.alloc (mapOb f [])) (.raw w.heap.size (mapOb f [])) := heap_alloc_new w _
  refine ⟨.map (some w.heap.size), w.alloc (mapOb f []), _, H, ?_, k w.heap.size, ?_, fun _ _ h => h, ?_⟩
  · simp only [execOp, Instr.makeMap, mapOb, mEnts, newObj]; rfl
  · have := (gm.alloc hor rfl).put (dst := dst) (.v (.map (some w.heap.size))) hd
    cases dst <;> exact this
  · intro i p hp _
    exact ⟨append_keeps hp, fun b hb => heap_alloc_old w _ ((gm.objs p (List.mem_of_getElem? hp)).lt b hb)⟩

theorem run_find {α : Type} {P : Program} {w : World} {t kt : TypeId} {f : α → Value} {l : List (Int × α)} {i : Int} (hk : P.underlying kt = some (.int .i64)) :
    ∃ m, (Instr.findKey kt (.int .i64 i) (mEnts f l 0)).run P w = .ok ((mget l i).map fun x => (m, f x)) w ∧
      ((mget l i).isSome → (mEnts f l 0)[m]? = some { key := .int .i64 i, val := (f <$> mget l i).getD undef, born := m } ∧ ∀ y : α, (mEnts f l 0).modify m (fun e => { e with key := .int .i64 i, val := f y }) = mEnts f (mset l i y) 0) := by
  obtain ⟨m, h1, h2⟩ := find_ents f i l 0 0
  refine ⟨m, ?_, fun hh => ?_⟩
  · simp only [Instr.findKey, Sem.run_bind, run_underlying hk, Result.andThen_ok, h1, Sem.run_pure]
  · obtain ⟨_, q2, q3⟩ := h2 hh
    rw [Nat.sub_zero] at q2 q3
    rw [Nat.zero_add] at q2
    exact ⟨q2, q3⟩

theorem run_checkKey {P : Program} {w : World} {kt : TypeId} {i : Int} (hk : P.underlying kt = some (.int .i64)) (e : Bool) (v : Value) : (Instr.checkKey e 10000 kt v).run P w = .ok () w := by
  unfold Instr.checkKey
  simp only [Sem.run_bind, run_underlying hk, Result.andThen_ok, Sem.run_pure]

/-- What a map has at a key, and whether it has something there. -/
theorem Yd.lookup2 {α : Type} (q : Nat) {f : α → Value} {t : TypeId} {x y : Operand} {b : Nat} {l : List (Int × α)} {i : Int} {ti ki ei : TI} {kt et : Nat} {z : α} {u v : T}
    (ht : E.tab t = some ti) (hk : ti.kind = .map kt et) (hki : E.tab kt = some ki) (hkk : ki.kind = .int .i64) (hei : E.tab et = some ei) (hz : ei.zero = some (f z))
    (hx : evalT s x = some (.v (.map (some b)))) (ho : ob[q]? = some (.raw b (mapOb f l))) (hy : evalT s y = some (.v (.int .i64 i)))
    (hu : T.v (f ((mget l i).getD z)) = u) (hv : T.v (.bool (mget l i).isSome) = v) :
    Yd E.P n s ob ⟨dst, .lookup t x y true, ty, pos, aft, g⟩ (.tup [u, v]) := by
  subst hu; subst hv
  intro H a w sr wr
  have hh : w.heap[b]? = some (mapOb f l) := wr.objs _ (List.mem_of_getElem? ho)
  refine ⟨.tuple #[f ((mget l i).getD z), .bool (mget l i).isSome], ?_, fun w' ag => ?_⟩
  · exact .tup _ _ (by simp) fun j x hx => by
      match j, hx with
      | 0, hx => simp at hx; subst hx; exact .v _
      | 1, hx => simp at hx; subst hx; exact .v _
  · have hh' : w'.heap[b]? = some (mapOb f l) := (ag.2 _ (List.mem_of_getElem? ho) b (by simp [Ob.fp])).trans hh
    have hkey := und_int (E.ok _ _ hki) hkk
    obtain ⟨m, r1, r2⟩ := run_find (P := E.P) (w := w') (t := t) (kt := kt) (f := f) (l := l) (i := i) hkey
    simp only [execOp, sr.evalv hx, sr.evalv hy, Instr.lookup, Sem.run_bind, run_underlying (und_map (E.ok _ _ ht) hk), Result.andThen_ok]
    simp only [getObj, Sem.run, hh', mapOb, Result.andThen_ok, Sem.run_bind, Sem.run_pure, run_checkKey (i := i) hkey, r1]
    cases hm : mget l i with
    | none => simp [run_zeroValue_ti (E.ok _ _ hei) w' hz]
    | some x => simp

/-- What a map has at a key. -/
theorem Yd.lookup1 {α : Type} (q : Nat) {f : α → Value} {t : TypeId} {x y : Operand} {b : Nat} {l : List (Int × α)} {i : Int} {ti ki ei : TI} {kt et : Nat} {z : α} {u : T}
    (ht : E.tab t = some ti) (hk : ti.kind = .map kt et) (hki : E.tab kt = some ki) (hkk : ki.kind = .int .i64) (hei : E.tab et = some ei) (hz : ei.zero = some (f z))
    (hx : evalT s x = some (.v (.map (some b)))) (ho : ob[q]? = some (.raw b (mapOb f l))) (hy : evalT s y = some (.v (.int .i64 i)))
    (hu : T.v (f ((mget l i).getD z)) = u) :
    Yd E.P n s ob ⟨dst, .lookup t x y false, ty, pos, aft, g⟩ u := by
  subst hu
  intro H a w sr wr
  have hh : w.heap[b]? = some (mapOb f l) := wr.objs _ (List.mem_of_getElem? ho)
  refine ⟨f ((mget l i).getD z), .v _, fun w' ag => ?_⟩
  have hh' : w'.heap[b]? = some (mapOb f l) := (ag.2 _ (List.mem_of_getElem? ho) b (by simp [Ob.fp])).trans hh
  have hkey := und_int (E.ok _ _ hki) hkk
  obtain ⟨m, r1, r2⟩ := run_find (P := E.P) (w := w') (t := t) (kt := kt) (f := f) (l := l) (i := i) hkey
  simp only [execOp, sr.evalv hx, sr.evalv hy, Instr.lookup, Sem.run_bind, run_underlying (und_map (E.ok _ _ ht) hk), Result.andThen_ok]
  simp only [getObj, Sem.run, hh', mapOb, Result.andThen_ok, Sem.run_bind, Sem.run_pure, run_checkKey (i := i) hkey, r1]
  cases hm : mget l i with
  | none => simp [run_zeroValue_ti (E.ok _ _ hei) w' hz]
  | some x => simp

def mI (x : Int) : Value := .int .i64 x
def mB (x : Bool) : Value := .bool x

theorem run_get {P : Program} {w : World} {b : Nat} {es : Array MapEntry} {c : Nat} (h : w.heap[b]? = some (.map es c)) : (getObj b).run P w = .ok (.map es c) w := by
  simp only [getObj, Sem.run, h]

/-- Another value at a key of a map. -/
theorem AX.mapUpdate {α : Type} (q : Nat) {f : α → Value} {t : TypeId} {x y v : Operand} {b : Nat} {l : List (Int × α)} {i : Int} {ti ki : TI} {kt et : Nat} {z : α}
    (ht : E.tab t = some ti) (hk : ti.kind = .map kt et) (hki : E.tab kt = some ki) (hkk : ki.kind = .int .i64)
    (hx : evalT σ.slots x = some (.v (.map (some b)))) (ho : σ.objs[q]? = some (.raw b (mapOb f l))) (hy : evalT σ.slots y = some (.v (.int .i64 i))) (hv : evalT σ.slots v = some (.v (f z)))
    (hd : dst = none) (kk : R ⟨σ.slots, σ.objs.set q (.raw b (mapOb f (mput l i z)))⟩) :
    AX E n C [q] ⟨dst, .mapUpdate t x y v, ty, pos, aft, g⟩ σ R := by
  subst hd
  refine AX.skip fun H a w gm => ?_
  have hh : w.heap[b]? = some (mapOb f l) := gm.objs _ (List.mem_of_getElem? ho)
  have hbl : b < w.heap.size := (Array.getElem?_eq_some_iff.1 hh).1
  have hkey := und_int (E.ok _ _ hki) hkk
  obtain ⟨m, r1, r2⟩ := run_find (P := E.P) (w := w) (t := t) (kt := kt) (f := f) (l := l) (i := i) hkey
  have hset : ∀ o : Obj, ∀ k : Sem Unit, (Sem.setObj b o k).run E.P w = k.run E.P { w with heap := w.heap.setIfInBounds b o } := by
    intro o k
    simp only [Sem.run, hh, mapOb]
  have hrun : (execOp a.eval ⟨none, .mapUpdate t x y v, ty, pos, aft, g⟩).run E.P w = .ok .skip { w with heap := w.heap.setIfInBounds b (mapOb f (mput l i z)) } := by
    simp only [execOp, gm.sr.evalv hx, gm.sr.evalv hy, gm.sr.evalv hv, Instr.mapUpdate, Sem.run_bind, run_underlying (und_map (E.ok _ _ ht) hk), Result.andThen_ok]
    simp only [run_get (show w.heap[b]? = some (.map (mEnts f l 0).toArray l.length) from hh), Result.andThen_ok, Sem.run_bind, Sem.run_pure, run_checkKey (i := i) hkey, r1]
    cases hm : mget l i with
    | none =>
      simp only [Option.map_none, Sem.run_bind]
      have : mput l i z = l ++ [(i, z)] := by unfold mput; rw [hm]; rfl
      simp only [setObj, hset, Sem.run_pure, Result.andThen_ok]
      rw [this]
      simp only [mapOb, mEnts_append, List.length_append, List.length_singleton, Nat.zero_add]
      congr 3
      simp
    | some u =>
      obtain ⟨e1, e2⟩ := r2 (by rw [hm]; rfl)
      have : mput l i z = mset l i z := by unfold mput; rw [hm]; rfl
      simp only [Option.map_some, Sem.run_bind]
      have hkt : (Instr.keyThatStays (.int .i64 i) (.int .i64 i)).run E.P w = .ok (.int .i64 i) w := by
        simp [Instr.keyThatStays, Instr.sameBits]
      have he : ((((mEnts f l 0).toArray)[m]?).map (·.key)).getD (.int .i64 i) = .int .i64 i := by
        simp [e1]
      rw [he, hkt]
      simp only [Result.andThen_ok, setObj, hset, Sem.run_pure]
      rw [this]
      have hmod : ((mEnts f l 0).toArray.modify m fun e => { key := .int .i64 i, val := f z, born := e.born }) = (mEnts f (mset l i z) 0).toArray := by
        have := e2 z
        rw [← this]
        simp
      simp only [mapOb, mset_len, hmod]
      rfl
  refine ⟨_, _, H, hrun, kk, ?_, fun _ _ h => h, fun i' p hp hm => ?_⟩
  · refine gm.set ho ⟨rfl, rfl, rfl⟩ (by simp) (fun j hj hne => ?_) ?_ (fun b' hb' => .inr (by simpa [Ob.fp] using hb')) (by simp [Ob.fp])
    · simp only [Ob.fp, List.mem_singleton] at hne
      simp [Array.getElem?_setIfInBounds_ne (Ne.symm hne)]
    · show (w.heap.setIfInBounds b _)[b]? = _
      simp [Array.getElem?_setIfInBounds_self, hbl]
  · have hne : q ≠ i' := fun h => by subst h; simp at hm
    refine ⟨set_keeps hp hne, fun b' hb' => ?_⟩
    have : b ≠ b' := fun h => gm.apart ho hp hne b' hb' (by simp [Ob.fp, h])
    simp [Array.getElem?_setIfInBounds_ne this]

end
end Go.Aw
