/- Loops over a map that one variable holds: what the iterator hands out, in whatever order. No condition. -/
import Derived.Test.YtndfiddakngjdaaBwMap
import Derived.Laws.IdiomRangeMap
namespace Go.Aw
set_option linter.unusedVariables false
set_option linter.unusedSimpArgs false

theorem mEnts_get {α : Type} (f : α → Value) : ∀ (l : List (Int × α)) (n j : Nat), (mEnts f l n)[j]? = (l[j]?).map fun p => { key := .int .i64 p.1, val := f p.2, born := n + j }
  | [], n, j => by simp [mEnts]
  | (k, x) :: l, n, 0 => by simp [mEnts]
  | (k, x) :: l, n, j + 1 => by
    simp only [mEnts, List.getElem?_cons_succ, mEnts_get f l (n + 1) j]
    rw [show n + 1 + j = n + (j + 1) by omega]

theorem mEnts_mem {α : Type} {f : α → Value} {l : List (Int × α)} {e : MapEntry} (h : e ∈ mEnts f l 0) : ∃ p, l[e.born]? = some p ∧ e = { key := .int .i64 p.1, val := f p.2, born := e.born } := by
  obtain ⟨j, hj⟩ := List.mem_iff_getElem?.1 h
  rw [mEnts_get] at hj
  obtain ⟨p, hp, rfl⟩ := Option.map_eq_some_iff.1 hj
  exact ⟨p, by simpa using hp, by simp⟩

theorem mEnts_nodup {α : Type} (f : α → Value) (l : List (Int × α)) : ((mEnts f l 0).map (·.born)).Nodup := by
  have : ∀ (l : List (Int × α)) (n : Nat), (mEnts f l n).map (·.born) = List.range' n l.length := by
    intro l
    induction l with
    | nil => intro n; rfl
    | cons p l ih => intro n; obtain ⟨k, x⟩ := p; simp [mEnts, ih, List.range'_succ]
  rw [this]
  exact List.nodup_range'

section
variable {P : Program}

/-- A step of an iterator over a map. -/
theorem run_next_at (w : World) (ty : TypeId) (bi bm since c0 : Nat) (seen : Array Nat) (es : Array MapEntry) (clock : Nat) (hi : w.heap[bi]? = some (.mapIter (some bm) since seen c0)) (hb : w.heap[bm]? = some (.map es clock))
    (hold : ∀ x ∈ es.toList, x.born < since) (hsc : since ≤ c0) :
    ((leftOf es seen).size = 0 ∧ (Instr.next (.pointer (some ⟨bi, 0, none⟩)) false ty).run P w = .ok (.tuple #[.bool false]) w) ∨
    ∃ e ∈ (leftOf es seen).toList, ∃ w1 : World, (w1 = w ∨ w1 = w.drew) ∧ (Instr.next (.pointer (some ⟨bi, 0, none⟩)) false ty).run P w = .ok (.tuple #[.bool true, e.key, e.val]) { w1 with heap := w1.heap.setIfInBounds bi (.mapIter (some bm) since (seen.push e.born) clock) } := by
  simp only [Instr.next, getObj, Sem.run_bind, Sem.run, hi, hb, Result.andThen, next_test_false seen es since c0 hold hsc, Bool.false_eq_true, if_false]
  unfold leftOf
  have hmem : ∀ x ∈ (Array.filter (fun e => !seen.contains e.born) es).toList, x.born < since := fun x hx => hold x (by simp at hx ⊢; exact hx.1)
  generalize Array.filter (fun e => !seen.contains e.born) es = L at hmem ⊢
  have e1 : L.filter (fun x => decide (x.born < since)) = L := Array.filter_eq_self.2 (fun x hx => by simpa using hmem x (by simpa using hx))
  have e2 : L.filter (fun x => decide (x.born ≥ since)) = #[] := by
    rw [Array.filter_eq_empty_iff]
    intro x hx
    have := hmem x (by simpa using hx)
    simp
    omega
  simp only [e1, e2, Array.append_empty]
  by_cases h0 : L.size = 0
  · left
    have : L = #[] := Array.eq_empty_of_size_eq_zero h0
    subst this
    refine ⟨rfl, ?_⟩
    simp [choose, Sem.run, Question.forced]
  · right
    have hne : L.isEmpty = false := by simp [Array.isEmpty, h0]
    simp only [hne, Bool.false_eq_true, if_false, Array.empty_append, Array.size_map]
    have hch : ∃ (j : Nat) (w1 : World), j < L.size ∧ (w1 = w ∨ w1 = w.drew) ∧ (choose (Question.mapNext L.size)).run P w = .ok j w1 := by
      by_cases hf : L.size ≤ 1
      · exact ⟨0, w, by omega, .inl rfl, by simp [choose, Sem.run, Question.forced, hf]⟩
      · exact ⟨_, w.drew, Nat.mod_lt _ (by omega), .inr rfl, by
          simp only [choose, Sem.run, Question.forced, decide_eq_true_eq, hf, if_false, Question.cut]
          rfl⟩
    obtain ⟨j, w1, hj, hal, hrun⟩ := hch
    refine ⟨L[j], by simp, w1, hal, ?_⟩
    have hi1 : w1.heap[bi]? = some (.mapIter (some bm) since seen c0) := by rcases hal with rfl | rfl <;> exact hi
    have hset : ∀ (o' : Obj), (setObj bi o').run P w1 = .ok () { w1 with heap := w1.heap.setIfInBounds bi o' } := fun o' => by
      simp only [setObj, Sem.run, hi1]
    simp only [hrun, Array.getElem?_map, Array.getElem?_eq_getElem hj, Option.map_some, Sem.run_bind, hset, Result.andThen]
    rfl

theorem run_entry_at (w : World) (bi bm since : Nat) (seen : Array Nat) (es : Array MapEntry) (clock : Nat) (e : MapEntry) (hi : w.heap[bi]? = some (.mapIter (some bm) since (seen.push e.born) clock)) (hb : w.heap[bm]? = some (.map es clock))
    (he : e ∈ es.toList) (hn : (es.toList.map (·.born)).Nodup) : (Instr.entry (.pointer (some ⟨bi, 0, none⟩))).run P w = .ok (.tuple #[e.key, e.val]) w := by
  have hf : es.find? (·.born == e.born) = some e := by rw [← Array.find?_toList]; exact find_born e es.toList hn he
  simp only [Instr.entry, getObj, Sem.run_bind, Sem.run, hi, hb, Result.andThen, Array.back?_push, bne_self_eq_false, Bool.false_eq_true, if_false, hf]
  rfl
end

section
variable {E : Env} {n : Nat} {C : Ctx} {σ : St} {s : Slots} {ob : List Ob} {dst : Option Tmp} {ty : TypeId} {pos : String} {aft : Array Edge} {g : Option (Nat × Bool)} {R : St → Prop}

/-- The iterator of a loop over a map. -/
theorem AX.range {α : Type} (q : Nat) {f : α → Value} {t : TypeId} {x : Operand} {b : Nat} {l : List (Int × α)} {ti : TI} {kt et : Nat}
    (ht : E.tab t = some ti) (hk : ti.kind = .map kt et) (hx : evalT σ.slots x = some (.v (.map (some b)))) (ho : σ.objs[q]? = some (.raw b (mapOb f l))) (hd : ∀ d, dst = some d → d < n)
    (k : ∀ bi, R ⟨putS σ.slots dst (.v (.pointer (some ⟨bi, 0, none⟩))), σ.objs ++ [.raw bi (.mapIter (some b) l.length #[] l.length)]⟩) :
    AX E n C [] ⟨dst, .range t x, ty, pos, aft, g⟩ σ R := by
  refine AX.value fun H a w gm => ?_
  have hh : w.heap[b]? = some (mapOb f l) := gm.objs _ (List.mem_of_getElem? ho)
  have hor : OR H (w.alloc (.mapIter (some b) l.length #[] l.length)) (.raw w.heap.size (.mapIter (some b) l.length #[] l.length)) := heap_alloc_new w _
  refine ⟨.pointer (some ⟨w.heap.size, 0, none⟩), w.alloc (.mapIter (some b) l.length #[] l.length), _, H, ?_, k w.heap.size, ?_, fun _ _ h => h, ?_⟩
  · simp only [execOp, gm.sr.evalv hx, Sem.run_bind, run_range_map w t kt et b _ _ (und_map (E.ok _ _ ht) hk) hh, Result.andThen_ok, Sem.run_pure]
  · have := (gm.alloc hor rfl).put (dst := dst) (.v (.pointer (some ⟨w.heap.size, 0, none⟩))) hd
    cases dst <;> exact this
  · intro i p hp _
    exact ⟨append_keeps hp, fun c hc => heap_alloc_old w _ ((gm.objs p (List.mem_of_getElem? hp)).lt c hc)⟩

/-- Its step: nothing is left, or some entry that has not come up. -/
theorem AX.next {α : Type} (q p : Nat) {f : α → Value} {x : Operand} {b bi : Nat} {l : List (Int × α)} {seen : Array Nat}
    (hx : evalT σ.slots x = some (.v (.pointer (some ⟨bi, 0, none⟩)))) (ho : σ.objs[q]? = some (.raw b (mapOb f l))) (hp : σ.objs[p]? = some (.raw bi (.mapIter (some b) l.length seen l.length)))
    (hd : ∀ d, dst = some d → d < n)
    (k1 : (∀ j, j < l.length → seen.contains j = true) → R ⟨putS σ.slots dst (.tup [.v (.bool false)]), σ.objs⟩)
    (k2 : ∀ j (kx : Int × α), l[j]? = some kx → seen.contains j = false →
      R ⟨putS σ.slots dst (.tup [.v (.bool true), .v (.int .i64 kx.1), .v (f kx.2)]), σ.objs.set p (.raw bi (.mapIter (some b) l.length (seen.push j) l.length))⟩) :
    AX E n C [p] ⟨dst, .next x false, ty, pos, aft, g⟩ σ R := by
  refine AX.value fun H a w gm => ?_
  have hh : w.heap[b]? = some (mapOb f l) := gm.objs _ (List.mem_of_getElem? ho)
  have hi : w.heap[bi]? = some (.mapIter (some b) l.length seen l.length) := gm.objs _ (List.mem_of_getElem? hp)
  have hold : ∀ x ∈ (mEnts f l 0).toArray.toList, x.born < l.length := fun e he => by
    obtain ⟨y, hy, _⟩ := mEnts_mem (by simpa using he)
    exact (List.getElem?_eq_some_iff.1 hy).1
  rcases run_next_at (P := E.P) w ty bi b l.length l.length seen (mEnts f l 0).toArray l.length hi hh hold (Nat.le_refl _) with ⟨h0, hr⟩ | ⟨e, he, w1, hw1, hr⟩
  · refine ⟨.tuple #[.bool false], w, _, H, ?_, k1 fun j hj => ?_, ?_, fun _ _ h => h, fun i o ho _ => ⟨ho, fun _ _ => rfl⟩⟩
    rotate_left
    rotate_left
    · have := gm.put (dst := dst) (v := .tuple #[.bool false]) (x := .tup [.v (.bool false)]) (.tup _ _ (by simp) fun j x hx => by
        match j, hx with
        | 0, hx => simp at hx; subst hx; exact .v _) hd
      cases dst <;> exact this
    · simp only [execOp, gm.sr.evalv hx, Sem.run_bind, hr, Result.andThen_ok, Sem.run_pure]
    · cases hc : seen.contains j with
      | true => rfl
      | false =>
        exfalso
        obtain ⟨y, hy⟩ : ∃ y, l[j]? = some y := ⟨_, List.getElem?_eq_getElem hj⟩
        have hm : (mEnts f l 0)[j]? = some { key := .int .i64 y.1, val := f y.2, born := j } := by rw [mEnts_get, hy]; simp
        have : ({ key := .int .i64 y.1, val := f y.2, born := j } : MapEntry) ∈ (leftOf (mEnts f l 0).toArray seen).toList := by
          simp only [leftOf, Array.toList_filter, List.mem_filter, Bool.not_eq_true']
          exact ⟨List.mem_of_getElem? hm, hc⟩
        have h1 := List.length_pos_of_mem this
        simp only [Array.length_toList] at h1
        omega
  · have hm : e ∈ mEnts f l 0 ∧ seen.contains e.born = false := by
      simpa only [leftOf, Array.toList_filter, List.mem_filter, Bool.not_eq_true'] using he
    obtain ⟨y, hy, hey⟩ := mEnts_mem hm.1
    have hk2 := k2 e.born y hy hm.2
    have hbl : bi < w.heap.size := (Array.getElem?_eq_some_iff.1 hi).1
    have gm1 : Gam n C σ H a w1 := by
      rcases hw1 with rfl | rfl
      · exact gm
      · exact gm.drew
    have hsz : w1.heap = w.heap := by rcases hw1 with rfl | rfl <;> rfl
    have hor : OR H { w1 with heap := w1.heap.setIfInBounds bi (.mapIter (some b) l.length (seen.push e.born) l.length) } (.raw bi (.mapIter (some b) l.length (seen.push e.born) l.length)) := by
      show (w1.heap.setIfInBounds bi _)[bi]? = _
      rw [hsz, Array.getElem?_setIfInBounds_self_of_lt hbl]
    refine ⟨.tuple #[.bool true, .int .i64 y.1, f y.2], { w1 with heap := w1.heap.setIfInBounds bi (.mapIter (some b) l.length (seen.push e.born) l.length) }, _, H, ?_, hk2, ?_, fun _ _ h => h, ?_⟩
    rotate_left
    · have := (gm1.set (k := p) (o := .raw bi (.mapIter (some b) l.length seen l.length)) (w' := { w1 with heap := w1.heap.setIfInBounds bi (.mapIter (some b) l.length (seen.push e.born) l.length) }) hp ⟨rfl, rfl, rfl⟩ (by simp)
        (fun i _ hni => Array.getElem?_setIfInBounds_ne (fun h => hni (by simp [Ob.fp, h]))) hor (fun c hc => .inr hc) (by simp [Ob.fp])).put (dst := dst) (v := .tuple #[.bool true, .int .i64 y.1, f y.2]) (x := .tup [.v (.bool true), .v (.int .i64 y.1), .v (f y.2)])
        (.tup _ _ (by simp) fun j x hx => by
          match j, hx with
          | 0, hx => simp at hx; subst hx; exact .v _
          | 1, hx => simp at hx; subst hx; exact .v _
          | 2, hx => simp at hx; subst hx; exact .v _) hd
      cases dst <;> exact this
    · intro i o hio hmd
      have hip : i ≠ p := fun h => by subst h; simp at hmd
      refine ⟨by dsimp only; rw [List.getElem?_set_ne (Ne.symm hip)]; exact hio, fun c hc => ?_⟩
      have hne : bi ≠ c := fun h => by
        subst h
        exact gm.apart hp hio (Ne.symm hip) _ hc (by simp [Ob.fp])
      show (w1.heap.setIfInBounds bi _)[c]? = _
      rw [hsz, Array.getElem?_setIfInBounds_ne hne]
    · have : (Value.tuple #[.bool true, e.key, e.val]) = .tuple #[.bool true, .int .i64 y.1, f y.2] := by rw [hey]
      rw [← this]
      simp only [execOp, gm.sr.evalv hx, Sem.run_bind, hr, Result.andThen_ok, Sem.run_pure]

/-- What it handed out. -/
theorem Yd.entry {α : Type} (q p : Nat) {f : α → Value} {x : Operand} {b bi : Nat} {l : List (Int × α)} {seen : Array Nat} {j : Nat} {kx : Int × α}
    (hx : evalT s x = some (.v (.pointer (some ⟨bi, 0, none⟩)))) (ho : ob[q]? = some (.raw b (mapOb f l))) (hp : ob[p]? = some (.raw bi (.mapIter (some b) l.length (seen.push j) l.length))) (hj : l[j]? = some kx) :
    Yd E.P n s ob ⟨dst, .entry x, ty, pos, aft, g⟩ (.tup [.v (.int .i64 kx.1), .v (f kx.2)]) := by
  intro H a w sr wr
  have hh : w.heap[b]? = some (mapOb f l) := wr.objs _ (List.mem_of_getElem? ho)
  have hi : w.heap[bi]? = some (.mapIter (some b) l.length (seen.push j) l.length) := wr.objs _ (List.mem_of_getElem? hp)
  refine ⟨.tuple #[.int .i64 kx.1, f kx.2], .tup _ _ (by simp) fun i x hx => by
      match i, hx with
      | 0, hx => simp at hx; subst hx; exact .v _
      | 1, hx => simp at hx; subst hx; exact .v _, fun w' ag => ?_⟩
  have hh' : w'.heap[b]? = some (mapOb f l) := (ag.2 _ (List.mem_of_getElem? ho) b (by simp [Ob.fp])).trans hh
  have hi' : w'.heap[bi]? = some (.mapIter (some b) l.length (seen.push j) l.length) := (ag.2 _ (List.mem_of_getElem? hp) bi (by simp [Ob.fp])).trans hi
  have hm : ({ key := .int .i64 kx.1, val := f kx.2, born := j } : MapEntry) ∈ mEnts f l 0 := List.mem_of_getElem? (i := j) (by rw [mEnts_get, hj]; simp)
  have := run_entry_at (P := E.P) w' bi b l.length seen (mEnts f l 0).toArray l.length { key := .int .i64 kx.1, val := f kx.2, born := j } hi' hh' (by simpa using hm) (by simpa using mEnts_nodup f l)
  simp only [execOp, sr.evalv hx, Sem.run_bind, this, Result.andThen_ok, Sem.run_pure]
end

/-! ### A loop that sets each entry anew, in whatever order -/

def mix {β : Type} (g : β → β) (seen : Array Nat) (l : List (Int × β)) : List (Int × β) := l.mapIdx fun j kx => if seen.contains j then (kx.1, g kx.2) else kx

theorem mix_get {β : Type} (g : β → β) (seen : Array Nat) (l : List (Int × β)) (j : Nat) : (mix g seen l)[j]? = (l[j]?).map fun kx => if seen.contains j then (kx.1, g kx.2) else kx := by
  simp [mix, List.getElem?_mapIdx]
theorem mix_len {β : Type} (g : β → β) (seen : Array Nat) (l : List (Int × β)) : (mix g seen l).length = l.length := by simp [mix]
theorem mix_nil {β : Type} (g : β → β) (l : List (Int × β)) : mix g #[] l = l := by
  refine List.ext_getElem? fun j => ?_
  rw [mix_get]; simp
theorem mix_all {β : Type} {g : β → β} {seen : Array Nat} {l : List (Int × β)} (h : ∀ j, j < l.length → seen.contains j = true) : mix g seen l = l.map fun kx => (kx.1, g kx.2) := by
  refine List.ext_getElem? fun j => ?_
  rw [mix_get, List.getElem?_map]
  cases hj : l[j]? with
  | none => rfl
  | some kx => simp only [Option.map_some, h j (List.getElem?_eq_some_iff.1 hj).1, if_true]
theorem push_has {seen : Array Nat} {i j : Nat} : (seen.push i).contains j = (seen.contains j || i == j) := by
  rw [Bool.eq_iff_iff]
  simp only [Array.contains_eq_mem, Bool.or_eq_true, decide_eq_true_eq, Array.mem_push, beq_iff_eq]
  constructor <;> (rintro (h | h)) <;> first | exact .inl h | exact .inr h.symm
theorem mix_same {β : Type} {g : β → β} {seen : Array Nat} {l : List (Int × β)} {j : Nat} {kx : Int × β} (hj : l[j]? = some kx) (h : g kx.2 = kx.2) : mix g (seen.push j) l = mix g seen l := by
  refine List.ext_getElem? fun i => ?_
  rw [mix_get, mix_get, push_has]
  by_cases hij : j = i
  · subst hij; rw [hj]; cases hs : seen.contains j <;> simp [hs, h]
  · have : (j == i) = false := by simpa using hij
    rw [this, Bool.or_false]
theorem mset_at {β : Type} : ∀ {l : List (Int × β)} {j : Nat} {k : Int} {x : β} (y : β), (l.map Prod.fst).Nodup → l[j]? = some (k, x) → mset l k y = l.set j (k, y)
  | [], j, k, x, y, _, h => by simp at h
  | (k0, x0) :: l, 0, k, x, y, hn, h => by simp at h; obtain ⟨rfl, rfl⟩ := h; simp [mset]
  | (k0, x0) :: l, j + 1, k, x, y, hn, h => by
    simp only [List.map_cons, List.nodup_cons] at hn
    have hm : l[j]? = some (k, x) := by simpa using h
    have hne : k0 ≠ k := fun he => hn.1 (by subst he; exact List.mem_map.2 ⟨_, List.mem_of_getElem? hm, rfl⟩)
    simp [mset, hne, mset_at y hn.2 hm]
theorem mget_at {β : Type} : ∀ {l : List (Int × β)} {j : Nat} {k : Int} {x : β}, l[j]? = some (k, x) → (mget l k).isSome = true
  | [], j, k, x, h => by simp at h
  | (k0, x0) :: l, j, k, x, h => by
    simp only [mget]
    split
    · rfl
    · rename_i hne
      cases j with
      | zero => simp at h; exact absurd h.1 hne
      | succ j => exact mget_at (l := l) (j := j) (by simpa using h)
theorem mix_fst {β : Type} (g : β → β) (seen : Array Nat) (l : List (Int × β)) : (mix g seen l).map Prod.fst = l.map Prod.fst := by
  refine List.ext_getElem? fun j => ?_
  rw [List.getElem?_map, List.getElem?_map, mix_get]
  cases l[j]? with
  | none => rfl
  | some kx => simp only [Option.map_some]; split <;> rfl
theorem mix_put {β : Type} {g : β → β} {seen : Array Nat} {l : List (Int × β)} {j : Nat} {kx : Int × β} (hn : (l.map Prod.fst).Nodup) (hj : l[j]? = some kx) (hs : seen.contains j = false) :
    mput (mix g seen l) kx.1 (g kx.2) = mix g (seen.push j) l := by
  have hm : (mix g seen l)[j]? = some (kx.1, kx.2) := by rw [mix_get, hj]; simp only [Option.map_some, hs, Bool.false_eq_true, if_false]
  unfold mput
  rw [if_pos (mget_at hm), mset_at _ (by rw [mix_fst]; exact hn) hm]
  refine List.ext_getElem? fun i => ?_
  rw [mix_get, push_has]
  by_cases hij : j = i
  · subst hij
    have hl : j < (mix g seen l).length := (List.getElem?_eq_some_iff.1 hm).1
    rw [List.getElem?_set_self hl, hj]; simp
  · rw [List.getElem?_set_ne hij, mix_get]
    have : (j == i) = false := by simpa using hij
    rw [this, Bool.or_false]
def unseen (seen : Array Nat) (n : Nat) : Nat := ((List.range n).filter fun j => !seen.contains j).length
theorem unseen_push {seen : Array Nat} {n j : Nat} (hj : j < n) (hs : seen.contains j = false) : unseen (seen.push j) n < unseen seen n :=
  filter_lt (fun j => !seen.contains j) (fun i => !(seen.push j).contains i) (fun x hx => by rw [push_has] at hx; simp only [Bool.not_eq_true', Bool.or_eq_false_iff] at hx ⊢; exact hx.1) j (by rw [hs]; rfl) (by rw [push_has]; simp) _ (by simpa using hj)

end Go.Aw
