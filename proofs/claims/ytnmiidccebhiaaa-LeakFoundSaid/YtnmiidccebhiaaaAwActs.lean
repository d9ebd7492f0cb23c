/- Operations that make or write memory, calls, and the frame of a function's proof, at abstract values. No condition. -/
import Derived.Test.YtnmiidccebhiaaaAwOps
namespace Go.Aw

def cellsT : T → Option (List T)
  | .agg cs => some cs
  | .v x => bif x.oneCell' then some [.v x] else none
  | .list sz es => some [.list sz es]
  | .eptr l => some [.eptr l]
  | .tup _ => none

/-- An array of cells as a list of abstract cells. -/
def AR (H : GH) (arr : Array Value) (l : List T) : Prop := arr.size = l.length ∧ ∀ (j : Nat) (x : T), l[j]? = some x → CR H (arr.getD j undef) x

theorem cells_one {v : Value} (h : v.oneCell' = true) : v.cells = #[v] := by cases v <;> simp_all [Value.cells, Value.oneCell']

theorem AR.one {H : GH} {v : Value} {x : T} (h1 : v.oneCell' = true) (h : VR H v x) : AR H #[v] [x] := by
  refine ⟨rfl, fun j y hy => ?_⟩
  cases j with
  | zero => simp at hy; subst hy; exact ⟨h1, h⟩
  | succ j => simp at hy

theorem cellsT_spec {H : GH} {v : Value} {y : T} {cs : List T} (h : VR H v y) (hc : cellsT y = some cs) : AR H v.cells cs := by
  cases y with
  | v x =>
    have := h.v_eq
    subst this
    simp only [cellsT] at hc
    cases ho : v.oneCell' with
    | false => simp [ho] at hc
    | true =>
      simp only [ho, cond_true, Option.some.injEq] at hc
      subst hc
      rw [cells_one ho]
      exact .one ho h
  | list sz es =>
    simp only [cellsT, Option.some.injEq] at hc
    subst hc
    obtain ⟨a, cap, rfl⟩ := h.list_slice
    exact .one rfl h
  | agg l =>
    simp only [cellsT, Option.some.injEq] at hc
    subst hc
    cases h with
    | agg vs cs hl h1 hv => exact ⟨hl, fun j x hx => ⟨h1 j x hx, hv j x hx⟩⟩
  | tup l => simp [cellsT] at hc
  | eptr l =>
    simp only [cellsT, Option.some.injEq] at hc
    subst hc
    obtain ⟨b, o, rfl⟩ := h.eptr_ptr
    exact .one rfl h

theorem AR.all1 {H : GH} {arr : Array Value} {l : List T} (h : AR H arr l) : ∀ v, v ∈ arr.toList → v.oneCell' = true := by
  intro v hv
  obtain ⟨j, hj, he⟩ := List.getElem_of_mem hv
  have hjs : j < arr.size := by simpa using hj
  have hjl : j < l.length := by rw [← h.1]; exact hjs
  have := (h.2 j l[j] (List.getElem?_eq_getElem hjl)).1
  have hg : arr.getD j undef = v := by
    rw [Array.getD_eq_getD_getElem?, Array.getElem?_eq_getElem hjs]
    simpa using he
  rwa [hg] at this

/-- l with the cells cs laid over it from j on. -/
def setC : List T → Nat → List T → List T
  | [], _, _ => []
  | e, 0, [] => e
  | _ :: e, 0, c :: cs => c :: setC e 0 cs
  | x :: e, j + 1, cs => x :: setC e j cs

theorem setC_length : ∀ (l : List T) (j : Nat) (cs : List T), (setC l j cs).length = l.length
  | [], _, _ => rfl
  | _ :: _, 0, [] => rfl
  | _ :: e, 0, _ :: cs => by simp [setC, setC_length e 0 cs]
  | _ :: e, j + 1, cs => by simp [setC, setC_length e j cs]

theorem setC_get : ∀ (l : List T) (j : Nat) (cs : List T) (i : Nat) (x : T), (setC l j cs)[i]? = some x →
    (j ≤ i ∧ i < j + cs.length ∧ cs[i - j]? = some x) ∨ ((i < j ∨ j + cs.length ≤ i) ∧ l[i]? = some x)
  | [], _, _, i, x, h => by simp [setC] at h
  | y :: e, 0, [], i, x, h => .inr ⟨by simp, h⟩
  | y :: e, 0, c :: cs, i, x, h => by
    simp only [setC] at h
    cases i with
    | zero => left; simp at h; exact ⟨by omega, by simp, by simp [h]⟩
    | succ i =>
      simp only [List.getElem?_cons_succ] at h
      rcases setC_get e 0 cs i x h with ⟨h1, h2, h3⟩ | ⟨h1, h2⟩
      · left; exact ⟨by omega, by simp; omega, by simpa using h3⟩
      · right; refine ⟨by simp; omega, by simpa using h2⟩
  | y :: e, j + 1, cs, i, x, h => by
    simp only [setC] at h
    cases i with
    | zero => right; simp at h; exact ⟨by omega, by simp [h]⟩
    | succ i =>
      simp only [List.getElem?_cons_succ] at h
      rcases setC_get e j cs i x h with ⟨h1, h2, h3⟩ | ⟨h1, h2⟩
      · left; exact ⟨by omega, by omega, by rw [show i + 1 - (j + 1) = i - j by omega]; exact h3⟩
      · right; exact ⟨by omega, by simpa using h2⟩

section
variable {E : Env} {n : Nat} {C : Ctx} {σ : St} {dst : Option Tmp} {ty : TypeId} {pos : String} {aft : Array Edge} {g : Option (Nat × Bool)}

theorem OR.lt {H : GH} {w : World} {b : Nat} {o : Ob} (h : OR H w b o) : b < w.heap.size := by
  cases o with
  | arr ty sz cap es => obtain ⟨cs, a1, _⟩ := h; exact (Array.getElem?_eq_some_iff.1 a1).1
  | raw o => exact (Array.getElem?_eq_some_iff.1 h).1

theorem Gam.H_lt {H : GH} {a : Act} {w : World} (gm : Gam n C σ H a w) {b : Nat} (hb : w.heap.size ≤ b) : H b = none := by
  cases h : H b with
  | none => rfl
  | some o => have := (Array.getElem?_eq_some_iff.1 (gm.held b o h)).1; omega

/-- A change of the world outside of what nobody writes, and a new list of objects. -/
theorem Gam.world {H : GH} {a : Act} {w w' : World} (gm : Gam n C σ H a w) {objs : List (Nat × Ob)} (row : Nat → Prop) (henv : w'.os = w.os ∧ w'.tape = w.tape ∧ w'.output = w.output) (hsz : w.heap.size ≤ w'.heap.size)
    (hk : ∀ k, k < w.heap.size → ¬ row k → w'.heap[k]? = w.heap[k]?) (hrow : ∀ k, row k → k < w.heap.size → ∃ o, (k, o) ∈ σ.objs)
    (ho : ∀ p, p ∈ objs → (p ∈ σ.objs ∧ ¬ row p.1) ∨ (OR H w' p.1 p.2 ∧ (w.heap.size ≤ p.1 ∨ ∃ o, (p.1, o) ∈ σ.objs)))
    (hn : (objs.map Prod.fst).Nodup) : Gam n C ⟨σ.slots, objs⟩ H a w' := by
  have hown : ∀ k o, (k, o) ∈ σ.objs → H k = none ∧ (C.w0.heap.size ≤ k ∨ k ∈ C.fp) := fun k o h => ⟨gm.free _ h, gm.new _ h⟩
  refine ⟨gm.defers, gm.size, gm.slots, ?_, ?_, ?_, hn, ?_, gm.grow, Nat.le_trans gm.heap hsz, ?_, ⟨henv.1.trans gm.env.1, henv.2.1.trans gm.env.2.1, henv.2.2.trans gm.env.2.2⟩⟩
  · intro p hp
    rcases ho p hp with ⟨h1, h2⟩ | ⟨h1, _⟩
    · have := gm.objs p h1
      exact this.mono (fun _ _ h => h) (hk _ this.lt h2)
    · exact h1
  · intro p hp
    rcases ho p hp with ⟨h1, _⟩ | ⟨_, h2 | ⟨o, h2⟩⟩
    · exact gm.free p h1
    · exact gm.H_lt h2
    · exact (hown _ _ h2).1
  · intro p hp
    rcases ho p hp with ⟨h1, _⟩ | ⟨_, h2 | ⟨o, h2⟩⟩
    · exact gm.new p h1
    · exact .inl (Nat.le_trans gm.heap h2)
    · exact (hown _ _ h2).2
  · intro b o hb
    have hbl := (Array.getElem?_eq_some_iff.1 (gm.held b o hb)).1
    have : ¬ row b := fun hr => by
      obtain ⟨o', h⟩ := hrow b hr hbl
      rw [(hown _ _ h).1] at hb; cases hb
    rw [hk b hbl this]; exact gm.held b o hb
  · intro b hb hf
    have hbl := Nat.lt_of_lt_of_le hb gm.heap
    have : ¬ row b := fun hr => by
      obtain ⟨o', h⟩ := hrow b hr hbl
      rcases (hown _ _ h).2 with h2 | h2
      · omega
      · exact hf h2
    rw [hk b hbl this]; exact gm.frame b hb hf

theorem Gam.alloc {H : GH} {a : Act} {w : World} (gm : Gam n C σ H a w) {o : Obj} {ob : Ob} (h : OR H (w.alloc o) w.heap.size ob) : Gam n C ⟨σ.slots, σ.objs ++ [(w.heap.size, ob)]⟩ H a (w.alloc o) := by
  refine gm.world (fun _ => False) ⟨rfl, rfl, rfl⟩ (by show w.heap.size ≤ (w.heap.push o).size; simp) (fun k hk _ => heap_alloc_old w o hk) (fun _ h => h.elim) ?_ ?_
  · intro p hp
    rcases List.mem_append.1 hp with h1 | h1
    · exact .inl ⟨h1, fun h => h⟩
    · simp only [List.mem_singleton] at h1; subst h1; exact .inr ⟨h, .inl (Nat.le_refl _)⟩
  · rw [List.map_append, List.nodup_append]
    refine ⟨gm.nodup, by simp, ?_⟩
    intro x hx y hy
    simp only [List.map_cons, List.map_nil, List.mem_singleton] at hy
    obtain ⟨p, hp, rfl⟩ := List.mem_map.1 hx
    have := (gm.objs p hp).lt
    omega

theorem OR.box {H : GH} {w : World} {t : TypeId} {arr : Array Value} {l : List T} {b : Nat} (h : w.heap[b]? = some (.cells arr t (0, 0))) (ha : AR H arr l) : OR H w b (.arr t l.length 1 [l]) := by
  refine ⟨arr, h, by rw [ha.1]; omega, by simp, by simp [maxL], ?_, ?_⟩
  · intro i e he
    cases i with
    | zero => simp at he; subst he; rfl
    | succ i => simp at he
  · intro i e he j x hx
    cases i with
    | zero => simp at he; subst he; simpa using ha.2 j x hx
    | succ i => simp at he

theorem AX.value {md : List Nat} {o : Oper} {R : St → Prop}
    (h : ∀ H a w, Gam n C σ H a w → ∃ v w' s' H', (execOp a.eval o).run E.P w = .ok (.value v) w' ∧ R s' ∧ Gam n C s' H' (a.put o.dst v) w' ∧ (∀ b o, H b = some o → H' b = some o) ∧
      ∀ i p, σ.objs[i]? = some p → md.contains i = false → s'.objs[i]? = some p ∧ w'.heap[p.1]? = w.heap[p.1]?) : AX E n C md o σ R := by
  intro H a w gm
  obtain ⟨v, w', s', H', h1, h2, h3, h4, h5⟩ := h H a w gm
  simp only [Oper.wp, h1, Oper.upon]
  exact ⟨s', H', v, h2, h3, rfl, h4, h5⟩

theorem AX.skip {md : List Nat} {o : Oper} {R : St → Prop}
    (h : ∀ H a w, Gam n C σ H a w → ∃ w' s' H', (execOp a.eval o).run E.P w = .ok .skip w' ∧ R s' ∧ Gam n C s' H' (a.put o.dst undef) w' ∧ (∀ b o, H b = some o → H' b = some o) ∧
      ∀ i p, σ.objs[i]? = some p → md.contains i = false → s'.objs[i]? = some p ∧ w'.heap[p.1]? = w.heap[p.1]?) : AX E n C md o σ R := by
  intro H a w gm
  obtain ⟨w', s', H', h1, h2, h3, h4, h5⟩ := h H a w gm
  simp only [Oper.wp, h1, Oper.upon]
  exact ⟨s', H', undef, h2, h3, rfl, h4, h5⟩

theorem append_keeps {objs : List (Nat × Ob)} {x : Nat × Ob} {i : Nat} {p : Nat × Ob} (h : objs[i]? = some p) : (objs ++ [x])[i]? = some p := by
  rw [List.getElem?_append_left (List.getElem?_eq_some_iff.1 h).1]; exact h

theorem AX.alloc {t : TypeId} {ti : TI} {z : Value} {cs : List T} {R : St → Prop} (ht : E.tab t = some ti) (hz : ti.zero = some z) (hc : z.cells.toList.map T.v = cs) (h1 : z.cells.toList.all (·.oneCell') = true) {m : Nat} (hm : cs.length = m)
    (hd : ∀ d, dst = some d → d < n) (k : ∀ b, R ⟨putS σ.slots dst (.v (.pointer (some ⟨b, 0, none⟩))), σ.objs ++ [(b, .arr t m 1 [cs])]⟩) :
    AX E n C [] ⟨dst, .alloc t, ty, pos, aft, g⟩ σ R := by
  refine AX.value fun H a w gm => ?_
  have har : AR H z.cells cs := by
    subst hc
    refine ⟨by simp, fun j x hx => ?_⟩
    simp only [List.getElem?_map, Option.map_eq_some_iff] at hx
    obtain ⟨v, hv, rfl⟩ := hx
    have hv' : z.cells.getD j undef = v := by
      rw [Array.getD_eq_getD_getElem?, ← Array.getElem?_toList, hv]; rfl
    rw [hv']
    exact ⟨List.all_eq_true.1 h1 v (List.mem_of_getElem? hv), .v v⟩
  have hor : OR H (w.alloc (.cells z.cells t)) w.heap.size (.arr t cs.length 1 [cs]) := OR.box (heap_alloc_new w _) har
  rw [hm] at hor
  refine ⟨.pointer (some ⟨w.heap.size, 0, none⟩), w.alloc (.cells z.cells t), _, H, ?_, k w.heap.size, ?_, fun _ _ h => h, ?_⟩
  · simp [execOp, Instr.alloc, run_zeroValue_ti (E.ok _ _ ht) w hz, newVar, newRow]
  · have := (gm.alloc hor).put (dst := dst) (.v (.pointer (some ⟨w.heap.size, 0, none⟩))) hd
    cases dst <;> exact this
  · intro i p hp _
    exact ⟨append_keeps hp, heap_alloc_old w _ (gm.objs p (List.mem_of_getElem? hp)).lt⟩

theorem AX.box {t : TypeId} {x : Operand} {y : T} {cs : List T} {R : St → Prop} (hx : evalT σ.slots x = some y) (hc : cellsT y = some cs) {m : Nat} (hm : cs.length = m)
    (hd : ∀ d, dst = some d → d < n) (k : ∀ b, R ⟨putS σ.slots dst (.v (.pointer (some ⟨b, 0, none⟩))), σ.objs ++ [(b, .arr t m 1 [cs])]⟩) :
    AX E n C [] ⟨dst, .box t x, ty, pos, aft, g⟩ σ R := by
  refine AX.value fun H a w gm => ?_
  have har := cellsT_spec (gm.sr.eval hx) hc
  have hor : OR H (w.alloc (.cells (a.eval x).cells t)) w.heap.size (.arr t cs.length 1 [cs]) := OR.box (heap_alloc_new w _) har
  rw [hm] at hor
  refine ⟨.pointer (some ⟨w.heap.size, 0, none⟩), w.alloc (.cells (a.eval x).cells t), _, H, ?_, k w.heap.size, ?_, fun _ _ h => h, ?_⟩
  · simp [execOp, Instr.box, newVar, newRow]
  · have := (gm.alloc hor).put (dst := dst) (.v (.pointer (some ⟨w.heap.size, 0, none⟩))) hd
    cases dst <;> exact this
  · intro i p hp _
    exact ⟨append_keeps hp, heap_alloc_old w _ (gm.objs p (List.mem_of_getElem? hp)).lt⟩

theorem set_keeps {objs : List (Nat × Ob)} {k i : Nat} {x p : Nat × Ob} (h : objs[i]? = some p) (hi : k ≠ i) : (objs.set k x)[i]? = some p := by
  rw [List.getElem?_set_ne hi]; exact h

theorem nodup_set {objs : List (Nat × Ob)} {k b : Nat} {o o' : Ob} (h : objs[k]? = some (b, o)) (hn : (objs.map Prod.fst).Nodup) : ((objs.set k (b, o')).map Prod.fst).Nodup := by
  have : (objs.set k (b, o')).map Prod.fst = objs.map Prod.fst := by
    rw [List.map_set]
    apply List.ext_getElem?
    intro i
    rw [List.getElem?_set]
    split
    · rename_i hki
      subst hki
      simp [h]
      exact (List.getElem?_eq_some_iff.1 h).1
    · rfl
  rw [this]; exact hn

theorem nodup_ne {objs : List (Nat × Ob)} {k i : Nat} {p q : Nat × Ob} (hn : (objs.map Prod.fst).Nodup) (hk : objs[k]? = some p) (hi : objs[i]? = some q) (hne : k ≠ i) : p.1 ≠ q.1 := by
  intro he
  have h1 : (objs.map Prod.fst)[k]? = some p.1 := by simp [hk]
  have h2 : (objs.map Prod.fst)[i]? = some p.1 := by simp [hi, he]
  have hkl := (List.getElem?_eq_some_iff.1 h1).1
  exact hne ((List.getElem?_inj hkl hn).1 (h1.trans h2.symm))

/-- An object at place k gets another content, in a world that differs at its block alone. -/
theorem Gam.set {H : GH} {a : Act} {w w' : World} (gm : Gam n C σ H a w) {k b : Nat} {o o' : Ob} (hk : σ.objs[k]? = some (b, o)) (henv : w'.os = w.os ∧ w'.tape = w.tape ∧ w'.output = w.output) (hsz : w'.heap.size = w.heap.size)
    (hot : ∀ i, i ≠ b → w'.heap[i]? = w.heap[i]?) (hor : OR H w' b o') : Gam n C ⟨σ.slots, σ.objs.set k (b, o')⟩ H a w' := by
  refine gm.world (fun i => i = b) henv (by omega) (fun i _ hi => hot i hi) (fun i hi _ => by subst hi; exact ⟨o, List.mem_of_getElem? hk⟩) ?_ (nodup_set hk gm.nodup)
  intro p hp
  obtain ⟨i, hi, he⟩ := List.getElem_of_mem hp
  have hp' : (σ.objs.set k (b, o'))[i]? = some p := by rw [List.getElem?_eq_getElem hi, he]
  by_cases hki : k = i
  · subst hki
    have hkl := (List.getElem?_eq_some_iff.1 hk).1
    rw [List.getElem?_set_self hkl] at hp'
    cases hp'
    exact .inr ⟨hor, .inr ⟨o, List.mem_of_getElem? hk⟩⟩
  · rw [List.getElem?_set_ne hki] at hp'
    exact .inl ⟨List.mem_of_getElem? hp', fun hb => nodup_ne gm.nodup hk hp' hki hb.symm⟩

theorem setRow_size (w : World) (g : Nat) (cs : Array Value) : (w.setRow g cs).heap.size = w.heap.size := by simp [World.setRow]

theorem getD_seg {cur : Array Value} {vs : List Value} {o i : Nat} (hl : o + vs.length ≤ cur.size) :
    ((cur.toList.take o ++ vs ++ cur.toList.drop (o + vs.length)).toArray).getD i undef = if o ≤ i ∧ i < o + vs.length then vs.getD (i - o) undef else cur.getD i undef := by
  simp only [Array.getD_eq_getD_getElem?, List.getElem?_toArray, List.getElem?_append, List.length_append, List.length_take, Array.length_toList, List.getElem?_drop, List.getElem?_take, Array.getElem?_toList, List.getD]
  by_cases h1 : i < o
  · have : min o cur.size = o := by omega
    simp [this, h1, show i < o + vs.length by omega, show ¬ o ≤ i by omega]
  · have : min o cur.size = o := by omega
    by_cases h2 : i < o + vs.length
    · simp [this, h1, h2, show o ≤ i by omega]
    · simp [this, h1, h2, show o + vs.length + (i - (o + vs.length)) = i by omega]

theorem AX.store (k : Nat) {t : TypeId} {x y : Operand} {ti : TI} {c : T} {cs : List T} {b off tt sz cap : Nat} {es : List (List T)} (i j : Nat) {e : List T} {R : St → Prop}
    (ht : E.tab t = some ti) (hx : evalT σ.slots x = some (.v (.pointer (some ⟨b, off, none⟩)))) (hk : σ.objs[k]? = some (b, .arr tt sz cap es)) (he : es[i]? = some e) (ho : off = i * sz + j)
    (hy : evalT σ.slots y = some c) (hc : cellsT c = some cs) (hsz : ti.size = cs.length) (hj : j + cs.length ≤ e.length) (hd : dst = none)
    (kk : R ⟨σ.slots, σ.objs.set k (b, .arr tt sz cap (es.set i (setC e j cs)))⟩) :
    AX E n C [k] ⟨dst, .store t x y, ty, pos, aft, g⟩ σ R := by
  subst hd
  refine AX.skip fun H a w gm => ?_
  have hor := gm.objs _ (List.mem_of_getElem? hk)
  obtain ⟨cur, a1, a2, a3, a4, a5, a6⟩ := hor
  have har := cellsT_spec (gm.sr.eval hy) hc
  have hil := (List.getElem?_eq_some_iff.1 he).1
  have hel := a5 i e he
  have hmul : (i + 1) * sz ≤ cap * sz := Nat.mul_le_mul_right _ (by omega)
  rw [Nat.succ_mul] at hmul
  have hvl : (a.eval y).cells.toList.length = cs.length := by simpa using har.1
  have hst := run_storeCells_at (P := E.P) b off tt (a.eval y).cells.toList 0 cur w a1 (by rw [hvl]; omega) har.all1
  simp only [Nat.add_zero] at hst
  refine ⟨w.setRow b (cur.toList.take off ++ (a.eval y).cells.toList ++ cur.toList.drop (off + (a.eval y).cells.toList.length)).toArray, _, H, ?_, kk, ?_, fun _ _ h => h, ?_⟩
  · simp [execOp, Instr.storeAt, Instr.sureAddr, gm.sr.evalv hx, storeVar, run_sizeOf_ti (E.ok _ _ ht), hsz, show (a.eval y).cells.size = cs.length from har.1] at hst ⊢
    simp [hst]
  · refine gm.set hk ⟨rfl, rfl, rfl⟩ (setRow_size _ _ _) (fun i hi => setRow_other w b i _ hi) ⟨_, setRow_heap w b cur _ tt _ a1, ?_, by simpa using a3, by simpa using a4, ?_, ?_⟩
    · simp only [List.size_toArray, List.length_append, List.length_take, List.length_drop, Array.length_toList, hvl]
      omega
    · intro i' e' he'
      rw [List.getElem?_set] at he'
      split at he'
      · simp only [hil, if_true, Option.some.injEq] at he'
        subst he'; rw [setC_length]; exact hel
      · exact a5 i' e' he'
    · intro i' e' he' j' x' hx'
      rw [getD_seg (by rw [hvl]; omega)]
      rw [List.getElem?_set] at he'
      split at he'
      · rename_i hii
        subst hii
        simp only [hil, if_true, Option.some.injEq] at he'
        subst he'
        rcases setC_get e j cs j' x' hx' with ⟨q1, q2, q3⟩ | ⟨q1, q2⟩
        · rw [if_pos (by rw [hvl]; omega)]
          have := har.2 _ _ q3
          rw [show i * sz + j' - off = j' - j by omega]
          rw [Array.getD_eq_getD_getElem?, ← Array.getElem?_toList] at this
          simpa [List.getD] using this
        · rw [if_neg (by rw [hvl]; omega)]
          exact a6 i e he j' x' q2
      · rename_i hii
        have hj'l := (List.getElem?_eq_some_iff.1 hx').1
        have hel' := a5 i' e' he'
        rw [if_neg ?_]
        · exact a6 i' e' he' j' x' hx'
        · rw [hvl]
          rintro ⟨q1, q2⟩
          rcases Nat.lt_or_gt_of_ne hii with h | h
          · have : (i + 1) * sz ≤ i' * sz := Nat.mul_le_mul_right _ h
            rw [Nat.succ_mul] at this; omega
          · have : (i' + 1) * sz ≤ i * sz := Nat.mul_le_mul_right _ h
            rw [Nat.succ_mul] at this; omega
  · intro i' p hp hm
    have hne : k ≠ i' := fun h => by subst h; simp at hm
    exact ⟨set_keeps hp hne, setRow_other w b _ _ (fun h => nodup_ne gm.nodup hk hp hne h.symm)⟩

end
end Go.Aw
