/- Operations that make or write memory, calls, and the frame of a function's proof, at abstract values. No condition. -/
import Derived.Test.YtncfbhnecmnfpaaGreatDoorBwOps
namespace Go.Aw
set_option linter.unusedVariables false
set_option linter.unusedSimpArgs false

def cellsT : T → Option (List T)
  | .agg cs => some cs
  | .v x => bif x.oneCell' then some [.v x] else none
  | .list sz es => some [.list sz es]
  | .eptr l => some [.eptr l]
  | .tup _ => none
  | .fn .. => none

/-- An array of cells as a list of abstract cells. -/
def AR (H : GH) (arr : Array Value) (l : List T) : Prop := arr.size = l.length ∧ ∀ (j : Nat) (x : T), l[j]? = some x → CR H (arr.getD j undef) x

theorem cells_one {v : Value} (h : v.oneCell' = true) : v.cells = #[v] := by cases v <;> simp_all [Value.cells, Value.oneCell']

theorem AR.one {H : GH} {v : Value} {x : T} (h1 : v.oneCell' = true) (h : VR H v x) : AR H #[v] [x] := by
  refine ⟨rfl, fun j y hy => ?_⟩
  cases j with
  | zero => simp at hy; subst hy; exact ⟨h1, h⟩
  | succ j => simp at hy

theorem cellsT_spec {H : GH} {v : Value} {y : T} {cs : List T} (h : VR H v y) (hc : cellsT y = some cs) : AR H v.cells cs := by
  cases y with
  | v x =>
    have := h.v_eq
    subst this
    simp only [cellsT] at hc
    cases ho : v.oneCell' with
    | false => simp [ho] at hc
    | true =>
      simp only [ho, cond_true, Option.some.injEq] at hc
      subst hc
      rw [cells_one ho]
      exact .one ho h
  | list sz es =>
    simp only [cellsT, Option.some.injEq] at hc
    subst hc
    obtain ⟨a, cap, rfl⟩ := h.list_slice
    exact .one rfl h
  | agg l =>
    simp only [cellsT, Option.some.injEq] at hc
    subst hc
    cases h with
    | agg vs cs hl h1 hv => exact ⟨hl, fun j x hx => ⟨h1 j x hx, hv j x hx⟩⟩
  | tup l => simp [cellsT] at hc
  | fn f fs cs => simp [cellsT] at hc
  | eptr l =>
    simp only [cellsT, Option.some.injEq] at hc
    subst hc
    obtain ⟨b, o, rfl⟩ := h.eptr_ptr
    exact .one rfl h

theorem AR.all1 {H : GH} {arr : Array Value} {l : List T} (h : AR H arr l) : ∀ v, v ∈ arr.toList → v.oneCell' = true := by
  intro v hv
  obtain ⟨j, hj, he⟩ := List.getElem_of_mem hv
  have hjs : j < arr.size := by simpa using hj
  have hjl : j < l.length := by rw [← h.1]; exact hjs
  have := (h.2 j l[j] (List.getElem?_eq_getElem hjl)).1
  have hg : arr.getD j undef = v := by
    rw [Array.getD_eq_getD_getElem?, Array.getElem?_eq_getElem hjs]
    simpa using he
  rwa [hg] at this

/-- l with the cells cs laid over it from j on. -/
def setC : List T → Nat → List T → List T
  | [], _, _ => []
  | e, 0, [] => e
  | _ :: e, 0, c :: cs => c :: setC e 0 cs
  | x :: e, j + 1, cs => x :: setC e j cs

theorem setC_length : ∀ (l : List T) (j : Nat) (cs : List T), (setC l j cs).length = l.length
  | [], _, _ => rfl
  | _ :: _, 0, [] => rfl
  | _ :: e, 0, _ :: cs => by simp [setC, setC_length e 0 cs]
  | _ :: e, j + 1, cs => by simp [setC, setC_length e j cs]

theorem setC_get : ∀ (l : List T) (j : Nat) (cs : List T) (i : Nat) (x : T), (setC l j cs)[i]? = some x →
    (j ≤ i ∧ i < j + cs.length ∧ cs[i - j]? = some x) ∨ ((i < j ∨ j + cs.length ≤ i) ∧ l[i]? = some x)
  | [], _, _, i, x, h => by simp [setC] at h
  | y :: e, 0, [], i, x, h => .inr ⟨by simp, h⟩
  | y :: e, 0, c :: cs, i, x, h => by
    simp only [setC] at h
    cases i with
    | zero => left; simp at h; exact ⟨by omega, by simp, by simp [h]⟩
    | succ i =>
      simp only [List.getElem?_cons_succ] at h
      rcases setC_get e 0 cs i x h with ⟨h1, h2, h3⟩ | ⟨h1, h2⟩
      · left; exact ⟨by omega, by simp; omega, by simpa using h3⟩
      · right; refine ⟨by simp; omega, by simpa using h2⟩
  | y :: e, j + 1, cs, i, x, h => by
    simp only [setC] at h
    cases i with
    | zero => right; simp at h; exact ⟨by omega, by simp [h]⟩
    | succ i =>
      simp only [List.getElem?_cons_succ] at h
      rcases setC_get e j cs i x h with ⟨h1, h2, h3⟩ | ⟨h1, h2⟩
      · left; exact ⟨by omega, by omega, by rw [show i + 1 - (j + 1) = i - j by omega]; exact h3⟩
      · right; exact ⟨by omega, by simpa using h2⟩

section
variable {E : Env} {n : Nat} {C : Ctx} {σ : St} {dst : Option Tmp} {ty : TypeId} {pos : String} {aft : Array Edge} {g : Option (Nat × Bool)}

theorem UsR.lt {H : GH} {w : World} {v : Value} {ty sz : Nat} {es : List (List T)} (h : UsR H w v ty sz es) : ∀ b, b ∈ bls v → b < w.heap.size := by
  intro b hb
  rcases h with ⟨rfl, _⟩ | ⟨b', c, cap, rfl, _, _, cs, a1, _⟩
  · simp [bls] at hb
  · simp [bls] at hb; subst hb; exact (Array.getElem?_eq_some_iff.1 a1).1

theorem ussIn_ex : ∀ {vs : List Value} {L : List (Option (List (List T)))} {b : Nat}, b ∈ ussIn vs L → ∃ (i : Nat) (v : Value) (es : List (List T)), vs[i]? = some v ∧ L[i]? = some (some es) ∧ b ∈ bls v
  | v :: vs, some es :: L, b, h => by
    simp only [ussIn, List.mem_append] at h
    rcases h with h | h
    · exact ⟨0, v, es, rfl, rfl, h⟩
    · obtain ⟨i, v, es, h1, h2, h3⟩ := ussIn_ex h
      exact ⟨i + 1, v, es, by simpa using h1, by simpa using h2, h3⟩
  | v :: vs, none :: L, b, h => by
    simp only [ussIn] at h
    obtain ⟨i, v, es, h1, h2, h3⟩ := ussIn_ex h
    exact ⟨i + 1, v, es, by simpa using h1, by simpa using h2, h3⟩
  | [], _, b, h => by simp [ussIn] at h
  | _ :: _, [], b, h => by simp [ussIn] at h

theorem OR.lt {H : GH} {w : World} {o : Ob} (h : OR H w o) : ∀ b, b ∈ o.fp → b < w.heap.size := by
  intro b hb
  cases o with
  | arr b' ty sz cap es => simp only [Ob.fp, List.mem_singleton] at hb; subst hb; obtain ⟨cs, a1, _⟩ := h; exact (Array.getElem?_eq_some_iff.1 a1).1
  | us v ty sz es => exact UsR.lt h b hb
  | uss v ty tyi szi vs L =>
    obtain ⟨_, h1, h2⟩ := h
    simp only [Ob.fp, List.mem_append] at hb
    rcases hb with hb | hb
    · exact h1.lt b hb
    · obtain ⟨i, x, es, q1, q2, q3⟩ := ussIn_ex hb
      exact (h2 i x es q1 q2).lt b q3
  | raw b' o => simp only [Ob.fp, List.mem_singleton] at hb; subst hb; exact (Array.getElem?_eq_some_iff.1 h).1

theorem at_split {α : Type} : ∀ {l : List α} {k : Nat} {x : α}, l[k]? = some x → ∃ l1 l2, l = l1 ++ x :: l2 ∧ l1.length = k ∧ (∀ y, l.set k y = l1 ++ y :: l2) ∧ l.eraseIdx k = l1 ++ l2
  | [], k, x, h => by simp at h
  | a :: l, 0, x, h => by simp at h; subst h; exact ⟨[], l, rfl, rfl, fun _ => rfl, rfl⟩
  | a :: l, k + 1, x, h => by
    obtain ⟨l1, l2, h1, h2, h3, h4⟩ := at_split (l := l) (k := k) (by simpa using h)
    exact ⟨a :: l1, l2, by rw [h1]; rfl, by simp [h2], fun y => by simp [h3 y], by simp [h4]⟩

theorem at_ne {α : Type} {f : α → List Nat} {l : List α} (hn : (l.flatMap f).Nodup) {k i : Nat} {p q : α} (hk : l[k]? = some p) (hi : l[i]? = some q) (hne : k ≠ i) : ∀ b, b ∈ f p → b ∉ f q := by
  obtain ⟨l1, l2, rfl, h2, _, _⟩ := at_split hk
  intro b hb hq
  rw [List.flatMap_append, List.flatMap_cons, List.nodup_append, List.nodup_append] at hn
  obtain ⟨_, ⟨_, _, n2⟩, n3⟩ := hn
  rcases Nat.lt_or_ge i k with h | h
  · rw [List.getElem?_append_left (by omega)] at hi
    exact n3 b (List.mem_flatMap.2 ⟨q, List.mem_of_getElem? hi, hq⟩) b (by simp [hb]) rfl
  · rw [List.getElem?_append_right (by omega), show i - l1.length = (i - k - 1) + 1 by omega, List.getElem?_cons_succ] at hi
    exact n2 b hb b (List.mem_flatMap.2 ⟨q, List.mem_of_getElem? hi, hq⟩) rfl

theorem nodup_at {α : Type} {f : α → List Nat} {l : List α} (hn : (l.flatMap f).Nodup) {k : Nat} {p q : α} (hk : l[k]? = some p) (hq : (f q).Nodup) (hd : ∀ b, b ∈ f q → b ∈ f p ∨ ∀ x, x ∈ l → b ∉ f x) : ((l.set k q).flatMap f).Nodup := by
  obtain ⟨l1, l2, rfl, h2, h3, _⟩ := at_split hk
  rw [h3]
  rw [List.flatMap_append, List.flatMap_cons, List.nodup_append, List.nodup_append] at hn ⊢
  obtain ⟨n0, ⟨n1, n1', n2⟩, n3⟩ := hn
  refine ⟨n0, ⟨hq, n1', ?_⟩, ?_⟩
  · intro b hb c hc hbc
    subst hbc
    rcases hd b hb with h | h
    · exact n2 b h b hc rfl
    · obtain ⟨x, hx, hbx⟩ := List.mem_flatMap.1 hc
      exact h x (by simp [hx]) hbx
  · intro b hb c hc hbc
    subst hbc
    rcases List.mem_append.1 hc with hc | hc
    · rcases hd b hc with h | h
      · exact n3 b hb b (by simp [h]) rfl
      · obtain ⟨x, hx, hbx⟩ := List.mem_flatMap.1 hb
        exact h x (by simp [hx]) hbx
    · exact n3 b hb b (by rw [List.mem_append]; exact .inr hc) rfl

theorem Gam.H_lt {H : GH} {a : Act} {w : World} (gm : Gam n C σ H a w) {b : Nat} (hb : w.heap.size ≤ b) : H b = none := by
  cases h : H b with
  | none => rfl
  | some o => have := (Array.getElem?_eq_some_iff.1 (gm.held b o h)).1; omega

/-- A change of the world outside of what nobody writes, and a new list of objects. -/
theorem Gam.world {H : GH} {a : Act} {w w' : World} (gm : Gam n C σ H a w) {objs : List Ob} (row : Nat → Prop) (henv : w'.os = w.os ∧ w'.tape = w.tape ∧ w'.output = w.output) (hsz : w.heap.size ≤ w'.heap.size)
    (hk : ∀ k, k < w.heap.size → ¬ row k → w'.heap[k]? = w.heap[k]?) (hrow : ∀ k, row k → k < w.heap.size → ∃ o, o ∈ σ.objs ∧ k ∈ o.fp)
    (ho : ∀ p, p ∈ objs → (p ∈ σ.objs ∧ ∀ b, b ∈ p.fp → ¬ row b) ∨ (OR H w' p ∧ ∀ b, b ∈ p.fp → w.heap.size ≤ b ∨ ∃ o, o ∈ σ.objs ∧ b ∈ o.fp))
    (hn : (objs.flatMap Ob.fp).Nodup) : Gam n C ⟨σ.slots, objs⟩ H a w' := by
  have hown : ∀ k o, o ∈ σ.objs → k ∈ o.fp → H k = none ∧ (C.w0.heap.size ≤ k ∨ k ∈ C.fp) := fun k o h hk => ⟨gm.free _ h k hk, gm.new _ h k hk⟩
  refine ⟨gm.defers, gm.size, gm.slots, ?_, ?_, ?_, hn, ?_, gm.grow, Nat.le_trans gm.heap hsz, ?_, ⟨henv.1.trans gm.env.1, henv.2.1.trans gm.env.2.1, henv.2.2.trans gm.env.2.2⟩⟩
  · intro p hp
    rcases ho p hp with ⟨h1, h2⟩ | ⟨h1, _⟩
    · have := gm.objs p h1
      exact this.mono (fun _ _ h => h) (fun b hb => hk _ (this.lt b hb) (h2 b hb))
    · exact h1
  · intro p hp b hb
    rcases ho p hp with ⟨h1, _⟩ | ⟨_, h2⟩
    · exact gm.free p h1 b hb
    · rcases h2 b hb with h2 | ⟨o, h2, h3⟩
      · exact gm.H_lt h2
      · exact (hown _ _ h2 h3).1
  · intro p hp b hb
    rcases ho p hp with ⟨h1, _⟩ | ⟨_, h2⟩
    · exact gm.new p h1 b hb
    · rcases h2 b hb with h2 | ⟨o, h2, h3⟩
      · exact .inl (Nat.le_trans gm.heap h2)
      · exact (hown _ _ h2 h3).2
  · intro b o hb
    have hbl := (Array.getElem?_eq_some_iff.1 (gm.held b o hb)).1
    have : ¬ row b := fun hr => by
      obtain ⟨o', h, h'⟩ := hrow b hr hbl
      rw [(hown _ _ h h').1] at hb; cases hb
    rw [hk b hbl this]; exact gm.held b o hb
  · intro b hb hf
    have hbl := Nat.lt_of_lt_of_le hb gm.heap
    have : ¬ row b := fun hr => by
      obtain ⟨o', h, h'⟩ := hrow b hr hbl
      rcases (hown _ _ h h').2 with h2 | h2
      · omega
      · exact hf h2
    rw [hk b hbl this]; exact gm.frame b hb hf

/-- A new object behind the others. -/
theorem Gam.more {H : GH} {a : Act} {w w' : World} (gm : Gam n C σ H a w) {ob : Ob} (henv : w'.os = w.os ∧ w'.tape = w.tape ∧ w'.output = w.output) (hsz : w.heap.size ≤ w'.heap.size)
    (hk : ∀ k, k < w.heap.size → w'.heap[k]? = w.heap[k]?) (h : OR H w' ob) (hf : ∀ b, b ∈ ob.fp → w.heap.size ≤ b) (hnd : ob.fp.Nodup) : Gam n C ⟨σ.slots, σ.objs ++ [ob]⟩ H a w' := by
  refine gm.world (fun _ => False) henv hsz (fun k hkl _ => hk k hkl) (fun _ h => h.elim) ?_ ?_
  · intro p hp
    rcases List.mem_append.1 hp with h1 | h1
    · exact .inl ⟨h1, fun _ _ h => h⟩
    · simp only [List.mem_singleton] at h1; subst h1; exact .inr ⟨h, fun b hb => .inl (hf b hb)⟩
  · rw [List.flatMap_append, List.nodup_append]
    refine ⟨gm.nodup, by simpa using hnd, ?_⟩
    intro x hx y hy hxy
    subst hxy
    simp only [List.flatMap_cons, List.flatMap_nil, List.append_nil] at hy
    obtain ⟨p, hp, hbx⟩ := List.mem_flatMap.1 hx
    have := (gm.objs p hp).lt x hbx
    have := hf x hy
    omega

theorem Gam.alloc {H : GH} {a : Act} {w : World} (gm : Gam n C σ H a w) {o : Obj} {ob : Ob} (h : OR H (w.alloc o) ob) (hf : ob.fp = [w.heap.size]) : Gam n C ⟨σ.slots, σ.objs ++ [ob]⟩ H a (w.alloc o) :=
  gm.more ⟨rfl, rfl, rfl⟩ (by show w.heap.size ≤ (w.heap.push o).size; simp) (fun k hk => heap_alloc_old w o hk) h (by rw [hf]; simp) (by rw [hf]; simp)

theorem OR.box {H : GH} {w : World} {t : TypeId} {arr : Array Value} {l : List T} {b : Nat} (h : w.heap[b]? = some (.cells arr t (0, 0))) (ha : AR H arr l) : OR H w (.arr b t l.length 1 [l]) := by
  refine ⟨arr, h, by rw [ha.1]; omega, by simp, by simp [maxL], ?_, ?_⟩
  · intro i e he
    cases i with
    | zero => simp at he; subst he; rfl
    | succ i => simp at he
  · intro i e he j x hx
    cases i with
    | zero => simp at he; subst he; simpa using ha.2 j x hx
    | succ i => simp at he

theorem AX.value {md : List Nat} {o : Oper} {R : St → Prop}
    (h : ∀ H a w, Gam n C σ H a w → ∃ v w' s' H', (execOp a.eval o).run E.P w = .ok (.value v) w' ∧ R s' ∧ Gam n C s' H' (a.put o.dst v) w' ∧ (∀ b o, H b = some o → H' b = some o) ∧
      ∀ i p, σ.objs[i]? = some p → md.contains i = false → s'.objs[i]? = some p ∧ ∀ b, b ∈ p.fp → w'.heap[b]? = w.heap[b]?) : AX E n C md o σ R := by
  intro H a w gm
  obtain ⟨v, w', s', H', h1, h2, h3, h4, h5⟩ := h H a w gm
  simp only [Oper.wp, h1, Oper.upon]
  exact ⟨s', H', v, h2, h3, rfl, h4, h5⟩

theorem AX.skip {md : List Nat} {o : Oper} {R : St → Prop}
    (h : ∀ H a w, Gam n C σ H a w → ∃ w' s' H', (execOp a.eval o).run E.P w = .ok .skip w' ∧ R s' ∧ Gam n C s' H' (a.put o.dst undef) w' ∧ (∀ b o, H b = some o → H' b = some o) ∧
      ∀ i p, σ.objs[i]? = some p → md.contains i = false → s'.objs[i]? = some p ∧ ∀ b, b ∈ p.fp → w'.heap[b]? = w.heap[b]?) : AX E n C md o σ R := by
  intro H a w gm
  obtain ⟨w', s', H', h1, h2, h3, h4, h5⟩ := h H a w gm
  simp only [Oper.wp, h1, Oper.upon]
  exact ⟨s', H', undef, h2, h3, rfl, h4, h5⟩

theorem append_keeps {objs : List Ob} {x : Ob} {i : Nat} {p : Ob} (h : objs[i]? = some p) : (objs ++ [x])[i]? = some p := by
  rw [List.getElem?_append_left (List.getElem?_eq_some_iff.1 h).1]; exact h

theorem AX.alloc {t : TypeId} {ti : TI} {z : Value} {cs : List T} {R : St → Prop} (ht : E.tab t = some ti) (hz : ti.zero = some z) (hc : z.cells.toList.map T.v = cs) (h1 : z.cells.toList.all (·.oneCell') = true) {m : Nat} (hm : cs.length = m)
    (hd : ∀ d, dst = some d → d < n) (k : ∀ b, R ⟨putS σ.slots dst (.v (.pointer (some ⟨b, 0, none⟩))), σ.objs ++ [(.arr b t m 1 [cs])]⟩) :
    AX E n C [] ⟨dst, .alloc t, ty, pos, aft, g⟩ σ R := by
  refine AX.value fun H a w gm => ?_
  have har : AR H z.cells cs := by
    subst hc
    refine ⟨by simp, fun j x hx => ?_⟩
    simp only [List.getElem?_map, Option.map_eq_some_iff] at hx
    obtain ⟨v, hv, rfl⟩ := hx
    have hv' : z.cells.getD j undef = v := by
      rw [Array.getD_eq_getD_getElem?, ← Array.getElem?_toList, hv]; rfl
    rw [hv']
    exact ⟨List.all_eq_true.1 h1 v (List.mem_of_getElem? hv), .v v⟩
  have hor : OR H (w.alloc (.cells z.cells t)) (.arr w.heap.size t cs.length 1 [cs]) := OR.box (heap_alloc_new w _) har
  rw [hm] at hor
  refine ⟨.pointer (some ⟨w.heap.size, 0, none⟩), w.alloc (.cells z.cells t), _, H, ?_, k w.heap.size, ?_, fun _ _ h => h, ?_⟩
  · simp [execOp, Instr.alloc, run_zeroValue_ti (E.ok _ _ ht) w hz, newVar, newRow]
  · have := (gm.alloc hor rfl).put (dst := dst) (.v (.pointer (some ⟨w.heap.size, 0, none⟩))) hd
    cases dst <;> exact this
  · intro i p hp _
    exact ⟨append_keeps hp, fun b hb => heap_alloc_old w _ ((gm.objs p (List.mem_of_getElem? hp)).lt b hb)⟩

theorem AX.box {t : TypeId} {x : Operand} {y : T} {cs : List T} {R : St → Prop} (hx : evalT σ.slots x = some y) (hc : cellsT y = some cs) {m : Nat} (hm : cs.length = m)
    (hd : ∀ d, dst = some d → d < n) (k : ∀ b, R ⟨putS σ.slots dst (.v (.pointer (some ⟨b, 0, none⟩))), σ.objs ++ [(.arr b t m 1 [cs])]⟩) :
    AX E n C [] ⟨dst, .box t x, ty, pos, aft, g⟩ σ R := by
  refine AX.value fun H a w gm => ?_
  have har := cellsT_spec (gm.sr.eval hx) hc
  have hor : OR H (w.alloc (.cells (a.eval x).cells t)) (.arr w.heap.size t cs.length 1 [cs]) := OR.box (heap_alloc_new w _) har
  rw [hm] at hor
  refine ⟨.pointer (some ⟨w.heap.size, 0, none⟩), w.alloc (.cells (a.eval x).cells t), _, H, ?_, k w.heap.size, ?_, fun _ _ h => h, ?_⟩
  · simp [execOp, Instr.box, newVar, newRow]
  · have := (gm.alloc hor rfl).put (dst := dst) (.v (.pointer (some ⟨w.heap.size, 0, none⟩))) hd
    cases dst <;> exact this
  · intro i p hp _
    exact ⟨append_keeps hp, fun b hb => heap_alloc_old w _ ((gm.objs p (List.mem_of_getElem? hp)).lt b hb)⟩

theorem set_keeps {objs : List Ob} {k i : Nat} {x p : Ob} (h : objs[i]? = some p) (hi : k ≠ i) : (objs.set k x)[i]? = some p := by
  rw [List.getElem?_set_ne hi]; exact h

/-- An object at place k gets another content, in a world that differs at its blocks alone. -/
theorem Gam.set {H : GH} {a : Act} {w w' : World} (gm : Gam n C σ H a w) {k : Nat} {o o' : Ob} (hk : σ.objs[k]? = some o) (henv : w'.os = w.os ∧ w'.tape = w.tape ∧ w'.output = w.output) (hsz : w.heap.size ≤ w'.heap.size)
    (hot : ∀ i, i < w.heap.size → i ∉ o.fp → w'.heap[i]? = w.heap[i]?) (hor : OR H w' o') (hfp : ∀ b, b ∈ o'.fp → w.heap.size ≤ b ∨ b ∈ o.fp) (hnd : o'.fp.Nodup) : Gam n C ⟨σ.slots, σ.objs.set k o'⟩ H a w' := by
  have hm := List.mem_of_getElem? hk
  refine gm.world (fun i => i ∈ o.fp) henv hsz hot (fun i hi _ => ⟨o, hm, hi⟩) ?_ ?_
  · intro p hp
    obtain ⟨i, hi, he⟩ := List.getElem_of_mem hp
    have hp' : (σ.objs.set k o')[i]? = some p := by rw [List.getElem?_eq_getElem hi, he]
    by_cases hki : k = i
    · subst hki
      rw [List.getElem?_set_self (List.getElem?_eq_some_iff.1 hk).1] at hp'
      cases hp'
      exact .inr ⟨hor, fun b hb => (hfp b hb).imp id (fun h => ⟨o, hm, h⟩)⟩
    · rw [List.getElem?_set_ne hki] at hp'
      exact .inl ⟨List.mem_of_getElem? hp', fun b hb hb' => at_ne gm.nodup hk hp' hki b hb' hb⟩
  · refine nodup_at gm.nodup hk hnd (fun b hb => ?_)
    rcases hfp b hb with h | h
    · exact .inr fun x hx hbx => by have := (gm.objs x hx).lt b hbx; omega
    · exact .inl h

/-- What is not at place k is not in its blocks. -/
theorem Gam.apart {H : GH} {a : Act} {w : World} (gm : Gam n C σ H a w) {k i : Nat} {p q : Ob} (hk : σ.objs[k]? = some p) (hi : σ.objs[i]? = some q) (hne : k ≠ i) : ∀ b, b ∈ q.fp → b ∉ p.fp :=
  fun b hq hp => at_ne gm.nodup hk hi hne b hp hq

theorem setRow_size (w : World) (g : Nat) (cs : Array Value) : (w.setRow g cs).heap.size = w.heap.size := by simp [World.setRow]

theorem getD_seg {cur : Array Value} {vs : List Value} {o i : Nat} (hl : o + vs.length ≤ cur.size) :
    ((cur.toList.take o ++ vs ++ cur.toList.drop (o + vs.length)).toArray).getD i undef = if o ≤ i ∧ i < o + vs.length then vs.getD (i - o) undef else cur.getD i undef := by
  simp only [Array.getD_eq_getD_getElem?, List.getElem?_toArray, List.getElem?_append, List.length_append, List.length_take, Array.length_toList, List.getElem?_drop, List.getElem?_take, Array.getElem?_toList, List.getD]
  by_cases h1 : i < o
  · have : min o cur.size = o := by omega
    simp [this, h1, show i < o + vs.length by omega, show ¬ o ≤ i by omega]
  · have : min o cur.size = o := by omega
    by_cases h2 : i < o + vs.length
    · simp [this, h1, h2, show o ≤ i by omega]
    · simp [this, h1, h2, show o + vs.length + (i - (o + vs.length)) = i by omega]

theorem store_core {H : GH} {a : Act} {w : World} {s : Slots} (r : SR n s H a) {t : TypeId} {x y : Operand} {ti : TI} {c : T} {cs : List T} {b off tt sz cap : Nat} {es : List (List T)} (i j : Nat) {e : List T}
    (ht : E.tab t = some ti) (hx : evalT s x = some (.v (.pointer (some ⟨b, off, none⟩)))) (hor : ArrR H w b tt sz cap es) (he : es[i]? = some e) (ho : off = i * sz + j)
    (hy : evalT s y = some c) (hc : cellsT c = some cs) (hsz : ti.size = cs.length) (hj : j + cs.length ≤ e.length) :
    ∃ w', (execOp a.eval ⟨none, .store t x y, ty, pos, aft, g⟩).run E.P w = .ok .skip w' ∧ ArrR H w' b tt sz cap (es.set i (setC e j cs)) ∧ (w'.os = w.os ∧ w'.tape = w.tape ∧ w'.output = w.output) ∧ w'.heap.size = w.heap.size ∧
      ∀ i, i ≠ b → w'.heap[i]? = w.heap[i]? := by
  obtain ⟨cur, a1, a2, a3, a4, a5, a6⟩ := hor
  have har := cellsT_spec (r.eval hy) hc
  have hil := (List.getElem?_eq_some_iff.1 he).1
  have hel := a5 i e he
  have hmul : (i + 1) * sz ≤ cap * sz := Nat.mul_le_mul_right _ (by omega)
  rw [Nat.succ_mul] at hmul
  have hvl : (a.eval y).cells.toList.length = cs.length := by simpa using har.1
  have hst := run_storeCells_at (P := E.P) b off tt (a.eval y).cells.toList 0 cur w a1 (by rw [hvl]; omega) har.all1
  simp only [Nat.add_zero] at hst
  refine ⟨w.setRow b (cur.toList.take off ++ (a.eval y).cells.toList ++ cur.toList.drop (off + (a.eval y).cells.toList.length)).toArray, ?_, ?_, ⟨rfl, rfl, rfl⟩, setRow_size _ _ _, fun i hi => setRow_other w b i _ hi⟩
  · simp [execOp, Instr.storeAt, Instr.sureAddr, r.evalv hx, storeVar, run_sizeOf_ti (E.ok _ _ ht), hsz, show (a.eval y).cells.size = cs.length from har.1] at hst ⊢
    simp [hst]
  · refine ⟨_, setRow_heap w b cur _ tt _ a1, ?_, by simpa using a3, by simpa using a4, ?_, ?_⟩
    · simp only [List.size_toArray, List.length_append, List.length_take, List.length_drop, Array.length_toList, hvl]
      omega
    · intro i' e' he'
      rw [List.getElem?_set] at he'
      split at he'
      · simp only [hil, if_true, Option.some.injEq] at he'
        subst he'; rw [setC_length]; exact hel
      · exact a5 i' e' he'
    · intro i' e' he' j' x' hx'
      rw [getD_seg (by rw [hvl]; omega)]
      rw [List.getElem?_set] at he'
      split at he'
      · rename_i hii
        subst hii
        simp only [hil, if_true, Option.some.injEq] at he'
        subst he'
        rcases setC_get e j cs j' x' hx' with ⟨q1, q2, q3⟩ | ⟨q1, q2⟩
        · rw [if_pos (by rw [hvl]; omega)]
          have := har.2 _ _ q3
          rw [show i * sz + j' - off = j' - j by omega]
          rw [Array.getD_eq_getD_getElem?, ← Array.getElem?_toList] at this
          simpa [List.getD] using this
        · rw [if_neg (by rw [hvl]; omega)]
          exact a6 i e he j' x' q2
      · rename_i hii
        have hj'l := (List.getElem?_eq_some_iff.1 hx').1
        have hel' := a5 i' e' he'
        rw [if_neg ?_]
        · exact a6 i' e' he' j' x' hx'
        · rw [hvl]
          rintro ⟨q1, q2⟩
          rcases Nat.lt_or_gt_of_ne hii with h | h
          · have : (i + 1) * sz ≤ i' * sz := Nat.mul_le_mul_right _ h
            rw [Nat.succ_mul] at this; omega
          · have : (i' + 1) * sz ≤ i * sz := Nat.mul_le_mul_right _ h
            rw [Nat.succ_mul] at this; omega

theorem AX.store (k : Nat) {t : TypeId} {x y : Operand} {ti : TI} {c : T} {cs : List T} {b off tt sz cap : Nat} {es es' : List (List T)} (i j : Nat) {e : List T} {R : St → Prop}
    (ht : E.tab t = some ti) (hx : evalT σ.slots x = some (.v (.pointer (some ⟨b, off, none⟩)))) (hk : σ.objs[k]? = some (.arr b tt sz cap es)) (he : es[i]? = some e) (ho : off = i * sz + j)
    (hy : evalT σ.slots y = some c) (hc : cellsT c = some cs) (hsz : ti.size = cs.length) (hj : j + cs.length ≤ e.length) (hd : dst = none) (hes : es.set i (setC e j cs) = es')
    (kk : R ⟨σ.slots, σ.objs.set k (.arr b tt sz cap es')⟩) :
    AX E n C [k] ⟨dst, .store t x y, ty, pos, aft, g⟩ σ R := by
  subst hd
  subst hes
  refine AX.skip fun H a w gm => ?_
  obtain ⟨w', h1, h2, h3, h4, h5⟩ := store_core (ty := ty) (pos := pos) (aft := aft) (g := g) gm.sr i j ht hx (gm.objs _ (List.mem_of_getElem? hk)) he ho hy hc hsz hj
  refine ⟨w', _, H, h1, kk, ?_, fun _ _ h => h, fun i' p hp hm => ?_⟩
  · exact gm.set hk h3 (by omega) (fun i _ hi => h5 i (by simpa [Ob.fp] using hi)) h2 (fun b hb => .inr hb) (by simp [Ob.fp])
  · have hne : k ≠ i' := fun h => by subst h; simp at hm
    exact ⟨set_keeps hp hne, fun b' hb' => h5 b' (fun h => gm.apart hk hp hne b' hb' (by simp [Ob.fp, h]))⟩

theorem UsR.back {H : GH} {w : World} {v : Value} {tt sz : Nat} {es es' : List (List T)} {c cap : Nat} (hv : v = .slice (some ⟨blk v, 0, none⟩) es.length c) (h1 : es.length ≤ c) (h2 : c ≤ cap) (hl : es'.length = es.length)
    (h : ArrR H w (blk v) tt sz cap es') : UsR H w v tt sz es' :=
  .inr ⟨blk v, c, cap, by rw [hl]; exact hv, by omega, h2, h⟩

theorem AX.storeU (k : Nat) {t : TypeId} {x y : Operand} {ti : TI} {c : T} {cs : List T} {v : Value} {off tt sz : Nat} {es es' : List (List T)} (i j : Nat) {e : List T} {R : St → Prop}
    (ht : E.tab t = some ti) (hx : evalT σ.slots x = some (.v (.pointer (some ⟨blk v, off, none⟩)))) (hk : σ.objs[k]? = some (.us v tt sz es)) (he : es[i]? = some e) (ho : off = i * sz + j)
    (hy : evalT σ.slots y = some c) (hc : cellsT c = some cs) (hsz : ti.size = cs.length) (hj : j + cs.length ≤ e.length) (hd : dst = none) (hes : es.set i (setC e j cs) = es')
    (kk : R ⟨σ.slots, σ.objs.set k (.us v tt sz es')⟩) :
    AX E n C [k] ⟨dst, .store t x y, ty, pos, aft, g⟩ σ R := by
  subst hd
  subst hes
  refine AX.skip fun H a w gm => ?_
  have hor : UsR H w v tt sz es := gm.objs _ (List.mem_of_getElem? hk)
  obtain ⟨c', cap, hv, q1, q2, q3, q4⟩ := hor.arr he
  obtain ⟨w', h1, h2, h3, h4, h5⟩ := store_core (ty := ty) (pos := pos) (aft := aft) (g := g) gm.sr i j ht hx q3 he ho hy hc hsz hj
  refine ⟨w', _, H, h1, kk, ?_, fun _ _ h => h, fun i' p hp hm => ?_⟩
  · exact gm.set hk h3 (by omega) (fun i _ hi => h5 i (by simpa [Ob.fp, q4] using hi)) (UsR.back hv q1 q2 (by simp) h2) (fun b hb => .inr hb) (by simp [Ob.fp, q4])
  · have hne : k ≠ i' := fun h => by subst h; simp at hm
    exact ⟨set_keeps hp hne, fun b' hb' => h5 b' (fun h => gm.apart hk hp hne b' hb' (by simp [Ob.fp, q4, h]))⟩

end
end Go.Aw
