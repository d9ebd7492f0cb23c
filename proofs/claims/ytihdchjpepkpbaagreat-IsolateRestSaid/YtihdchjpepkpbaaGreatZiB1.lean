/- A program logic over the model. No condition. -/
import Derived.Test.YtihdchjpepkpbaaGreatZiB0
set_option maxRecDepth 100000
namespace Go.Aw
set_option linter.unusedVariables false
set_option linter.defProp false
set_option linter.unusedSimpArgs false
def Dt : T → Option (List T)
 | .agg cs => some cs
 | .v x => bif x.oneCell' then some [.v x] else none
 | .list sz es => some [.list sz es]
 | .eptr l => some [.eptr l]
 | .tup _ => none
 | .fn f fs cs => some [.fn f fs cs]
def AR (H : GH) (arr : Array Value) (l : List T) : Prop := arr.size = l.length ∧ ∀ (j : Nat) (x : T), l[j]? = some x → CR H (arr.getD j undef) x
theorem P8 {v : Value} (h : v.oneCell' = true) : v.cells = #[v] := by cases v <;> simp_all [Value.cells, Value.oneCell']
theorem AR.one {H : GH} {v : Value} {x : T} (h1 : v.oneCell' = true) (h : VR H v x) : AR H #[v] [x] := by
 refine ⟨rfl, fun j y G => ?_⟩
 cases j with
 | zero => simp at G; subst G; exact ⟨h1, h⟩
 | succ j => simp at G
theorem F3 {H : GH} {v : Value} {y : T} {cs : List T} (h : VR H v y) (hc : Dt y = some cs) : AR H v.cells cs := by
 cases y with
 | v x =>
  have := h.v_eq
  subst this
  simp only [Dt] at hc
  cases ho : v.oneCell' with
  | false => simp [ho] at hc
  | true =>
   simp only [ho, cond_true, Option.some.injEq] at hc
   subst hc
   rw [P8 ho]
   exact .one ho h
 | list sz es =>
  simp only [Dt, Option.some.injEq] at hc
  subst hc
  obtain ⟨a, O, rfl⟩ := h.list_slice
  exact .one rfl h
 | agg l =>
  simp only [Dt, Option.some.injEq] at hc
  subst hc
  cases h with
  | agg vs cs hl G hv => exact ⟨hl, fun j x M => ⟨G j x M, hv j x M⟩⟩
 | tup l => simp [Dt] at hc
 | fn f fs cs =>
  simp only [Dt, Option.some.injEq] at hc
  subst hc
  have G : v.oneCell' = true := by cases h; rfl
  rw [P8 G]
  exact .one G h
 | eptr l =>
  simp only [Dt, Option.some.injEq] at hc
  subst hc
  obtain ⟨b, o, rfl⟩ := h.eptr_ptr
  exact .one rfl h
theorem AR.all1 {H : GH} {arr : Array Value} {l : List T} (h : AR H arr l) : ∀ v, v ∈ arr.toList → v.oneCell' = true := by
 intro v Y
 obtain ⟨j, X, O⟩ := List.getElem_of_mem Y
 have G : j < arr.size := by simpa using X
 have M : j < l.length := by rw [← h.1]; exact G
 have := (h.2 j l[j] (gq M)).1
 have W : arr.getD j undef = v := by
  rw [Array.getD_eq_getD_getElem?, Array.getElem?_eq_getElem G]
  simpa using O
 rwa [W] at this
def Ev : List T → Nat → List T → List T
 | [], _, _ => []
 | e, 0, [] => e
 | _ :: e, 0, c :: cs => c :: Ev e 0 cs
 | x :: e, j + 1, cs => x :: Ev e j cs
theorem Ej : ∀ (l : List T) (j : Nat) (cs : List T), (Ev l j cs).length = l.length
 | [], _, _ => rfl
 | _ :: _, 0, [] => rfl
 | _ :: e, 0, _ :: cs => by simp [Ev, Ej e 0 cs]
 | _ :: e, j + 1, cs => by simp [Ev, Ej e j cs]
theorem Hk : ∀ (l : List T) (j : Nat) (cs : List T) (i : Nat) (x : T), (Ev l j cs)[i]? = some x →
  (j ≤ i ∧ i < j + cs.length ∧ cs[i - j]? = some x) ∨ ((i < j ∨ j + cs.length ≤ i) ∧ l[i]? = some x)
 | [], _, _, i, x, h => by simp [Ev] at h
 | y :: e, 0, [], i, x, h => .inr ⟨by simp, h⟩
 | y :: e, 0, c :: cs, i, x, h => by
  simp only [Ev] at h
  cases i with
  | zero => left; simp at h; exact ⟨by omega, by simp, by simp [h]⟩
  | succ i =>
   simp only [List.getElem?_cons_succ] at h
   rcases Hk e 0 cs i x h with ⟨M, G, O⟩ | ⟨M, G⟩
   ·left; exact ⟨by omega, by simp; omega, by simpa using O⟩
   ·right; refine ⟨by simp; omega, by simpa using G⟩
 | y :: e, j + 1, cs, i, x, h => by
  simp only [Ev] at h
  cases i with
  | zero => right; simp at h; exact ⟨by omega, by simp [h]⟩
  | succ i =>
   simp only [List.getElem?_cons_succ] at h
   rcases Hk e j cs i x h with ⟨M, G, O⟩ | ⟨M, G⟩
   ·left; exact ⟨by omega, by omega, by rw [show i + 1 - (j + 1) = i - j by omega]; exact O⟩
   ·right; exact ⟨by omega, by simpa using G⟩
section
variable {E : Env} {n : Nat} {C : Ctx} {σ : St} {dst : Option Tmp} {ty : TypeId} {pos : String} {aft : Array Edge} {g : Option (Nat × Bool)}
theorem UsR.lt {H : GH} {w : World} {v : Value} {ty sz : Nat} {es : List (List T)} (h : UsR H w v ty sz es) : ∀ b, b ∈ Gq v → b < w.heap.size := by
 intro b G
 rcases h with ⟨rfl, _⟩ | ⟨W, c, O, rfl, _, _, X, M, _⟩
 ·simp [Gq] at G
 ·simp [Gq] at G; subst G; exact (Array.getElem?_eq_some_iff.1 M).1
theorem Nu : ∀ {vs : List Value} {L : List (Option (List (List T)))} {b : Nat}, b ∈ D7 vs L → ∃ (i : Nat) (v : Value) (es : List (List T)), vs[i]? = some v ∧ L[i]? = some (some es) ∧ b ∈ Gq v
 | v :: vs, some es :: L, b, h => by
  simp only [D7, List.mem_append] at h
  rcases h with h | h
  ·exact ⟨0, v, es, rfl, rfl, h⟩
  ·obtain ⟨i, v, es, G, M, O⟩ := Nu h
   exact ⟨i + 1, v, es, by simpa using G, by simpa using M, O⟩
 | v :: vs, none :: L, b, h => by
  simp only [D7] at h
  obtain ⟨i, v, es, G, M, O⟩ := Nu h
  exact ⟨i + 1, v, es, by simpa using G, by simpa using M, O⟩
 | [], _, b, h => by simp [D7] at h
 | _ :: _, [], b, h => by simp [D7] at h
theorem OR.lt {H : GH} {w : World} {o : Ob} (h : OR H w o) : ∀ b, b ∈ o.fp → b < w.heap.size := by
 intro b G
 cases o with
 | arr b' ty sz cap M => simp only [Ob.fp, List.mem_singleton] at G; subst G; obtain ⟨cs, O, _⟩ := h; exact (Array.getElem?_eq_some_iff.1 O).1
 | us v ty sz M => exact UsR.lt h b G
 | uss v ty tyi szi vs L =>
  obtain ⟨_, W, X⟩ := h
  simp only [Ob.fp, List.mem_append] at G
  rcases G with G | G
  ·exact W.lt b G
  ·obtain ⟨i, x, M, Y, Z, q3⟩ := Nu G
   exact (X i x M Y Z).lt b q3
 | raw b' o => simp only [Ob.fp, List.mem_singleton] at G; subst G; exact (Array.getElem?_eq_some_iff.1 h).1
theorem Jv {α : Type} : ∀ {l : List α} {k : Nat} {x : α}, l[k]? = some x → ∃ G M, l = G ++ x :: M ∧ G.length = k ∧ (∀ y, l.set k y = G ++ y :: M) ∧ l.eraseIdx k = G ++ M
 | [], k, x, h => by simp at h
 | a :: l, 0, x, h => by simp at h; subst h; exact ⟨[], l, rfl, rfl, fun _ => rfl, rfl⟩
 | a :: l, k + 1, x, h => by
  obtain ⟨G, M, O, W, X, Y⟩ := Jv (l := l) (k := k) (by simpa using h)
  exact ⟨a :: G, M, by rw [O]; rfl, by simp [W], fun y => by simp [X y], by simp [Y]⟩
theorem Pp {α : Type} {f : α → List Nat} {l : List α} (M : (l.flatMap f).Nodup) {k i : Nat} {p q : α} (W : l[k]? = some p) (hi : l[i]? = some q) (X : k ≠ i) : ∀ b, b ∈ f p → b ∉ f q := by
 obtain ⟨Y, l2, rfl, h2, _, _⟩ := Jv W
 intro b G O
 rw [List.flatMap_append, List.flatMap_cons, List.nodup_append, List.nodup_append] at M
 obtain ⟨_, ⟨_, _, Z⟩, n3⟩ := M
 rcases Nat.lt_or_ge i k with h | h
 ·rw [List.getElem?_append_left (by omega)] at hi
  exact n3 b (List.mem_flatMap.2 ⟨q, mg hi, O⟩) b (by simp [G]) rfl
 ·rw [List.getElem?_append_right (by omega), show i - Y.length = (i - k - 1) + 1 by omega, List.getElem?_cons_succ] at hi
  exact Z b G b (List.mem_flatMap.2 ⟨q, mg hi, O⟩) rfl
theorem S5 {α : Type} {f : α → List Nat} {l : List α} (hn : (l.flatMap f).Nodup) {k : Nat} {p q : α} (hk : l[k]? = some p) (hq : (f q).Nodup) (Z : ∀ b, b ∈ f q → b ∈ f p ∨ ∀ x, x ∈ l → b ∉ f x) : ((l.set k q).flatMap f).Nodup := by
 obtain ⟨l1, l2, rfl, h2, h3, _⟩ := Jv hk
 rw [h3]
 rw [List.flatMap_append, List.flatMap_cons, List.nodup_append, List.nodup_append] at hn ⊢
 obtain ⟨n0, ⟨n1, Y, n2⟩, n3⟩ := hn
 refine ⟨n0, ⟨hq, Y, ?_⟩, ?_⟩
 ·intro b W c G M
  subst M
  rcases Z b W with h | h
  ·exact n2 b h b G rfl
  ·obtain ⟨x, X, O⟩ := List.mem_flatMap.1 G
   exact h x (by simp [X]) O
 ·intro b W c G M
  subst M
  rcases List.mem_append.1 G with G | G
  ·rcases Z b G with h | h
   ·exact n3 b W b (by simp [h]) rfl
   ·obtain ⟨x, X, O⟩ := List.mem_flatMap.1 W
    exact h x (by simp [X]) O
  ·exact n3 b W b (by rw [List.mem_append]; exact .inr G) rfl
theorem Gam.H_lt {H : GH} {a : Act} {w : World} (G : Gam n C σ H a w) {b : Nat} (hb : w.heap.size ≤ b) : H b = none := by
 cases h : H b with
 | none => rfl
 | some o => have := (Array.getElem?_eq_some_iff.1 (G.held b o h)).1; omega
theorem Gam.world {H : GH} {a : Act} {w w' : World} (G : Gam n C σ H a w) {objs : List Ob} (Z : Nat → Prop) (Y : w'.os = w.os ∧ w'.tape = w.tape ∧ w'.output = w.output) (hsz : w.heap.size ≤ w'.heap.size)
  (hk : ∀ k, k < w.heap.size → ¬ Z k → w'.heap[k]? = w.heap[k]?) (aa : ∀ k, Z k → k < w.heap.size → ∃ o, o ∈ σ.objs ∧ k ∈ o.fp)
  (ho : ∀ p, p ∈ objs → (p ∈ σ.objs ∧ ∀ b, b ∈ p.fp → ¬ Z b) ∨ (OR H w' p ∧ ∀ b, b ∈ p.fp → w.heap.size ≤ b ∨ ∃ o, o ∈ σ.objs ∧ b ∈ o.fp))
  (hn : (objs.flatMap Ob.fp).Nodup) : Gam n C ⟨σ.slots, objs⟩ H a w' := by
 have W : ∀ k o, o ∈ σ.objs → k ∈ o.fp → H k = none ∧ (C.w0.heap.size ≤ k ∨ k ∈ C.fp) := fun k o h hk => ⟨G.free _ h k hk, G.new _ h k hk⟩
 refine ⟨G.defers, G.size, G.slots, ?_, ?_, ?_, hn, ?_, G.grow, Nat.le_trans G.heap hsz, ?_, ⟨Y.1.trans G.env.1, Y.2.1.trans G.env.2.1, Y.2.2.trans G.env.2.2⟩⟩
 ·intro p hp
  rcases ho p hp with ⟨h1, M⟩ | ⟨h1, _⟩
  ·have := G.objs p h1
   exact this.mono (fun _ _ h => h) (fun b O => hk _ (this.lt b O) (M b O))
  ·exact h1
 ·intro p hp b O
  rcases ho p hp with ⟨h1, _⟩ | ⟨_, M⟩
  ·exact G.free p h1 b O
  ·rcases M b O with M | ⟨o, M, h3⟩
   ·exact G.H_lt M
   ·exact (W _ _ M h3).1
 ·intro p hp b O
  rcases ho p hp with ⟨h1, _⟩ | ⟨_, M⟩
  ·exact G.new p h1 b O
  ·rcases M b O with M | ⟨o, M, h3⟩
   ·exact .inl (Nat.le_trans G.heap M)
   ·exact (W _ _ M h3).2
 ·intro b o O
  have X := (Array.getElem?_eq_some_iff.1 (G.held b o O)).1
  have : ¬ Z b := fun hr => by
   obtain ⟨o', h, h'⟩ := aa b hr X
   rw [(W _ _ h h').1] at O; cases O
  rw [hk b X this]; exact G.held b o O
 ·intro b O hf
  have X := Nat.lt_of_lt_of_le O G.heap
  have : ¬ Z b := fun hr => by
   obtain ⟨o', h, h'⟩ := aa b hr X
   rcases (W _ _ h h').2 with M | M
   ·omega
   ·exact hf M
  rw [hk b X this]; exact G.frame b O hf
theorem Gam.more {H : GH} {a : Act} {w w' : World} (O : Gam n C σ H a w) {ob : Ob} (G : w'.os = w.os ∧ w'.tape = w.tape ∧ w'.output = w.output) (hsz : w.heap.size ≤ w'.heap.size)
  (hk : ∀ k, k < w.heap.size → w'.heap[k]? = w.heap[k]?) (h : OR H w' ob) (hf : ∀ b, b ∈ ob.fp → w.heap.size ≤ b) (Y : ob.fp.Nodup) : Gam n C ⟨σ.slots, σ.objs ++ [ob]⟩ H a w' := by
 refine O.world (fun _ => False) G hsz (fun k X _ => hk k X) (fun _ h => h.elim) ?_ ?_
 ·intro p Z
  rcases List.mem_append.1 Z with M | M
  ·exact .inl ⟨M, fun _ _ h => h⟩
  ·simp only [List.mem_singleton] at M; subst M; exact .inr ⟨h, fun b hb => .inl (hf b hb)⟩
 ·rw [List.flatMap_append, List.nodup_append]
  refine ⟨O.nodup, by simpa using Y, ?_⟩
  intro x hx y hy aa
  subst aa
  simp only [List.flatMap_cons, List.flatMap_nil, List.append_nil] at hy
  obtain ⟨p, Z, W⟩ := List.mem_flatMap.1 hx
  have := (O.objs p Z).lt x W
  have := hf x hy
  omega
theorem Gam.alloc {H : GH} {a : Act} {w : World} (G : Gam n C σ H a w) {o : Obj} {ob : Ob} (h : OR H (w.alloc o) ob) (hf : ob.fp = [w.heap.size]) : Gam n C ⟨σ.slots, σ.objs ++ [ob]⟩ H a (w.alloc o) :=
 G.more ⟨rfl, rfl, rfl⟩ (by show w.heap.size ≤ (w.heap.push o).size; simp) (fun k M => heap_alloc_old w o M) h (by rw [hf]; simp) (by rw [hf]; simp)
theorem OR.box {H : GH} {w : World} {t : TypeId} {arr : Array Value} {l : List T} {b : Nat} (h : w.heap[b]? = some (.cells arr t (0, 0))) (M : AR H arr l) : OR H w (.arr b t l.length 1 [l]) := by
 refine ⟨arr, h, by rw [M.1]; omega, by simp, by simp [G6], ?_, ?_⟩
 ·intro i e G
  cases i with
  | zero => simp at G; subst G; rfl
  | succ i => simp at G
 ·intro i e G j x O
  cases i with
  | zero => simp at G; subst G; simpa using M.2 j x O
  | succ i => simp at G
theorem AX.value {md : List Nat} {o : Oper} {R : St → Prop}
  (h : ∀ H a w, Gam n C σ H a w → ∃ v w' G H', (execOp a.eval o).run E.P w = .ok (.value v) w' ∧ R G ∧ Gam n C G H' (a.put o.dst v) w' ∧ (∀ b o, H b = some o → H' b = some o) ∧
   ∀ i p, σ.objs[i]? = some p → md.contains i = false → G.objs[i]? = some p ∧ ∀ b, b ∈ p.fp → w'.heap[b]? = w.heap[b]?) : AX E n C md o σ R := by
 intro H a w M
 obtain ⟨v, w', G, H', O, W, X, Y, Z⟩ := h H a w M
 simp only [Oper.wp, O, Oper.upon]
 exact ⟨G, H', v, W, X, rfl, Y, Z⟩
theorem AX.skip {md : List Nat} {o : Oper} {R : St → Prop}
  (h : ∀ H a w, Gam n C σ H a w → ∃ w' G H', (execOp a.eval o).run E.P w = .ok .skip w' ∧ R G ∧ Gam n C G H' (a.put o.dst undef) w' ∧ (∀ b o, H b = some o → H' b = some o) ∧
   ∀ i p, σ.objs[i]? = some p → md.contains i = false → G.objs[i]? = some p ∧ ∀ b, b ∈ p.fp → w'.heap[b]? = w.heap[b]?) : AX E n C md o σ R := by
 intro H a w M
 obtain ⟨w', G, H', O, W, X, Y, Z⟩ := h H a w M
 simp only [Oper.wp, O, Oper.upon]
 exact ⟨G, H', undef, W, X, rfl, Y, Z⟩
theorem D4 {objs : List Ob} {x : Ob} {i : Nat} {p : Ob} (h : objs[i]? = some p) : (objs ++ [x])[i]? = some p := by
 rw [List.getElem?_append_left (gs h).1]; exact h
theorem AX.alloc {t : TypeId} {ti : TI} {z : Value} {cs : List T} {R : St → Prop} (ht : E.tab t = some ti) (hz : ti.zero = some z) (hc : z.cells.toList.map T.v = cs) (h1 : z.cells.toList.all (·.oneCell') = true) {m : Nat} (hm : cs.length = m)
  (hd : ∀ d, dst = some d → d < n) (k : ∀ b, R ⟨D3 σ.slots dst (.v (.pointer (some ⟨b, 0, none⟩))), σ.objs ++ [(.arr b t m 1 [cs])]⟩) :
  AX E n C [] ⟨dst, .alloc t, ty, pos, aft, g⟩ σ R := by
 refine AX.value fun H a w W => ?_
 have M : AR H z.cells cs := by
  subst hc
  refine ⟨by simp, fun j x Z => ?_⟩
  simp only [List.getElem?_map, Option.map_eq_some_iff] at Z
  obtain ⟨v, Y, rfl⟩ := Z
  have O : z.cells.getD j undef = v := by
   rw [Array.getD_eq_getD_getElem?, ← Array.getElem?_toList, Y]; rfl
  rw [O]
  exact ⟨List.all_eq_true.1 h1 v (mg Y), .v v⟩
 have G : OR H (w.alloc (.cells z.cells t)) (.arr w.heap.size t cs.length 1 [cs]) := OR.box (heap_alloc_new w _) M
 rw [hm] at G
 refine ⟨.pointer (some ⟨w.heap.size, 0, none⟩), w.alloc (.cells z.cells t), _, H, ?_, k w.heap.size, ?_, fun _ _ h => h, ?_⟩
 ·simp [execOp, Instr.alloc, Dh (E.ok _ _ ht) w hz, newVar, newRow]
 ·have := (W.alloc G rfl).put (dst := dst) (.v (.pointer (some ⟨w.heap.size, 0, none⟩))) hd
  cases dst <;> exact this
 ·intro i p X _
  exact ⟨D4 X, fun b hb => heap_alloc_old w _ ((W.objs p (mg X)).lt b hb)⟩
theorem AX.box {t : TypeId} {x : Operand} {y : T} {cs : List T} {R : St → Prop} (hx : Aq σ.slots x = some y) (hc : Dt y = some cs) {m : Nat} (Z : cs.length = m)
  (Y : ∀ d, dst = some d → d < n) (k : ∀ b, R ⟨D3 σ.slots dst (.v (.pointer (some ⟨b, 0, none⟩))), σ.objs ++ [(.arr b t m 1 [cs])]⟩) :
  AX E n C [] ⟨dst, .box t x, ty, pos, aft, g⟩ σ R := by
 refine AX.value fun H a w M => ?_
 have O := F3 (M.sr.eval hx) hc
 have G : OR H (w.alloc (.cells (a.eval x).cells t)) (.arr w.heap.size t cs.length 1 [cs]) := OR.box (heap_alloc_new w _) O
 rw [Z] at G
 refine ⟨.pointer (some ⟨w.heap.size, 0, none⟩), w.alloc (.cells (a.eval x).cells t), _, H, ?_, k w.heap.size, ?_, fun _ _ h => h, ?_⟩
 ·simp [execOp, Instr.box, newVar, newRow]
 ·have := (M.alloc G rfl).put (dst := dst) (.v (.pointer (some ⟨w.heap.size, 0, none⟩))) Y
  cases dst <;> exact this
 ·intro i p W _
  exact ⟨D4 W, fun b X => heap_alloc_old w _ ((M.objs p (mg W)).lt b X)⟩
theorem Fj {objs : List Ob} {k i : Nat} {x p : Ob} (h : objs[i]? = some p) (hi : k ≠ i) : (objs.set k x)[i]? = some p := by
 rw [List.getElem?_set_ne hi]; exact h
theorem Gam.set {H : GH} {a : Act} {w w' : World} (Y : Gam n C σ H a w) {k : Nat} {o o' : Ob} (Z : σ.objs[k]? = some o) (W : w'.os = w.os ∧ w'.tape = w.tape ∧ w'.output = w.output) (hsz : w.heap.size ≤ w'.heap.size)
  (hot : ∀ i, i < w.heap.size → i ∉ o.fp → w'.heap[i]? = w.heap[i]?) (hor : OR H w' o') (X : ∀ b, b ∈ o'.fp → w.heap.size ≤ b ∨ b ∈ o.fp) (hnd : o'.fp.Nodup) : Gam n C ⟨σ.slots, σ.objs.set k o'⟩ H a w' := by
 have hm := mg Z
 refine Y.world (fun i => i ∈ o.fp) W hsz hot (fun i hi _ => ⟨o, hm, hi⟩) ?_ ?_
 ·intro p hp
  obtain ⟨i, hi, he⟩ := List.getElem_of_mem hp
  have G : (σ.objs.set k o')[i]? = some p := by rw [gq hi, he]
  by_cases M : k = i
  ·subst M
   rw [List.getElem?_set_self (gs Z).1] at G
   cases G
   exact .inr ⟨hor, fun b O => (X b O).imp id (fun h => ⟨o, hm, h⟩)⟩
  ·rw [List.getElem?_set_ne M] at G
   exact .inl ⟨mg G, fun b O aa => Pp Y.nodup Z G M b aa O⟩
 ·refine S5 Y.nodup Z hnd (fun b O => ?_)
  rcases X b O with h | h
  ·exact .inr fun x hx ab => by have := (Y.objs x hx).lt b ab; omega
  ·exact .inl h
theorem Gam.apart {H : GH} {a : Act} {w : World} (M : Gam n C σ H a w) {k i : Nat} {p q : Ob} (O : σ.objs[k]? = some p) (hi : σ.objs[i]? = some q) (G : k ≠ i) : ∀ b, b ∈ q.fp → b ∉ p.fp :=
 fun b X W => Pp M.nodup O hi G b W X
theorem Fz (w : World) (g : Nat) (cs : Array Value) : (w.setRow g cs).heap.size = w.heap.size := by simp [World.setRow]
theorem Gd {G : Array Value} {vs : List Value} {o i : Nat} (hl : o + vs.length ≤ G.size) :
  ((G.toList.take o ++ vs ++ G.toList.drop (o + vs.length)).toArray).getD i undef = if o ≤ i ∧ i < o + vs.length then vs.getD (i - o) undef else G.getD i undef := by
 simp only [Array.getD_eq_getD_getElem?, List.getElem?_toArray, List.getElem?_append, List.length_append, List.length_take, Array.length_toList, List.getElem?_drop, List.getElem?_take, Array.getElem?_toList, List.getD]
 by_cases M : i < o
 ·have : min o G.size = o := by omega
  simp [this, M, show i < o + vs.length by omega, show ¬ o ≤ i by omega]
 ·have : min o G.size = o := by omega
  by_cases O : i < o + vs.length
  ·simp [this, M, O, show o ≤ i by omega]
  ·simp [this, M, O, show o + vs.length + (i - (o + vs.length)) = i by omega]
theorem Oi {H : GH} {a : Act} {w : World} {s : Ak} (r : SR n s H a) {t : TypeId} {x y : Operand} {ti : TI} {c : T} {cs : List T} {b off tt sz cap : Nat} {es : List (List T)} (i j : Nat) {e : List T}
  (ht : E.tab t = some ti) (hx : Aq s x = some (.v (.pointer (some ⟨b, off, none⟩)))) (hor : ArrR H w b tt sz cap es) (he : es[i]? = some e) (ho : off = i * sz + j)
  (hy : Aq s y = some c) (hc : Dt c = some cs) (hsz : ti.size = cs.length) (hj : j + cs.length ≤ e.length) :
  ∃ w', (execOp a.eval ⟨none, .store t x y, ty, pos, aft, g⟩).run E.P w = .ok .skip w' ∧ ArrR H w' b tt sz cap (es.set i (Ev e j cs)) ∧ (w'.os = w.os ∧ w'.tape = w.tape ∧ w'.output = w.output) ∧ w'.heap.size = w.heap.size ∧
   ∀ i, i ≠ b → w'.heap[i]? = w.heap[i]? := by
 obtain ⟨O, a1, a2, a3, a4, a5, a6⟩ := hor
 have W := F3 (r.eval hy) hc
 have hil := (gs he).1
 have hel := a5 i e he
 have hmul : (i + 1) * sz ≤ cap * sz := Nat.mul_le_mul_right _ (by omega)
 rw [Nat.succ_mul] at hmul
 have M : (a.eval y).cells.toList.length = cs.length := by simpa using W.1
 have Y := run_storeCells_at (P := E.P) b off tt (a.eval y).cells.toList 0 O w a1 (by rw [M]; omega) W.all1
 simp only [Nat.add_zero] at Y
 refine ⟨w.setRow b (O.toList.take off ++ (a.eval y).cells.toList ++ O.toList.drop (off + (a.eval y).cells.toList.length)).toArray, ?_, ?_, ⟨rfl, rfl, rfl⟩, Fz _ _ _, fun i hi => setRow_other w b i _ hi⟩
 ·simp [execOp, Instr.storeAt, Instr.sureAddr, r.evalv hx, storeVar, Bl (E.ok _ _ ht), hsz, show (a.eval y).cells.size = cs.length from W.1] at Y ⊢
  simp [Y]
 ·refine ⟨_, setRow_heap w b O _ tt _ a1, ?_, by simpa using a3, by simpa using a4, ?_, ?_⟩
  ·simp only [List.size_toArray, List.length_append, List.length_take, List.length_drop, Array.length_toList, M]
   omega
  ·intro i' e' G
   rw [List.getElem?_set] at G
   split at G
   ·simp only [hil, if_true, Option.some.injEq] at G
    subst G; rw [Ej]; exact hel
   ·exact a5 i' e' G
  ·intro i' e' G j' x' Z
   rw [Gd (by rw [M]; omega)]
   rw [List.getElem?_set] at G
   split at G
   ·rename_i X
    subst X
    simp only [hil, if_true, Option.some.injEq] at G
    subst G
    rcases Hk e j cs j' x' Z with ⟨q1, q2, q3⟩ | ⟨q1, q2⟩
    ·rw [if_pos (by rw [M]; omega)]
     have := W.2 _ _ q3
     rw [show i * sz + j' - off = j' - j by omega]
     rw [Array.getD_eq_getD_getElem?, ← Array.getElem?_toList] at this
     simpa [List.getD] using this
    ·rw [if_neg (by rw [M]; omega)]
     exact a6 i e he j' x' q2
   ·rename_i X
    have hj'l := (gs Z).1
    have hel' := a5 i' e' G
    rw [if_neg ?_]
    ·exact a6 i' e' G j' x' Z
    ·rw [M]
     rintro ⟨q1, q2⟩
     rcases Nat.lt_or_gt_of_ne X with h | h
     ·have : (i + 1) * sz ≤ i' * sz := Nat.mul_le_mul_right _ h
      rw [Nat.succ_mul] at this; omega
     ·have : (i' + 1) * sz ≤ i * sz := Nat.mul_le_mul_right _ h
      rw [Nat.succ_mul] at this; omega
theorem AX.store (k : Nat) {t : TypeId} {x y : Operand} {ti : TI} {c : T} {cs : List T} {b off tt sz cap : Nat} {es es' : List (List T)} (i j : Nat) {e : List T} {R : St → Prop}
  (ht : E.tab t = some ti) (hx : Aq σ.slots x = some (.v (.pointer (some ⟨b, off, none⟩)))) (X : σ.objs[k]? = some (.arr b tt sz cap es)) (he : es[i]? = some e) (ho : off = i * sz + j)
  (hy : Aq σ.slots y = some c) (hc : Dt c = some cs) (hsz : ti.size = cs.length) (hj : j + cs.length ≤ e.length) (hd : dst = none) (W : es.set i (Ev e j cs) = es')
  (kk : R ⟨σ.slots, σ.objs.set k (.arr b tt sz cap es')⟩) :
  AX E n C [k] ⟨dst, .store t x y, ty, pos, aft, g⟩ σ R := by
 subst hd
 subst W
 refine AX.skip fun H a w M => ?_
 obtain ⟨w', h1, h2, h3, h4, Z⟩ := Oi (ty := ty) (pos := pos) (aft := aft) (g := g) M.sr i j ht hx (M.objs _ (mg X)) he ho hy hc hsz hj
 refine ⟨w', _, H, h1, kk, ?_, fun _ _ h => h, fun i' p hp hm => ?_⟩
 ·exact M.set X h3 (by omega) (fun i _ hi => Z i (by simpa [Ob.fp] using hi)) h2 (fun b hb => .inr hb) (by simp [Ob.fp])
 ·have G : k ≠ i' := fun h => by subst h; simp at hm
  exact ⟨Fj hp G, fun Y O => Z Y (fun h => M.apart X hp G Y O (by simp [Ob.fp, h]))⟩
def jS := @AX.store
theorem cC {H : GH} {w : World} {v : Value} {G sz : Nat} {es es' : List (List T)} {c cap : Nat} (hv : v = .slice (some ⟨Qx v, 0, none⟩) es.length c) (h1 : es.length ≤ c) (h2 : c ≤ cap) (hl : es'.length = es.length)
  (h : ArrR H w (Qx v) G sz cap es') : UsR H w v G sz es' :=
 .inr ⟨Qx v, c, cap, by rw [hl]; exact hv, by omega, h2, h⟩
theorem Ck (k : Nat) {t : TypeId} {x y : Operand} {ti : TI} {c : T} {cs : List T} {v : Value} {off tt sz : Nat} {es es' : List (List T)} (i j : Nat) {e : List T} {R : St → Prop}
  (ht : E.tab t = some ti) (hx : Aq σ.slots x = some (.v (.pointer (some ⟨Qx v, off, none⟩)))) (X : σ.objs[k]? = some (.us v tt sz es)) (he : es[i]? = some e) (ho : off = i * sz + j)
  (hy : Aq σ.slots y = some c) (hc : Dt c = some cs) (hsz : ti.size = cs.length) (hj : j + cs.length ≤ e.length) (hd : dst = none) (W : es.set i (Ev e j cs) = es')
  (kk : R ⟨σ.slots, σ.objs.set k (.us v tt sz es')⟩) :
  AX E n C [k] ⟨dst, .store t x y, ty, pos, aft, g⟩ σ R := by
 subst hd
 subst W
 refine AX.skip fun H a w M => ?_
 have Y : UsR H w v tt sz es := M.objs _ (mg X)
 obtain ⟨c', cap, hv, q1, q2, q3, Z⟩ := Y.arr he
 obtain ⟨w', h1, h2, h3, h4, h5⟩ := Oi (ty := ty) (pos := pos) (aft := aft) (g := g) M.sr i j ht hx q3 he ho hy hc hsz hj
 refine ⟨w', _, H, h1, kk, ?_, fun _ _ h => h, fun i' p hp hm => ?_⟩
 ·exact M.set X h3 (by omega) (fun i _ hi => h5 i (by simpa [Ob.fp, Z] using hi)) (cC hv q1 q2 (by simp) h2) (fun b hb => .inr hb) (by simp [Ob.fp, Z])
 ·have G : k ≠ i' := fun h => by subst h; simp at hm
  exact ⟨Fj hp G, fun b' O => h5 b' (fun h => M.apart X hp G b' O (by simp [Ob.fp, Z, h]))⟩
end
section
variable {E : Env} {n : Nat} {C : Ctx} {σ : St} {dst : Option Tmp} {ty : TypeId} {pos : String} {aft : Array Edge} {g : Option (Nat × Bool)}
theorem AR.fold {H : GH} {vs : Array Value} {cs : List T} (hv : AR H vs cs) {arr : Array Value} {l : List T} (ha : AR H arr l) {off : Nat} (hle : off + cs.length ≤ l.length) :
  AR H (vs.zipIdx.foldl (fun c (x : Value × Nat) => c.setIfInBounds (off + x.2) x.1) arr) (Ev l off cs) := by
 have X : ∀ (G : List Value) (k : Nat) (arr : Array Value), (∀ j, j < G.length → off + k + j < arr.size) →
   ((G.zipIdx k).foldl (fun c (x : Value × Nat) => c.setIfInBounds (off + x.2) x.1) arr).size = arr.size ∧
   ∀ i, ((G.zipIdx k).foldl (fun c (x : Value × Nat) => c.setIfInBounds (off + x.2) x.1) arr).getD i undef =
    if off + k ≤ i ∧ i < off + k + G.length then G.getD (i - (off + k)) undef else arr.getD i undef := by
  intro G
  induction G with
  | nil => intro k arr _; refine ⟨rfl, fun i => ?_⟩; simp; intro Y Z; omega
  | cons v G ih =>
   intro k arr W
   have h0 := W 0 (by simp)
   simp only [List.zipIdx_cons, List.foldl_cons]
   obtain ⟨s1, s2⟩ := ih (k + 1) (arr.setIfInBounds (off + k) v) (fun j hj => by simp; have := W (j + 1) (by simp; omega); omega)
   refine ⟨by simpa using s1, fun i => ?_⟩
   rw [s2 i]
   by_cases Y : off + (k + 1) ≤ i ∧ i < off + (k + 1) + G.length
   ·rw [if_pos Y, if_pos (by simp; omega), show i - (off + k) = (i - (off + (k + 1))) + 1 by omega]
    simp [List.getD]
   ·rw [if_neg Y]
    by_cases Z : i = off + k
    ·subst Z
     rw [if_pos (by simp)]
     simp [Array.getD_eq_getD_getElem?, show off + k < arr.size by omega]
    ·rw [if_neg (by simp; omega)]
     simp [Array.getD_eq_getD_getElem?, Array.getElem?_setIfInBounds_ne (Ne.symm Z)]
 have M := X vs.toList 0 arr (fun j hj => by rw [ha.1]; have := hv.1; simp at hj; omega)
 have O : vs.zipIdx.foldl (fun c (x : Value × Nat) => c.setIfInBounds (off + x.2) x.1) arr = (vs.toList.zipIdx 0).foldl (fun c (x : Value × Nat) => c.setIfInBounds (off + x.2) x.1) arr := by
  rw [← Array.foldl_toList, Array.toList_zipIdx]
 rw [O]
 refine ⟨by rw [M.1, Ej]; exact ha.1, fun j x hx => ?_⟩
 rw [M.2 j]
 rcases Hk l off cs j x hx with ⟨q1, q2, q3⟩ | ⟨q1, q2⟩
 ·rw [if_pos (by simp [hv.1]; omega)]
  have := hv.2 _ _ q3
  rw [Array.getD_eq_getD_getElem?, ← Array.getElem?_toList] at this
  simpa [List.getD] using this
 ·rw [if_neg (by simp [hv.1]; omega)]
  exact ha.2 j x q2
def Fb (s : Ak) (G : Nat → Option (Nat × Nat)) : List T → List (Nat × Operand) → Option (List T)
 | l, [] => some l
 | l, (i, x) :: r =>
  match G i, (Aq s x).bind Dt with
  | some (off, size), some cs => bif Nat.beq cs.length size && Nat.ble (off + cs.length) l.length then Fb s G (Ev l off cs) r else none
  | _, _ => none
theorem Om {H : GH} {a : Act} {s : Ak} (r : SR n s H a) {G : Nat → Option (Nat × Nat)} : ∀ (O : List (Nat × Operand)) (l l' : List T) (arr : Array Value), AR H arr l → Fb s G l O = some l' →
  ∃ M, Instr.fill G arr (O.map fun p => (p.1, a.eval p.2)) = some M ∧ AR H M l' := by
 intro O
 induction O with
 | nil => intro l l' arr X h; simp only [Fb, Option.some.injEq] at h; subst h; exact ⟨arr, rfl, X⟩
 | cons p O ih =>
  intro l l' arr X h
  obtain ⟨i, x⟩ := p
  simp only [Fb] at h
  cases hp : G i with
  | none => simp [hp] at h
  | some q =>
   obtain ⟨aa, W⟩ := q
   cases hx : Aq s x with
   | none => simp [hp, hx] at h
   | some y =>
    cases hc : Dt y with
    | none => simp [hp, hx, hc] at h
    | some cs =>
     simp only [hp, hx, hc, Option.bind_some] at h
     cases hb : (Nat.beq cs.length W && Nat.ble (aa + cs.length) l.length) with
     | false => simp [hb] at h
     | true =>
      simp only [hb, cond_true] at h
      simp only [Bool.and_eq_true] at hb
      have Y := nq hb.1
      have Z := Nat.le_of_ble_eq_true hb.2
      have hv := F3 (r.eval hx) hc
      obtain ⟨M, h1, h2⟩ := ih _ l' _ (hv.fold X Z) h
      refine ⟨M, ?_, h2⟩
      simp only [List.map_cons, Instr.fill, hp]
      rw [if_neg (by simp [hv.1, Y, X.1]; omega)]
      exact h1
def Ef (z : Value) : List T := z.cells.toList.map T.v
theorem Sv {H : GH} {z : Value} (h1 : z.cells.toList.all (·.oneCell') = true) : AR H z.cells (Ef z) := by
 refine ⟨by simp [Ef], fun j x O => ?_⟩
 simp only [Ef, List.getElem?_map, Option.map_eq_some_iff] at O
 obtain ⟨v, M, rfl⟩ := O
 have G : z.cells.getD j undef = v := by
  rw [Array.getD_eq_getD_getElem?, ← Array.getElem?_toList, M]; rfl
 rw [G]
 exact ⟨List.all_eq_true.1 h1 v (mg M), .v v⟩
theorem AR.agg {H : GH} {arr : Array Value} {l : List T} (h : AR H arr l) : VR H (.agg arr) (.agg l) :=
 .agg _ _ h.1 (fun j x G => (h.2 j x G).1) (fun j x G => (h.2 j x G).2)
def Mq (E : Env) (fs : List (Nat × Nat)) (i : Nat) : Option (Nat × Nat) :=
 match fs[i]? with
 | some (off, t) => (E.tab t).map fun G => (off, G.size)
 | none => none
theorem Yp.build {t : TypeId} {G : Array (Nat × Operand)} {ti : TI} {fs : List (Nat × Nat)} {z : Value} {l : List T} {s : Ak}
  (ht : E.tab t = some ti) (hk : ti.kind = .struct fs) (hz : ti.zero = some z) (h1 : z.cells.toList.all (·.oneCell') = true) (O : fs.all (fun f => (E.tab f.2).isSome) = true)
  (hf : Fb s (Mq E fs) (Ef z) G.toList = some l) : Yp E.P n s ⟨dst, .build t G, ty, pos, aft, g⟩ (.agg l) := by
 intro H a r
 obtain ⟨W, u1, u2⟩ := Gv (E.ok _ _ ht) hk
 obtain ⟨Y, q1, q2⟩ := Om r G.toList _ _ _ (Sv (H := H) h1) hf
 refine ⟨.agg Y, q2.agg, fun w => ?_⟩
 have hpl : (W.mapM fun f => (do pure (f.offset, ← sizeOf f.type) : Sem (Nat × Nat))).run E.P w = .ok (W.map fun f => (f.offset, ((E.tab f.type).map (·.size)).getD 0)) w := by
  rw [Array.mapM_eq_mapM_toList]
  have Z : ∀ (l : List Field), (∀ f, f ∈ l → (E.tab f.type).isSome = true) →
    (l.mapM fun f => (do pure (f.offset, ← sizeOf f.type) : Sem (Nat × Nat))).run E.P w = .ok (l.map fun f => (f.offset, ((E.tab f.type).map (·.size)).getD 0)) w := by
   intro l
   induction l with
   | nil => intro _; simp
   | cons f l ih =>
    intro hl
    have hs := hl f (by simp)
    obtain ⟨fi, M⟩ := Option.isSome_iff_exists.1 hs
    have ih' := ih (fun f hf => hl f (by simp [hf]))
    simp only [List.mapM_cons, Sem.run_bind, Bl (E.ok _ _ M), Result.andThen_ok, Sem.run_pure, ih', M]
    simp [M]
  have := Z W.toList (fun f hf => by
   have hm : (f.offset, f.type) ∈ fs := by rw [← u2]; exact List.mem_map_of_mem hf
   exact List.all_eq_true.1 O _ hm)
  refine (Sem.run_map E.P w _ _).trans ?_
  rw [this]
  simp only [Result.andThen_ok]
  congr 1
  apply Array.ext'
  simp
 have hpe : (fun i => (W.map fun f => (f.offset, ((E.tab f.type).map (·.size)).getD 0))[i]?) = Mq E fs := by
  funext i
  simp only [Mq, ← u2, List.getElem?_map, Array.getElem?_map, Array.getElem?_toList]
  cases M : W[i]? with
  | none => simp
  | some f =>
   have hm : (f.offset, f.type) ∈ fs := by rw [← u2]; exact List.mem_map_of_mem (by simpa using Array.mem_of_getElem? M)
   obtain ⟨fi, X⟩ := Option.isSome_iff_exists.1 (List.all_eq_true.1 O _ hm)
   simp [X]
 simp only [execOp, Instr.build, Sem.run_bind, Dh (E.ok _ _ ht) w hz, Result.andThen_ok, run_underlying u1, hpl]
 rw [show ((G.map fun (x : Nat × Operand) => (x.1, a.eval x.2)).toList) = G.toList.map fun p => (p.1, a.eval p.2) by simp]
 rw [hpe, q1]
 rfl
structure Bld (E : Env) (t : TypeId) (pl : List (Nat × Nat)) (z : List T) : Prop where
 intro ::
 ex : ∃ ti fs zv, E.tab t = some ti ∧ ti.kind = .struct fs ∧ ti.zero = some zv ∧ zv.cells.toList.all (·.oneCell') = true ∧ fs.all (fun f => (E.tab f.2).isSome) = true ∧
  fs.map (fun f => (f.1, ((E.tab f.2).map (·.size)).getD 0)) = pl ∧ Ef zv = z
def Ud (pl : List (Nat × Nat)) (i : Nat) : Option (Nat × Nat) := pl[i]?
theorem Pf {fs : List (Nat × Nat)} (h : fs.all (fun f => (E.tab f.2).isSome) = true) : Mq E fs = Ud (fs.map fun f => (f.1, ((E.tab f.2).map (·.size)).getD 0)) := by
 funext i
 simp only [Mq, Ud, List.getElem?_map]
 cases hf : fs[i]? with
 | none => rfl
 | some f =>
  have := List.all_eq_true.1 h f (mg hf)
  obtain ⟨o, t⟩ := f
  cases ht : E.tab t with
  | none => simp [ht] at this
  | some ti => simp [ht]
theorem Bk {t : TypeId} {G : Array (Nat × Operand)} {pl : List (Nat × Nat)} {z l : List T} {s : Ak}
  (hb : Bld E t pl z) (hf : Fb s (Ud pl) z G.toList = some l) : Yp E.P n s ⟨dst, .build t G, ty, pos, aft, g⟩ (.agg l) := by
 obtain ⟨ti, Z, zv, O, W, X, Y, M, rfl, rfl⟩ := hb.ex
 exact Yp.build O W X Y M (by rw [Pf M]; exact hf)
def rows (sz : Nat) : Nat → List T → List (List T)
 | 0, _ => []
 | m + 1, l => l.take sz :: rows sz m (l.drop sz)
theorem D2 (sz : Nat) : ∀ (m : Nat) (l : List T), (rows sz m l).length = m
 | 0, _ => rfl
 | m + 1, l => by simp [rows, D2 sz m]
theorem Nz (sz : Nat) : ∀ (m : Nat) (l : List T), m * sz ≤ l.length → ∀ (i : Nat) (e : List T), (rows sz m l)[i]? = some e → e.length = sz ∧ ∀ (j : Nat) (x : T), e[j]? = some x → l[i * sz + j]? = some x
 | 0, _, _, i, e, h => by simp [rows] at h
 | m + 1, l, hl, i, e, h => by
  rw [Nat.succ_mul] at hl
  cases i with
  | zero =>
   simp only [rows, List.getElem?_cons_zero, Option.some.injEq] at h
   subst h
   refine ⟨by simp; omega, fun j x G => ?_⟩
   have W : j < sz := by
    have := (gs G).1
    simp at this; omega
   rw [List.getElem?_take_of_lt W] at G
   simpa using G
  | succ i =>
   simp only [rows, List.getElem?_cons_succ] at h
   obtain ⟨M, O⟩ := Nz sz m (l.drop sz) (by simp; omega) i e h
   refine ⟨M, fun j x G => ?_⟩
   have := O j x G
   rw [List.getElem?_drop] at this
   rw [Nat.succ_mul, show i * sz + sz + j = sz + (i * sz + j) by omega]; exact this
theorem OR.rows {H : GH} {w : World} {t : TypeId} {arr : Array Value} {l : List T} {b sz m : Nat} (h : w.heap[b]? = some (.cells arr t (0, 0))) (M : AR H arr l) (hl : l.length = m * sz) (O : m ≤ G6) :
  OR H w (.arr b t sz m (rows sz m l)) := by
 refine ⟨arr, h, by rw [M.1, hl], by rw [D2]; omega, by rw [D2]; exact O, fun i e G => (Nz sz m l (by omega) i e G).1, fun i e G j x W => ?_⟩
 exact M.2 _ _ ((Nz sz m l (by omega) i e G).2 j x W)
def Ja (z : List T) : Nat → List T
 | 0 => []
 | m + 1 => z ++ Ja z m
theorem E7 (z : List T) : ∀ m, (Ja z m).length = m * z.length
 | 0 => by simp [Ja]
 | m + 1 => by simp [Ja, E7 z m, Nat.succ_mul]; omega
theorem S1 (z : List T) : ∀ (m j : Nat) (x : T), (Ja z m)[j]? = some x → z[j % z.length]? = some x
 | 0, j, x, h => by simp [Ja] at h
 | m + 1, j, x, h => by
  simp only [Ja, List.getElem?_append] at h
  split at h
  ·rename_i G; rw [Nat.mod_eq_of_lt G]; exact h
  ·rename_i G
   have := S1 z m _ x h
   rwa [Nat.mod_eq_sub_mod (by omega)]
theorem Jz {H : GH} {z : Value} (h1 : z.cells.toList.all (·.oneCell') = true) (m : Nat) :
  AR H ((Array.range (m * z.cells.size)).map (z.cells[· % z.cells.size]!)) (Ja (Ef z) m) := by
 have hz := Sv (H := H) h1
 refine ⟨by simp [E7, Ef], fun j x X => ?_⟩
 have G := (gs X).1
 rw [E7] at G
 have W : (Ef z).length = z.cells.size := by simp [Ef]
 rw [W] at G
 have O : 0 < z.cells.size := by
  rcases Nat.eq_zero_or_pos z.cells.size with h | h
  ·rw [h] at G; simp at G
  ·exact h
 have := S1 _ _ _ _ X
 rw [W] at this
 have Y := hz.2 _ _ this
 have M := Nat.mod_lt j O
 have Z : ((Array.range (m * z.cells.size)).map (z.cells[· % z.cells.size]!)).getD j undef = z.cells.getD (j % z.cells.size) undef := by
  simp [Array.getD_eq_getD_getElem?, G, M]
 rw [Z]; exact Y
theorem AX.buildSlice {t : TypeId} {m : Nat} {G : Array (Nat × Operand)} {ti Z : TI} {e : Nat} {z : Value} {l : List T} {R : St → Prop} {sz : Nat} {es : List (List T)}
  (ht : E.tab t = some ti) (hk : ti.kind = .slice e) (he : E.tab e = some Z) (hz : Z.zero = some z) (h1 : z.cells.toList.all (·.oneCell') = true) (hsz : Z.size = sz) (hzs : z.cells.size = sz) (hb : Nat.ble (m * sz) 16777216 = true)
  (hm : Nat.ble m 16777216 = true) (hf : Fb σ.slots (fun i => some (i * sz, sz)) (Ja (Ef z) m) G.toList = some l) (hr : rows sz m l = es)
  (hd : ∀ d, dst = some d → d < n) (k : ∀ b, R ⟨D3 σ.slots dst (.v b), σ.objs ++ [.us b e sz es]⟩) :
  AX E n C [] ⟨dst, .buildSlice t m G, ty, pos, aft, g⟩ σ R := by
 refine AX.value fun H a w gm => ?_
 subst hr hzs
 have hmc := Jz (H := H) h1 m
 obtain ⟨M, q1, q2⟩ := Om gm.sr G.toList _ _ _ hmc hf
 have hbn := Nat.le_of_ble_eq_true hb
 have hll : l.length = m * z.cells.size := by
  have : ∀ (Y : List (Nat × Operand)) (X l : List T), Fb σ.slots (fun i => some (i * z.cells.size, z.cells.size)) X Y = some l → l.length = X.length := by
   intro Y
   induction Y with
   | nil => intro X l h; simp only [Fb, Option.some.injEq] at h; rw [h]
   | cons p Y ih =>
    intro X l h
    simp only [Fb] at h
    split at h
    ·rename_i off size cs h1 h2
     cases hb : (Nat.beq cs.length size && Nat.ble (off + cs.length) X.length) with
     | false => simp [hb] at h
     | true => simp only [hb, cond_true] at h; rw [ih _ _ h, Ej]
    ·simp at h
  rw [this _ _ _ hf, E7]; simp [Ef]
 have hor : OR H (w.alloc (.cells M e)) (.arr w.heap.size e z.cells.size m (rows z.cells.size m l)) :=
  OR.rows (heap_alloc_new w _) q2 hll (by have := Nat.le_of_ble_eq_true hm; simp [G6]; omega)
 refine ⟨.slice (some ⟨w.heap.size, 0, none⟩) m m, w.alloc (.cells M e), _, H, ?_, k (.slice (some ⟨w.heap.size, 0, none⟩) m m), ?_, fun _ _ h => h, ?_⟩
 ·have O : ((G.map fun (x : Nat × Operand) => (x.1, a.eval x.2)).toList) = G.toList.map fun p => (p.1, a.eval p.2) := by simp
  simp only [execOp, Instr.buildSlice, Sem.run_bind, run_underlying (Dk (E.ok _ _ ht) hk), Result.andThen_ok, Bl (E.ok _ _ he), hsz]
  rw [if_neg (by omega)]
  by_cases h0 : m * z.cells.size = 0
  ·rw [if_pos h0]
   have W : ∀ f : Nat → Value, (Array.range (m * z.cells.size)).map f = #[] := fun f => by rw [h0, Array.range_zero']; simp
   rw [W] at q1
   simp only [Sem.run_bind, Sem.run_pure, Result.andThen_ok, W, O, q1]
   simp [newRow]
  ·rw [if_neg h0]
   simp only [Sem.run_bind, Result.andThen_ok, Dh (E.ok _ _ he) w hz, Sem.run_pure, O, q1]
   simp [newRow]
 ·have := (gm.alloc (ob := .us (.slice (some ⟨w.heap.size, 0, none⟩) m m) e z.cells.size _) (.inr ⟨_, m, m, by simp [D2], by simp [D2], Nat.le_refl _, hor⟩) rfl).put (dst := dst) (.v (.slice (some ⟨w.heap.size, 0, none⟩) m m)) hd
  cases dst <;> exact this
 ·intro i p hp _
  exact ⟨D4 hp, fun b hb => heap_alloc_old w _ ((gm.objs p (mg hp)).lt b hb)⟩
def jY := @AX.buildSlice
theorem S0 (z : List T) : ∀ m, rows z.length m (Ja z m) = List.replicate m z
 | 0 => rfl
 | m + 1 => by simp [rows, Ja, List.replicate_succ, S0 z m]
theorem AX.makeSlice {t : TypeId} {x y : Operand} {k1 k2 : IntKind} {i : Int} {m : Nat} {ti Y : TI} {e : Nat} {z : Value} {R : St → Prop} {sz : Nat}
  (ht : E.tab t = some ti) (hk : ti.kind = .slice e) (he : E.tab e = some Y) (hz : Y.zero = some z) (h1 : z.cells.toList.all (·.oneCell') = true) (hsz : Y.size = sz) (ac : z.cells.size = sz)
  (hx : Aq σ.slots x = some (.v (.int k1 i))) (hy : Aq σ.slots y = some (.v (.int k2 i))) (hi : i = (m : Int)) (hm : m ≤ G6) (hb : (Y.bytes : Int) * (m : Int) ≤ 140737488355328)
  (hd : ∀ d, dst = some d → d < n) (k : ∀ b, R ⟨D3 σ.slots dst (.v b), σ.objs ++ [.us b e sz (List.replicate m (Ef z))]⟩) :
  AX E n C [] ⟨dst, .makeSlice t x y, ty, pos, aft, g⟩ σ R := by
 refine AX.value fun H a w Z => ?_
 subst hi ac
 obtain ⟨X, f1, f2, f3, f4, f5⟩ := G3 (E.ok _ _ he) w
 have hmm : m ≤ 140737488355328 := hm
 have G := run_make (P := E.P) w t e X z (Dk (E.ok _ _ ht) hk) f5 (by rw [f4]; exact hz) k1 k2 m m (by omega) (by omega) (by rw [f3]; omega) (by omega)
 have aa := Jz (H := H) h1 m
 have M : X.size = z.cells.size := by rw [f2, hsz]
 simp only [Int.toNat_natCast, madeCells, M] at G
 have O : OR H (w.alloc (.cells ((Array.range (m * z.cells.size)).map (z.cells[· % z.cells.size]!)) e)) (.arr w.heap.size e z.cells.size m (rows z.cells.size m (Ja (Ef z) m))) :=
  OR.rows (heap_alloc_new w _) aa (by rw [E7]; simp [Ef]) hm
 have ab : (Ef z).length = z.cells.size := by simp [Ef]
 have W := S0 (Ef z) m
 rw [ab] at W
 rw [W] at O
 refine ⟨.slice (some ⟨w.heap.size, 0, none⟩) m m, w.alloc (.cells ((Array.range (m * z.cells.size)).map (z.cells[· % z.cells.size]!)) e), _, H, ?_, k (.slice (some ⟨w.heap.size, 0, none⟩) m m), ?_, fun _ _ h => h, ?_⟩
 ·simp only [execOp, Z.sr.evalv hx, Z.sr.evalv hy, Sem.run_bind, G, Result.andThen_ok, Sem.run_pure]
 ·have := (Z.alloc (ob := .us (.slice (some ⟨w.heap.size, 0, none⟩) m m) e z.cells.size _) (.inr ⟨_, m, m, by simp [D2], by simp [D2], Nat.le_refl _, O⟩) rfl).put (dst := dst) (.v (.slice (some ⟨w.heap.size, 0, none⟩) m m)) hd
  cases dst <;> exact this
 ·intro i p hp _
  exact ⟨D4 hp, fun b hb => heap_alloc_old w _ ((Z.objs p (mg hp)).lt b hb)⟩
end
section
variable {E : Env} {n : Nat} {C : Ctx} {σ : St} {dst : Option Tmp} {ty : TypeId} {pos : String} {aft : Array Edge} {g : Option (Nat × Bool)}
def AppSrc (s : Ak) (objs : List Ob) (x : Operand) (sz : Nat) (es : List (List T)) : Prop :=
 ∀ n H a w, SR n s H a → WR objs H w → ∃ (O : Option Addr) (c : Nat) (G : List Value), a.eval x = .slice O es.length c ∧ G.length = es.length * sz ∧
  (∀ v, v ∈ G → v.oneCell' = true) ∧ (O = none → es = []) ∧ (∀ M, O = some M → ∀ j u, G[j]? = some u → w.cell? (M.add j) = some u) ∧
  (∀ (i : Nat) (e : List T), es[i]? = some e → e.length = sz ∧ ∀ (j : Nat) (x : T), e[j]? = some x → VR H (G.getD (i * sz + j) undef) x)
theorem Vc {cs : Array Value} {o m : Nat} (hsz : o + m ≤ cs.size) : (cs.toList.drop o |>.take m).length = m ∧ ∀ j, j < m → ((cs.toList.drop o).take m).getD j undef = cs.getD (o + j) undef ∧ ((cs.toList.drop o).take m)[j]? = cs[o + j]? := by
 refine ⟨by simp; omega, fun j G => ?_⟩
 have : ((cs.toList.drop o).take m)[j]? = cs[o + j]? := by
  rw [List.getElem?_take_of_lt G, List.getElem?_drop]; simp
 exact ⟨by simp [List.getD, this, Array.getD_eq_getD_getElem?], this⟩
theorem G5 {H : GH} {w : World} {b o : Nat} {cs : Array Value} {ty : TypeId} {fr : Nat × Nat} (hb : w.heap[b]? = some (.cells cs ty fr)) {sz : Nat} {es : List (List T)} (hsz : o + es.length * sz ≤ cs.size)
  (hel : ∀ (i : Nat) (e : List T), es[i]? = some e → e.length = sz)
  (h1 : ∀ (i : Nat) (e : List T), es[i]? = some e → ∀ (j : Nat) (x : T), e[j]? = some x → (cs.getD (o + i * sz + j) undef).oneCell' = true)
  (hv : ∀ (i : Nat) (e : List T), es[i]? = some e → ∀ (j : Nat) (x : T), e[j]? = some x → VR H (cs.getD (o + i * sz + j) undef) x) :
  ∃ news : List Value, news.length = es.length * sz ∧ (∀ v, v ∈ news → v.oneCell' = true) ∧ (∀ j u, news[j]? = some u → w.cell? ((⟨b, o, none⟩ : Addr).add j) = some u) ∧
   (∀ (i : Nat) (e : List T), es[i]? = some e → e.length = sz ∧ ∀ (j : Nat) (x : T), e[j]? = some x → VR H (news.getD (i * sz + j) undef) x) := by
 obtain ⟨Z, c2⟩ := Vc hsz
 have idx : ∀ (i : Nat) (e : List T), es[i]? = some e → ∀ (j : Nat) (x : T), e[j]? = some x → i * sz + j < es.length * sz := by
  intro i e G j x hx
  have hi := (gs G).1
  have hj := (gs hx).1
  rw [hel i e G] at hj
  have : (i + 1) * sz ≤ es.length * sz := Nat.mul_le_mul_right _ hi
  rw [Nat.succ_mul] at this; omega
 refine ⟨(cs.toList.drop o).take (es.length * sz), Z, ?_, ?_, ?_⟩
 ·intro v hvm
  obtain ⟨k, Y, G⟩ := List.getElem_of_mem hvm
  rw [Z] at Y
  have X : ((cs.toList.drop o).take (es.length * sz)).getD k undef = v := by
   simp [List.getD, gq (show k < ((cs.toList.drop o).take (es.length * sz)).length by rw [Z]; exact Y), G]
  rw [(c2 k Y).1] at X
  rcases Nat.eq_zero_or_pos sz with h0 | M
  ·subst h0; simp at Y
  ·have hd : k / sz < es.length := by rw [Nat.div_lt_iff_lt_mul M]; exact Y
   have O : es[k / sz]? = some es[k / sz] := gq hd
   have hm := Nat.mod_lt k M
   have W := hel _ _ O
   have hx' : es[k / sz][k % sz]? = some (es[k / sz][k % sz]'(by rw [W]; exact hm)) := gq _
   have := h1 _ _ O _ _ hx'
   have hdm := Nat.div_add_mod k sz
   rw [Nat.mul_comm] at hdm
   rw [show o + k / sz * sz + k % sz = o + k by omega, X] at this
   exact this
 ·intro j u hu
  have hj : j < es.length * sz := by have := (gs hu).1; rw [Z] at this; exact this
  rw [(c2 j hj).2] at hu
  rw [C4]
  simp [World.cell?, hb, hu]
 ·intro i e G
  refine ⟨hel i e G, fun j x hx => ?_⟩
  rw [(c2 _ (idx i e G j x hx)).1, ← Nat.add_assoc]
  exact hv i e G j x hx
theorem AppSrc.list {s : Ak} {objs : List Ob} {x : Operand} {sz : Nat} {es : List (List T)} (O : Aq s x = some (.list sz es)) : AppSrc s objs x sz es := by
 intro n H a w r wr
 have h := r.eval O
 generalize hv : a.eval x = v at h
 cases h with
 | empty ad cap sz => exact ⟨ad, cap, [], rfl, by simp, by simp, fun _ => rfl, by simp, by simp⟩
 | list b off cap sz es cs ty fr hb hcap hmax hsz hel h1 hvs =>
  obtain ⟨G, W, X, Y, Z⟩ := G5 (H := H) (wr.held _ _ hb) hsz hel h1 hvs
  exact ⟨some ⟨b, off, none⟩, cap, G, rfl, W, X, (by simp), (fun M h => by cases h; exact Y), Z⟩
theorem Vo {s : Ak} {objs : List Ob} {x : Operand} {sz : Nat} {es : List (List T)} (k : Nat) {v : Value} {Y : Nat} (G : Aq s x = some (.v v)) (hk : objs[k]? = some (.us v Y sz es)) :
  AppSrc s objs x sz es := by
 intro n H a w r wr
 have W : UsR H w v Y sz es := wr.objs _ (mg hk)
 rcases W with ⟨rfl, rfl⟩ | ⟨b, c, cap, rfl, p1, p2, cs, Z, a2, a3, a4, a5, X⟩
 ·exact ⟨none, 0, [], by rw [r.evalv G]; rfl, by simp, by simp, fun _ => rfl, by simp, by simp⟩
 ·have hle : es.length * sz ≤ cs.size := by rw [a2]; exact Nat.mul_le_mul_right _ a3
  obtain ⟨M, q1, q2, q3, q4⟩ := G5 (H := H) Z (o := 0) (by omega) a5 (fun i e O j x G => by simpa using (X i e O j x G).1) (fun i e O j x G => by simpa using (X i e O j x G).2)
  exact ⟨some ⟨b, 0, none⟩, c, M, by rw [r.evalv G], q1, q2, (by simp), (fun ad' h => by cases h; exact q3), q4⟩
theorem Hr {H : GH} {w : World} {b : Nat} {e : TypeId} {cs : Array Value} {sz cap : Nat} {es G : List (List T)} (hb : w.heap[b]? = some (.cells cs e (0, 0))) (W : cs.size = cap * sz) (hcap : es.length + G.length ≤ cap)
  (hmax : es.length + G.length ≤ G6) (hel : ∀ (i : Nat) (e : List T), es[i]? = some e → e.length = sz) (O : ∀ (i : Nat) (e : List T), G[i]? = some e → e.length = sz)
  (h1 : ∀ (i : Nat) (e : List T), es[i]? = some e → ∀ (j : Nat) (x : T), e[j]? = some x → CR H (cs.getD (i * sz + j) undef) x)
  (h2 : ∀ (i : Nat) (e : List T), G[i]? = some e → ∀ (j : Nat) (x : T), e[j]? = some x → CR H (cs.getD (es.length * sz + (i * sz + j)) undef) x) : ArrR H w b e sz cap (es ++ G) := by
 refine ⟨cs, hb, W, by simpa using hcap, by simpa using hmax, fun i e M => ?_, fun i e M j x X => ?_⟩
 ·rw [List.getElem?_append] at M
  split at M
  ·exact hel _ _ M
  ·exact O _ _ M
 ·rw [List.getElem?_append] at M
  split at M
  ·exact h1 i e M j x X
  ·rename_i Y
   have := h2 _ e M j x X
   rw [← Nat.add_assoc, ← Nat.add_mul, show es.length + (i - es.length) = i by omega] at this
   exact this
theorem N0 {news : List Value} (h : ∀ v, v ∈ news → v.oneCell' = true) {j : Nat} (G : j < news.length) : (news.getD j undef).oneCell' = true := by
 rw [List.getD, gq G]; exact h _ (List.getElem_mem G)
theorem Jd {es : List (List T)} {sz : Nat} (hel : ∀ (i : Nat) (e : List T), es[i]? = some e → e.length = sz) {i : Nat} {e : List T} (he : es[i]? = some e) {j : Nat} {x : T} (O : e[j]? = some x) : i * sz + j < es.length * sz := by
 have G := (gs he).1
 have M := (gs O).1
 rw [hel i e he] at M
 have : (i + 1) * sz ≤ es.length * sz := Nat.mul_le_mul_right _ G
 rw [Nat.succ_mul] at this; omega
theorem L4 {H : GH} {a : Act} {w : World} {objs : List Ob} {s : Ak} (r : SR n s H a) (wr : WR objs H w) {x : Operand} {t : TypeId} {ti ei : TI} {e sz : Nat} {z : Value} {es G : List (List T)} {v : Value}
  (ht : E.tab t = some ti) (hk : ti.kind = .slice e) (he : E.tab e = some ei) (hz : ei.zero = some z) (hsz : ei.size = sz) (hzs : z.cells.size = sz)
  (hs : UsR H w v e sz es) (hx : AppSrc s objs x sz G) (hmax : es.length + G.length ≤ G6) (hb : (es.length + G.length) * ei.bytes ≤ 140737488355328) :
  ∃ v' w', (Builtin.append_ #[t, t] ty #[v, a.eval x]).run E.P w = .ok v' w' ∧ UsR H w' v' e sz (es ++ G) ∧ (w'.os = w.os ∧ w'.tape = w.tape ∧ w'.output = w.output) ∧ w.heap.size ≤ w'.heap.size ∧
   (∀ i, i < w.heap.size → i ∉ Gq v → w'.heap[i]? = w.heap[i]?) ∧ ∀ b, b ∈ Gq v' → w.heap.size ≤ b ∨ b ∈ Gq v := by
 obtain ⟨ad, c, M, q1, q2, q3, q4, q5, q6⟩ := hx n H a w r wr
 have hmx : es.length + G.length ≤ 140737488355328 := hmax
 obtain ⟨inf, f1, f2, f3, f4, f5⟩ := G3 (E.ok _ _ he) w
 have Y : ∀ (i : Nat) (e : List T), G[i]? = some e → e.length = sz := fun i e he => (q6 i e he).1
 have aa := Dk (E.ok _ _ ht) hk
 rw [q1]
 rcases hs with ⟨rfl, rfl⟩ | ⟨b, cp, cap, rfl, p1, p2, W, a1, a2, a3, a4, a5, a6⟩
 ·simp only [List.length_nil, Nat.zero_add, List.nil_append] at *
  cases ad with
  | none =>
   have := q4 rfl
   subst this
   refine ⟨.slice none 0 0, w, ?_, .inl ⟨rfl, rfl⟩, ⟨rfl, rfl, rfl⟩, Nat.le_refl _, fun _ _ _ => rfl, by simp [Gq]⟩
   simp [Builtin.append_, run_underlying aa, sizeOf, typeInfo, f5, Builtin.lenOf, Builtin.firstCells]
  | some ad =>
   rcases Nat.eq_zero_or_pos G.length with h0 | h0
   ·have : G = [] := List.length_eq_zero_iff.1 h0
    subst this
    refine ⟨.slice none 0 0, w, ?_, .inl ⟨rfl, rfl⟩, ⟨rfl, rfl, rfl⟩, Nat.le_refl _, fun _ _ _ => rfl, by simp [Gq]⟩
    have hfc := run_firstCells_some (P := E.P) w inf.size 0 ad 0 c [] (by simp) (by simp)
    simp [Builtin.append_, run_underlying aa, sizeOf, typeInfo, f5, Builtin.lenOf, hfc]
   ·have Z := run_append_nil (P := E.P) w t ty e inf z aa f5 (by rw [f4]; exact hz) ad G.length c M (by rw [f2, hsz]; exact q2) (q5 ad rfl) h0 (by omega) (by rw [f3]; omega)
    have hge := grownCap_ge w G.length 0 e
    have hor : ArrR H (w.drew.alloc (.cells (M.toArray ++ Builtin.zeroCells z.cells (grownCap w G.length 0 e - G.length)) e)) w.heap.size e sz (grownCap w G.length 0 e) ([] ++ G) := by
     refine Hr (heap_alloc_new w.drew _) ?_ (by simpa using hge) (by simpa using hmax) (by simp) Y (by simp) ?_
     ·rw [Array.size_append, size_zeroCells, hzs]; simp only [List.size_toArray, q2]
      rw [← Nat.add_mul]; congr 1; omega
     ·intro i e' O j y hy
      have hlt := Jd Y O hy
      have hgd : (M.toArray ++ Builtin.zeroCells z.cells (grownCap w G.length 0 e - G.length)).getD (([] : List (List T)).length * sz + (i * sz + j)) undef = M.getD (i * sz + j) undef := by
       simp [Array.getD_eq_getD_getElem?, Array.getElem?_append, show i * sz + j < M.length by omega, List.getD]
      rw [hgd]
      exact ⟨N0 q3 (by omega), (q6 i e' O).2 j y hy⟩
    simp only [List.nil_append] at hor
    exact ⟨_, _, Z, .inr ⟨_, _, _, rfl, hge, Nat.le_refl _, hor⟩, ⟨rfl, rfl, rfl⟩, by show w.heap.size ≤ (w.heap.push _).size; simp, fun k hk _ => heap_alloc_old w.drew _ hk, by simp [Gq]⟩
 ·cases ad with
  | none =>
   have := q4 rfl
   subst this
   refine ⟨.slice (some ⟨b, 0, none⟩) es.length cp, w, ?_, .inr ⟨b, cp, cap, by simp, by simpa using p1, p2, W, a1, a2, by simpa using a3, by simpa using a4, by simpa using a5, by simpa using a6⟩, ⟨rfl, rfl, rfl⟩, Nat.le_refl _, fun _ _ _ => rfl, fun b hb => .inr hb⟩
   have h2 : es.length ≤ cp := p1
   simp [Builtin.append_, run_underlying aa, sizeOf, typeInfo, f5, Builtin.lenOf, Builtin.firstCells, h2, storeCells]
  | some ad =>
   by_cases hroom : es.length + G.length ≤ cp
   ·have hfit : es.length * sz + M.length ≤ W.size := by rw [q2, a2, ← Nat.add_mul]; exact Nat.mul_le_mul_right _ (by omega)
    have Z := run_append_room (P := E.P) w t ty e inf aa f5 b es.length cp W a1 ad G.length c M (by rw [f2, hsz]; exact q2) (q5 ad rfl) q3 hroom (by rw [f2, hsz]; exact hfit)
    rw [f2, hsz] at Z
    refine ⟨_, _, Z, .inr ⟨b, cp, cap, by simp, by simpa using hroom, p2, ?_⟩, ⟨rfl, rfl, rfl⟩, by rw [Fz]; exact Nat.le_refl _, fun k _ hk => setRow_other w b k _ (by simpa [Gq] using hk), fun b' hb' => .inr (by simpa [Gq] using hb')⟩
    refine Hr (setRow_heap w b W _ e _ a1) ?_ (by omega) hmax a5 Y ?_ ?_
    ·simp only [List.size_toArray, List.length_append, List.length_take, List.length_drop, Array.length_toList]
     omega
    ·intro i e' O j y hy
     have hlt := Jd a5 O hy
     rw [Gd hfit, if_neg (by omega)]
     exact a6 i e' O j y hy
    ·intro i e' O j y hy
     have hlt := Jd Y O hy
     rw [Gd hfit, if_pos (by omega), Nat.add_sub_cancel_left]
     exact ⟨N0 q3 (by omega), (q6 i e' O).2 j y hy⟩
   ·have X : (W.toList.take (es.length * sz)).length = es.length * sz := by
     have : es.length * sz ≤ W.size := by rw [a2]; exact Nat.mul_le_mul_right _ a3
     simp; omega
    have Z := run_append_grow (P := E.P) w t ty e inf z aa f5 (by rw [f4]; exact hz) ⟨b, 0, none⟩ es.length cp (W.toList.take (es.length * sz)) (by rw [f2, hsz]; exact X)
     (fun j u hu => by
      rw [C4]
      have hj : j < es.length * sz := by have := (gs hu).1; rw [X] at this; exact this
      rw [List.getElem?_take_of_lt hj] at hu
      simpa [World.cell?, a1] using hu)
     ad G.length c M (by rw [f2, hsz]; exact q2) (q5 ad rfl) (by omega) (by omega) (by rw [f3]; exact growslice_fits (by omega) hb)
    have hge := grownCap_ge w (es.length + G.length) cp e
    refine ⟨_, _, Z, .inr ⟨w.heap.size, _, grownCap w (es.length + G.length) cp e, by simp, by simpa using hge, Nat.le_refl _, ?_⟩, ⟨rfl, rfl, rfl⟩, by show w.heap.size ≤ (w.heap.push _).size; simp, fun k hk _ => heap_alloc_old w.drew _ hk, fun b' hb' => .inl (by simp [Gq] at hb'; omega)⟩
    refine Hr (heap_alloc_new w.drew _) ?_ hge hmax a5 Y ?_ ?_
    ·simp only [Array.size_append, size_zeroCells, hzs, List.size_toArray, X, q2]
     rw [← Nat.add_mul, ← Nat.add_mul]; congr 1; omega
    ·intro i e' O j y hy
     have hlt := Jd a5 O hy
     have hgd : ((W.toList.take (es.length * sz)).toArray ++ M.toArray ++ Builtin.zeroCells z.cells (grownCap w (es.length + G.length) cp e - (es.length + G.length))).getD (i * sz + j) undef = W.getD (i * sz + j) undef := by
      have hc : es.length * sz ≤ W.size := by rw [a2]; exact Nat.mul_le_mul_right _ a3
      simp only [Array.getD_eq_getD_getElem?, Array.getElem?_append, Array.size_append, List.size_toArray, X, List.getElem?_toArray]
      rw [if_pos (by omega), if_pos (by omega), List.getElem?_take_of_lt hlt]
      simp
     rw [hgd]
     exact a6 i e' O j y hy
    ·intro i e' O j y hy
     have hlt := Jd Y O hy
     have hgd : ((W.toList.take (es.length * sz)).toArray ++ M.toArray ++ Builtin.zeroCells z.cells (grownCap w (es.length + G.length) cp e - (es.length + G.length))).getD (es.length * sz + (i * sz + j)) undef = M.getD (i * sz + j) undef := by
      simp only [Array.getD_eq_getD_getElem?, Array.getElem?_append, Array.size_append, List.size_toArray, X, List.getElem?_toArray]
      rw [if_pos (by omega), if_neg (by omega), Nat.add_sub_cancel_left]
      rfl
     rw [hgd]
     exact ⟨N0 q3 (by omega), (q6 i e' O).2 j y hy⟩
theorem Gi (v : Value) : (Gq v).Nodup := by
 unfold Gq
 split <;> simp
theorem L1 {a : Act} {w w' : World} {s x : Operand} {t : TypeId} {v G : Value} (M : a.eval s = v) (h : (Builtin.append_ #[t, t] ty #[v, a.eval x]).run E.P w = .ok G w') :
  (execOp a.eval ⟨dst, .call { callee := .builtin .append, args := #[s, x], argTypes := #[t, t] }, ty, pos, aft, g⟩).run E.P w = .ok (.value G) w' := by
 simp only [execOp, resolve, invoke, builtin, Sem.run_bind, Sem.run_pure, Result.andThen_ok, List.map_toArray, List.map_cons, List.map_nil, M, h]
theorem I6 (ks : Nat) {s x : Operand} {t : TypeId} {ti Z : TI} {e sz : Nat} {z v : Value} {es G es' : List (List T)} {R : St → Prop}
  (ht : E.tab t = some ti) (hk : ti.kind = .slice e) (he : E.tab e = some Z) (hz : Z.zero = some z) (hsz : Z.size = sz) (hzs : z.cells.size = sz) (aa : Nat.ble Z.bytes 2048 = true)
  (hs : Aq σ.slots s = some (.v v)) (W : σ.objs[ks]? = some (.us v e sz es))
  (hx : AppSrc σ.slots σ.objs x sz G) (hb : es.length + G.length ≤ 68719476736) (ab : es ++ G = es')
  (hd : ∀ d, dst = some d → d < n)
  (k : ∀ M, R ⟨D3 σ.slots dst (.v M), σ.objs.set ks (.us M e sz es')⟩) :
  AX E n C [ks] ⟨dst, .call { callee := .builtin .append, args := #[s, x], argTypes := #[t, t] }, ty, pos, aft, g⟩ σ R := by
 subst ab
 refine AX.value fun H a w O => ?_
 have X := Nat.le_of_ble_eq_true aa
 obtain ⟨M, w', h1, h2, h3, h4, h5, h6⟩ := L4 (ty := ty) O.sr O.wr ht hk he hz hsz hzs (O.objs _ (mg W)) hx (by simp [G6]; omega) (Nat.le_trans (Nat.mul_le_mul hb X) (by decide))
 refine ⟨M, w', _, H, L1 (O.sr.evalv hs) h1, k M, ?_, fun _ _ h => h, fun i p hp hm => ?_⟩
 ·have := (O.set (o' := .us M e sz (es ++ G)) W h3 h4 h5 h2 h6 (Gi M)).put (dst := dst) (.v M) hd
  cases dst <;> exact this
 ·have Y : ks ≠ i := fun h => by subst h; simp at hm
  exact ⟨Fj hp Y, fun b hb => h5 b ((O.objs p (mg hp)).lt b hb) (O.apart W hp Y b hb)⟩
theorem Vp {s x : Operand} {t : TypeId} {ti X : TI} {e sz : Nat} {z : Value} {G es' : List (List T)} {R : St → Prop}
  (ht : E.tab t = some ti) (hk : ti.kind = .slice e) (he : E.tab e = some X) (hz : X.zero = some z) (hsz : X.size = sz) (aa : z.cells.size = sz) (Y : Nat.ble X.bytes 2048 = true)
  (hs : Aq σ.slots s = some (.v (.slice none 0 0)))
  (hx : AppSrc σ.slots σ.objs x sz G) (hb : G.length ≤ 68719476736) (Z : G = es')
  (hd : ∀ d, dst = some d → d < n)
  (k : ∀ M, R ⟨D3 σ.slots dst (.v M), σ.objs ++ [.us M e sz es']⟩) :
  AX E n C [] ⟨dst, .call { callee := .builtin .append, args := #[s, x], argTypes := #[t, t] }, ty, pos, aft, g⟩ σ R := by
 subst Z
 refine AX.value fun H a w O => ?_
 have W := Nat.le_of_ble_eq_true Y
 obtain ⟨M, w', h1, h2, h3, h4, h5, h6⟩ := L4 (ty := ty) (es := []) O.sr O.wr ht hk he hz hsz aa (.inl ⟨rfl, rfl⟩) hx (by simp [G6]; omega) (Nat.le_trans (Nat.mul_le_mul (by simpa using hb) W) (by decide))
 simp only [List.nil_append] at h2
 refine ⟨M, w', _, H, L1 (O.sr.evalv hs) h1, k M, ?_, fun _ _ h => h, fun i p hp hm => ?_⟩
 ·have := (O.more (ob := .us M e sz G) h3 h4 (fun i hi => h5 i hi (by simp [Gq])) h2 (fun b hb => (h6 b hb).resolve_right (by simp [Gq])) (Gi M)).put (dst := dst) (.v M) hd
  cases dst <;> exact this
 ·exact ⟨D4 hp, fun b hb => h5 b ((O.objs p (mg hp)).lt b hb) (by simp [Gq])⟩
theorem iF {H : GH} {a : Act} {w : World} (O : Gam n C σ H a w) {k : Nat} {o : Ob} (hk : σ.objs[k]? = some o) :
  ∃ H', (∀ b o, H b = some o → H' b = some o) ∧ Gam n C ⟨σ.slots, σ.objs.eraseIdx k⟩ H' a w ∧ (∀ b, b ∈ o.fp → H' b = w.heap[b]?) ∧ OR H' w o := by
 have hm := mg hk
 have Z := O.free _ hm
 have hnew := O.new _ hm
 have G : ∀ M x, H M = some x → (if M ∈ o.fp then w.heap[M]? else H M) = some x := by
  intro M x Y
  by_cases X : M ∈ o.fp
  ·rw [Z M X] at Y; cases Y
  ·simp [X, Y]
 refine ⟨fun M => if M ∈ o.fp then w.heap[M]? else H M, G, ?_, fun b X => by simp [X], (O.objs _ hm).mono G (fun _ _ => rfl)⟩
 have W : ∀ p, p ∈ σ.objs.eraseIdx k → p ∈ σ.objs ∧ ∀ b, b ∈ p.fp → b ∉ o.fp := by
  intro p hp
  obtain ⟨i, hi⟩ := List.mem_iff_getElem?.1 hp
  rw [List.getElem?_eraseIdx] at hi
  split at hi
  ·rename_i hik
   exact ⟨mg hi, O.apart hk hi (by omega)⟩
  ·rename_i hik
   exact ⟨mg hi, O.apart hk hi (by omega)⟩
 refine ⟨O.defers.mono G, O.size, fun i x h => (O.slots i x h).mono G, fun p hp => (O.objs p (W p hp).1).mono G (fun _ _ => rfl), fun p hp b X => ?_, fun p hp => O.new p (W p hp).1, ?_, ?_, ?_, O.heap, ?_, O.env⟩
 ·obtain ⟨h1, h2⟩ := W p hp
  simp [h2 b X, O.free p h1 b X]
 ·exact (Dc (List.eraseIdx_sublist σ.objs k)).nodup O.nodup
 ·intro M x Y
  by_cases X : M ∈ o.fp
  ·simpa [X] using Y
  ·simp [X] at Y; exact O.held _ _ Y
 ·intro M x Y; exact G _ _ (O.grow _ _ Y)
 ·intro M hb' hf
  obtain ⟨h1, h2⟩ := O.frame M hb' hf
  refine ⟨h1, ?_⟩
  have : M ∉ o.fp := fun h => by rcases hnew M h with h | h; omega; exact hf h
  simp [this, h2]
theorem ArrR.list {H : GH} {w : World} {b W sz cap : Nat} {es : List (List T)} (h : ArrR H w b W sz cap es) (hb : H b = w.heap[b]?) {c : Nat} (hc : es.length ≤ c) : VR H (.slice (some ⟨b, 0, none⟩) es.length c) (.list sz es) := by
 obtain ⟨cs, X, Y, Z, a4, a5, O⟩ := h
 refine .list b 0 c sz es cs W (0, 0) (hb.trans X) hc a4 ?_ a5 (fun i e G j x M => by simpa using (O i e G j x M).1) (fun i e G j x M => by simpa using (O i e G j x M).2)
 rw [Y, Nat.zero_add]; exact Nat.mul_le_mul_right _ Z
theorem UsR.list {H : GH} {w : World} {v : Value} {W sz : Nat} {es : List (List T)} (h : UsR H w v W sz es) (hb : ∀ b, b ∈ Gq v → H b = w.heap[b]?) : VR H v (.list sz es) := by
 rcases h with ⟨rfl, rfl⟩ | ⟨b, c, G, rfl, M, X, O⟩
 ·exact .empty _ _ _
 ·exact O.list (hb b (by simp [Gq])) M
def Fq (szi : Nat) (L : List (List (List T))) : List (List T) := L.map fun es => [.list szi es]
theorem Xp {H : GH} {w : World} {v : Value} {ty tyi szi : Nat} {vs : List Value} {L : List (List (List T))} (h : OR H w (.uss v ty tyi szi vs (L.map some))) (hb : ∀ b, b ∈ (Ob.uss v ty tyi szi vs (L.map some)).fp → H b = w.heap[b]?) : VR H v (.list 1 (Fq szi L)) := by
 obtain ⟨h0, h1, h2⟩ := h
 have O : vs.length = L.length := by simpa using h0
 rcases h1 with ⟨rfl, h1⟩ | ⟨b, c, cap, rfl, p1, p2, cs, a1, a2, a3, a4, a5, a6⟩
 ·have : vs = [] := by simpa using h1
  subst this
  have : L = [] := List.length_eq_zero_iff.1 (by simpa using O.symm)
  subst this
  exact .empty _ _ _
 ·have hl : (Fq szi L).length = (vs.map fun x => [T.v x]).length := by simp [Fq, O]
  rw [← hl]
  have X : ∀ (i : Nat) (e : List T), (Fq szi L)[i]? = some e → ∃ x G, e = [.list szi G] ∧ vs[i]? = some x ∧ VR H x (.list szi G) ∧ cs.getD (i * 1) undef = x ∧ x.oneCell' = true := by
   intro i e M
   simp only [Fq, List.getElem?_map, Option.map_eq_some_iff] at M
   obtain ⟨G, Y, rfl⟩ := M
   have hil := (gs Y).1
   have hx : vs[i]? = some vs[i] := gq (by omega)
   have hL : (L.map some)[i]? = some (some G) := by simp [Y]
   have hu := h2 i _ G hx hL
   have W := a6 i [T.v vs[i]] (by simp [hx]) 0 (T.v vs[i]) rfl
   simp only [Nat.add_zero] at W
   refine ⟨_, G, rfl, hx, hu.list (fun b' hb' => hb b' (by simp [Ob.fp, H5 hx hL b' hb'])), W.2.v_eq, ?_⟩
   rw [← W.2.v_eq]; exact W.1
  refine .list b 0 c 1 (Fq szi L) cs ty (0, 0) ((hb b (by simp [Ob.fp, Gq])).trans a1) (by rw [hl]; exact p1) (by rw [hl]; exact a4) ?_ ?_ ?_ ?_
  ·rw [a2, Nat.zero_add]; rw [hl]; exact Nat.mul_le_mul_right _ a3
  ·intro i e M; obtain ⟨x, G, rfl, _⟩ := X i e M; rfl
  ·intro i e M j y Z
   obtain ⟨x, G, rfl, h3, h4, h5, W⟩ := X i e M
   cases j with
   | zero => simp only [Nat.zero_add, Nat.add_zero]; rw [h5]; exact W
   | succ j => simp at Z
  ·intro i e M j y Z
   obtain ⟨x, G, rfl, h3, h4, h5, W⟩ := X i e M
   cases j with
   | zero => simp only [Nat.zero_add, Nat.add_zero]; rw [h5]; simp at Z; subst Z; exact h4
   | succ j => simp at Z
def ACalls (E : Env) (f : FuncId) (X : List T) (fp : List Ob) (R : T → List Ob → Prop) : Prop :=
 (∃ O, E.P.funcs[f]? = some O ∧ (O.name == "runtime.NumGoroutine") = false ∧ O.body.isNone = false) ∧
 ∀ (H : GH) (w : World) (W : Array Value), W.size = X.length → (∀ (i : Nat) (x : T), X[i]? = some x → VR H (W.getD i undef) x) → ((∀ b o, H b = some o → w.heap[b]? = some o) ∧ dT H) →
  (∀ p, p ∈ fp → OR H w p ∧ ∀ b, b ∈ p.fp → H b = none) → (fp.flatMap Ob.fp).Nodup →
  Calls E.P f W w fun e M => ∃ v x G H', e = .returned v ∧ R x G ∧ VR H' v x ∧ (∀ b o, H b = some o → H' b = some o) ∧ (∀ b o, H' b = some o → M.heap[b]? = some o) ∧
   (∀ p, p ∈ G → OR H' M p ∧ ∀ b, b ∈ p.fp → H' b = none ∧ (w.heap.size ≤ b ∨ b ∈ fp.flatMap Ob.fp)) ∧ (G.flatMap Ob.fp).Nodup ∧ w.heap.size ≤ M.heap.size ∧
   (M.os = w.os ∧ M.tape = w.tape ∧ M.output = w.output) ∧ ∀ b, b < w.heap.size → b ∉ fp.flatMap Ob.fp → M.heap[b]? = w.heap[b]? ∧ H' b = H b
theorem ACalls.mono {f : FuncId} {M : List T} {fp : List Ob} {R R' : T → List Ob → Prop} (h : ACalls E f M fp R) (hr : ∀ x G, R x G → R' x G) : ACalls E f M fp R' :=
 ⟨h.1, fun H w vs O W X Y Z => (h.2 H w vs O W X Y Z).mono fun e w' ⟨v, x, G, H', q1, q2, q⟩ => ⟨v, x, G, H', q1, hr _ _ q2, q⟩⟩
def E4 (s : Ak) : List Operand → Option (List T)
 | [] => some []
 | x :: l => match Aq s x, E4 s l with
  | some y, some ys => some (y :: ys)
  | _, _ => none
theorem Fv {s : Ak} {H : GH} {a : Act} (r : SR n s H a) : ∀ {l : List Operand} {G : List T}, E4 s l = some G → (l.map a.eval).length = G.length ∧ ∀ (i : Nat) (y : T), G[i]? = some y → VR H ((l.map a.eval).getD i undef) y
 | [], G, h => by simp only [E4, Option.some.injEq] at h; subst h; simp
 | x :: l, G, h => by
  simp only [E4] at h
  split at h
  ·rename_i y Z O W
   simp only [Option.some.injEq] at h
   subst h
   obtain ⟨X, Y⟩ := Fv r W
   refine ⟨by simpa using X, fun i z M => ?_⟩
   cases i with
   | zero => simp at M; subst M; simpa using r.eval O
   | succ i =>
    simp only [List.getElem?_cons_succ] at M
    simpa using Y i z M
  ·simp at h
theorem P9 {H : GH} (l : List Value) : ∀ (i : Nat) (y : T), (l.map T.v)[i]? = some y → VR H (l.getD i undef) y := by
 intro i y h
 simp only [List.getElem?_map, Option.map_eq_some_iff] at h
 obtain ⟨v, G, rfl⟩ := h
 simp [List.getD, G]
 exact .v v
theorem VR.app {H : GH} {M W : List Value} {O X : List T} (hl : M.length = O.length) (h1 : ∀ (i : Nat) (y : T), O[i]? = some y → VR H (M.getD i undef) y) (h2 : ∀ (i : Nat) (y : T), X[i]? = some y → VR H (W.getD i undef) y) :
  ∀ (i : Nat) (y : T), (O ++ X)[i]? = some y → VR H ((M ++ W).getD i undef) y := by
 intro i y h
 rw [List.getElem?_append] at h
 split at h
 ·rename_i G
  have := h1 i y h
  simpa [List.getD, List.getElem?_append, hl, G] using this
 ·rename_i G
  have := h2 _ y h
  simpa [List.getD, List.getElem?_append, hl, G] using this
theorem Gam.called {H H' : GH} {a : Act} {w w' : World} (G : Gam n C σ H a w) {fp fp' objs : List Ob} (hfp : ∀ p, p ∈ fp → p ∈ σ.objs)
  (hH : ∀ b o, H b = some o → H' b = some o) (Y : ∀ b o, H' b = some o → w'.heap[b]? = some o)
  (X : ∀ p, p ∈ fp' → OR H' w' p ∧ ∀ b, b ∈ p.fp → H' b = none ∧ (w.heap.size ≤ b ∨ b ∈ fp.flatMap Ob.fp)) (hsz : w.heap.size ≤ w'.heap.size) (W : w'.os = w.os ∧ w'.tape = w.tape ∧ w'.output = w.output)
  (hfr : ∀ b, b < w.heap.size → b ∉ fp.flatMap Ob.fp → w'.heap[b]? = w.heap[b]? ∧ H' b = H b)
  (M : ∀ p, p ∈ objs → p ∈ fp' ∨ (p ∈ σ.objs ∧ ∀ b, b ∈ p.fp → b ∉ fp.flatMap Ob.fp)) (hnd : (objs.flatMap Ob.fp).Nodup) : Gam n C ⟨σ.slots, objs⟩ H' a w' := by
 have hold : ∀ p, p ∈ σ.objs → (∀ b, b ∈ p.fp → b ∉ fp.flatMap Ob.fp) → ∀ b, b ∈ p.fp → w'.heap[b]? = w.heap[b]? ∧ H' b = H b := fun p Z hn b O => hfr b ((G.objs p Z).lt b O) (hn b O)
 refine ⟨G.defers.mono hH, G.size, fun i x h => (G.slots i x h).mono hH, ?_, ?_, ?_, hnd, Y, fun b o h => hH _ _ (G.grow _ _ h), Nat.le_trans G.heap hsz, ?_, ⟨W.1.trans G.env.1, W.2.1.trans G.env.2.1, W.2.2.trans G.env.2.2⟩⟩
 ·intro p Z
  rcases M p Z with h | ⟨h, hn⟩
  ·exact (X p h).1
  ·exact (G.objs p h).mono hH (fun b O => (hold p h hn b O).1)
 ·intro p Z b O
  rcases M p Z with h | ⟨h, hn⟩
  ·exact ((X p h).2 b O).1
  ·rw [(hold p h hn b O).2]; exact G.free p h b O
 ·intro p Z b O
  rcases M p Z with h | ⟨h, hn⟩
  ·rcases ((X p h).2 b O).2 with h | h
   ·exact .inl (Nat.le_trans G.heap h)
   ·obtain ⟨q, hq, he⟩ := List.mem_flatMap.1 h
    exact G.new q (hfp q hq) b he
  ·exact G.new p h b O
 ·intro b O hf
  have hbn : b ∉ fp.flatMap Ob.fp := fun h => by
   obtain ⟨q, hq, he⟩ := List.mem_flatMap.1 h
   rcases G.new q (hfp q hq) b he with h | h
   ·omega
   ·exact hf h
  obtain ⟨h1, h2⟩ := hfr b (Nat.lt_of_lt_of_le O G.heap) hbn
  obtain ⟨h3, h4⟩ := G.frame b O hf
  exact ⟨h1.trans h3, h2.trans h4⟩
def C0 (objs : List Ob) : List Nat → Option (List Ob)
 | [] => some []
 | k :: ks => match objs[k]?, C0 objs ks with
  | some o, some l => some (o :: l)
  | _, _ => none
def Eo (objs : List Ob) : List Nat → List Ob → List Ob
 | k :: ks, o :: os => Eo (objs.set k o) ks os
 | _, _ => objs
theorem F0 {objs : List Ob} : ∀ {ks : List Nat} {fp : List Ob}, C0 objs ks = some fp → fp.length = ks.length ∧ (∀ (i : Nat) (k : Nat), ks[i]? = some k → ∃ o, objs[k]? = some o ∧ fp[i]? = some o)
 | [], fp, h => by simp only [C0, Option.some.injEq] at h; subst h; simp
 | k :: ks, fp, h => by
  simp only [C0] at h
  split at h
  ·rename_i o l M O
   simp only [Option.some.injEq] at h
   subst h
   obtain ⟨X, Y⟩ := F0 O
   refine ⟨by simp [X], fun i W G => ?_⟩
   cases i with
   | zero => simp at G; subst G; exact ⟨o, M, rfl⟩
   | succ i => simpa using Y i W (by simpa using G)
  ·cases h
theorem Lw : ∀ {ks : List Nat} {os : List Ob} (objs : List Ob), os.length = ks.length → ks.Nodup → (∀ k, k ∈ ks → k < objs.length) →
  (Eo objs ks os).length = objs.length ∧ (∀ (i : Nat) (k : Nat), ks[i]? = some k → (Eo objs ks os)[k]? = os[i]?) ∧ ∀ k, k ∉ ks → (Eo objs ks os)[k]? = objs[k]?
 | [], os, objs, h, _, _ => by simp [Eo]
 | k :: ks, [], objs, h, _, _ => by simp at h
 | k :: ks, o :: os, objs, h, hn, hl => by
  rw [List.nodup_cons] at hn
  obtain ⟨W, X, O⟩ := Lw (ks := ks) (os := os) (objs.set k o) (by simpa using h) hn.2 (fun M G => by simpa using hl M (by simp [G]))
  simp only [Eo]
  refine ⟨by simpa using W, fun i M G => ?_, fun M G => ?_⟩
  ·cases i with
   | zero =>
    simp at G; subst G
    rw [O k hn.1, List.getElem?_set_self (hl k (by simp))]; rfl
   | succ i => simpa using X i M (by simpa using G)
  ·simp only [List.mem_cons, not_or] at G
   rw [O M G.2, List.getElem?_set_ne (Ne.symm G.1)]
theorem Dm {l : List Ob} : (l.flatMap Ob.fp).Nodup ↔ (∀ (i : Nat) (p : Ob), l[i]? = some p → p.fp.Nodup) ∧ ∀ (i j : Nat) (p q : Ob), l[i]? = some p → l[j]? = some q → i ≠ j → ∀ b, b ∈ p.fp → b ∉ q.fp := by
 constructor
 ·intro h
  refine ⟨fun i p G => ?_, fun i j p q G O W b M => Pp h G O W b M⟩
  obtain ⟨l1, l2, rfl, _⟩ := Jv G
  rw [List.flatMap_append, List.flatMap_cons, List.nodup_append, List.nodup_append] at h
  exact h.2.1.1
 ·rintro ⟨Y, Z⟩
  induction l with
  | nil => simp
  | cons a l ih =>
   rw [List.flatMap_cons, List.nodup_append]
   refine ⟨Y 0 a rfl, ih (fun i p G => Y (i + 1) p (by simpa using G)) (fun i j p q G O W b M => Z (i + 1) (j + 1) p q (by simpa using G) (by simpa using O) (by omega) b M), ?_⟩
   intro x hx y hy X
   subst X
   obtain ⟨q, hq, M⟩ := List.mem_flatMap.1 hy
   obtain ⟨j, O⟩ := List.mem_iff_getElem?.1 hq
   exact Z 0 (j + 1) a q rfl (by simpa using O) (by omega) x hx M
def I9 : T → Option (FuncId × List T × List T)
 | .v (.func (.func f) first captured) => some (f, first.toList.map T.v, captured.toList.map T.v)
 | .fn f first caps => some (f, first, caps)
 | _ => none
theorem Tg {H : GH} {v : Value} {y : T} {f : FuncId} {O W : List T} (h : VR H v y) (hf : I9 y = some (f, O, W)) :
  ∃ vf vc : Array Value, v = .func (.func f) vf vc ∧ vf.size = O.length ∧ vc.size = W.length ∧ (∀ (i : Nat) (x : T), O[i]? = some x → VR H (vf.toList.getD i undef) x) ∧
   (∀ (i : Nat) (x : T), W[i]? = some x → VR H (vc.toList.getD i undef) x) := by
 have conv : ∀ (M : Array Value) (i : Nat), M.getD i undef = M.toList.getD i undef := fun M i => by
  simp [Array.getD_eq_getD_getElem?, List.getD]
 cases h with
 | v x =>
  unfold I9 at hf
  split at hf
  ·rename_i Z first G X
   simp only [Option.some.injEq, Prod.mk.injEq] at hf
   obtain ⟨rfl, rfl, rfl⟩ := hf
   cases X
   exact ⟨first, G, rfl, by simp, by simp, P9 first.toList, P9 G.toList⟩
  ·rename_i X; cases X
  ·simp at hf
 | fn Z vf vc fs cs h1 h2 h3 h4 =>
  simp only [I9, Option.some.injEq, Prod.mk.injEq] at hf
  obtain ⟨rfl, rfl, rfl⟩ := hf
  exact ⟨vf, vc, rfl, h1, h2, fun i x Y => by rw [← conv]; exact h3 i x Y, fun i x Y => by rw [← conv]; exact h4 i x Y⟩
 | _ => simp [I9] at hf
theorem AX.call {md : List Nat} {c : Operand} {args : Array Operand} {aa : Array TypeId} {f : FuncId} {Y Z xs ys : List T} {fp : List Ob} {Rc : T → List Ob → Prop} {R : St → Prop}
  (hc : (Aq σ.slots c).bind I9 = some (f, Y, Z)) (hx : E4 σ.slots args.toList = some xs) (ah : Y ++ xs ++ Z = ys)
  (h : ACalls E f ys fp Rc) (W : ∀ p, p ∈ fp → p ∈ σ.objs) (ag : (fp.flatMap Ob.fp).Nodup) (hd : ∀ d, dst = some d → d < n)
  (k : ∀ H a w H' w' v x M, Gam n C σ H a w → Rc x M → VR H' v x → (∀ b o, H b = some o → H' b = some o) → (∀ b o, H' b = some o → w'.heap[b]? = some o) →
   (∀ p, p ∈ M → OR H' w' p ∧ ∀ b, b ∈ p.fp → H' b = none ∧ (w.heap.size ≤ b ∨ b ∈ fp.flatMap Ob.fp)) → (M.flatMap Ob.fp).Nodup → w.heap.size ≤ w'.heap.size → (w'.os = w.os ∧ w'.tape = w.tape ∧ w'.output = w.output) →
   (∀ b, b < w.heap.size → b ∉ fp.flatMap Ob.fp → w'.heap[b]? = w.heap[b]? ∧ H' b = H b) →
   ∃ objs, R ⟨D3 σ.slots dst x, objs⟩ ∧ Gam n C ⟨σ.slots, objs⟩ H' a w' ∧ ∀ i p, σ.objs[i]? = some p → md.contains i = false → objs[i]? = some p ∧ ∀ b, b ∈ p.fp → w'.heap[b]? = w.heap[b]?) :
  AX E n C md ⟨dst, .call { callee := .value c, args := args, argTypes := aa }, ty, pos, aft, g⟩ σ R := by
 intro H a w O
 subst ah
 obtain ⟨⟨fn, f1, f2, f3⟩, h⟩ := h
 obtain ⟨k1, k2⟩ := Fv O.sr hx
 obtain ⟨y, hy, ae⟩ := Option.bind_eq_some_iff.1 hc
 obtain ⟨first, G, ad, z1, z2, z3, z4⟩ := Tg (O.sr.eval hy) ae
 have X : (execOp a.eval ⟨dst, .call { callee := .value c, args := args, argTypes := aa }, ty, pos, aft, g⟩).run E.P w = .ok (.enter f (first ++ args.map a.eval ++ G)) w := by
  have ab : ¬ fn.name = "runtime.NumGoroutine" := by simpa using f2
  have ac : ¬ fn.body = none := by
   intro hb; rw [hb] at f3; simp at f3
  simp [execOp, resolve, ad, Deferred.ofValue, invoke, callFunc, f1, ab, ac]
 simp only [Oper.wp, X, Oper.upon]
 have hl : (first ++ args.map a.eval ++ G).toList = first.toList ++ args.toList.map a.eval ++ G.toList := by simp
 refine (h H w (first ++ args.map a.eval ++ G) ?_ ?_ ⟨O.held, fun b l h => (C.hg b l h).mono O.grow⟩ (fun p hp => ⟨O.objs p (W p hp), O.free p (W p hp)⟩) ag).mono ?_
 ·rw [← Array.length_toList, hl]; simp at k1 ⊢; omega
 ·intro i x af
  rw [Array.getD_eq_getD_getElem?, ← Array.getElem?_toList, hl]
  have := VR.app (H := H) (by simp at k1 ⊢; omega) (VR.app (H := H) (by simp; omega) z3 k2) z4 i x af
  simpa [List.getD] using this
 ·rintro e w' ⟨v, x, M, H', rfl, q2, q3, q4, q5, q6, q7, q8, ai, q9⟩
  obtain ⟨objs, r1, r2, r3⟩ := k H a w H' w' v x M O q2 q3 q4 q5 q6 q7 q8 ai q9
  refine ⟨_, H', v, r1, ?_, rfl, q4, r3⟩
  have := r2.put (dst := dst) q3 hd
  cases dst <;> exact this
theorem Tp (ks : List Nat) {c : Operand} {args : Array Operand} {tys : Array TypeId} {f : FuncId} {pre suf xs ys : List T} {fp : List Ob} {Rc : T → List Ob → List Ob → Prop} {R : St → Prop}
  (hc : (Aq σ.slots c).bind I9 = some (f, pre, suf)) (hx : E4 σ.slots args.toList = some xs) (hys : pre ++ xs ++ suf = ys)
  (hk : C0 σ.objs ks = some fp) (hkn : ks.Nodup) (h : ACalls E f ys fp (fun x fp' => ∃ os new, fp' = os ++ new ∧ os.length = fp.length ∧ Rc x os new)) (hd : ∀ d, dst = some d → d < n)
  (k : ∀ x os new, os.length = fp.length → Rc x os new → R ⟨D3 σ.slots dst x, Eo σ.objs ks os ++ new⟩) :
  AX E n C ks ⟨dst, .call { callee := .value c, args := args, argTypes := tys }, ty, pos, aft, g⟩ σ R := by
 obtain ⟨p1, p2⟩ := F0 hk
 have ab : ∀ p, p ∈ fp → ∃ (i k : Nat), fp[i]? = some p ∧ ks[i]? = some k ∧ σ.objs[k]? = some p := by
  intro p hp
  obtain ⟨i, G⟩ := List.mem_iff_getElem?.1 hp
  have aa := (gs G).1
  obtain ⟨o, h1, Z⟩ := p2 i ks[i] (gq (by omega))
  rw [G] at Z
  cases Z
  exact ⟨i, ks[i], G, gq (by omega), h1⟩
 have hfpm : ∀ p, p ∈ fp → p ∈ σ.objs := fun p hp => by obtain ⟨i, k, _, _, h⟩ := ab p hp; exact mg h
 refine fun H a w gm => AX.call (md := ks) hc hx hys h hfpm ?_ hd ?_ H a w gm
 ·refine Dm.2 ⟨fun i p G => ?_, fun i j p q G hj hne b X => ?_⟩
  ·obtain ⟨_, k, _, _, hk⟩ := ab p (mg G)
   exact (Dm.1 gm.nodup).1 k p hk
  ·have aa := (gs G).1
   have hjl := (gs hj).1
   obtain ⟨o, h1, Z⟩ := p2 i ks[i] (gq (by omega))
   obtain ⟨o', h1', h2'⟩ := p2 j ks[j] (gq (by omega))
   rw [G] at Z; cases Z
   rw [hj] at h2'; cases h2'
   refine Pp gm.nodup h1 h1' (fun he => hne ?_) b X
   exact (List.getElem?_inj (by omega) hkn).1 (by rw [gq (by omega), gq (by omega), he])
 ·rintro H a w H' w' v x fp' gm ⟨os, new, rfl, hol, q2⟩ q3 q4 q5 q6 q7 q8 q10 q9
  have hlt : ∀ k, k ∈ ks → k < σ.objs.length := by
   intro k hk
   obtain ⟨i, G⟩ := List.mem_iff_getElem?.1 hk
   obtain ⟨o, h1, _⟩ := p2 i k G
   exact (gs h1).1
  obtain ⟨s1, s2, s3⟩ := Lw (ks := ks) (os := os) σ.objs (by omega) hkn hlt
  have W : ∀ (i : Nat) (p : Ob), σ.objs[i]? = some p → i ∉ ks → ∀ b, b ∈ p.fp → b ∉ fp.flatMap Ob.fp := by
   intro i p G hn b X Y
   obtain ⟨q, hq, hbq⟩ := List.mem_flatMap.1 Y
   obtain ⟨j, k, _, Z, h3⟩ := ab q hq
   exact Pp gm.nodup G h3 (fun he => hn (by rw [he]; exact mg Z)) b X hbq
  have M : ∀ (i : Nat) (p : Ob), (Eo σ.objs ks os ++ new)[i]? = some p → (∃ m : Nat, (os ++ new)[m]? = some p ∧ ((i < σ.objs.length ∧ ks[m]? = some i) ∨ (σ.objs.length ≤ i ∧ m = os.length + (i - σ.objs.length)))) ∨ (i ∉ ks ∧ σ.objs[i]? = some p) := by
   intro i p G
   rw [List.getElem?_append] at G
   split at G
   ·rename_i aa
    by_cases hki : i ∈ ks
    ·obtain ⟨m, Y⟩ := List.mem_iff_getElem?.1 hki
     rw [s2 m i Y] at G
     exact .inl ⟨m, by rw [List.getElem?_append_left (gs G).1]; exact G, .inl ⟨by omega, Y⟩⟩
    ·rw [s3 i hki] at G
     exact .inr ⟨hki, G⟩
   ·rename_i aa
    refine .inl ⟨os.length + (i - σ.objs.length), ?_, .inr ⟨by omega, rfl⟩⟩
    rw [List.getElem?_append_right (by omega), Nat.add_sub_cancel_left, ← s1]; exact G
  have hnd := Dm.1 q7
  have hnd0 := Dm.1 gm.nodup
  have hout : ∀ (i : Nat) (p : Ob), σ.objs[i]? = some p → i ∉ ks → ∀ q, q ∈ os ++ new → ∀ b, b ∈ q.fp → b ∉ p.fp := by
   intro i p G hn q hq b X hbp
   rcases ((q6 q hq).2 b X).2 with h | h
   ·have := (gm.objs p (mg G)).lt b hbp; omega
   ·exact W i p G hn b hbp h
  refine ⟨Eo σ.objs ks os ++ new, k x os new hol q2, gm.called hfpm q4 q5 q6 q8 q10 q9 ?_ ?_, ?_⟩
  ·intro p hp
   obtain ⟨i, G⟩ := List.mem_iff_getElem?.1 hp
   rcases M i p G with ⟨m, Y, _⟩ | ⟨hn, O⟩
   ·exact .inl (mg Y)
   ·exact .inr ⟨mg O, W i p O hn⟩
  ·refine Dm.2 ⟨fun i p G => ?_, fun i j p q G hj hne b X => ?_⟩
   ·rcases M i p G with ⟨m, Y, _⟩ | ⟨hn, O⟩
    ·exact hnd.1 m p Y
    ·exact hnd0.1 i p O
   ·rcases M i p G with ⟨m, Y, hm'⟩ | ⟨hn, O⟩ <;> rcases M j q hj with ⟨m2, hm2, hm2'⟩ | ⟨hn2, hj'⟩
    ·refine hnd.2 m m2 p q Y hm2 (fun he => ?_) b X
     subst he
     rcases hm' with ⟨h1, Z⟩ | ⟨h1, Z⟩ <;> rcases hm2' with ⟨h3, h4⟩ | ⟨h3, h4⟩
     ·rw [Z] at h4; cases h4; exact hne rfl
     ·have := (gs Z).1; omega
     ·have := (gs h4).1; omega
     ·omega
    ·exact hout j q hj' hn2 p (mg Y) b X
    ·exact fun hbq => hout i p O hn q (mg hm2) b hbq X
    ·exact hnd0.2 i j p q O hj' hne b X
  ·intro i p hp Y
   have hn : i ∉ ks := by simpa using Y
   refine ⟨?_, fun b X => (q9 b ((gm.objs p (mg hp)).lt b X) (W i p hp hn b X)).1⟩
   have aa := (gs hp).1
   rw [List.getElem?_append_left (by rw [s1]; exact aa), s3 i hn]; exact hp
theorem Cq {c : Operand} {args : Array Operand} {Y : Array TypeId} {f : FuncId} {G M Z ys : List T} {Rc : T → List Ob → Prop} {R : St → Prop}
  (hc : (Aq σ.slots c).bind I9 = some (f, G, M)) (hx : E4 σ.slots args.toList = some Z) (X : G ++ Z ++ M = ys)
  (h : ACalls E f ys [] Rc) (hd : ∀ d, dst = some d → d < n) (k : ∀ x new, Rc x new → R ⟨D3 σ.slots dst x, σ.objs ++ new⟩) :
  AX E n C [] ⟨dst, .call { callee := .value c, args := args, argTypes := Y }, ty, pos, aft, g⟩ σ R :=
 Tp [] hc hx X (Rc := fun x _ new => Rc x new) rfl (by simp) (h.mono fun x O W => ⟨[], O, rfl, rfl, W⟩) hd (fun x os new hl W => by
  have : os = [] := List.length_eq_zero_iff.1 (by simpa using hl)
  subst this
  exact k x new W)
mutual
/-- What is of the call's own, read as what nobody writes. -/
inductive Lend (objs : List Ob) : T → T → Prop
 | refl (x : T) : Lend objs x x
 | nil (sz : Nat) : Lend objs (.v (.slice none 0 0)) (.list sz [])
 | us (k : Nat) {v : Value} {ty sz : Nat} {es : List (List T)} (h : objs[k]? = some (.us v ty sz es)) : Lend objs (.v v) (.list sz es)
 | uss (k : Nat) {v : Value} {ty tyi szi : Nat} {vs : List Value} {L : List (List (List T))} {es : List (List T)} (h : objs[k]? = some (.uss v ty tyi szi vs (L.map some))) (he : Fq szi L = es) : Lend objs (.v v) (.list 1 es)
 | box (k : Nat) {b ty sz : Nat} {e e' : List T} (h : objs[k]? = some (.arr b ty sz 1 [e])) (hl : LendL objs e e') : Lend objs (.v (.pointer (some ⟨b, 0, none⟩))) (.eptr e')
 | agg {cs cs' : List T} (hl : LendL objs cs cs') : Lend objs (.agg cs) (.agg cs')
 | fn {f : FuncId} {a a' c c' : List T} (h1 : LendL objs a a') (h2 : LendL objs c c') : Lend objs (.fn f a c) (.fn f a' c')
 | usd (k : Nat) {v : Value} {ty sz : Nat} {es es' : List (List T)} (h : objs[k]? = some (.us v ty sz es)) (hl : LendLL objs es es') : Lend objs (.v v) (.list sz es')
inductive LendL (objs : List Ob) : List T → List T → Prop
 | nil : LendL objs [] []
 | cons {x y : T} {l m : List T} (h : Lend objs x y) (t : LendL objs l m) : LendL objs (x :: l) (y :: m)
 | rest (l : List T) : LendL objs l l
inductive LendLL (objs : List Ob) : List (List T) → List (List T) → Prop
 | nil : LendLL objs [] []
 | cons {x y : List T} {l m : List (List T)} (h : LendL objs x y) (t : LendLL objs l m) : LendLL objs (x :: l) (y :: m)
 | rest (l : List (List T)) : LendLL objs l l
end
theorem LendLL.length {objs : List Ob} : ∀ {l m : List (List T)}, LendLL objs l m → l.length = m.length
 | _, _, .nil => rfl
 | _, _, .cons _ t => by simp [t.length]
 | _, _, .rest _ => rfl
theorem VR.rows {H : GH} {v : Value} {sz : Nat} {es es' : List (List T)} (h : VR H v (.list sz es)) (hl : es.length = es'.length)
  (W : ∀ (i : Nat) (e' : List T), es'[i]? = some e' → ∃ e, es[i]? = some e ∧ e.length = e'.length ∧ ∀ (j : Nat) (y : T), e'[j]? = some y → ∀ {v : Value}, (∀ x, e[j]? = some x → VR H v x) → VR H v y) : VR H v (.list sz es') := by
 cases h with
 | empty a cap sz =>
  have : es' = [] := List.length_eq_zero_iff.1 (by simpa using hl.symm)
  subst this; exact .empty _ _ _
 | list b off cap sz es cs ty fr hb hcap hmax hsz hel h1 hv =>
  rw [hl]
  refine .list b off cap sz es' cs ty fr hb (by omega) (by omega) (by rw [← hl]; exact hsz) (fun i e' G => ?_) (fun i e' G j y X => ?_) (fun i e' G j y X => ?_)
  ·obtain ⟨e, O, M, _⟩ := W i e' G
   rw [← M]; exact hel i e O
  ·obtain ⟨e, O, M, _⟩ := W i e' G
   have Y : j < e.length := by rw [M]; exact (gs X).1
   exact h1 i e O j _ (gq Y)
  ·obtain ⟨e, O, M, Z⟩ := W i e' G
   exact Z j y X fun x hx => hv i e O j x hx
theorem LendL.length {objs : List Ob} : ∀ {l m : List T}, LendL objs l m → l.length = m.length
 | _, _, .nil => rfl
 | _, _, .cons _ t => by simp [t.length]
 | _, _, .rest _ => rfl
theorem LendL.get {objs : List Ob} : ∀ {l m : List T}, LendL objs l m → ∀ (i : Nat) (y : T), m[i]? = some y → ∃ x, l[i]? = some x ∧ Lend objs x y
 | _, _, .nil, i, y, h => by simp at h
 | _, _, .cons h t, 0, y, hy => by simp at hy; subst hy; exact ⟨_, rfl, h⟩
 | _, _, .cons h t, i + 1, y, hy => by simpa using t.get i y (by simpa using hy)
 | _, _, .rest _, i, y, hy => ⟨y, hy, .refl y⟩
def Eg : T → Bool
 | .v _ => true
 | .tup l => flatL l
 | .agg l => flatL l
 | _ => false
where flatL : List T → Bool
 | [] => true
 | x :: l => Eg x && flatL l
theorem Lg : ∀ {l : List T}, Eg.flatL l = true → ∀ (i : Nat) (x : T), l[i]? = some x → Eg x = true
 | [], _, i, x, h => by simp at h
 | y :: l, hl, 0, x, h => by simp at h; subst h; simp only [Eg.flatL, Bool.and_eq_true] at hl; exact hl.1
 | y :: l, hl, i + 1, x, h => by simp only [Eg.flatL, Bool.and_eq_true] at hl; exact Lg hl.2 i x (by simpa using h)
theorem VR.flat {H H' : GH} {v : Value} {x : T} (h : VR H v x) : Eg x = true → VR H' v x := by
 induction h with
 | v x => exact fun _ => .v x
 | empty a cap sz => intro h; simp [Eg] at h
 | list => intro h; simp [Eg] at h
 | agg vs cs hl h1 hv ih => exact fun h => .agg vs cs hl h1 (fun j x G => ih j x G (Lg (by simpa [Eg] using h) j x G))
 | tup vs cs hl hv ih => exact fun h => .tup vs cs hl (fun j x G => ih j x G (Lg (by simpa [Eg] using h) j x G))
 | eptr => intro h; simp [Eg] at h
 | fn => intro h; simp [Eg] at h
mutual
theorem R4 {H H1 : GH} {w : World} {objs : List Ob} (X : ∀ p, p ∈ objs → OR H1 w p) (hb : ∀ p, p ∈ objs → ∀ b, b ∈ p.fp → H1 b = w.heap[b]?) (Y : ∀ b o, H b = some o → H1 b = some o) {x y : T} : Lend objs x y → ∀ {v : Value}, VR H v x → VR H1 v y
 | .refl _, v, h => h.mono Y
 | .nil sz, v, h => by rw [h.v_eq]; exact .empty _ _ _
 | .us k hk, v, h => by
  rw [h.v_eq]
  have M := mg hk
  exact UsR.list (X _ M) (hb _ M)
 | .uss k hk he, v, h => by
  rw [h.v_eq]
  subst he
  have M := mg hk
  exact Xp (X _ M) (hb _ M)
 | .box k hk hl, v, h => by
  rw [h.v_eq]
  have M := mg hk
  obtain ⟨Z, a1, a2, a3, a4, a5, a6⟩ : ArrR H1 w _ _ _ _ _ := X _ M
  have h5 := a5 0 _ rfl
  refine .eptr _ 0 _ Z _ _ ((hb _ M _ (by simp [Ob.fp])).trans a1) ?_ (fun j z O => ?_) (fun j z O => ?_)
  ·rw [← hl.length, h5, a2]; omega
  ·obtain ⟨W, G, _⟩ := hl.get j z O
   have := (a6 0 _ rfl j W G).1
   simpa using this
  ·exact E5 X hb (fun _ _ h => h) hl j z O (fun W G => by have := (a6 0 _ rfl j W G).2; simpa using this)
 | .agg hl, v, h => by
  cases h with
  | agg vs Z hsz h1 hv =>
   refine .agg vs _ (hsz.trans hl.length) (fun j z O => ?_) (fun j z O => E5 X hb Y hl j z O (fun W G => hv j W G))
   obtain ⟨W, G, _⟩ := hl.get j z O
   exact h1 j W G
 | .usd k hk hl, v, h => by
  rw [h.v_eq]
  have M := mg hk
  exact (UsR.list (X _ M) (hb _ M)).rows hl.length (Lo X hb (fun _ _ h => h) hl)
 | .fn ha hc, v, h => by
  cases h with
  | fn f vf vc fs Z h1 h2 h3 h4 =>
   exact .fn _ vf vc _ _ (h1.trans ha.length) (h2.trans hc.length) (fun j z O => E5 X hb Y ha j z O (fun W G => h3 j W G)) (fun j z O => E5 X hb Y hc j z O (fun W G => h4 j W G))
theorem E5 {H H1 : GH} {w : World} {objs : List Ob} (M : ∀ p, p ∈ objs → OR H1 w p) (hb : ∀ p, p ∈ objs → ∀ b, b ∈ p.fp → H1 b = w.heap[b]?) (G : ∀ b o, H b = some o → H1 b = some o) {l m : List T} : LendL objs l m →
  ∀ (j : Nat) (y : T), m[j]? = some y → ∀ {v : Value}, (∀ x, l[j]? = some x → VR H v x) → VR H1 v y
 | .nil, j, y, h, v, _ => by simp at h
 | .cons h t, 0, y, hy, v, hv => by simp at hy; subst hy; exact R4 M hb G h (hv _ rfl)
 | .cons h t, j + 1, y, hy, v, hv => E5 M hb G t j y (by simpa using hy) (fun x O => hv x (by simpa using O))
 | .rest _, j, y, hy, v, hv => (hv y hy).mono G
theorem Lo {H H1 : GH} {w : World} {objs : List Ob} (W : ∀ p, p ∈ objs → OR H1 w p) (hb : ∀ p, p ∈ objs → ∀ b, b ∈ p.fp → H1 b = w.heap[b]?) (G : ∀ b o, H b = some o → H1 b = some o) {l m : List (List T)} : LendLL objs l m →
  ∀ (i : Nat) (e' : List T), m[i]? = some e' → ∃ e, l[i]? = some e ∧ e.length = e'.length ∧ ∀ (j : Nat) (y : T), e'[j]? = some y → ∀ {v : Value}, (∀ x, e[j]? = some x → VR H v x) → VR H1 v y
 | .nil, i, y, h => by simp at h
 | .cons h t, 0, e', he => by simp at he; subst he; exact ⟨_, rfl, h.length, fun j y O v M => E5 W hb G h j y O M⟩
 | .cons h t, i + 1, e', he => by simpa using Lo W hb G t i e' (by simpa using he)
 | .rest _, i, e', he => ⟨e', he, rfl, fun j y O v M => (M y O).mono G⟩
end
def Ra : Ob → Bool
 | .us _ _ _ es => es.all fun e => e.all Eg
 | _ => false
theorem OR.flat {H H' : GH} {w : World} {o : Ob} (h : OR H w o) (hf : Ra o = true) : OR H' w o := by
 cases o with
 | us v ty sz es =>
  rcases h with h | ⟨b, c, G, rfl, h1, h2, cs, X, Y, Z, a4, a5, W⟩
  ·exact .inl h
  ·refine .inr ⟨b, c, G, rfl, h1, h2, cs, X, Y, Z, a4, a5, fun i e M j x O => ⟨(W i e M j x O).1, (W i e M j x O).2.flat ?_⟩⟩
   have := List.all_eq_true.1 hf e (mg M)
   exact List.all_eq_true.1 this x (mg O)
 | _ => cases hf
theorem D9 {α : Type} {f : α → List T} {l : List α} {v : Value} {ty sz : Nat} (h : ∀ x, (f x).all Eg = true) : Ra (.us v ty sz (l.map f)) = true := by
 simp only [Ra, List.all_map, List.all_eq_true]
 exact fun x _ => by simpa using h x
theorem ACalls.sub {f : FuncId} {X : List T} {fp : List Ob} {R R' : T → List Ob → Prop} (h : ACalls E f X fp R) (hr : ∀ x M, R x M → ∃ G, G.Sublist M ∧ R' x G) : ACalls E f X fp R' :=
 ⟨h.1, fun H w vs Y Z h3 h4 h5 => (h.2 H w vs Y Z h3 h4 h5).mono fun e w' ⟨v, x, M, H', q1, q2, q3, q4, q5, q6, q7, q⟩ => by
  obtain ⟨G, W, O⟩ := hr x M q2
  exact ⟨v, x, G, H', q1, O, q3, q4, q5, fun p hp => q6 p (W.subset hp), q7.sublist (Dc W), q⟩⟩
theorem Dz {c : Operand} {args : Array Operand} {tys : Array TypeId} {f : FuncId} {xs ag ai aj ys : List T} {y y' : T} {Rc : T → List Ob → Prop} {R : St → Prop}
  (hc : Aq σ.slots c = some y) (hy : Lend σ.objs y y') (hf : I9 y' = some (f, ai, aj)) (hx : E4 σ.slots args.toList = some xs) (hl : LendL σ.objs xs ag) (hys : ai ++ ag ++ aj = ys)
  (h : ACalls E f ys [] Rc) (hd : ∀ d, dst = some d → d < n) (Z : ∀ x new, Rc x new → Eg x = true ∧ ∀ p, p ∈ new → Ra p = true) (k : ∀ x new, Rc x new → R ⟨D3 σ.slots dst x, σ.objs ++ new⟩) :
  AX E n C [] ⟨dst, .call { callee := .value c, args := args, argTypes := tys }, ty, pos, aft, g⟩ σ R := by
 intro H a w W
 subst hys
 obtain ⟨⟨fn, f1, f2, f3⟩, h⟩ := h
 obtain ⟨k1, k2⟩ := Fv W.sr hx
 have ah : ∀ b o, H b = some o → b ∉ σ.objs.flatMap Ob.fp := fun b o G hm => by
  obtain ⟨p, M, ak⟩ := List.mem_flatMap.1 hm
  rw [W.free p M b ak] at G; cases G
 obtain ⟨H1, ae⟩ : ∃ H1 : GH, H1 = fun b => if b ∈ σ.objs.flatMap Ob.fp then w.heap[b]? else H b := ⟨_, rfl⟩
 have ab : ∀ b o, H b = some o → H1 b = some o := fun b o G => by rw [ae]; simp only [ah b o G, if_false]; exact G
 have ho1 : ∀ p, p ∈ σ.objs → OR H1 w p := fun p M => (W.objs p M).mono ab (fun _ _ => rfl)
 have am : ∀ p, p ∈ σ.objs → ∀ b, b ∈ p.fp → H1 b = w.heap[b]? := fun p M b G => by
  rw [ae]; simp only [List.mem_flatMap.2 ⟨p, M, G⟩, if_true]
 have af : ∀ b o, H1 b = some o → w.heap[b]? = some o := fun b o G => by
  rw [ae] at G
  dsimp only at G
  split at G
  ·exact G
  ·exact W.held b o G
 have hvy := R4 ho1 am ab hy (W.sr.eval hc)
 obtain ⟨first, O, hev, z1, z2, z3, z4⟩ := Tg hvy hf
 have hrun : (execOp a.eval ⟨dst, .call { callee := .value c, args := args, argTypes := tys }, ty, pos, aft, g⟩).run E.P w = .ok (.enter f (first ++ args.map a.eval ++ O)) w := by
  have f2' : ¬ fn.name = "runtime.NumGoroutine" := by simpa using f2
  have f3' : ¬ fn.body = none := by
   intro G; rw [G] at f3; simp at f3
  simp [execOp, resolve, hev, Deferred.ofValue, invoke, callFunc, f1, f2', f3']
 simp only [Oper.wp, hrun, Oper.upon]
 have hxl : xs.length = ag.length := hl.length
 have aa : (first ++ args.map a.eval ++ O).toList = first.toList ++ args.toList.map a.eval ++ O.toList := by simp
 refine (h H1 w (first ++ args.map a.eval ++ O) ?_ ?_ ⟨af, fun b l h => (C.hg b l h).mono fun b o G => ab b o (W.grow b o G)⟩ (by simp) (by simp)).mono ?_
 ·rw [← Array.length_toList, aa]; simp at k1 ⊢; omega
 ·intro i x hix
  rw [Array.getD_eq_getD_getElem?, ← Array.getElem?_toList, aa]
  have hxs : ∀ (i : Nat) (y : T), ag[i]? = some y → VR H1 ((args.toList.map a.eval).getD i undef) y := fun i y hy => E5 ho1 am ab hl i y hy (fun x hx => k2 i x hx)
  have := VR.app (H := H1) (by simp at k1 ⊢; omega) (VR.app (H := H1) (by simp; omega) z3 hxs) z4 i x hix
  simpa [List.getD] using this
 ·rintro e w' ⟨v, x, X, H', rfl, q2, q3, q4, q5, q6, q7, q8, al, q9⟩
  have an : ∀ p, p ∈ X → ∀ b, b ∈ p.fp → w.heap.size ≤ b := fun p M b G => by simpa using ((q6 p M).2 b G).2
  have hlt : ∀ p, p ∈ σ.objs → ∀ b, b ∈ p.fp → b < w.heap.size := fun p M b G => (W.objs p M).lt b G
  have q9' : ∀ b, b < w.heap.size → w'.heap[b]? = w.heap[b]? ∧ H' b = H1 b := fun b G => q9 b G (by simp)
  obtain ⟨H2, Y⟩ : ∃ H2 : GH, H2 = fun b => if b ∈ σ.objs.flatMap Ob.fp then none else H' b := ⟨_, rfl⟩
  have ac : ∀ b o, H b = some o → H2 b = some o := fun b o G => by
   rw [Y]; simp only [ah b o G, if_false]; exact q4 _ _ (ab b o G)
  have h2' : ∀ b o, H2 b = some o → H' b = some o := fun b o G => by
   rw [Y] at G
   dsimp only at G
   split at G
   ·cases G
   ·exact G
  have ad : ∀ p, p ∈ σ.objs → ∀ b, b ∈ p.fp → w'.heap[b]? = w.heap[b]? := fun p M b G => (q9' b ((W.objs p M).lt b G)).1
  refine ⟨_, H2, v, k x X q2, ?_, rfl, ac, fun i p M _ => ⟨by rw [List.getElem?_append_left (gs M).1]; exact M, ad p (mg M)⟩⟩
  have g2 : Gam n C ⟨σ.slots, σ.objs ++ X⟩ H2 a w' := by
   refine ⟨W.defers.mono ac, W.size, fun i x h => (W.slots i x h).mono ac, fun p M => ?_, fun p M b G => ?_, fun p M b G => ?_, ?_, fun b o G => q5 _ _ (h2' b o G), fun b o G => ac _ _ (W.grow _ _ G), Nat.le_trans W.heap q8, fun b G hf => ?_, ⟨al.1.trans W.env.1, al.2.1.trans W.env.2.1, al.2.2.trans W.env.2.2⟩⟩
   ·rcases List.mem_append.1 M with M | M
    ·exact (W.objs p M).mono ac (ad p M)
    ·exact ((q6 p M).1).flat ((Z x X q2).2 p M)
   ·rcases List.mem_append.1 M with M | M
    ·rw [Y]; simp only [List.mem_flatMap.2 ⟨p, M, G⟩, if_true]
    ·rw [Y]
     dsimp only
     split
     ·rfl
     ·exact ((q6 p M).2 b G).1
   ·rcases List.mem_append.1 M with M | M
    ·exact W.new p M b G
    ·exact .inl (Nat.le_trans W.heap (an p M b G))
   ·rw [List.flatMap_append]
    refine List.nodup_append.2 ⟨W.nodup, q7, fun b G b' hb' he => ?_⟩
    obtain ⟨p, M, h1⟩ := List.mem_flatMap.1 G
    obtain ⟨q, hq, h2⟩ := List.mem_flatMap.1 hb'
    have := hlt p M b h1
    have := an q hq b' h2
    omega
   ·obtain ⟨h1, h2⟩ := q9' b (Nat.lt_of_lt_of_le G W.heap)
    obtain ⟨h3, h4⟩ := W.frame b G hf
    refine ⟨h1.trans h3, ?_⟩
    rw [Y]
    dsimp only
    split
    ·rename_i hm
     obtain ⟨p, M, ak⟩ := List.mem_flatMap.1 hm
     rcases W.new p M b ak with h | h
     ·omega
     ·exact absurd h hf
    ·rename_i hm
     rw [h2, ae]
     simp only [hm, if_false]; exact h4
  have := g2.put (dst := dst) (q3.flat (H' := H2) (Z x X q2).1) hd
  cases dst <;> exact this
theorem Cb {c : Operand} {args : Array Operand} {aa : Array TypeId} {f : FuncId} {xs X G M ys : List T} {y y' : T} {Rc : T → List Ob → Prop} {R : St → Prop}
  (hc : Aq σ.slots c = some y) (hy : Lend σ.objs y y') (hf : I9 y' = some (f, G, M)) (hx : E4 σ.slots args.toList = some xs) (hl : LendL σ.objs xs X) (Z : G ++ X ++ M = ys)
  (h : ACalls E f ys [] Rc) (hd : ∀ d, dst = some d → d < n) (O : ∀ x new, Rc x new → Eg x = true) (k : ∀ x, (∃ new, Rc x new) → R ⟨D3 σ.slots dst x, σ.objs⟩) :
  AX E n C [] ⟨dst, .call { callee := .value c, args := args, argTypes := aa }, ty, pos, aft, g⟩ σ R :=
 Dz (Rc := fun x new => new = [] ∧ ∃ new, Rc x new) hc hy hf hx hl Z (h.sub fun x fp' W => ⟨[], List.nil_sublist _, rfl, _, W⟩) hd (fun x new ⟨Y, _, W⟩ => ⟨O x _ W, fun p hp => by rw [Y] at hp; cases hp⟩) fun x new ⟨Y, W⟩ => by rw [Y, List.append_nil]; exact k x W
def Ub : Nat → List T → Ak
 | _, [] => []
 | k, x :: l => (k, x) :: Ub (k + 1) l
theorem Tk : ∀ (l : List T) (k i : Nat) (x : T), get (Ub k l) i = some x → k ≤ i ∧ l[i - k]? = some x
 | [], k, i, x, h => by simp [Ub, get] at h
 | y :: l, k, i, x, h => by
  simp only [Ub, get] at h
  cases hb : Nat.beq k i with
  | true =>
   have := nq hb
   subst this
   simp only [hb, cond_true, Option.some.injEq] at h
   subst h; simp
  | false =>
   simp only [hb, cond_false] at h
   obtain ⟨M, G⟩ := Tk l (k + 1) i x h
   refine ⟨by omega, ?_⟩
   rw [show i - k = (i - (k + 1)) + 1 by omega]
   simpa using G
def Wr (E : Env) (s : Ak) (objs : List Ob) : List ResultVar → List T → Prop
 | [], [] => True
 | .tmp t :: l, x :: xs => get s t = some x ∧ Wr E s objs l xs
 | .cell c t :: l, x :: xs => (∃ (k b X W G : Nat) (M : List (List T)) (e : List T) (O : TI), get s c = some (.v (.pointer (some ⟨b, 0, none⟩))) ∧ objs[k]? = some (.arr b X W G M) ∧ M[0]? = some e ∧
   E.tab t = some O ∧ Dx O e 0 = some x) ∧ Wr E s objs l xs
 | _, _ => False
def dK : List T → T
 | [x] => x
 | l => .tup l
def dR (E : Env) (fn : Func) (R : T → List Ob → Prop) (e : Exit) (σ : St) : Prop :=
 (e = .normal ∨ e = .ret) ∧ ∃ M G, Wr E σ.slots σ.objs fn.results.toList M ∧ G.Sublist σ.objs ∧ R (dK M) G
theorem Ln {s : Ak} {objs : List Ob} {H : GH} {a : Act} {w : World} (r : SR n s H a) (wr : WR objs H w) : ∀ {l : List ResultVar} {W : List T}, Wr E s objs l W →
  ∃ vs : List Value, (l.mapM fun (x : ResultVar) => (match x with | .tmp t => pure (a.tmps.getD t undef) | .cell c t => do loadVar t (← asAddr (a.tmps.getD c undef)) : Sem Value)).run E.P w = .ok vs w ∧
   vs.length = W.length ∧ ∀ (i : Nat) (x : T), W[i]? = some x → VR H (vs.getD i undef) x
 | [], [], _ => ⟨[], by simp, rfl, by simp⟩
 | .tmp t :: l, x :: W, h => by
  obtain ⟨X, Y⟩ := h
  obtain ⟨vs, Z, k2, k3⟩ := Ln r wr Y
  refine ⟨a.tmps.getD t undef :: vs, ?_, by simp [k2], fun i y G => ?_⟩
  ·simp only [List.mapM_cons, Sem.run_bind, Sem.run_pure, Result.andThen_ok, Z]
  ·cases i with
   | zero => simp at G; subst G; exact r.slots t _ X
   | succ i => simp only [List.getElem?_cons_succ] at G; simpa using k3 i y G
 | .cell c t :: l, x :: W, h => by
  obtain ⟨⟨k, b, tt, sz, cap, es, e, ti, g1, g2, g3, g4, g5⟩, Y⟩ := h
  obtain ⟨vs, Z, k2, k3⟩ := Ln r wr Y
  have hv := (r.slots c _ g1).v_eq
  obtain ⟨cs, a1, a2, a3, X, O⟩ := OR.cells (wr.objs _ (mg g2)) g3
  have hl := Ez (j := 0) (E.ok _ _ g4) a1 a2 X O g5
  obtain ⟨p1, p2⟩ := F2 a2 X O g5
  simp only [Nat.zero_mul, Nat.zero_add] at hl p1 p2
  refine ⟨Es ti cs 0 :: vs, ?_, by simp [k2], fun i y G => ?_⟩
  ·have M : (asAddr (a.tmps.getD c undef)).run E.P w = .ok ⟨b, 0, none⟩ w := by rw [hv]; rfl
   simp only [List.mapM_cons, Sem.run_bind, Sem.run_pure, Result.andThen_ok, M, hl, Z]
  ·cases i with
   | zero =>
    simp at G; subst G
    cases M : ti.isAgg with
    | true => simpa [Es, M] using (p1 M).2
    | false => simpa [Es, M] using (p2 M).2
   | succ i => simp only [List.getElem?_cons_succ] at G; simpa using k3 i y G
 | [], _ :: _, h => h.elim
 | .tmp _ :: _, [], h => h.elim
 | .cell _ _ :: _, [], h => h.elim
theorem R8 {s : Ak} {objs : List Ob} {H : GH} {a : Act} {w : World} (r : SR n s H a) (wr : WR objs H w) {fn : Func} {xs : List T} (h : Wr E s objs fn.results.toList xs) :
  ∃ v, (results fn a.tmps).run E.P w = .ok v w ∧ VR H v (dK xs) := by
 obtain ⟨G, k1, W, X⟩ := Ln r wr h
 have Y : (fn.results.mapM fun (x : ResultVar) => (match x with | .tmp t => pure (a.tmps.getD t undef) | .cell c t => do loadVar t (← asAddr (a.tmps.getD c undef)) : Sem Value)).run E.P w = .ok G.toArray w := by
  rw [Array.mapM_eq_mapM_toList]
  refine (Sem.run_map E.P w _ _).trans ?_
  rw [k1]; rfl
 refine ⟨if h : G.toArray.size = 1 then G.toArray[0] else .tuple G.toArray, ?_, ?_⟩
 ·unfold results
  refine (Sem.run_bind E.P w _ _).trans ?_
  refine (congrArg (fun r => Result.andThen r _) Y).trans ?_
  rfl
 ·by_cases M : G.length = 1
  ·obtain ⟨v, rfl⟩ := List.length_eq_one_iff.1 M
   obtain ⟨x, rfl⟩ := List.length_eq_one_iff.1 (W.symm.trans M)
   simpa [dK] using X 0 x (by simp)
  ·have O : dK xs = .tup xs := by
    cases xs with
    | nil => rfl
    | cons x l =>
     cases l with
     | nil => exact absurd W (by simpa using M)
     | cons y l => rfl
   rw [O]
   simp only [List.size_toArray, M, dite_false]
   exact .tup _ _ (by simpa using W) (fun j x Z => by simpa [Array.getD_eq_getD_getElem?, List.getD] using X j x Z)
theorem Gam.unmark {m : Nat} {σ : St} {H : GH} {a : Act} {w : World} {d : Deferred} {ds : List Deferred} (O : Gam m C σ H a w) (hd : a.defers = d :: ds) (h0 : ∀ b o, C.H0 b = some o → b < C.w0.heap.size) :
  ∃ b H1, d = { target := .collected b, args := #[] } ∧ (Instr.takeDeferred b).run E.P w = .ok [] (w.putObj b (.deferred none)) ∧ Gam m C σ H1 { a with defers := ds } (w.putObj b (.deferred none)) := by
 have hm := O.defers
 rw [hd] at hm
 obtain ⟨hnd, hm⟩ := hm
 obtain ⟨b, Y, W, hb3⟩ := hm d (by simp)
 have hw := O.held _ _ W
 have hc : ∀ k cs ty fr, H k = some (.cells cs ty fr) → (fun k => if k = b then none else H k) k = some (.cells cs ty fr) := by
  intro k cs ty fr G
  by_cases M : k = b
  ·rw [M, W] at G; cases G
  ·simp only [M, if_false]; exact G
 have hh : ∀ k, k ≠ b → (w.putObj b (.deferred none)).heap[k]? = w.heap[k]? := fun k G => World.putObj_heap_other G
 have hne : ∀ p, p ∈ σ.objs → ∀ k, k ∈ p.fp → k ≠ b := fun p X k G he => by have := O.free p X k G; rw [he, W] at this; cases this
 refine ⟨b, fun k => if k = b then none else H k, Y, run_takeDeferred hw, ⟨?_, O.size, fun i x h => (O.slots i x h).monoC hc, fun p X => (O.objs p X).monoC hc (fun k G => hh k (hne p X k G)), fun p X k G => ?_, O.new, O.nodup, fun k o G => ?_, fun k o G => ?_, ?_, fun k G hf => ?_, O.env⟩⟩
 ·refine ⟨(List.nodup_cons.1 hnd).2, fun d' Z => ?_⟩
  obtain ⟨b', q1, q2, q3⟩ := hm d' (by simp [Z])
  refine ⟨b', q1, ?_, q3⟩
  have : b' ≠ b := fun he => (List.nodup_cons.1 hnd).1 (by rw [Y, ← he, ← q1]; exact Z)
  simp only [this, if_false]; exact q2
 ·simp only [hne p X k G, if_false]; exact O.free p X k G
 ·split at G
  ·cases G
  ·rename_i M; rw [hh k M]; exact O.held _ _ G
 ·have := h0 _ _ G
  have M : k ≠ b := by omega
  simp only [M, if_false]; exact O.grow _ _ G
 ·simpa using O.heap
 ·have M : k ≠ b := by omega
  simp only [M, if_false]; exact ⟨(hh k M).trans (O.frame k G hf).1, (O.frame k G hf).2⟩
theorem Oy {fn : Func} {C : Ctx} {σ : St} {R : Ending → World → Prop} (G : ∀ b o, C.H0 b = some o → b < C.w0.heap.size)
  (h : ∀ H a w, Gam fn.ntmps C σ H a w → ∃ v, (results fn a.tmps).run E.P w = .ok v w ∧ R (.returned v) w) :
  ∀ (ds : List Deferred) (H : GH) (a : Act) (w : World), a.defers = ds → Gam fn.ntmps C σ H a w → LeavesInM Fence.wide 0 E.P fn a.tmps R ds .returning w
 | [], H, a, w, hd, gm => h H a w gm
 | d :: ds, H, a, w, hd, gm => by
  obtain ⟨b, H1, M, O, W⟩ := gm.unmark (E := E) hd G
  exact ⟨by simp, .inl ⟨b, _, by rw [M], O, Oy G h ds H1 { a with defers := ds } _ rfl W⟩⟩
def aU (H : GH) (w : World) (fp : List Ob) (w' : World) (H' : GH) (G : List Ob) : Prop :=
 (∀ b o, H b = some o → H' b = some o) ∧ (∀ b o, H' b = some o → w'.heap[b]? = some o) ∧
   (∀ p, p ∈ G → OR H' w' p ∧ ∀ b, b ∈ p.fp → H' b = none ∧ (w.heap.size ≤ b ∨ b ∈ fp.flatMap Ob.fp)) ∧ (G.flatMap Ob.fp).Nodup ∧ w.heap.size ≤ w'.heap.size ∧
   (w'.os = w.os ∧ w'.tape = w.tape ∧ w'.output = w.output) ∧ ∀ b, b < w.heap.size → b ∉ fp.flatMap Ob.fp → w'.heap[b]? = w.heap[b]? ∧ H' b = H b
theorem Pb {f : FuncId} {fn : Func} {c : Code} {W : List T} {fp : List Ob} {R : T → List Ob → Prop} (hf : E.P.funcs[f]? = some fn) (hb : fn.body = some c)
  (hn : Nat.ble W.length fn.ntmps = true) {H : GH} {w : World} {vs : Array Value} (hsz : vs.size = W.length) (hv : ∀ (i : Nat) (x : T), W[i]? = some x → VR H (vs.getD i undef) x) (M : (∀ b o, H b = some o → w.heap[b]? = some o) ∧ dT H)
  (Y : ∀ p, p ∈ fp → OR H w p ∧ ∀ b, b ∈ p.fp → H b = none) (hnd : (fp.flatMap Ob.fp).Nodup) (h : AW E fn.ntmps ⟨w, H, fp.flatMap Ob.fp, M.2⟩ c ⟨Ub 0 W, fp⟩ (dR E fn R)) :
  Calls E.P f vs w fun e w' => ∃ v x fp' H', e = .returned v ∧ R x fp' ∧ VR H' v x ∧ aU H w fp w' H' fp' := by
 refine callsIn_wide.1 (callsIn_of_wp_marks (F := Fence.wide) (n := 0) hf hb trivial ?_)
 have hn' := Nat.le_of_ble_eq_true hn
 have gm : Gam fn.ntmps ⟨w, H, fp.flatMap Ob.fp, M.2⟩ ⟨Ub 0 W, fp⟩ H { tmps := vs ++ Array.replicate (fn.ntmps - vs.size) undef, defers := [] } w := by
  refine ⟨.nil, by simp; omega, fun i x hx => ?_, fun p O => (Y p O).1, fun p O => (Y p O).2, fun p O b hb => .inr (List.mem_flatMap.2 ⟨p, O, hb⟩), hnd, M.1, fun _ _ h => h, Nat.le_refl _, fun _ _ _ => ⟨rfl, rfl⟩, ⟨rfl, rfl, rfl⟩⟩
  obtain ⟨_, h2⟩ := Tk W 0 i x hx
  simp only [Nat.sub_zero] at h2
  have hi := (gs h2).1
  have he : (vs ++ Array.replicate (fn.ntmps - vs.size) undef).getD i undef = vs.getD i undef := by
   simp [Array.getD_eq_getD_getElem?, Array.getElem?_append, show i < vs.size by omega]
  rw [he]; exact hv i x h2
 refine wpIn_mono (h H _ w gm none (fun h => by cases h)) ?_
 rintro e X w' ⟨σ', H', ⟨he, ys, fp', r1, r2, r3⟩, G⟩
 have Z : LeavesInM Fence.wide 0 E.P fn X.tmps (fun e w' => ∃ v x fp' H', e = .returned v ∧ R x fp' ∧ VR H' v x ∧ aU H w fp w' H' fp') X.defers .returning w' := by
  refine Oy (fun b o hb => (Array.getElem?_eq_some_iff.1 (M.1 b o hb)).1) ?_ X.defers H' X w' rfl G
  intro H' X w' G
  obtain ⟨v, k1, k2⟩ := R8 G.sr G.wr r1
  exact ⟨v, k1, v, _, fp', H', rfl, r3, k2, G.grow, G.held, fun p O => ⟨G.objs p (r2.subset O), fun b hb => ⟨G.free p (r2.subset O) b hb, G.new p (r2.subset O) b hb⟩⟩, (Dc r2).nodup G.nodup, G.heap, G.env, G.frame⟩
 rcases he with rfl | rfl
 ·exact Z
 ·exact Z
theorem Ae {f : FuncId} {fn : Func} {c : Code} {Y : List T} {fp : List Ob} {R : T → List Ob → Prop} (hf : E.P.funcs[f]? = some fn) (hb : fn.body = some c) (M : (fn.name == "runtime.NumGoroutine") = false)
  (Z : Nat.ble Y.length fn.ntmps = true) (h : ∀ C : Ctx, C.fp = fp.flatMap Ob.fp → AW E fn.ntmps C c ⟨Ub 0 Y, fp⟩ (dR E fn R)) : ACalls E f Y fp R :=
 ⟨⟨fn, hf, M, by simp [hb]⟩, fun H w vs X hv G O W => Pb hf hb Z X hv G O W (h _ rfl)⟩
end
set_option linter.unusedVariables false
set_option linter.defProp false
set_option linter.unusedSimpArgs false
theorem iQ {x : Int} (h : -9223372036854775808 ≤ x ∧ x ≤ 9223372036854775807) : IntKind.i64.wrap x = x := by
 rw [IntKind.wrap_i64]; omega
section
variable {E : Env} {n : Nat} {C : Ctx} {s : Ak} {ob : List Ob} {Q : Exit → St → Prop} {ops : Array Oper} {R : St → Prop}
theorem AO.d {d : Nat} {G : Op} {ty : TypeId} {pos : String} {aft : Array Edge} {l : List Oper} {x : T} (hy : Yd E.P n s ob ⟨some d, G, ty, pos, aft, none⟩ x) (M : Nat.blt d n = true)
  (k : AO E n C ops l ⟨(d, x) :: s, ob⟩ R) : AO E n C ops (⟨some d, G, ty, pos, aft, none⟩ :: l) ⟨s, ob⟩ R :=
 AO.still hy rfl (By M) k
def jR := @AO.d
theorem Bv {d : Nat} {G : Op} {ty : TypeId} {pos : String} {aft : Array Edge} {l : List Oper} {x : T} (hy : Yp E.P n s ⟨some d, G, ty, pos, aft, none⟩ x) (M : Nat.blt d n = true)
  (k : AO E n C ops l ⟨(d, x) :: s, ob⟩ R) : AO E n C ops (⟨some d, G, ty, pos, aft, none⟩ :: l) ⟨s, ob⟩ R :=
 AO.still hy.yd rfl (By M) k
theorem Ka {t : Nat} {x : T} (h : get s t = some x) : ∀ i y, get ((t, x) :: s) i = some y → get s i = some y := by
 intro i y G
 simp only [get] at G
 cases hb : Nat.beq t i with
 | true =>
  have := nq hb
  subst this
  simp only [hb, cond_true, Option.some.injEq] at G
  subst G; exact h
 | false => simpa only [hb, cond_false] using G
theorem Gam.same {C : Ctx} {H : GH} {a : Act} {w : World} (G : Gam n C ⟨s, ob⟩ H a w) {t : Nat} {x : T} (h : get s t = some x) : Gam n C ⟨(t, x) :: s, ob⟩ H a w :=
 { G with slots := fun i y M => G.slots i y (Ka h i y M) }
theorem AO.g {d : Option Nat} {Z : Op} {ty : TypeId} {pos : String} {aft : Array Edge} {l : List Oper} {j : Nat} {G b : Bool} {t : Tmp}
  (hj : (ops[j]?).bind (·.dst) = some t) (W : get s t = some (.v (.bool b))) (hd : ∀ Y, d = some Y → Y < n)
  (h1 : b = G → AO E n C ops (⟨d, Z, ty, pos, aft, none⟩ :: l) ⟨(t, .v (.bool G)) :: s, ob⟩ R)
  (h2 : b = !G → AO E n C ops l ⟨D3 ((t, .v (.bool (!G))) :: s) d (.v undef), ob⟩ R) : AO E n C ops (⟨d, Z, ty, pos, aft, some (j, G)⟩ :: l) ⟨s, ob⟩ R := by
 refine AO.guard hj W hd (fun M H a w O => ?_) (fun M H a w O => ?_)
 ·subst M; exact h1 rfl H a w (O.same W)
 ·subst M
  refine h2 rfl H a w ?_
  cases d with
  | none => exact O.same W
  | some d =>
   refine { O with slots := fun i y X => ?_ }
   simp only [D3, get] at X
   have hg : get ((d, T.v undef) :: s) i = some y := by
    simp only [get]
    cases M : Nat.beq d i with
    | true => simpa only [M, cond_true] using X
    | false =>
     simp only [M, cond_false] at X ⊢
     exact Ka W i y (by simpa only [get] using X)
   exact O.slots i y hg
theorem A3 {d : Nat} {M : Op} {ty : TypeId} {pos : String} {aft : Array Edge} {l : List Oper} {j : Nat} {G : Bool} {t : Tmp}
  (W : (ops[j]?).bind (·.dst) = some t) (X : get s t = some (.v (.bool G))) (O : Nat.blt d n = true)
  (k : AO E n C ops (⟨some d, M, ty, pos, aft, none⟩ :: l) ⟨(t, .v (.bool G)) :: s, ob⟩ R) : AO E n C ops (⟨some d, M, ty, pos, aft, some (j, G)⟩ :: l) ⟨s, ob⟩ R :=
 AO.g W X (By O) (fun _ => k) (fun h => by cases G <;> cases h)
theorem jC {d : Nat} {x : Operand} {y : T} {ty : TypeId} {pos : String} {aft : Array Edge} {l : List Oper} (M : Aq s x = some y) (G : Nat.blt d n = true)
  (k : AO E n C ops l ⟨(d, y) :: s, ob⟩ R) : AO E n C ops (⟨some d, .move x, ty, pos, aft, none⟩ :: l) ⟨s, ob⟩ R := Bv (Yp.move M) G k
theorem jD {d : Nat} {x : Operand} {y : T} {ty : TypeId} {pos : String} {aft : Array Edge} {l : List Oper} (M : Aq s x = some y) (G : Nat.blt d n = true)
  (k : AO E n C ops l ⟨(d, y) :: s, ob⟩ R) : AO E n C ops (⟨some d, .assign x, ty, pos, aft, none⟩ :: l) ⟨s, ob⟩ R := Bv (Yp.assign M) G k
theorem I {α : Type} {a : α} : a = a := rfl
theorem Ad {l : List Oper} {b c : Bool} (t : Nat) (M : get s t = some (.v (.bool b))) (hb : b = c) (k : AO E n C ops l ⟨(t, .v (.bool c)) :: s, ob⟩ R) : AO E n C ops l ⟨s, ob⟩ R :=
 fun H a w G => by subst hb; exact k H a w (G.same M)
theorem AP.o {M : List Nat} {G : List Ob} {so : Ak} {i : Nat} {r : PL} {d : Nat} {op : Op} {ty : TypeId} {pos : String} {aft : Array Edge} {x : T} (W : ops[i]? = some ⟨some d, op, ty, pos, aft, none⟩)
  (hy : Yd E.P n so G ⟨some d, op, ty, pos, aft, none⟩ x) (O : Nat.blt d n = true) (k : AP E n C ops M G r ((d, x) :: so) ⟨(d, x) :: s, ob⟩ R) :
  AP E n C ops M G (.still i r) so ⟨s, ob⟩ R :=
 Ur W hy rfl (By O) k
theorem AP.op {M : List Nat} {G : List Ob} {so : Ak} {i : Nat} {r : PL} {d : Nat} {op : Op} {ty : TypeId} {pos : String} {aft : Array Edge} {x : T} (W : ops[i]? = some ⟨some d, op, ty, pos, aft, none⟩)
  (hy : Yp E.P n so ⟨some d, op, ty, pos, aft, none⟩ x) (O : Nat.blt d n = true) (k : AP E n C ops M G r ((d, x) :: so) ⟨(d, x) :: s, ob⟩ R) :
  AP E n C ops M G (.still i r) so ⟨s, ob⟩ R :=
 Ur W hy.yd rfl (By O) k
def jZ := @AP.op
theorem Q7 {M : List Nat} {G : List Ob} {so : Ak} {i : Nat} {r : PL} {d : Nat} {op : Op} {ty : TypeId} {pos : String} {aft : Array Edge} {x : T} (W : ops[i]? = some ⟨some d, op, ty, pos, aft, none⟩)
  (hy : Yp E.P n s ⟨some d, op, ty, pos, aft, none⟩ x) (O : Nat.blt d n = true) (k : AP E n C ops M G r so ⟨(d, x) :: s, ob⟩ R) (hf : free so (some d) = true := by rfl) :
  AP E n C ops M G (.still i r) so ⟨s, ob⟩ R :=
 AP.new W hy rfl (By O) k hf
theorem iG {pl : PL} {so : Ak} {M : List Nat} {G : List Ob} {b : Bool} (t : Nat) (Z : get s t = some (.v (.bool b)))
  (h1 : b = true → AP E n C ops M G pl so ⟨(t, .v (.bool true)) :: s, ob⟩ R) (h2 : b = false → AP E n C ops M G pl so ⟨(t, .v (.bool false)) :: s, ob⟩ R) :
  AP E n C ops M G pl so ⟨s, ob⟩ R := by
 intro Hs ws H a w sr wr O X Y W
 cases b with
 | true => exact h1 rfl Hs ws H a w sr wr O X Y (W.same Z)
 | false => exact h2 rfl Hs ws H a w sr wr O X Y (W.same Z)
theorem Ts {c : Operand} {x y : Code} {t : Nat} {b v : Bool} (G : get s t = some (.v (.bool b))) (hb : b = v) (h : AW E n C (match v with | true => x | false => y) ⟨s, ob⟩ Q) (hc : c = .tmp t := by rfl) : AW E n C (.cond c x y) ⟨s, ob⟩ Q := by
 subst hb
 refine AW.cond hc G (fun hb => ?_) (fun hb => ?_)
 ·subst hb; exact h
 ·subst hb; exact h
def Ghost (n : Nat) (C : Ctx) (s : Ak) (ob : List Ob) (G : Ak) (ob' : List Ob) : Prop :=
 ∀ (H : GH) (a : Act) (w : World), Gam n C ⟨s, ob⟩ H a w → ∃ H', (∀ b o, H b = some o → H' b = some o) ∧ Gam n C ⟨G, ob'⟩ H' a w
theorem AW.ghost {c : Code} {G : Ak} {ob' : List Ob} (h : Ghost n C s ob G ob') (k : AW E n C c ⟨G, ob'⟩ Q) : AW E n C c ⟨s, ob⟩ Q := fun H a w M => let ⟨H', _, g⟩ := h H a w M; k H' a w g
def jO := @AW.ghost
theorem AO.ghost {l : List Oper} {G : Ak} {ob' : List Ob} (h : Ghost n C s ob G ob') (k : AO E n C ops l ⟨G, ob'⟩ R) : AO E n C ops l ⟨s, ob⟩ R := fun H a w M => let ⟨H', _, g⟩ := h H a w M; k H' a w g
theorem AP.ghost {pl : PL} {so M : Ak} {prot : List Nat} {G : List Ob} {s' : Ak} {ob' : List Ob} (h : Ghost n C s ob s' ob') (hp : prot.map (fun i => ob'[i]?) = prot.map (fun i => ob[i]?)) (Y : Sub M so)
  (k : AP E n C ops prot G pl M ⟨s', ob'⟩ R) : AP E n C ops prot G pl so ⟨s, ob⟩ R := by
 intro Hs ws H a w sr wr ag hH X gm
 obtain ⟨H', h1, g⟩ := h H a w gm
 refine k Hs ws H' a w ⟨sr.size, fun i x hx => sr.slots i x (Y.get i x hx)⟩ wr ag (fun b o hb => h1 _ _ (hH _ _ hb)) (fun p W => ?_) g
 obtain ⟨i, Z, he⟩ := X p W
 have O : i ∈ prot := by simpa using Z
 have : ob'[i]? = ob[i]? := List.map_inj_left.1 hp i O
 exact ⟨i, Z, this.trans he⟩
theorem Ghost.trans {M G : Ak} {ob' ob'' : List Ob} (h1 : Ghost n C s ob M ob') (h2 : Ghost n C M ob' G ob'') : Ghost n C s ob G ob'' := fun H a w O =>
 let ⟨H1, m1, g1⟩ := h1 H a w O
 let ⟨H2, m2, g2⟩ := h2 H1 a w g1
 ⟨H2, fun b o hb => m2 _ _ (m1 _ _ hb), g2⟩
theorem Ghost.weaken {G : Ak} {ob' : List Ob} (W : Sub G s) (O : ob'.Sublist ob) : Ghost n C s ob G ob' := fun H _ _ M => ⟨H, fun _ _ h => h, M.weaken W O⟩
theorem T9 {o : Ob} (hf : o.fp = []) (M : ∀ H w, OR H w o) : Ghost n C s ob s (ob ++ [o]) := fun H a w G =>
 ⟨H, fun _ _ h => h, G.more (ob := o) ⟨rfl, rfl, rfl⟩ (Nat.le_refl _) (fun _ _ => rfl) (M H w) (by rw [hf]; simp) (by rw [hf]; simp)⟩
theorem Au (ty sz : Nat) : Ghost n C s ob s (ob ++ [.us (.slice none 0 0) ty sz []]) := T9 rfl (fun _ _ => .inl ⟨rfl, rfl⟩)
theorem Lc : ∀ {vs : List Value} {L : List (Option (List (List T)))} {m : Nat} {es : List (List T)}, vs.length = L.length → L[m]? = some (some es) →
  (∀ b, b ∈ D7 vs (L.set m none) → b ∈ D7 vs L) ∧ (∀ b, b ∈ Gq (vs.getD m undef) → b ∈ D7 vs L) ∧ ((D7 vs L).Nodup → (D7 vs (L.set m none)).Nodup ∧ ∀ b, b ∈ Gq (vs.getD m undef) → b ∉ D7 vs (L.set m none))
 | [], L, m, es, hl, h => by have := (gs h).1; simp at hl; omega
 | v :: vs, [], m, es, hl, h => by simp at h
 | v :: vs, y :: L, 0, es, hl, h => by
  simp at h
  subst h
  simp only [List.set_cons_zero, D7, List.mem_append, List.nodup_append, List.getD, List.getElem?_cons_zero, Option.getD_some]
  exact ⟨fun b M => .inr M, fun b M => .inl M, fun ⟨_, O, W⟩ => ⟨O, fun b M G => W b M b G rfl⟩⟩
 | v :: vs, none :: L, m + 1, es, hl, h => by
  have ih := Lc (vs := vs) (L := L) (m := m) (es := es) (by simpa using hl) (by simpa using h)
  simpa [D7, List.getD] using ih
 | v :: vs, some z :: L, m + 1, es, hl, h => by
  obtain ⟨X, O, W⟩ := Lc (vs := vs) (L := L) (m := m) (es := es) (by simpa using hl) (by simpa using h)
  have Z : (v :: vs).getD (m + 1) undef = vs.getD m undef := by simp [List.getD]
  rw [Z]
  simp only [List.set_cons_succ, D7, List.mem_append, List.nodup_append]
  refine ⟨fun b M => M.imp id (X b), fun b M => .inr (O b M), fun ⟨q1, q2, Y⟩ => ?_⟩
  obtain ⟨r1, r2⟩ := W q2
  refine ⟨⟨q1, r1, fun x hx y hy => Y x hx y (X y hy)⟩, fun b M G => ?_⟩
  rcases G with G | G
  ·exact Y b G b (O b M) rfl
  ·exact r2 b M G
theorem Ghost.take (k m : Nat) {v : Value} {ty tyi szi : Nat} {vs : List Value} {L : List (Option (List (List T)))} {es : List (List T)} (W : ob[k]? = some (.uss v ty tyi szi vs L)) (hm : L[m]? = some (some es)) :
  Ghost n C s ob s (ob.set k (.uss v ty tyi szi vs (L.set m none)) ++ [.us (vs.getD m undef) tyi szi es]) := by
 intro H a w Z
 have hor : OR H w (.uss v ty tyi szi vs L) := Z.objs _ (mg W)
 obtain ⟨h0, h1, h2⟩ := hor
 have aa := (Dm.1 Z.nodup).1 k _ W
 obtain ⟨u1, u2, u3⟩ := Lc h0 hm
 simp only [Ob.fp, List.nodup_append] at aa
 obtain ⟨n1, n2, n3⟩ := aa
 obtain ⟨u4, u5⟩ := u3 n2
 have hml := (gs hm).1
 have hvm : vs[m]? = some (vs.getD m undef) := by
  have : m < vs.length := by omega
  simp [List.getD, this]
 refine ⟨H, fun _ _ h => h, Z.world (fun _ => False) ⟨rfl, rfl, rfl⟩ (Nat.le_refl _) (fun _ _ _ => rfl) (fun _ h => h.elim) ?_ ?_⟩
 ·intro p O
  rcases List.mem_append.1 O with O | O
  ·rcases List.mem_or_eq_of_mem_set O with O | rfl
   ·exact .inl ⟨O, fun _ _ h => h⟩
   ·refine .inr ⟨⟨by simpa using h0, h1, fun i x es' hx he => ?_⟩, fun b M => .inr ⟨_, mg W, ?_⟩⟩
    ·rw [List.getElem?_set] at he
     split at he
     ·cases he
     ·exact h2 i x es' hx he
    ·simp only [Ob.fp, List.mem_append] at M ⊢
     exact M.imp id (u1 b)
  ·simp only [List.mem_singleton] at O
   subst O
   refine .inr ⟨h2 m _ es hvm hm, fun b M => .inr ⟨_, mg W, ?_⟩⟩
   simp only [Ob.fp, List.mem_append] at M ⊢
   exact .inr (u2 b M)
 ·rw [List.flatMap_append, List.nodup_append]
  have ab : ∀ b, b ∈ (Ob.uss v ty tyi szi vs (L.set m none)).fp → b ∈ (Ob.uss v ty tyi szi vs L).fp := fun b M => by
   simp only [Ob.fp, List.mem_append] at M ⊢
   exact M.imp id (u1 b)
  refine ⟨S5 Z.nodup W ?_ (fun b M => .inl (ab b M)), by simpa [Ob.fp] using Gi _, ?_⟩
  ·simp only [Ob.fp, List.nodup_append]
   exact ⟨n1, u4, fun x hx y Y => n3 x hx y (u1 y Y)⟩
  ·intro x hx y Y hxy
   subst hxy
   simp only [List.flatMap_cons, List.flatMap_nil, List.append_nil, Ob.fp] at Y
   obtain ⟨p, O, G⟩ := List.mem_flatMap.1 hx
   obtain ⟨i, hi⟩ := List.mem_iff_getElem?.1 O
   by_cases X : k = i
   ·subst X
    rw [List.getElem?_set_self (gs W).1] at hi
    cases hi
    simp only [Ob.fp, List.mem_append] at G
    rcases G with G | G
    ·exact n3 x G x (u2 x Y) rfl
    ·exact u5 x Y G
   ·rw [List.getElem?_set_ne X] at hi
    exact Z.apart W hi X x G (by simp only [Ob.fp, List.mem_append]; exact .inr (u2 x Y))
def Fs (ob : List Ob) (ks : List Nat) : List Ob := (ob.zipIdx.filter fun p => !ks.contains p.2).map Prod.fst
def LendS (K : List Ob) (s : Ak) : Ak → Prop
 | [] => True
 | (t, y) :: l => (∃ x, get s t = some x ∧ Lend K x y) ∧ LendS K s l
theorem LendS.get {K : List Ob} {s : Ak} : ∀ {l : Ak}, LendS K s l → ∀ i y, Aw.get l i = some y → ∃ x, Aw.get s i = some x ∧ Lend K x y
 | [], _, i, y, h => by simp [Aw.get] at h
 | (t, z) :: l, hl, i, y, h => by
  obtain ⟨G, M⟩ := hl
  simp only [Aw.get] at h
  cases hb : Nat.beq t i with
  | true =>
   have := nq hb
   subst this
   simp only [hb, cond_true, Option.some.injEq] at h
   subst h; exact G
  | false => simp only [hb, cond_false] at h; exact LendS.get M i y h
inductive LendO (K : List Ob) : Ob → Ob → Prop
 | same (o : Ob) : LendO K o o
 | arr {b ty sz cap : Nat} {e e' : List T} (h : LendL K e e') : LendO K (.arr b ty sz cap [e]) (.arr b ty sz cap [e'])
inductive LendOs (K : List Ob) : List Ob → List Ob → Prop
 | nil : LendOs K [] []
 | cons {x y : Ob} {l m : List Ob} (h : LendO K x y) (t : LendOs K l m) : LendOs K (x :: l) (y :: m)
 | rest (l : List Ob) : LendOs K l l
theorem LendO.fp {K : List Ob} {x y : Ob} (h : LendO K x y) : y.fp = x.fp := by cases h <;> rfl
theorem LendOs.fp {K : List Ob} {l m : List Ob} (h : LendOs K l m) : m.flatMap Ob.fp = l.flatMap Ob.fp := by
 induction h with
 | nil => rfl
 | cons h _ ih => simp [h.fp, ih]
 | rest => rfl
theorem LendOs.mem {K : List Ob} {l m : List Ob} (h : LendOs K l m) : ∀ y, y ∈ m → ∃ x, x ∈ l ∧ LendO K x y := by
 induction h with
 | nil => intro y G; simp at G
 | cons h _ ih =>
  intro z M
  rcases List.mem_cons.1 M with rfl | M
  ·exact ⟨_, by simp, h⟩
  ·obtain ⟨x, W, O⟩ := ih z M; exact ⟨x, by simp [W], O⟩
 | rest => intro y G; exact ⟨y, G, .same y⟩
theorem Ba (ks : List Nat) {K : List Ob} (hK : C0 ob ks = some K) (cs : Ak) (hc : LendS K s cs) {ob' : List Ob} (ho : LendOs K (Fs ob ks) ob') : Ghost n C s ob (cs ++ s) ob' := by
 intro H a w O
 obtain ⟨p1, p2⟩ := F0 hK
 have hmem : ∀ p, p ∈ K → ∃ k, k ∈ ks ∧ ob[k]? = some p := by
  intro p M
  obtain ⟨i, hi⟩ := List.mem_iff_getElem?.1 M
  have hil := (gs hi).1
  obtain ⟨o, h1, h2⟩ := p2 i ks[i] (gq (by omega))
  rw [hi] at h2
  cases h2
  exact ⟨ks[i], List.getElem_mem _, h1⟩
 have Y : ∀ p, p ∈ K → p ∈ ob := fun p M => by obtain ⟨k, _, h⟩ := hmem p M; exact mg h
 have hown : ∀ b o, H b = some o → b ∉ K.flatMap Ob.fp := fun b o G hm => by
  obtain ⟨p, M, hbp⟩ := List.mem_flatMap.1 hm
  rw [O.free p (Y p M) b hbp] at G; cases G
 obtain ⟨H1, X⟩ : ∃ H1 : GH, H1 = fun b => if b ∈ K.flatMap Ob.fp then w.heap[b]? else H b := ⟨_, rfl⟩
 have W : ∀ b o, H b = some o → H1 b = some o := fun b o G => by rw [X]; simp only [hown b o G, if_false]; exact G
 have ho1 : ∀ p, p ∈ K → OR H1 w p := fun p M => (O.objs p (Y p M)).mono W (fun _ _ => rfl)
 have hb1 : ∀ p, p ∈ K → ∀ b, b ∈ p.fp → H1 b = w.heap[b]? := fun p M b G => by
  rw [X]; simp only [List.mem_flatMap.2 ⟨p, M, G⟩, if_true]
 have hkept : ∀ p, p ∈ Fs ob ks → ∃ i, i ∉ ks ∧ ob[i]? = some p := by
  intro p M
  simp only [Fs, List.mem_map, List.mem_filter] at M
  obtain ⟨⟨q, i⟩, ⟨h1, h2⟩, rfl⟩ := M
  exact ⟨i, by simpa using h2, by have := List.mem_zipIdx_iff_getElem?.1 h1; simpa using this⟩
 have Z : ∀ p, p ∈ Fs ob ks → p ∈ ob ∧ ∀ b, b ∈ p.fp → b ∉ K.flatMap Ob.fp := by
  intro p M
  obtain ⟨i, hi, hp'⟩ := hkept p M
  refine ⟨mg hp', fun b G hm => ?_⟩
  obtain ⟨q, hq, hbq⟩ := List.mem_flatMap.1 hm
  obtain ⟨k, hk, hq'⟩ := hmem q hq
  exact Pp O.nodup hp' hq' (fun he => hi (he ▸ hk)) b G hbq
 have hsubl : (Fs ob ks).Sublist ob := by
  have h1 : ((ob.zipIdx.filter fun p => !ks.contains p.2).map Prod.fst).Sublist (ob.zipIdx.map Prod.fst) := List.Sublist.map _ List.filter_sublist
  have h2 : ob.zipIdx.map Prod.fst = ob := by simp
  rw [h2] at h1
  exact h1
 refine ⟨H1, W, O.defers.mono W, O.size, ?_, ?_, ?_, ?_, ?_, ?_, ?_, O.heap, ?_, O.env⟩
 ·intro i x hx
  have aa : (get cs i = some x) ∨ get s i = some x := by
   have : ∀ (l : Ak), get (l ++ s) i = some x → get l i = some x ∨ get s i = some x := by
    intro l
    induction l with
    | nil => exact fun h => .inr h
    | cons p l ih =>
     obtain ⟨t, y⟩ := p
     simp only [List.cons_append, get]
     cases Nat.beq t i with
     | true => exact fun h => .inl h
     | false => exact ih
   exact this cs hx
  rcases aa with aa | aa
  ·obtain ⟨y, hy, hl⟩ := hc.get i x aa
   exact R4 ho1 hb1 W hl (O.slots i y hy)
  ·exact (O.slots i x aa).mono W
 ·intro p M
  obtain ⟨q, hq, hl⟩ := ho.mem p M
  have hor := (O.objs q (Z q hq).1)
  cases hl with
  | same => exact hor.mono W (fun _ _ => rfl)
  | arr h =>
   obtain ⟨cur, a1, a2, a3, a4, a5, a6⟩ := hor
   refine ⟨cur, a1, a2, a3, a4, fun i e he => ?_, fun i e he j x hx => ?_⟩
   ·cases i with
    | zero => simp at he; subst he; rw [← h.length]; exact a5 0 _ rfl
    | succ i => simp at he
   ·cases i with
    | zero =>
     simp at he; subst he
     obtain ⟨z, hz, _⟩ := h.get j x hx
     exact ⟨(a6 0 _ rfl j z hz).1, E5 ho1 hb1 W h j x hx (fun z' hz' => (a6 0 _ rfl j z' hz').2)⟩
    | succ i => simp at he
 ·intro p M b G
  obtain ⟨q, hq, hl⟩ := ho.mem p M
  rw [hl.fp] at G
  obtain ⟨h1, h2⟩ := Z q hq
  rw [X]; simp only [h2 b G, if_false]; exact O.free q h1 b G
 ·intro p M b G
  obtain ⟨q, hq, hl⟩ := ho.mem p M
  rw [hl.fp] at G
  exact O.new q (Z q hq).1 b G
 ·show (ob'.flatMap Ob.fp).Nodup
  rw [ho.fp]; exact (Dc hsubl).nodup O.nodup
 ·intro b o G
  rw [X] at G
  dsimp only at G
  split at G
  ·exact G
  ·exact O.held b o G
 ·intro b o G; exact W _ _ (O.grow _ _ G)
 ·intro b G hf
  obtain ⟨h1, h2⟩ := O.frame b G hf
  refine ⟨h1, ?_⟩
  have : b ∉ K.flatMap Ob.fp := fun hm => by
   obtain ⟨q, hq, hbq⟩ := List.mem_flatMap.1 hm
   rcases O.new q (Y q hq) b hbq with h | h
   ·omega
   ·exact hf h
  rw [X]; simp only [this, if_false]; exact h2
theorem Pj (x : Ob) : Fs (ob ++ [x]) [ob.length] = ob := by
 unfold Fs
 rw [List.zipIdx_append, List.filter_append, List.map_append]
 have G : ob.zipIdx.filter (fun p => !([ob.length].contains p.2)) = ob.zipIdx := by
  rw [List.filter_eq_self]
  rintro ⟨y, i⟩ h
  have := List.mem_zipIdx_iff_getElem?.1 h
  have := (gs this).1
  simp only at this
  simp; omega
 rw [G]
 simp
theorem Sa (x : Ob) : C0 (ob ++ [x]) [ob.length] = some [x] := by simp [C0]
theorem fG {d : Nat} {ty : TypeId} {pos : String} {aft : Array Edge} {g : Option (Nat × Bool)} {t : TypeId} {m : Nat} {G : Array (Nat × Operand)} {ti W : TI} {e : Nat} {z : Value} {l : List T} {sz : Nat} {es : List (List T)}
  (ht : E.tab t = some ti) (hk : ti.kind = .slice e) (he : E.tab e = some W) (hz : W.zero = some z) (h1 : z.cells.toList.all (·.oneCell') = true) (hsz : W.size = sz) (hzs : z.cells.size = sz) (hb : Nat.ble (m * sz) 16777216 = true)
  (hm : Nat.ble m 16777216 = true) (hf : Fb s (fun i => some (i * sz, sz)) (Ja (Ef z) m) G.toList = some l) (hr : rows sz m l = es)
  (hd : ∀ d', some d = some d' → d' < n) (k : R ⟨(d, .list sz es) :: s, ob⟩) :
  AX E n C [] ⟨some d, .buildSlice t m G, ty, pos, aft, g⟩ ⟨s, ob⟩ R := by
 intro H a w gm
 refine Cf ?_ (fun _ _ _ h => h) (AX.buildSlice (R := fun σ' => ∃ b, σ' = ⟨(d, .v b) :: s, ob ++ [.us b e sz es]⟩) ht hk he hz h1 hsz hzs hb hm hf hr hd (fun b => ⟨b, rfl⟩) H a w gm)
 rintro a' w' ⟨_, H', v, ⟨b, rfl⟩, X, ha, Y, Z⟩
 obtain ⟨H'', h2, M⟩ := Ba [ob.length] (K := [.us b e sz es]) (Sa _) [(d, .list sz es)] ⟨⟨_, by simp [get], .us 0 rfl⟩, trivial⟩ (ob' := ob) (by rw [Pj]; exact .rest _) H' a' w' X
 refine ⟨⟨(d, .list sz es) :: s, ob⟩, H'', v, k, { M with slots := ?_ }, ha, fun b o h => h2 _ _ (Y _ _ h), fun i p hp hm => ⟨hp, (Z i p hp hm).2⟩⟩
 intro i x O
 refine M.slots i x ?_
 show get ((d, .list sz es) :: (d, .v b) :: s) i = some x
 simp only [get] at O ⊢
 cases hbq : Nat.beq d i with
 | true => rw [hbq] at O; exact O
 | false => rw [hbq] at O; simpa using O
theorem Sub.append : ∀ {G M s : Ak}, Sub G s → Sub M s → Sub (G ++ M) s
 | [], _, _, _, h2 => h2
 | (_, _) :: _, _, _, h1, h2 => ⟨h1.1, Sub.append h1.2 h2⟩
theorem Ag {α β : Type} {f : α → β} {l : List α} {k : Nat} {x : α} (h : l[k]? = some x) : (l.map f)[k]? = some (f x) := by simp [h]
theorem A6 {a b : Nat} (h : Nat.ble a b = true) : a ≤ b := Nat.le_of_ble_eq_true h
theorem Cx {a b : Ob} {l m : List Ob} (h : a = b) (t : l.Sublist m) : (a :: l).Sublist (b :: m) := h ▸ t.cons_cons a
theorem Ct {l : List Ob} : ([] : List Ob).Sublist l := List.nil_sublist l
theorem Em {a b : Bool} (h : a = b) : some (T.v (.bool a)) = some (T.v (.bool b)) := by rw [h]
end
theorem oi {α : Type _} {a b : α} (h : some a = some b) : a = b := Option.some.inj h
theorem bt (b : Bool) : b = true ∨ b = false := by cases b <;> simp
theorem J : True := True.intro
abbrev T.V (x : Int) : T := .v (.int .i64 x)
abbrev T.N : T := .v (.slice none 0 0)
theorem dS {n d : Nat} (h : Nat.blt d n = true := by exact rfl) : ∀ G, some d = some G → G < n := By h
section
variable {E : Env} {n : Nat} {C : Ctx} {ops : Array Oper} {s : Ak} {ob : List Ob} {R : St → Prop} {dst : Option Tmp} {ty : TypeId} {pos : String} {aft : Array Edge} {g : Option (Nat × Bool)}
def PAll (F : Nat × List Nat → Prop) : List (Nat × List Nat) → Prop
 | [] => True
 | p :: l => F p ∧ PAll F l
theorem PAll.get {F : Nat × List Nat → Prop} : ∀ {l : List (Nat × List Nat)}, PAll F l → ∀ p, p ∈ l → F p
 | [], _, _, h => by simp at h
 | q :: l, ⟨h1, h2⟩, p, h => by
  rcases List.mem_cons.1 h with rfl | h
  ·exact h1
  ·exact PAll.get h2 p h
theorem Oa {A : List (Nat × List Nat)} {dst : Nat → Tmp} {vals : Nat → T} {s : Ak} (M : (A.all fun p => A.all fun q => Nat.beq p.1 q.1 || !Nat.beq (dst p.1) (dst q.1)) = true) :
  ∀ (D : List Nat), (∀ d, d ∈ D → ∃ p, p ∈ A ∧ p.1 = d) → ∀ d, d ∈ D → get (D.map (fun d => (dst d, vals d)) ++ s) (dst d) = some (vals d)
 | [], _, d, h => by simp at h
 | d0 :: D, hA, d, h => by
  simp only [List.map_cons, List.cons_append, get]
  cases hb : Nat.beq (dst d0) (dst d) with
  | true =>
   obtain ⟨p, W, rfl⟩ := hA d0 (by simp)
   obtain ⟨q, X, rfl⟩ := hA d h
   have := List.all_eq_true.1 (List.all_eq_true.1 M p W) q X
   rw [hb] at this
   have : p.1 = q.1 := nq (by simpa using this)
   rw [this]; rfl
  | false =>
   have G : d ≠ d0 := fun O => by rw [O] at hb; simp at hb
   rw [cond_false]
   exact Oa M D (fun x Y => hA x (by simp [Y])) d (by simpa [G] using h)
theorem Oc {A : List (Nat × List Nat)} {dst : Nat → Tmp} {vals : Nat → T} {s : Ak} (G : (A.all fun p => (get s (dst p.1)).isNone) = true) :
  ∀ (D : List Nat), (∀ d, d ∈ D → ∃ p, p ∈ A ∧ p.1 = d) → ∀ i x, get s i = some x → get (D.map (fun d => (dst d, vals d)) ++ s) i = some x
 | [], _, i, x, h => by simpa using h
 | d0 :: D, hA, i, x, h => by
  simp only [List.map_cons, List.cons_append, get]
  cases hb : Nat.beq (dst d0) i with
  | true =>
   obtain ⟨p, M, rfl⟩ := hA d0 (by simp)
   have := List.all_eq_true.1 G p M
   rw [nq hb, h] at this
   simp at this
  | false => rw [cond_false]; exact Oc G D (fun x O => hA x (by simp [O])) i x h
theorem I1 : ∀ {l s : Ak}, (∀ p, p ∈ l → Aw.get s p.1 = some p.2) → Sub l s
 | [], _, _ => trivial
 | (i, x) :: _, _, h => ⟨h (i, x) (by simp), I1 fun p G => h p (by simp [G])⟩
theorem dE {A : List (Nat × List Nat)} {dst : Nat → Tmp} {vals : Nat → T} {s : Ak} (W : (A.all fun p => A.all fun q => Nat.beq p.1 q.1 || !Nat.beq (dst p.1) (dst q.1)) = true)
  {D ds : List Nat} (M : ∀ d, d ∈ D → ∃ p, p ∈ A ∧ p.1 = d) (G : ∀ d, d ∈ ds → d ∈ D) : Sub (ds.map fun d => (dst d, vals d)) (D.map (fun d => (dst d, vals d)) ++ s) := by
 refine I1 fun p X => ?_
 obtain ⟨d, O, rfl⟩ := List.mem_map.1 X
 exact Oa W D M d (G d O)
theorem AP.par {A : List (Nat × List Nat)} {r : PL} {so : Ak} {O : List Nat} {G : List Ob} (dst : Nat → Tmp) (Φ : Nat → T → Prop) (Inv : List Ob → Prop)
  (hj : (A.all fun p => A.all fun q => Nat.beq p.1 q.1 || !Nat.beq (dst p.1) (dst q.1)) = true)
  (Z : Ak) (hs1 : ∀ i x, get Z i = some x → get s i = some x) (hs : (A.all fun p => (get Z (dst p.1)).isNone) = true)
  (h0 : Inv ob) (hI : ∀ ob, Inv ob → ∀ p, p ∈ G → ∃ i, O.contains i = true ∧ ob[i]? = some p)
  (hstep : PAll (fun p => ∃ o md, ops[p.1]? = some o ∧ o.guard = none ∧ o.dst = some (dst p.1) ∧ (O.all fun i => !md.contains i) = true ∧
   ∀ (vals : Nat → T) (ob : List Ob), Inv ob → (∀ d, d ∈ p.2 → Φ d (vals d)) → AX E n C md o ⟨p.2.map (fun d => (dst d, vals d)) ++ Z, ob⟩ (fun σ' => ∃ x, get σ'.slots (dst p.1) = some x ∧ Φ p.1 x ∧ Inv σ'.objs)) A)
  (k : ∀ (vals : Nat → T) ob', Inv ob' → (∀ p, p ∈ A → Φ p.1 (vals p.1)) → AP E n C ops O G r [] ⟨A.map (fun p => (dst p.1, vals p.1)) ++ Z, ob'⟩ R) :
  AP E n C ops O G (.par A r) so ⟨s, ob⟩ R := by
 intro Hs ws H a w sr wr ag hH hpp Y
 refine ⟨fun D a w => ∃ (vals : Nat → T) (ob : List Ob) (H : GH), Inv ob ∧ (∀ d, d ∈ D → Φ d (vals d)) ∧ (∀ d, d ∈ D → ∃ p, p ∈ A ∧ p.1 = d) ∧ (∀ b o, Hs b = some o → H b = some o) ∧
  Gam n C ⟨D.map (fun d => (dst d, vals d)) ++ Z, ob⟩ H a w ∧ Gc Hs G ws w, ?_, ?_, ?_⟩
 ·exact ⟨fun _ => .tup [], ob, H, h0, by simp, by simp, hH, { Y with slots := fun i x h => Y.slots i x (hs1 i x (by simpa using h)) }, ag⟩
 ·rintro D j ds a w hm hds hjD ⟨vals, ob, H, hi, hΦ, X, hH, Y, ag⟩
  obtain ⟨o, md, ho, hg, hdst, hmd, ad⟩ := hstep.get _ hm
  have hmd' : ∀ i, O.contains i = true → md.contains i = false := fun i hi => by
   have := (List.all_eq_true.1 hmd) i (by simpa using hi)
   simpa using this
  have hsub : ∀ i x, get (ds.map (fun d => (dst d, vals d)) ++ Z) i = some x → get (D.map (fun d => (dst d, vals d)) ++ Z) i = some x := by
   intro i x h
   have W := Oc (vals := vals) hs D X
   have M := dE (vals := vals) (s := Z) hj X hds
   generalize ds.map (fun d => (dst d, vals d)) = l at h M
   induction l with
   | nil => exact W i x (by simpa using h)
   | cons p l ih =>
    obtain ⟨q, y⟩ := p
    obtain ⟨h1, h2⟩ := M
    simp only [List.cons_append, get] at h
    cases hbq : Nat.beq q i with
    | true =>
     rw [hbq, cond_true] at h
     cases h
     rw [← nq hbq]; exact h1
    | false => rw [hbq, cond_false] at h; exact ih h h2
  have ad := ad vals ob hi (fun d M => hΦ d (hds d M)) H a w { Y with slots := fun i x h => Y.slots i x (hsub i x h) }
  simp only [wpOp, ho]
  rw [if_pos (by simp [Region.wanted, hg])]
  refine .inl (Cf ?_ (fun _ _ _ h => h.elim) ad)
  rintro a' w' ⟨σ', H', v, ⟨x, hget, hx, hi'⟩, ab, ha', ac, hfr⟩
  have ag' : Gc Hs G ws w' := by
   refine ⟨fun b o W => ab.held _ _ (ac _ _ (hH _ _ W)), fun p hpp b W => ?_⟩
   obtain ⟨i, hpi, hoi⟩ := hI ob hi p hpp
   exact ((hfr i p hoi (hmd' i hpi)).2 b W).trans (ag.2 p hpp b W)
  have ae : D.map (fun d => (dst d, if d = j then x else vals d)) = D.map (fun d => (dst d, vals d)) := by
   refine List.map_congr_left fun d M => ?_
   rw [if_neg (show ¬ d = j from fun h => hjD (by rw [← h]; exact M))]
  refine ⟨ag', fun d => if d = j then x else vals d, σ'.objs, H', hi', ?_, ?_, fun b o W => ac _ _ (hH _ _ W), { ab with slots := ?_ }, ag'⟩
  ·intro d M
   rcases List.mem_cons.1 M with rfl | M
   ·simpa using hx
   ·dsimp only
    rw [if_neg (show ¬ d = j from fun h => hjD (by rw [← h]; exact M))]; exact hΦ d M
  ·intro d M
   rcases List.mem_cons.1 M with rfl | M
   ·exact ⟨_, hm, rfl⟩
   ·exact X d M
  ·intro i y hy
   simp only [List.map_cons, List.cons_append, get, if_pos] at hy
   rw [ae] at hy
   cases W : Nat.beq (dst j) i with
   | true =>
    rw [W, cond_true] at hy
    cases hy
    rw [← nq W]
    exact ab.slots _ _ hget
   | false =>
    rw [W, cond_false] at hy
    have hne : dst j ≠ i := fun h => by rw [h] at W; simp at W
    rw [ha', hdst]
    simp only [Act.put]
    have he : (a.tmps.setIfInBounds (dst j) v).getD i undef = a.tmps.getD i undef := by
     simp [Array.getD_eq_getD_getElem?, Array.getElem?_setIfInBounds_ne hne]
    rw [he]; exact (Y.slots i y hy).mono ac
 ·rintro D a w aa ⟨vals, ob, H, hi, hΦ, X, hH, Y, ag⟩
  refine k vals ob hi (fun p hp => hΦ _ (aa p hp)) Hs ws H a w ⟨Y.size, fun i x h => by simp [get] at h⟩ wr ag hH (hI ob hi) { Y with slots := fun i x h => Y.slots i x ?_ }
  have W := Oc (vals := vals) hs D X
  have M : Sub (A.map fun p => (dst p.1, vals p.1)) (D.map (fun d => (dst d, vals d)) ++ Z) := I1 fun q hq => by
   obtain ⟨p, hp, rfl⟩ := List.mem_map.1 hq
   exact Oa hj D X p.1 (aa p hp)
  generalize A.map (fun p => (dst p.1, vals p.1)) = l at h M
  induction l with
  | nil => exact W i x (by simpa using h)
  | cons p l ih =>
   obtain ⟨q, y⟩ := p
   obtain ⟨h1, h2⟩ := M
   simp only [List.cons_append, get] at h
   cases hbq : Nat.beq q i with
   | true =>
    rw [hbq, cond_true] at h
    cases h
    rw [← nq hbq]; exact h1
   | false => rw [hbq, cond_false] at h; exact ih h h2
end
end Go.Aw
