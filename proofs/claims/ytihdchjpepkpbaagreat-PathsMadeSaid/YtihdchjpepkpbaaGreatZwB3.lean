/- A program logic over the model. No condition. -/
import Derived.Test.YtihdchjpepkpbaaGreatZwB2
set_option maxRecDepth 100000
namespace Go.Aw
set_option linter.unusedVariables false
set_option linter.unusedSimpArgs false
def Ds {α : Type} : List (Int × α) → Int → Option α
 | [], _ => none
 | (k, x) :: l, i => if k = i then some x else Ds l i
def Jq {α : Type} : List (Int × α) → Int → α → List (Int × α)
 | [], _, _ => []
 | (k, x) :: l, i, y => if k = i then (k, y) :: l else (k, x) :: Jq l i y
def Nf {α : Type} (l : List (Int × α)) (i : Int) (y : α) : List (Int × α) := if (Ds l i).isSome then Jq l i y else l ++ [(i, y)]
def Eb {α : Type} (f : α → Value) : List (Int × α) → Nat → List MapEntry
 | [], _ => []
 | (k, x) :: l, n => { key := .int .i64 k, val := f x, born := n } :: Eb f l (n + 1)
def E3 {α : Type} (f : α → Value) (l : List (Int × α)) : Obj := .map (Eb f l 0).toArray l.length
theorem Kt {α : Type} (f : α → Value) (i : Int) (y : α) : ∀ (l : List (Int × α)) (n : Nat), Eb f (l ++ [(i, y)]) n = Eb f l n ++ [{ key := .int .i64 i, val := f y, born := n + l.length }]
 | [], n => rfl
 | (k, x) :: l, n => by simp only [List.cons_append, Eb, Kt f i y l (n + 1), List.length_cons]; rw [show n + 1 + l.length = n + (l.length + 1) by omega]
theorem Rk {α : Type} (f : α → Value) (i : Int) : ∀ (l : List (Int × α)) (n j : Nat), ∃ m, Instr.findNow (.int .i64) (.int .i64 i) (Eb f l n) j = some ((Ds l i).map fun x => (m, f x)) ∧
  ((Ds l i).isSome → j ≤ m ∧ (Eb f l n)[m - j]? = some { key := .int .i64 i, val := (f <$> Ds l i).getD undef, born := n + (m - j) } ∧ ∀ y : α, (Eb f l n).modify (m - j) (fun e => { e with key := .int .i64 i, val := f y }) = Eb f (Jq l i y) n)
 | [], n, j => ⟨0, by simp [Eb, Instr.findNow, Ds]⟩
 | (k, x) :: l, n, j => by
  by_cases h : k = i
  ·subst h
   refine ⟨j, by simp [Eb, Instr.findNow, Instr.sameNow, Ds], fun _ => ⟨Nat.le_refl _, ?_, fun y => ?_⟩⟩
   ·simp [Eb, Ds]
   ·simp [Eb, Jq]
  ·obtain ⟨m, M, O⟩ := Rk f i l (n + 1) (j + 1)
   have W : (i == k) = false := by simp; omega
   refine ⟨m, by simp [Eb, Instr.findNow, Instr.sameNow, Ds, h, W, M], fun G => ?_⟩
   simp only [Ds, h, if_false] at G ⊢
   obtain ⟨Z, X, Y⟩ := O G
   have e : m - j = (m - (j + 1)) + 1 := by omega
   refine ⟨by omega, ?_, fun y => ?_⟩
   ·rw [e]; simp only [Eb, List.getElem?_cons_succ]; rw [X]; congr 2; omega
   ·rw [e]; simp only [Eb, Jq, h, if_false, List.modify_succ_cons]; rw [Y y]
theorem Uz {α : Type} (i : Int) (y : α) : ∀ l : List (Int × α), (Jq l i y).length = l.length
 | [] => rfl
 | (k, x) :: l => by simp only [Jq]; split <;> simp [Uz i y l]
section
variable {E : Env} {n : Nat} {C : Ctx} {σ : St} {s : Ao} {ob : List Ob} {dst : Option Tmp} {ty : TypeId} {pos : String} {aft : Array Edge} {g : Option (Nat × Bool)} {R : St → Prop}
theorem Xz {P : Program} {t : TypeId} {i : TI} (h : Hm P t = some i) {k e : Nat} (O : i.kind = .map k e) : P.underlying t = some (.map k e) := by
 obtain ⟨d, M, G⟩ := Fx h
 rw [O] at G
 cases d <;> simp [Iz] at G
 obtain ⟨rfl, rfl⟩ := G; exact M
theorem AX.makeMap {α : Type} (f : α → Value) {t : TypeId} (X : ∀ d, dst = some d → d < n) (k : ∀ b, R ⟨En σ.slots dst (.v (.map (some b))), σ.objs ++ [.raw b (E3 f [])]⟩) :
  AX E n C [] ⟨dst, .makeMap t none, ty, pos, aft, g⟩ σ R := by
 refine AX.value fun H a w M => ?_
 have G : OR H (w.alloc (E3 f [])) (.raw w.heap.size (E3 f [])) := heap_alloc_new w _
 refine ⟨.map (some w.heap.size), w.alloc (E3 f []), _, H, ?_, k w.heap.size, ?_, fun _ _ h => h, ?_⟩
 ·simp only [execOp, Instr.makeMap, E3, Eb, newObj]; rfl
 ·have := (M.alloc G rfl).put (dst := dst) (.v (.map (some w.heap.size))) X
  cases dst <;> exact this
 ·intro i p O _
  exact ⟨Ej O, fun b W => heap_alloc_old w _ ((M.objs p (mg O)).lt b W)⟩
theorem Ul {α : Type} {P : Program} {w : World} {t kt : TypeId} {f : α → Value} {l : List (Int × α)} {i : Int} (Y : P.underlying kt = some (.int .i64)) :
  ∃ m, (Instr.findKey kt (.int .i64 i) (Eb f l 0)).run P w = .ok ((Ds l i).map fun x => (m, f x)) w ∧
   ((Ds l i).isSome → (Eb f l 0)[m]? = some { key := .int .i64 i, val := (f <$> Ds l i).getD undef, born := m } ∧ ∀ y : α, (Eb f l 0).modify m (fun e => { e with key := .int .i64 i, val := f y }) = Eb f (Jq l i y) 0) := by
 obtain ⟨m, O, W⟩ := Rk f i l 0 0
 refine ⟨m, ?_, fun X => ?_⟩
 ·simp only [Instr.findKey, Sem.run_bind, run_underlying Y, Result.andThen_ok, O, Sem.run_pure]
 ·obtain ⟨_, G, M⟩ := W X
  rw [Nat.sub_zero] at G M
  rw [Nat.zero_add] at G
  exact ⟨G, M⟩
theorem Kr {P : Program} {w : World} {kt : TypeId} {i : Int} (G : P.underlying kt = some (.int .i64)) (e : Bool) (v : Value) : (Instr.checkKey e 10000 kt v).run P w = .ok () w := by
 unfold Instr.checkKey
 simp only [Sem.run_bind, run_underlying G, Result.andThen_ok, Sem.run_pure]
theorem Xd {α : Type} (q : Nat) {f : α → Value} {t : TypeId} {x y : Operand} {b : Nat} {l : List (Int × α)} {i : Int} {ti ki Z : TI} {kt et : Nat} {z : α} {u v : T}
  (ht : E.tab t = some ti) (hk : ti.kind = .map kt et) (W : E.tab kt = some ki) (X : ki.kind = .int .i64) (M : E.tab et = some Z) (hz : Z.zero = some (f z))
  (hx : A3 s x = some (.v (.map (some b)))) (ho : ob[q]? = some (.raw b (E3 f l))) (hy : A3 s y = some (.v (.int .i64 i)))
  (hu : T.v (f ((Ds l i).getD z)) = u) (hv : T.v (.bool (Ds l i).isSome) = v) :
  Yd E.P n s ob ⟨dst, .lookup t x y true, ty, pos, aft, g⟩ (.tup [u, v]) := by
 subst hu; subst hv
 intro H a w sr wr
 have hh : w.heap[b]? = some (E3 f l) := wr.objs _ (mg ho)
 refine ⟨.tuple #[f ((Ds l i).getD z), .bool (Ds l i).isSome], ?_, fun Y ag => ?_⟩
 ·exact .tup _ _ (by simp) fun j x hx => by
   match j, hx with
   | 0, hx => simp at hx; subst hx; exact .v _
   | 1, hx => simp at hx; subst hx; exact .v _
 ·have O : Y.heap[b]? = some (E3 f l) := (ag.2 _ (mg ho) b (by simp [Ob.fp])).trans hh
  have G := M6 (E.ok _ _ W) X
  obtain ⟨m, r1, r2⟩ := Ul (P := E.P) (w := Y) (t := t) (kt := kt) (f := f) (l := l) (i := i) G
  simp only [execOp, sr.evalv hx, sr.evalv hy, Instr.lookup, Sem.run_bind, run_underlying (Xz (E.ok _ _ ht) hk), Result.andThen_ok]
  simp only [getObj, Sem.run, O, E3, Result.andThen_ok, Sem.run_bind, Sem.run_pure, Kr (i := i) G, r1]
  cases hm : Ds l i with
  | none => simp [Ek (E.ok _ _ M) Y hz]
  | some x => simp
def mB (x : Bool) : Value := .bool x
theorem gR {P : Program} {w : World} {b : Nat} {es : Array MapEntry} {c : Nat} (h : w.heap[b]? = some (.map es c)) : (getObj b).run P w = .ok (.map es c) w := by
 simp only [getObj, Sem.run, h]
theorem AX.mapUpdate {α : Type} (q : Nat) {f : α → Value} {t : TypeId} {x y v : Operand} {b : Nat} {l : List (Int × α)} {i : Int} {ti ki : TI} {kt et : Nat} {z : α}
  (ht : E.tab t = some ti) (hk : ti.kind = .map kt et) (hki : E.tab kt = some ki) (hkk : ki.kind = .int .i64)
  (hx : A3 σ.slots x = some (.v (.map (some b)))) (ho : σ.objs[q]? = some (.raw b (E3 f l))) (hy : A3 σ.slots y = some (.v (.int .i64 i))) (hv : A3 σ.slots v = some (.v (f z)))
  (hd : dst = none) (kk : R ⟨σ.slots, σ.objs.set q (.raw b (E3 f (Nf l i z)))⟩) :
  AX E n C [q] ⟨dst, .mapUpdate t x y v, ty, pos, aft, g⟩ σ R := by
 subst hd
 refine AX.skip fun H a w X => ?_
 have hh : w.heap[b]? = some (E3 f l) := X.objs _ (mg ho)
 have ab : b < w.heap.size := (Array.getElem?_eq_some_iff.1 hh).1
 have M := M6 (E.ok _ _ hki) hkk
 obtain ⟨m, r1, r2⟩ := Ul (P := E.P) (w := w) (t := t) (kt := kt) (f := f) (l := l) (i := i) M
 have O : ∀ o : Obj, ∀ k : Sem Unit, (Sem.setObj b o k).run E.P w = k.run E.P { w with heap := w.heap.setIfInBounds b o } := by
  intro o k
  simp only [Sem.run, hh, E3]
 have aa : (execOp a.eval ⟨none, .mapUpdate t x y v, ty, pos, aft, g⟩).run E.P w = .ok .skip { w with heap := w.heap.setIfInBounds b (E3 f (Nf l i z)) } := by
  simp only [execOp, X.sr.evalv hx, X.sr.evalv hy, X.sr.evalv hv, Instr.mapUpdate, Sem.run_bind, run_underlying (Xz (E.ok _ _ ht) hk), Result.andThen_ok]
  simp only [gR (show w.heap[b]? = some (.map (Eb f l 0).toArray l.length) from hh), Result.andThen_ok, Sem.run_bind, Sem.run_pure, Kr (i := i) M, r1]
  cases Y : Ds l i with
  | none =>
   simp only [Option.map_none, Sem.run_bind]
   have : Nf l i z = l ++ [(i, z)] := by unfold Nf; rw [Y]; rfl
   simp only [setObj, O, Sem.run_pure, Result.andThen_ok]
   rw [this]
   simp only [E3, Kt, List.length_append, List.length_singleton, Nat.zero_add]
   congr 3
   simp
  | some u =>
   obtain ⟨e1, e2⟩ := r2 (by rw [Y]; rfl)
   have : Nf l i z = Jq l i z := by unfold Nf; rw [Y]; rfl
   simp only [Option.map_some, Sem.run_bind]
   have hkt : (Instr.keyThatStays (.int .i64 i) (.int .i64 i)).run E.P w = .ok (.int .i64 i) w := by
    simp [Instr.keyThatStays, Instr.sameBits]
   have he : ((((Eb f l 0).toArray)[m]?).map (·.key)).getD (.int .i64 i) = .int .i64 i := by
    simp [e1]
   rw [he, hkt]
   simp only [Result.andThen_ok, setObj, O, Sem.run_pure]
   rw [this]
   have Z : ((Eb f l 0).toArray.modify m fun e => { key := .int .i64 i, val := f z, born := e.born }) = (Eb f (Jq l i z) 0).toArray := by
    have := e2 z
    rw [← this]
    simp
   simp only [E3, Uz, Z]
   rfl
 refine ⟨_, _, H, aa, kk, ?_, fun _ _ h => h, fun i' p hp Y => ?_⟩
 ·refine X.set ho ⟨rfl, rfl, rfl⟩ (by simp) (fun j hj G => ?_) ?_ (fun b' W => .inr (by simpa [Ob.fp] using W)) (by simp [Ob.fp])
  ·simp only [Ob.fp, List.mem_singleton] at G
   simp [Array.getElem?_setIfInBounds_ne (Ne.symm G)]
  ·show (w.heap.setIfInBounds b _)[b]? = _
   simp [Array.getElem?_setIfInBounds_self, ab]
 ·have G : q ≠ i' := fun h => by subst h; simp at Y
  refine ⟨G2 hp G, fun b' W => ?_⟩
  have : b ≠ b' := fun h => X.apart ho hp G b' W (by simp [Ob.fp, h])
  simp [Array.getElem?_setIfInBounds_ne this]
end
def AWP (E : Env) (n : Nat) (C1 C : Ctx) (c : Code) (σ : St) (Q : Exit → St → Prop) : Prop :=
 ∀ H a w, Gam n C1 σ H a w → cw c E.P (fun e G M => ∃ σ' H', Q e σ' ∧ Gam n C σ' H' G M) a w
def Cv (n : Nat) (C1 C : Ctx) (σ : St) (P : St → Prop) : Prop := ∀ H a w, Gam n C1 σ H a w → ∃ σ' H', P σ' ∧ Gam n C σ' H' a w
def Nd (v : Nat → Value) (pins : Ao) : Ao := pins.map fun p => (p.1, .v (v p.1))
def Back (n : Nat) (C1 C : Ctx) (v : Nat → Value) (pins : Ao) (ob : List Ob) : Prop :=
 ∀ (M : Ao) (O : List Ob) (H : GH) (a : Act) (w : World), Gam n C1 ⟨M, O⟩ H a w → Sub (Nd v pins) M → ∀ G : Ao, Sub G M → (∀ i x, get G i = some x → Em x = true) →
  ∃ H', Gam n C ⟨G ++ pins, ob⟩ H' a w
def Wj : Option Obj → Bool
 | some (.deferred (some [])) => true
 | _ => false
def lB (ob : List Ob) : Bool := ob.all fun | .raw _ _ => false | _ => true
section
variable {E : Env} {n : Nat} {C C1 : Ctx} {Q : Exit → St → Prop}
theorem AWP.seq {x y : Code} {σ : St} (h : AW E n C1 x σ (Ho (fun σ' => AWP E n C1 C y σ' Q) (fun e σ' => Cv n C1 C σ' (Q e)))) : AWP E n C1 C (.seq x y) σ Q := fun H a w g =>
 dH (Ha (h H a w g) fun e a' w' ⟨σ', H', q, G⟩ => by
  cases e with
  | normal => exact q H' a' w' G
  | _ => exact q H' a' w' G)
theorem G0 {x y : Code} {σ : St} (h : ∀ G, G = y → AW E n C1 x σ (Ho (fun σ' => AWP E n C1 C G σ' Q) (fun e σ' => Cv n C1 C σ' (Q e)))) : AWP E n C1 C (.seq x y) σ Q := AWP.seq (h y rfl)
theorem D1 {s : Ao} {ob : List Ob} (t : Nat) {v : Value} {y : T} (M : get s t = some (.v v)) (hv : VR C.H0 v y) : Ghost n C s ob ((t, y) :: s) ob := Ghost.slots fun H a w G i x hx => by
 simp only [get] at hx
 cases hb : Nat.beq t i with
 | true =>
  rw [hb] at hx
  simp only [cond_true, Option.some.injEq] at hx
  have := nq hb
  subst this; subst hx
  rw [(G.slots t _ M).v_eq]; exact hv.mono G.grow
 | false => rw [hb] at hx; exact G.slots i x hx
theorem dD {v : Nat → Value} : ∀ {pins : Ao} {i : Nat} {x : T}, get pins i = some x → get (Nd v pins) i = some (.v (v i))
 | [], i, x, h => by simp [get] at h
 | (k, y) :: l, i, x, h => by
  simp only [Nd, List.map_cons, get] at h ⊢
  cases hb : Nat.beq k i with
  | true => simp [nq hb]
  | false => rw [hb] at h; simpa [Nd] using dD (pins := l) h
theorem cY {v : Nat → Value} : ∀ {pins : Ao} {i : Nat} {x : T}, get (Nd v pins) i = some x → x = .v (v i)
 | [], i, x, h => by simp [Nd, get] at h
 | (k, y) :: l, i, x, h => by
  simp only [Nd, List.map_cons, get] at h
  cases hb : Nat.beq k i with
  | true => rw [hb] at h; simp only [cond_true, Option.some.injEq] at h; rw [← h, nq hb]
  | false => rw [hb] at h; exact cY (pins := l) (by simpa [Nd] using h)
theorem Ya : ∀ {l m : Ao} {i : Nat} {x : T}, get (l ++ m) i = some x → get l i = some x ∨ get m i = some x
 | [], m, i, x, h => .inr h
 | (k, y) :: l, m, i, x, h => by
  simp only [List.cons_append, get] at h ⊢
  cases hb : Nat.beq k i with
  | true => rw [hb] at h; exact .inl h
  | false => rw [hb] at h; exact Ya h
theorem Back.leave {v : Nat → Value} {pins : Ao} {ob : List Ob} (O : Back n C1 C v pins ob) {y : Code} {G : Ao} {M : List Ob} (hs : Sub (Nd v pins) G) (k : AW E n C y ⟨pins, ob⟩ Q) : AWP E n C1 C y ⟨G, M⟩ Q := fun H a w g =>
 let ⟨H', g'⟩ := O G M H a w g hs [] trivial (fun i x h => by simp [get] at h)
 k H' a w g'
theorem Back.out {v : Nat → Value} {pins : Ao} {ob : List Ob} (O : Back n C1 C v pins ob) {G : Ao} {M : List Ob} (ex : Ao) (hs : Sub (Nd v pins) G) (he : Sub ex G) (hf : ex.all (fun p => Em p.2) = true) {P : St → Prop} (k : P ⟨ex ++ pins, ob⟩) : Cv n C1 C ⟨G, M⟩ P := fun H a w g =>
 let ⟨H', g'⟩ := O G M H a w g hs ex he (fun i x h => by
  clear he k hs
  induction ex with
  | nil => simp [get] at h
  | cons p l ih =>
   simp only [List.all_cons, Bool.and_eq_true] at hf
   simp only [get] at h
   cases hb : Nat.beq p.1 i with
   | true => rw [hb] at h; simp only [cond_true, Option.some.injEq] at h; rw [← h]; exact hf.1
   | false => rw [hb] at h; exact ih hf.2 h)
 ⟨_, H', k, g'⟩
theorem iQ {c : Code} {s : Ao} {ob : List Ob} (pins : Ao) (O : Sub pins s) (hr : lB ob = true)
  (h : ∀ (C1 : Ctx) (v : Nat → Value), (∀ (t : Nat) (x y : T), get s t = some x → Lend ob x y → VR C1.H0 (v t) y) → Back n C1 C v pins ob → AWP E n C1 C c ⟨Nd v pins, []⟩ Q) : AW E n C c ⟨s, ob⟩ Q := by
 intro H a w W
 have hown : ∀ b o, H b = some o → b ∉ ob.flatMap Ob.fp := fun b o G hm => by
  obtain ⟨p, O, M⟩ := List.mem_flatMap.1 hm
  rw [W.free p O b M] at G; cases G
 obtain ⟨H1, aa⟩ : ∃ H1 : GH, H1 = fun b => if b ∈ ob.flatMap Ob.fp then w.heap[b]? else H b := ⟨_, rfl⟩
 have ab : ∀ b o, H b = some o → H1 b = some o := fun b o G => by rw [aa]; simp only [hown b o G, if_false]; exact G
 have ho1 : ∀ p, p ∈ ob → OR H1 w p := fun p O => (W.objs p O).mono ab (fun _ _ => rfl)
 have hb1 : ∀ p, p ∈ ob → ∀ b, b ∈ p.fp → H1 b = w.heap[b]? := fun p O b G => by
  rw [aa]; simp only [List.mem_flatMap.2 ⟨p, O, G⟩, if_true]
 have hheld1 : ∀ b o, H1 b = some o → w.heap[b]? = some o := fun b o G => by
  rw [aa] at G
  dsimp only at G
  split at G
  ·exact G
  ·exact W.held b o G
 have Y : ∀ b, b ∈ ob.flatMap Ob.fp → ∃ cs ty fr, w.heap[b]? = some (.cells cs ty fr) := fun b G => by
  obtain ⟨p, O, M⟩ := List.mem_flatMap.1 G
  have ho := W.objs p O
  have hq := List.all_eq_true.1 hr p O
  have us : ∀ {v : Value} {ty sz : Nat} {es : List (List T)}, UsR H w v ty sz es → b ∈ Hg v → ∃ cs ty fr, w.heap[b]? = some (.cells cs ty fr) := fun hu hbv => by
   rcases hu with ⟨rfl, _⟩ | ⟨b', c, cap, rfl, _, _, cs, X, _⟩
   ·simp [Hg] at hbv
   ·simp only [Hg, List.mem_singleton] at hbv; subst hbv; exact ⟨_, _, _, X⟩
  cases p with
  | arr b' ty sz cap es =>
   simp only [Ob.fp, List.mem_singleton] at M; subst M
   obtain ⟨cs, X, _⟩ := ho
   exact ⟨_, _, _, X⟩
  | us v ty sz es => exact us ho M
  | uss v ty tyi szi vs L =>
   simp only [Ob.fp, List.mem_append] at M
   rcases M with M | M
   ·exact us ho.2.1 M
   ·have key : ∀ (vs : List Value) (L : List (Option (List (List T)))), b ∈ D8 vs L → ∃ (i : Nat) (x : Value) (es : List (List T)), vs[i]? = some x ∧ L[i]? = some (some es) ∧ b ∈ Hg x := by
     intro vs
     induction vs with
     | nil => intro L h; cases L <;> simp [D8] at h
     | cons x vs ih =>
      intro L h
      cases L with
      | nil => simp [D8] at h
      | cons y L =>
       cases y with
       | none => obtain ⟨i, x', es', X, Z, h3⟩ := ih L (by simpa [D8] using h); exact ⟨i + 1, x', es', by simpa using X, by simpa using Z, h3⟩
       | some es =>
        simp only [D8, List.mem_append] at h
        rcases h with h | h
        ·exact ⟨0, x, es, rfl, rfl, h⟩
        ·obtain ⟨i, x', es', X, Z, h3⟩ := ih L h; exact ⟨i + 1, x', es', by simpa using X, by simpa using Z, h3⟩
    obtain ⟨i, x, es, X, Z, h3⟩ := key vs L M
    exact us (ho.2.2 i x es X Z) h3
  | raw b' o => simp at hq
 refine h { w0 := C.w0, H0 := H1, fp := C.fp, hg := fun b l G => (C.hg b l G).mono fun b o hh => ab b o (W.grow b o hh) } (fun t => a.tmps.getD t undef) (fun t x y hx hl => Nc ho1 hb1 ab hl (W.slots t x hx)) ?_ H1 a w ?_
 ·intro s1 o1 H' a' w' g1 hs ex he hf
  have hgr : ∀ b o, H1 b = some o → H' b = some o := g1.grow
  have hsame : ∀ b, b ∈ ob.flatMap Ob.fp → w'.heap[b]? = w.heap[b]? := fun b G => by
   obtain ⟨cs, ty, fr, X⟩ := Y b G
   rw [X]
   refine g1.held _ _ (hgr _ _ ?_)
   rw [aa]; simp only [G, if_true]; exact X
  obtain ⟨H2, hH2⟩ : ∃ H2 : GH, H2 = fun b => if b ∈ ob.flatMap Ob.fp then none else if (H b).isSome then H b else if Wj (H' b) then H' b else none := ⟨_, rfl⟩
  have hm2 : ∀ b o, H b = some o → H2 b = some o := fun b o G => by rw [hH2]; simp [hown b o G, G]
  have h2' : ∀ b o, H2 b = some o → H' b = some o := fun b o G => by
   rw [hH2] at G
   dsimp only at G
   split at G
   ·cases G
   ·split at G
    ·exact hgr _ _ (ab _ _ G)
    ·split at G
     ·exact G
     ·cases G
  refine ⟨H2, ?_, g1.size, ?_, ?_, ?_, ?_, W.nodup, fun b o G => g1.held _ _ (h2' b o G), fun b o G => hm2 _ _ (W.grow _ _ G), g1.heap, ?_, g1.env⟩
  ·refine ⟨g1.defers.1, fun d hd => ?_⟩
   obtain ⟨b, X, Z, h3⟩ := g1.defers.2 d hd
   refine ⟨b, X, ?_, h3⟩
   have hno : b ∉ ob.flatMap Ob.fp := fun G => by
    obtain ⟨cs, ty, fr, h4⟩ := Y b G
    have := hgr b _ (by rw [aa]; simp only [G, if_true]; exact h4)
    rw [Z] at this; cases this
   rw [hH2]
   simp only [hno, if_false]
   cases G : H b with
   | none => simp [Z, Wj]
   | some o =>
    have := hgr b o (ab b o G)
    rw [Z] at this
    simp [← this]
  ·intro i x hx
   rcases Ya hx with hx | hx
   ·exact (g1.slots i x (he.get i x hx)).flat (hf i x hx)
   ·have X := (g1.slots i _ (hs.get i _ (dD hx))).v_eq
    have Z := W.slots i x (O.get i x hx)
    rw [X]; exact Z.mono hm2
  ·intro p O
   exact (W.objs p O).mono hm2 (fun b G => hsame b (List.mem_flatMap.2 ⟨p, O, G⟩))
  ·intro p O b G
   rw [hH2]; simp only [List.mem_flatMap.2 ⟨p, O, G⟩, if_true]
  ·exact W.new
  ·intro b G hf'
   obtain ⟨X, Z⟩ := g1.frame b G hf'
   obtain ⟨h3, h4⟩ := W.frame b G hf'
   refine ⟨X, ?_⟩
   have hno : b ∉ ob.flatMap Ob.fp := fun hm => by
    obtain ⟨p, O, M⟩ := List.mem_flatMap.1 hm
    rcases W.new p O b M with h | h
    ·omega
    ·exact hf' h
   have h5 : H' b = H b := by
    rw [Z]; show H1 b = H b
    rw [aa]; simp only [hno, if_false]
   rw [hH2]
   simp only [hno, if_false, h5]
   rw [← h4]
   cases hb0 : H b with
   | none => simp [Wj]
   | some o => simp
 ·refine ⟨W.defers.mono ab, W.size, fun i x hx => by obtain rfl := cY (v := fun t => a.tmps.getD t undef) (pins := pins) hx; exact .v _, fun p O => by simp at O, fun p O => by simp at O, fun p O => by simp at O, by simp, hheld1, fun b o G => G, W.heap, fun b G hf => ⟨(W.frame b G hf).1, rfl⟩, W.env⟩
end
section
variable {E : Env} {n : Nat} {C : Ctx} {σ : St} {s : Ao} {ob : List Ob} {ops : Array Oper} {b0 : Nat} {F : List (Nat × T)} {so : Ao} {R : St → Prop} {Q : Exit → St → Prop} {i : Nat} {r : PL}
def gL (Hs : GH) (b0 : Nat) (F : List (Nat × T)) (G : Nat → Value) (w : World) : Prop := (∀ b o, Hs b = some o → w.heap[b]? = some o) ∧ ∀ p, p ∈ F → w.cell? ⟨b0, p.1, none⟩ = some (G p.1)
theorem Y9 {w w' : World} {b o : Nat} (h : w'.heap[b]? = w.heap[b]?) : w'.cell? ⟨b, o, none⟩ = w.cell? ⟨b, o, none⟩ := by simp only [World.cell?, h]
def AQ (E : Env) (n : Nat) (C : Ctx) (ops : Array Oper) (b0 : Nat) (F : List (Nat × T)) (pl : PL) (so : Ao) (σ : St) (R : St → Prop) : Prop :=
 ∀ Hs (G : Nat → Value) H a w, SR n so Hs a → (∀ p, p ∈ F → VR Hs (G p.1) p.2) → gL Hs b0 F G w → (∀ b o, Hs b = some o → H b = some o) → Gam n C σ H a w →
  C5 E.P ops (fun e M O => e = .normal ∧ ∃ σ' H', R σ' ∧ Gam n C σ' H' M O) (gL Hs b0 F G) pl a w
theorem AQ.two {i j : Nat} {r1 r2 : PL} (h1 : AQ E n C ops b0 F (.act i r1) so σ R) (h2 : AQ E n C ops b0 F (.act j r2) so σ R) : AQ E n C ops b0 F (.two i j r1 r2) so σ R :=
 fun Hs M H a w Y X G W O => ⟨h1 Hs M H a w Y X G W O, h2 Hs M H a w Y X G W O⟩
theorem AQ.three {i j k : Nat} {r1 r2 r3 : PL} (h1 : AQ E n C ops b0 F (.act i r1) so σ R) (h2 : AQ E n C ops b0 F (.act j r2) so σ R) (Z : AQ E n C ops b0 F (.act k r3) so σ R) : AQ E n C ops b0 F (.three i j k r1 r2 r3) so σ R :=
 fun Hs M H a w Y X G W O => ⟨h1 Hs M H a w Y X G W O, h2 Hs M H a w Y X G W O, Z Hs M H a w Y X G W O⟩
theorem AQ.ghost {s' : Ao} {ob' : List Ob} (h : Ghost n C s ob s' ob') (k : AQ E n C ops b0 F r so ⟨s', ob'⟩ R) : AQ E n C ops b0 F r so ⟨s, ob⟩ R := by
 intro Hs M H a w sr Z G X O
 obtain ⟨H', W, g⟩ := h H a w O
 exact k Hs M H' a w sr Z G (fun b o Y => W _ _ (X _ _ Y)) g
theorem AQ.one (q : Nat) {v : Value} {M sz : Nat} {es : List (List T)} (Y : ob[q]? = some (.us v M sz es)) (k : v.oneCell' = true → AQ E n C ops b0 F r so ⟨s, ob⟩ R) : AQ E n C ops b0 F r so ⟨s, ob⟩ R :=
 fun Hs W H a w sr Z O X G => k (UsR.one (show UsR H w v M sz es from G.objs _ (mg Y))) Hs W H a w sr Z O X G
theorem AQ.o {d : Nat} {Z : Op} {ty : TypeId} {pos : String} {aft : Array Edge} {x : T} (ho : ops[i]? = some ⟨some d, Z, ty, pos, aft, none⟩) (hy : Yd E.P n so [] ⟨some d, Z, ty, pos, aft, none⟩ x) (hd : Nat.blt d n = true)
  (k : AQ E n C ops b0 F r ((d, x) :: so) ⟨(d, x) :: s, ob⟩ R) : AQ E n C ops b0 F (.still i r) so ⟨s, ob⟩ R := by
 intro Hs fv H a w sr hv W Y gm
 obtain ⟨v, O, M⟩ := hy Hs a w sr ⟨by simp, W.1⟩
 have G : ∀ X, some d = some X → X < n := A1 hd
 refine ⟨_, v, ho, .inl ⟨by simp [Region.wanted], fun w' hw => M w' ⟨hw.1, by simp⟩⟩, W, ?_⟩
 exact k Hs fv H _ w (sr.put (dst := some d) O G) hv W Y (gm.put (dst := some d) (O.mono Y) G)
theorem lY {d : Nat} {G : Op} {ty : TypeId} {pos : String} {aft : Array Edge} {x : T} (O : ops[i]? = some ⟨some d, G, ty, pos, aft, none⟩) (hy : Yp E.P n so ⟨some d, G, ty, pos, aft, none⟩ x) (M : Nat.blt d n = true)
  (k : AQ E n C ops b0 F r ((d, x) :: so) ⟨(d, x) :: s, ob⟩ R) : AQ E n C ops b0 F (.still i r) so ⟨s, ob⟩ R := AQ.o O hy.yd M k
theorem AQ.new {d : Nat} {X : Op} {ty : TypeId} {pos : String} {aft : Array Edge} {x : T} (ho : ops[i]? = some ⟨some d, X, ty, pos, aft, none⟩) (hy : Yp E.P n s ⟨some d, X, ty, pos, aft, none⟩ x) (hd : Nat.blt d n = true)
  (k : AQ E n C ops b0 F r so ⟨(d, x) :: s, ob⟩ R) (hf : free so (some d) = true := by rfl) : AQ E n C ops b0 F (.still i r) so ⟨s, ob⟩ R := by
 intro Hs Y H a w sr hv O Z W
 obtain ⟨v, M, G⟩ := hy H a W.sr
 refine ⟨_, v, ho, .inl ⟨by simp [Region.wanted], fun w' _ => G w'⟩, O, ?_⟩
 exact k Hs Y H _ w (sr.free _ _ hf) hv O Z (W.put (dst := some d) M (A1 hd))
theorem AQ.act {σ : St} {o : Oper} (md : List Nat) (kb : Nat) {tt sz cap : Nat} {es : List (List T)} (ho : ops[i]? = some o) (hg : o.guard = none) (hk : σ.objs[kb]? = some (.arr b0 tt sz cap es)) (hm : md.contains kb = false)
  (h : AX E n C md o σ (fun σ' => AQ E n C ops b0 F r so σ' R)) (hf : free so o.dst = true := by rfl) : AQ E n C ops b0 F (.act i r) so σ R := by
 intro Hs Y H a w sr hv ag Z gm
 simp only [C5, wpOp, ho]
 rw [if_pos (by simp [Region.wanted, hg])]
 refine .inl (Cp ?_ (fun _ _ _ h => h.elim) (h H a w gm))
 rintro a' w' ⟨σ', H', v, hr, M, W, O, X⟩
 have G : gL Hs b0 F Y w' := ⟨fun b o hb => M.held _ _ (O _ _ (Z _ _ hb)), fun p hp => (Y9 ((X kb _ hk hm).2 b0 (by simp [Ob.fp]))).trans (ag.2 p hp)⟩
 exact ⟨G, hr Hs Y H' a' w' (by rw [W]; exact sr.free _ _ hf) hv G (fun b o hb => O _ _ (Z _ _ hb)) M⟩
theorem lS (k : Nat) {t : TypeId} {x y : Operand} {ty : TypeId} {pos : String} {aft : Array Edge} {ti : TI} {c : T} {cs : List T} {off tt sz : Nat} {e e' : List T} (ho : ops[i]? = some ⟨none, .store t x y, ty, pos, aft, none⟩)
  (ht : E.tab t = some ti) (hx : A3 s x = some (.v (.pointer (some ⟨b0, off, none⟩)))) (hk : ob[k]? = some (.arr b0 tt sz 1 [e]))
  (hy : A3 s y = some c) (hc : Ea c = some cs) (hsz : ti.size = cs.length) (hj : off + cs.length ≤ e.length) (hes : E9 e off cs = e') (hF : (F.all fun p => Nat.blt p.1 off || Nat.ble (off + cs.length) p.1) = true)
  (kk : AQ E n C ops b0 F r so ⟨s, ob.set k (.arr b0 tt sz 1 [e'])⟩ R) : AQ E n C ops b0 F (.act i r) so ⟨s, ob⟩ R := by
 subst hes
 intro Hs fv H a w sr hv ag hH gm
 simp only [C5, wpOp, ho]
 rw [if_pos (by simp [Region.wanted])]
 have hor : ArrR H w b0 tt sz 1 [e] := gm.objs _ (mg hk)
 have hor' := hor
 obtain ⟨G, a1, a2, a3, a4, a5, a6⟩ := hor'
 have M := Gt (gm.sr.eval hy) hc
 have hel : e.length = sz := a5 0 e (by simp)
 obtain ⟨w', h1, h2, h3, h4, h5⟩ := Mp (E := E) (off := off) 0 off hor (by simp) (by simp) (news := (a.eval y).cells.toList) (by simpa using M.1) M.all1 (fun i x hx => by
  have := (M.2 i x hx).2
  simpa [Array.getD_eq_getD_getElem?, List.getD] using this) hj
 have X : (a.eval y).cells.toList.length = cs.length := by simpa using M.1
 have W := run_storeCells_at (P := E.P) b0 off tt (a.eval y).cells.toList 0 G w a1 (by rw [X]; omega) M.all1
 simp only [Nat.add_zero] at W
 rw [W] at h1
 have hw' : w' = w.setRow b0 (G.toList.take off ++ (a.eval y).cells.toList ++ G.toList.drop (off + (a.eval y).cells.toList.length)).toArray := by
  injection h1 with _ h; exact h.symm
 have hrun : (execOp a.eval ⟨none, .store t x y, ty, pos, aft, none⟩).run E.P w = .ok .skip w' := by
  have hev := gm.sr.evalv hx
  rw [hw']
  simp [execOp, Instr.storeAt, Instr.sureAddr, hev, storeVar, B8 (E.ok _ _ ht), hsz, show (a.eval y).cells.size = cs.length from M.1] at W ⊢
  simp [W]
 refine .inl ?_
 simp only [Oper.wp, hrun, Oper.upon]
 have gm' : Gam n C ⟨s, ob.set k (.arr b0 tt sz 1 [E9 e off cs])⟩ H (a.put none undef) w' :=
  gm.set hk h3 (by omega) (fun i _ hi => h5 i (by simpa [Ob.fp] using hi)) (o' := .arr b0 tt sz 1 [E9 e off cs]) h2 (fun b hb => .inr hb) (by simp [Ob.fp])
 have ag' : gL Hs b0 F fv w' := by
  refine ⟨fun b o hb => gm'.held _ _ (hH _ _ hb), fun p hp => ?_⟩
  have hpF := List.all_eq_true.1 hF p hp
  simp only [Bool.or_eq_true] at hpF
  have O := ag.2 p hp
  have hlt : p.1 < G.size := by
   simp only [World.cell?, a1] at O
   exact (Array.getElem?_eq_some_iff.1 (by simpa using O)).1
  have Z : G.getD p.1 undef = fv p.1 := by
   have := Km a1 hlt
   rw [O] at this; exact (Option.some.inj this).symm
  have Y := setRow_heap w b0 G (G.toList.take off ++ (a.eval y).cells.toList ++ G.toList.drop (off + (a.eval y).cells.toList.length)).toArray tt (0, 0) a1
  rw [← hw'] at Y
  have hns : (G.toList.take off ++ (a.eval y).cells.toList ++ G.toList.drop (off + (a.eval y).cells.toList.length)).toArray.size = G.size := by
   simp only [List.size_toArray, List.length_append, List.length_take, List.length_drop, Array.length_toList, X]; omega
  rw [Km Y (by rw [hns]; exact hlt), H4 (by rw [X]; omega), if_neg ?_, Z]
  rintro ⟨q1, q2⟩
  rw [X] at q2
  rcases hpF with h | h
  ·have := Nat.le_of_ble_eq_true h; omega
  ·have := Nat.le_of_ble_eq_true h; omega
 exact ⟨ag', kk Hs fv H _ w' sr hv ag' hH gm'⟩
end
open Go.Sem
variable {E : Env} {n : Nat} {C : Ctx} {σ : St} {dst : Option Tmp} {ty : TypeId} {pos : String} {aft : Array Edge} {g : Option (Nat × Bool)}
theorem kM (ks m : Nat) {x hi : Operand} {t : TypeId} {ti ei : TI} {e tt sz : Nat} {v : Value} {es : List (List T)} {R : St → Prop}
  (hx : A3 σ.slots x = some (.v v)) (O : σ.objs[ks]? = some (.us v tt sz es)) (hh : A3 σ.slots hi = some (.v (.int .i64 (m : Int)))) (W : m ≤ es.length)
  (k : ∀ M, R ⟨En σ.slots dst (.v M), σ.objs.set ks (.us M tt sz (es.take m))⟩)
  (ht : E.tab t = some ti := by exact rfl) (hk : ti.kind = .slice e := by exact rfl) (he : E.tab e = some ei := by exact rfl) (hd : ∀ d, dst = some d → d < n := by exact A1 rfl) :
  AX E n C [ks] ⟨dst, .slice t x none (some hi) none, ty, pos, aft, g⟩ σ R := by
 refine AX.value fun H a w gm => ?_
 have hu := D6 (E.ok _ _ ht) hk
 have r := gm.sr
 have X := mg O
 have hex : ∀ w, (execOp a.eval ⟨dst, .slice t x none (some hi) none, ty, pos, aft, g⟩).run E.P w = ((Instr.sliceAt t v none (some (a.eval hi)) none).run E.P w).andThen fun a w => .ok (.value a) w := by
  intro w
  simp only [execOp, r.evalv hx, Sem.run_bind, Option.map_none, Option.map_some]
  rfl
 have Z : ∀ (i : Nat) (e' : List T), (es.take m)[i]? = some e' → es[i]? = some e' := fun i e' G => by
  rw [List.getElem?_take_of_lt (by have := (gs G).1; simp at this; omega)] at G; exact G
 have Y : ∃ M, (Instr.sliceAt t v none (some (a.eval hi)) none).run E.P w = .ok M w ∧ UsR H w M tt sz (es.take m) ∧ ∀ b, b ∈ Hg M → b ∈ Hg v := by
  rcases gm.objs _ X with ⟨rfl, rfl⟩ | ⟨b, c, cap, rfl, p1, p2, cs, a1, a2, a3, a4, a5, a6⟩
  ·have : m = 0 := by simpa using W
   subst this
   have hb := Dz (P := E.P) (w := w) r (isS := true) (len := 0) (cap := 0) (l := 0) (h := 0) (m := 0) (lo := none) (hi := some hi) (mx := none) rfl ⟨_, _, hh, rfl⟩ rfl (fun h => by cases h) (Nat.le_refl _) (Nat.le_refl _) (Nat.le_refl _)
   simp only [Option.map_none, Option.map_some] at hb
   refine ⟨.slice none 0 0, ?_, .inl ⟨rfl, by simp⟩, fun b hb => hb⟩
   simp [Instr.sliceAt, Instr.slice, run_underlying hu, hb, B8 (E.ok _ _ he)]
  ·have hb := Dz (P := E.P) (w := w) r (isS := true) (len := es.length) (cap := c) (l := 0) (h := m) (m := c) (lo := none) (hi := some hi) (mx := none) rfl ⟨_, _, hh, rfl⟩ rfl (fun h => by cases h) (Nat.zero_le _) (by omega) (Nat.le_refl _)
   simp only [Option.map_none, Option.map_some] at hb
   refine ⟨.slice (some ⟨b, 0, none⟩) m c, ?_, .inr ⟨b, c, cap, by rw [List.length_take, Nat.min_eq_left W], by rw [List.length_take, Nat.min_eq_left W]; omega, p2, cs, a1, a2, by rw [List.length_take, Nat.min_eq_left W]; omega, by rw [List.length_take, Nat.min_eq_left W]; omega, fun i e' G => a5 i e' (Z i e' G), fun i e' G => a6 i e' (Z i e' G)⟩, fun b' hb' => by simpa [Hg] using hb'⟩
   simp only [Instr.sliceAt, Instr.slice, Sem.run_bind, run_underlying hu, Result.andThen_ok, hb, B8 (E.ok _ _ he), Sem.run_pure]
   by_cases hml : c = 0 <;> simp [hml, Di]
 obtain ⟨M, h1, h2, h3⟩ := Y
 refine ⟨M, w, _, H, by rw [hex, h1]; rfl, k M, ?_, fun _ _ h => h, fun i p hp hmd => ?_⟩
 ·have := (gm.set (o' := .us M tt sz (es.take m)) O ⟨rfl, rfl, rfl⟩ (Nat.le_refl _) (fun _ _ _ => rfl) h2 (fun b hb => .inr (h3 b hb)) (Ij M)).put (dst := dst) (.v M) hd
  cases dst <;> exact this
 ·have hne : ks ≠ i := fun h => by subst h; simp at hmd
  exact ⟨G2 hp hne, fun b hb => rfl⟩
theorem Yi {α : Type} {fr : α → List T} {la W : List α} {b : Int} (ks : Nat) {d : Nat} {x hi : Operand} {t : TypeId} {ti ei : TI} {e X sz : Nat} {v : Value} {R : St → Prop}
  (M : σ.objs[ks]? = some (.us v X sz (la.map fr))) (Z : Wa la 0 b = some W) (k : ∀ G, R ⟨En σ.slots (some d) (.v G), σ.objs.set ks (.us G X sz (W.map fr))⟩)
  (hx : A3 σ.slots x = some (.v v) := by exact rfl) (hh : A3 σ.slots hi = some (.v (.int .i64 b)) := by exact rfl)
  (ht : E.tab t = some ti := by exact rfl) (hk : ti.kind = .slice e := by exact rfl) (he : E.tab e = some ei := by exact rfl) (hd : Nat.blt d n = true := by exact rfl) :
  AX E n C [ks] ⟨some d, .slice t x none (some hi) none, ty, pos, aft, g⟩ σ R := by
 obtain ⟨p, q, h1, rfl, h2, Y, O⟩ := Ui Z
 have : p = 0 := by omega
 subst this
 rw [List.drop_zero, Nat.sub_zero] at O
 subst O
 refine kM ks q hx M hh (by rw [List.length_map]; exact Y) (fun G => ?_) ht hk he (A1 hd)
 rw [← List.map_take]
 exact k G
def Tl (v G : Value) (len i sz : Nat) : Prop :=
 (v = .slice none 0 0 ∧ G = .slice none 0 0) ∨ ∃ b c a, v = .slice (some ⟨b, 0, none⟩) len c ∧ G = .slice a (len - i) (c - i) ∧ (i < len → a = some ⟨b, i * sz, none⟩)
theorem AX.tail (ks i : Nat) {d : Nat} {x lo : Operand} {t : TypeId} {ti ei : TI} {e tt sz : Nat} {v : Value} {es : List (List T)} {R : St → Prop}
  (hi : i ≤ es.length) (k : ∀ G, Tl v G es.length i sz → R ⟨En σ.slots (some d) (.v G), σ.objs⟩) (Y : σ.objs[ks]? = some (.us v tt sz es) := by exact rfl)
  (hx : A3 σ.slots x = some (.v v) := by exact rfl) (hl : A3 σ.slots lo = some (.v (.int .i64 (i : Int))) := by exact rfl)
  (ht : E.tab t = some ti := by exact rfl) (hk : ti.kind = .slice e := by exact rfl) (he : E.tab e = some ei := by exact rfl) (hsz : ei.size = sz := by exact rfl) (hd : Nat.blt d n = true := by exact rfl) :
  AX E n C [] ⟨some d, .slice t x (some lo) none none, ty, pos, aft, g⟩ σ R := by
 refine AX.value fun H a w W => ?_
 have hu := D6 (E.ok _ _ ht) hk
 have r := W.sr
 have M := mg Y
 have X : ∀ w, (execOp a.eval ⟨some d, .slice t x (some lo) none none, ty, pos, aft, g⟩).run E.P w = ((Instr.sliceAt t v (some (a.eval lo)) none none).run E.P w).andThen fun a w => .ok (.value a) w := by
  intro w
  simp only [execOp, r.evalv hx, Sem.run_bind, Option.map_none, Option.map_some]
  rfl
 have O : ∃ G, (Instr.sliceAt t v (some (a.eval lo)) none none).run E.P w = .ok G w ∧ Tl v G es.length i sz := by
  rcases W.objs _ M with ⟨rfl, rfl⟩ | ⟨b, c, cap, rfl, p1, p2, -⟩
  ·have : i = 0 := by simpa using hi
   subst this
   have hb := Dz (P := E.P) (w := w) r (isS := true) (len := 0) (cap := 0) (l := 0) (h := 0) (m := 0) (lo := some lo) (hi := none) (mx := none) ⟨_, _, hl, rfl⟩ rfl rfl (fun _ => rfl) (Nat.le_refl _) (Nat.le_refl _) (Nat.le_refl _)
   simp only [Option.map_none, Option.map_some] at hb
   refine ⟨.slice none 0 0, ?_, .inl ⟨rfl, rfl⟩⟩
   simp [Instr.sliceAt, Instr.slice, run_underlying hu, hb, B8 (E.ok _ _ he)]
  ·have hb := Dz (P := E.P) (w := w) r (isS := true) (len := es.length) (cap := c) (l := i) (h := es.length) (m := c) (lo := some lo) (hi := none) (mx := none) ⟨_, _, hl, rfl⟩ rfl rfl (fun _ => rfl) hi (by omega) (Nat.le_refl _)
   simp only [Option.map_none, Option.map_some] at hb
   refine ⟨.slice (if c = i then some ⟨b, 0, none⟩ else some ⟨b, i * sz, none⟩) (es.length - i) (c - i), ?_, .inr ⟨b, c, _, rfl, rfl, fun h => if_neg (by omega)⟩⟩
   simp only [Instr.sliceAt, Instr.slice, Sem.run_bind, run_underlying hu, Result.andThen_ok, hb, B8 (E.ok _ _ he), Sem.run_pure]
   by_cases Z : c = i <;> simp [Z, Di, hsz]
 obtain ⟨G, h1, h2⟩ := O
 exact ⟨G, w, _, H, by rw [X, h1]; rfl, k G h2, W.put (dst := some d) (.v G) (A1 hd), fun _ _ h => h, fun i p hp _ => ⟨hp, fun b hb => rfl⟩⟩
end Go.Aw
