/- A program logic over the model. No condition. -/
import Derived.Test.YtihdchjpepkpbaaGreatZiB2
set_option maxRecDepth 100000
namespace Go.Aw
set_option linter.unusedVariables false
set_option linter.unusedSimpArgs false
def Df {α : Type} : List (Int × α) → Int → Option α
 | [], _ => none
 | (k, x) :: l, i => if k = i then some x else Df l i
def Kn {α : Type} : List (Int × α) → Int → α → List (Int × α)
 | [], _, _ => []
 | (k, x) :: l, i, y => if k = i then (k, y) :: l else (k, x) :: Kn l i y
def Il {α : Type} (l : List (Int × α)) (i : Int) (y : α) : List (Int × α) := if (Df l i).isSome then Kn l i y else l ++ [(i, y)]
def mEnts {α : Type} (f : α → Value) : List (Int × α) → Nat → List MapEntry
 | [], _ => []
 | (k, x) :: l, n => { key := .int .i64 k, val := f x, born := n } :: mEnts f l (n + 1)
def mapOb {α : Type} (f : α → Value) (l : List (Int × α)) : Obj := .map (mEnts f l 0).toArray l.length
theorem J0 {α : Type} (f : α → Value) (i : Int) (y : α) : ∀ (l : List (Int × α)) (n : Nat), mEnts f (l ++ [(i, y)]) n = mEnts f l n ++ [{ key := .int .i64 i, val := f y, born := n + l.length }]
 | [], n => rfl
 | (k, x) :: l, n => by simp only [List.cons_append, mEnts, J0 f i y l (n + 1), List.length_cons]; rw [show n + 1 + l.length = n + (l.length + 1) by omega]
theorem P4 {α : Type} (f : α → Value) (i : Int) : ∀ (l : List (Int × α)) (n j : Nat), ∃ m, Instr.findNow (.int .i64) (.int .i64 i) (mEnts f l n) j = some ((Df l i).map fun x => (m, f x)) ∧
  ((Df l i).isSome → j ≤ m ∧ (mEnts f l n)[m - j]? = some { key := .int .i64 i, val := (f <$> Df l i).getD undef, born := n + (m - j) } ∧ ∀ y : α, (mEnts f l n).modify (m - j) (fun e => { e with key := .int .i64 i, val := f y }) = mEnts f (Kn l i y) n)
 | [], n, j => ⟨0, by simp [mEnts, Instr.findNow, Df]⟩
 | (k, x) :: l, n, j => by
  by_cases h : k = i
  ·subst h
   refine ⟨j, by simp [mEnts, Instr.findNow, Instr.sameNow, Df], fun _ => ⟨Nat.le_refl _, ?_, fun y => ?_⟩⟩
   ·simp [mEnts, Df]
   ·simp [mEnts, Kn]
  ·obtain ⟨m, M, O⟩ := P4 f i l (n + 1) (j + 1)
   have W : (i == k) = false := by simp; omega
   refine ⟨m, by simp [mEnts, Instr.findNow, Instr.sameNow, Df, h, W, M], fun G => ?_⟩
   simp only [Df, h, if_false] at G ⊢
   obtain ⟨Z, X, Y⟩ := O G
   have e : m - j = (m - (j + 1)) + 1 := by omega
   refine ⟨by omega, ?_, fun y => ?_⟩
   ·rw [e]; simp only [mEnts, List.getElem?_cons_succ]; rw [X]; congr 2; omega
   ·rw [e]; simp only [mEnts, Kn, h, if_false, List.modify_succ_cons]; rw [Y y]
theorem S8 {α : Type} (i : Int) (y : α) : ∀ l : List (Int × α), (Kn l i y).length = l.length
 | [] => rfl
 | (k, x) :: l => by simp only [Kn]; split <;> simp [S8 i y l]
section
variable {E : Env} {n : Nat} {C : Ctx} {σ : St} {s : Ak} {ob : List Ob} {dst : Option Tmp} {ty : TypeId} {pos : String} {aft : Array Edge} {g : Option (Nat × Bool)} {R : St → Prop}
theorem L9 {P : Program} {t : TypeId} {i : TI} (h : G8 P t = some i) {k e : Nat} (O : i.kind = .map k e) : P.underlying t = some (.map k e) := by
 obtain ⟨d, M, G⟩ := Fl h
 rw [O] at G
 cases d <;> simp [Jb] at G
 obtain ⟨rfl, rfl⟩ := G; exact M
theorem AX.makeMap {α : Type} (f : α → Value) {t : TypeId} (X : ∀ d, dst = some d → d < n) (k : ∀ b, R ⟨D3 σ.slots dst (.v (.map (some b))), σ.objs ++ [.raw b (mapOb f [])]⟩) :
  AX E n C [] ⟨dst, .makeMap t none, ty, pos, aft, g⟩ σ R := by
 refine AX.value fun H a w M => ?_
 have G : OR H (w.alloc (mapOb f [])) (.raw w.heap.size (mapOb f [])) := heap_alloc_new w _
 refine ⟨.map (some w.heap.size), w.alloc (mapOb f []), _, H, ?_, k w.heap.size, ?_, fun _ _ h => h, ?_⟩
 ·simp only [execOp, Instr.makeMap, mapOb, mEnts, newObj]; rfl
 ·have := (M.alloc G rfl).put (dst := dst) (.v (.map (some w.heap.size))) X
  cases dst <;> exact this
 ·intro i p O _
  exact ⟨D4 O, fun b W => heap_alloc_old w _ ((M.objs p (mg O)).lt b W)⟩
theorem Ny {α : Type} {P : Program} {w : World} {t kt : TypeId} {f : α → Value} {l : List (Int × α)} {i : Int} (Y : P.underlying kt = some (.int .i64)) :
  ∃ m, (Instr.findKey kt (.int .i64 i) (mEnts f l 0)).run P w = .ok ((Df l i).map fun x => (m, f x)) w ∧
   ((Df l i).isSome → (mEnts f l 0)[m]? = some { key := .int .i64 i, val := (f <$> Df l i).getD undef, born := m } ∧ ∀ y : α, (mEnts f l 0).modify m (fun e => { e with key := .int .i64 i, val := f y }) = mEnts f (Kn l i y) 0) := by
 obtain ⟨m, O, W⟩ := P4 f i l 0 0
 refine ⟨m, ?_, fun X => ?_⟩
 ·simp only [Instr.findKey, Sem.run_bind, run_underlying Y, Result.andThen_ok, O, Sem.run_pure]
 ·obtain ⟨_, G, M⟩ := W X
  rw [Nat.sub_zero] at G M
  rw [Nat.zero_add] at G
  exact ⟨G, M⟩
theorem G1 {P : Program} {w : World} {kt : TypeId} {i : Int} (G : P.underlying kt = some (.int .i64)) (e : Bool) (v : Value) : (Instr.checkKey e 10000 kt v).run P w = .ok () w := by
 unfold Instr.checkKey
 simp only [Sem.run_bind, run_underlying G, Result.andThen_ok, Sem.run_pure]
theorem Vg {α : Type} (q : Nat) {f : α → Value} {t : TypeId} {x y : Operand} {b : Nat} {l : List (Int × α)} {i : Int} {ti ki ei : TI} {kt et : Nat} {z : α} {u v : T}
  (ht : E.tab t = some ti) (hk : ti.kind = .map kt et) (X : E.tab kt = some ki) (Y : ki.kind = .int .i64) (O : E.tab et = some ei) (hz : ei.zero = some (f z))
  (G : Aq s x = some (.v (.map (some b)))) (ho : ob[q]? = some (.raw b (mapOb f l))) (hy : Aq s y = some (.v (.int .i64 i)))
  (hu : T.v (f ((Df l i).getD z)) = u) (hv : T.v (.bool (Df l i).isSome) = v) :
  Yd E.P n s ob ⟨dst, .lookup t x y true, ty, pos, aft, g⟩ (.tup [u, v]) := by
 subst hu; subst hv
 intro H a w sr wr
 have hh : w.heap[b]? = some (mapOb f l) := wr.objs _ (mg ho)
 refine ⟨.tuple #[f ((Df l i).getD z), .bool (Df l i).isSome], ?_, fun Z ag => ?_⟩
 ·exact .tup _ _ (by simp) fun j x G => by
   match j, G with
   | 0, G => simp at G; subst G; exact .v _
   | 1, G => simp at G; subst G; exact .v _
 ·have W : Z.heap[b]? = some (mapOb f l) := (ag.2 _ (mg ho) b (by simp [Ob.fp])).trans hh
  have M := Ma (E.ok _ _ X) Y
  obtain ⟨m, r1, r2⟩ := Ny (P := E.P) (w := Z) (t := t) (kt := kt) (f := f) (l := l) (i := i) M
  simp only [execOp, sr.evalv G, sr.evalv hy, Instr.lookup, Sem.run_bind, run_underlying (L9 (E.ok _ _ ht) hk), Result.andThen_ok]
  simp only [getObj, Sem.run, W, mapOb, Result.andThen_ok, Sem.run_bind, Sem.run_pure, G1 (i := i) M, r1]
  cases hm : Df l i with
  | none => simp [Dh (E.ok _ _ O) Z hz]
  | some x => simp
theorem Vh {α : Type} (q : Nat) {f : α → Value} {t : TypeId} {x y : Operand} {b : Nat} {l : List (Int × α)} {i : Int} {ti ki Z : TI} {kt et : Nat} {z : α} {u : T}
  (ht : E.tab t = some ti) (hk : ti.kind = .map kt et) (W : E.tab kt = some ki) (X : ki.kind = .int .i64) (M : E.tab et = some Z) (hz : Z.zero = some (f z))
  (hx : Aq s x = some (.v (.map (some b)))) (ho : ob[q]? = some (.raw b (mapOb f l))) (hy : Aq s y = some (.v (.int .i64 i)))
  (hu : T.v (f ((Df l i).getD z)) = u) :
  Yd E.P n s ob ⟨dst, .lookup t x y false, ty, pos, aft, g⟩ u := by
 subst hu
 intro H a w sr wr
 have hh : w.heap[b]? = some (mapOb f l) := wr.objs _ (mg ho)
 refine ⟨f ((Df l i).getD z), .v _, fun Y ag => ?_⟩
 have O : Y.heap[b]? = some (mapOb f l) := (ag.2 _ (mg ho) b (by simp [Ob.fp])).trans hh
 have G := Ma (E.ok _ _ W) X
 obtain ⟨m, r1, r2⟩ := Ny (P := E.P) (w := Y) (t := t) (kt := kt) (f := f) (l := l) (i := i) G
 simp only [execOp, sr.evalv hx, sr.evalv hy, Instr.lookup, Sem.run_bind, run_underlying (L9 (E.ok _ _ ht) hk), Result.andThen_ok]
 simp only [getObj, Sem.run, O, mapOb, Result.andThen_ok, Sem.run_bind, Sem.run_pure, G1 (i := i) G, r1]
 cases hm : Df l i with
 | none => simp [Dh (E.ok _ _ M) Y hz]
 | some x => simp
def mB (x : Bool) : Value := .bool x
theorem V4 {P : Program} {w : World} {b : Nat} {es : Array MapEntry} {c : Nat} (h : w.heap[b]? = some (.map es c)) : (getObj b).run P w = .ok (.map es c) w := by
 simp only [getObj, Sem.run, h]
theorem AX.mapUpdate {α : Type} (q : Nat) {f : α → Value} {t : TypeId} {x y v : Operand} {b : Nat} {l : List (Int × α)} {i : Int} {ti ki : TI} {kt et : Nat} {z : α}
  (ht : E.tab t = some ti) (hk : ti.kind = .map kt et) (hki : E.tab kt = some ki) (hkk : ki.kind = .int .i64)
  (hx : Aq σ.slots x = some (.v (.map (some b)))) (ho : σ.objs[q]? = some (.raw b (mapOb f l))) (hy : Aq σ.slots y = some (.v (.int .i64 i))) (hv : Aq σ.slots v = some (.v (f z)))
  (hd : dst = none) (kk : R ⟨σ.slots, σ.objs.set q (.raw b (mapOb f (Il l i z)))⟩) :
  AX E n C [q] ⟨dst, .mapUpdate t x y v, ty, pos, aft, g⟩ σ R := by
 subst hd
 refine AX.skip fun H a w X => ?_
 have hh : w.heap[b]? = some (mapOb f l) := X.objs _ (mg ho)
 have ab : b < w.heap.size := (Array.getElem?_eq_some_iff.1 hh).1
 have M := Ma (E.ok _ _ hki) hkk
 obtain ⟨m, r1, r2⟩ := Ny (P := E.P) (w := w) (t := t) (kt := kt) (f := f) (l := l) (i := i) M
 have O : ∀ o : Obj, ∀ k : Sem Unit, (Sem.setObj b o k).run E.P w = k.run E.P { w with heap := w.heap.setIfInBounds b o } := by
  intro o k
  simp only [Sem.run, hh, mapOb]
 have aa : (execOp a.eval ⟨none, .mapUpdate t x y v, ty, pos, aft, g⟩).run E.P w = .ok .skip { w with heap := w.heap.setIfInBounds b (mapOb f (Il l i z)) } := by
  simp only [execOp, X.sr.evalv hx, X.sr.evalv hy, X.sr.evalv hv, Instr.mapUpdate, Sem.run_bind, run_underlying (L9 (E.ok _ _ ht) hk), Result.andThen_ok]
  simp only [V4 (show w.heap[b]? = some (.map (mEnts f l 0).toArray l.length) from hh), Result.andThen_ok, Sem.run_bind, Sem.run_pure, G1 (i := i) M, r1]
  cases Y : Df l i with
  | none =>
   simp only [Option.map_none, Sem.run_bind]
   have : Il l i z = l ++ [(i, z)] := by unfold Il; rw [Y]; rfl
   simp only [setObj, O, Sem.run_pure, Result.andThen_ok]
   rw [this]
   simp only [mapOb, J0, List.length_append, List.length_singleton, Nat.zero_add]
   congr 3
   simp
  | some u =>
   obtain ⟨e1, e2⟩ := r2 (by rw [Y]; rfl)
   have : Il l i z = Kn l i z := by unfold Il; rw [Y]; rfl
   simp only [Option.map_some, Sem.run_bind]
   have hkt : (Instr.keyThatStays (.int .i64 i) (.int .i64 i)).run E.P w = .ok (.int .i64 i) w := by
    simp [Instr.keyThatStays, Instr.sameBits]
   have he : ((((mEnts f l 0).toArray)[m]?).map (·.key)).getD (.int .i64 i) = .int .i64 i := by
    simp [e1]
   rw [he, hkt]
   simp only [Result.andThen_ok, setObj, O, Sem.run_pure]
   rw [this]
   have Z : ((mEnts f l 0).toArray.modify m fun e => { key := .int .i64 i, val := f z, born := e.born }) = (mEnts f (Kn l i z) 0).toArray := by
    have := e2 z
    rw [← this]
    simp
   simp only [mapOb, S8, Z]
   rfl
 refine ⟨_, _, H, aa, kk, ?_, fun _ _ h => h, fun i' p hp Y => ?_⟩
 ·refine X.set ho ⟨rfl, rfl, rfl⟩ (by simp) (fun j hj G => ?_) ?_ (fun b' W => .inr (by simpa [Ob.fp] using W)) (by simp [Ob.fp])
  ·simp only [Ob.fp, List.mem_singleton] at G
   simp [Array.getElem?_setIfInBounds_ne (Ne.symm G)]
  ·show (w.heap.setIfInBounds b _)[b]? = _
   simp [Array.getElem?_setIfInBounds_self, ab]
 ·have G : q ≠ i' := fun h => by subst h; simp at Y
  refine ⟨Fj hp G, fun b' W => ?_⟩
  have : b ≠ b' := fun h => X.apart ho hp G b' W (by simp [Ob.fp, h])
  simp [Array.getElem?_setIfInBounds_ne this]
end
section
variable {E : Env} {n : Nat} {C : Ctx} {σ : St} {s : Ak} {ob : List Ob} {ops : Array Oper} {b0 : Nat} {F : List (Nat × T)} {so : Ak} {R : St → Prop} {Q : Exit → St → Prop} {i : Nat} {r : PL}
def dU (Hs : GH) (b0 : Nat) (F : List (Nat × T)) (G : Nat → Value) (w : World) : Prop := (∀ b o, Hs b = some o → w.heap[b]? = some o) ∧ ∀ p, p ∈ F → w.cell? ⟨b0, p.1, none⟩ = some (G p.1)
theorem Xi {w w' : World} {b o : Nat} (h : w'.heap[b]? = w.heap[b]?) : w'.cell? ⟨b, o, none⟩ = w.cell? ⟨b, o, none⟩ := by simp only [World.cell?, h]
def AQ (E : Env) (n : Nat) (C : Ctx) (ops : Array Oper) (b0 : Nat) (F : List (Nat × T)) (pl : PL) (so : Ak) (σ : St) (R : St → Prop) : Prop :=
 ∀ Hs (G : Nat → Value) H a w, SR n so Hs a → (∀ p, p ∈ F → VR Hs (G p.1) p.2) → dU Hs b0 F G w → (∀ b o, Hs b = some o → H b = some o) → Gam n C σ H a w →
  Cu E.P ops (fun e M O => e = .normal ∧ ∃ σ' H', R σ' ∧ Gam n C σ' H' M O) (dU Hs b0 F G) pl a w
theorem AQ.two {i j : Nat} {r1 r2 : PL} (h1 : AQ E n C ops b0 F (.act i r1) so σ R) (h2 : AQ E n C ops b0 F (.act j r2) so σ R) : AQ E n C ops b0 F (.two i j r1 r2) so σ R :=
 fun Hs M H a w Y X G W O => ⟨h1 Hs M H a w Y X G W O, h2 Hs M H a w Y X G W O⟩
theorem AQ.three {i j k : Nat} {r1 r2 r3 : PL} (h1 : AQ E n C ops b0 F (.act i r1) so σ R) (h2 : AQ E n C ops b0 F (.act j r2) so σ R) (Z : AQ E n C ops b0 F (.act k r3) so σ R) : AQ E n C ops b0 F (.three i j k r1 r2 r3) so σ R :=
 fun Hs M H a w Y X G W O => ⟨h1 Hs M H a w Y X G W O, h2 Hs M H a w Y X G W O, Z Hs M H a w Y X G W O⟩
theorem AQ.ghost {G : Ak} {ob' : List Ob} (h : Ghost n C s ob G ob') (k : AQ E n C ops b0 F r so ⟨G, ob'⟩ R) : AQ E n C ops b0 F r so ⟨s, ob⟩ R := by
 intro Hs O H a w sr hv M Y W
 obtain ⟨H', X, g⟩ := h H a w W
 exact k Hs O H' a w sr hv M (fun b o Z => X _ _ (Y _ _ Z)) g
theorem AQ.one (q : Nat) {v : Value} {M sz : Nat} {es : List (List T)} (Y : ob[q]? = some (.us v M sz es)) (k : v.oneCell' = true → AQ E n C ops b0 F r so ⟨s, ob⟩ R) : AQ E n C ops b0 F r so ⟨s, ob⟩ R :=
 fun Hs W H a w sr Z O X G => k (UsR.one (show UsR H w v M sz es from G.objs _ (mg Y))) Hs W H a w sr Z O X G
theorem AQ.o {d : Nat} {Z : Op} {ty : TypeId} {pos : String} {aft : Array Edge} {x : T} (ho : ops[i]? = some ⟨some d, Z, ty, pos, aft, none⟩) (hy : Yd E.P n so [] ⟨some d, Z, ty, pos, aft, none⟩ x) (hd : Nat.blt d n = true)
  (k : AQ E n C ops b0 F r ((d, x) :: so) ⟨(d, x) :: s, ob⟩ R) : AQ E n C ops b0 F (.still i r) so ⟨s, ob⟩ R := by
 intro Hs fv H a w sr hv W Y gm
 obtain ⟨v, O, M⟩ := hy Hs a w sr ⟨by simp, W.1⟩
 have G : ∀ X, some d = some X → X < n := By hd
 refine ⟨_, v, ho, .inl ⟨by simp [Region.wanted], fun w' hw => M w' ⟨hw.1, by simp⟩⟩, W, ?_⟩
 exact k Hs fv H _ w (sr.put (dst := some d) O G) hv W Y (gm.put (dst := some d) (O.mono Y) G)
theorem jB {d : Nat} {G : Op} {ty : TypeId} {pos : String} {aft : Array Edge} {x : T} (O : ops[i]? = some ⟨some d, G, ty, pos, aft, none⟩) (hy : Yp E.P n so ⟨some d, G, ty, pos, aft, none⟩ x) (M : Nat.blt d n = true)
  (k : AQ E n C ops b0 F r ((d, x) :: so) ⟨(d, x) :: s, ob⟩ R) : AQ E n C ops b0 F (.still i r) so ⟨s, ob⟩ R := AQ.o O hy.yd M k
theorem AQ.new {d : Nat} {X : Op} {ty : TypeId} {pos : String} {aft : Array Edge} {x : T} (ho : ops[i]? = some ⟨some d, X, ty, pos, aft, none⟩) (hy : Yp E.P n s ⟨some d, X, ty, pos, aft, none⟩ x) (hd : Nat.blt d n = true)
  (k : AQ E n C ops b0 F r so ⟨(d, x) :: s, ob⟩ R) (hf : free so (some d) = true := by rfl) : AQ E n C ops b0 F (.still i r) so ⟨s, ob⟩ R := by
 intro Hs Y H a w sr hv O Z W
 obtain ⟨v, M, G⟩ := hy H a W.sr
 refine ⟨_, v, ho, .inl ⟨by simp [Region.wanted], fun w' _ => G w'⟩, O, ?_⟩
 exact k Hs Y H _ w (sr.free _ _ hf) hv O Z (W.put (dst := some d) M (By hd))
theorem AQ.act {σ : St} {o : Oper} (md : List Nat) (kb : Nat) {tt sz cap : Nat} {es : List (List T)} (ho : ops[i]? = some o) (hg : o.guard = none) (hk : σ.objs[kb]? = some (.arr b0 tt sz cap es)) (hm : md.contains kb = false)
  (h : AX E n C md o σ (fun σ' => AQ E n C ops b0 F r so σ' R)) (hf : free so o.dst = true := by rfl) : AQ E n C ops b0 F (.act i r) so σ R := by
 intro Hs Y H a w sr hv ag Z gm
 simp only [Cu, wpOp, ho]
 rw [if_pos (by simp [Region.wanted, hg])]
 refine .inl (Cf ?_ (fun _ _ _ h => h.elim) (h H a w gm))
 rintro a' w' ⟨σ', H', v, hr, M, W, O, X⟩
 have G : dU Hs b0 F Y w' := ⟨fun b o hb => M.held _ _ (O _ _ (Z _ _ hb)), fun p hp => (Xi ((X kb _ hk hm).2 b0 (by simp [Ob.fp]))).trans (ag.2 p hp)⟩
 exact ⟨G, hr Hs Y H' a' w' (by rw [W]; exact sr.free _ _ hf) hv G (fun b o hb => O _ _ (Z _ _ hb)) M⟩
theorem iV (k : Nat) {t : TypeId} {x y : Operand} {ty : TypeId} {pos : String} {aft : Array Edge} {ti : TI} {c : T} {cs : List T} {off tt sz : Nat} {e e' : List T} (ho : ops[i]? = some ⟨none, .store t x y, ty, pos, aft, none⟩)
  (ht : E.tab t = some ti) (hx : Aq s x = some (.v (.pointer (some ⟨b0, off, none⟩)))) (hk : ob[k]? = some (.arr b0 tt sz 1 [e]))
  (hy : Aq s y = some c) (hc : Dt c = some cs) (hsz : ti.size = cs.length) (hj : off + cs.length ≤ e.length) (hes : Ev e off cs = e') (hF : (F.all fun p => Nat.blt p.1 off || Nat.ble (off + cs.length) p.1) = true)
  (kk : AQ E n C ops b0 F r so ⟨s, ob.set k (.arr b0 tt sz 1 [e'])⟩ R) : AQ E n C ops b0 F (.act i r) so ⟨s, ob⟩ R := by
 subst hes
 intro Hs fv H a w sr hv ag hH gm
 simp only [Cu, wpOp, ho]
 rw [if_pos (by simp [Region.wanted])]
 have hor : ArrR H w b0 tt sz 1 [e] := gm.objs _ (mg hk)
 have hor' := hor
 obtain ⟨G, a1, a2, a3, a4, a5, a6⟩ := hor'
 have M := F3 (gm.sr.eval hy) hc
 have hel : e.length = sz := a5 0 e (by simp)
 obtain ⟨w', h1, h2, h3, h4, h5⟩ := Lr (E := E) (off := off) 0 off hor (by simp) (by simp) (news := (a.eval y).cells.toList) (by simpa using M.1) M.all1 (fun i x hx => by
  have := (M.2 i x hx).2
  simpa [Array.getD_eq_getD_getElem?, List.getD] using this) hj
 have X : (a.eval y).cells.toList.length = cs.length := by simpa using M.1
 have W := run_storeCells_at (P := E.P) b0 off tt (a.eval y).cells.toList 0 G w a1 (by rw [X]; omega) M.all1
 simp only [Nat.add_zero] at W
 rw [W] at h1
 have hw' : w' = w.setRow b0 (G.toList.take off ++ (a.eval y).cells.toList ++ G.toList.drop (off + (a.eval y).cells.toList.length)).toArray := by
  injection h1 with _ h; exact h.symm
 have hrun : (execOp a.eval ⟨none, .store t x y, ty, pos, aft, none⟩).run E.P w = .ok .skip w' := by
  have hev := gm.sr.evalv hx
  rw [hw']
  simp [execOp, Instr.storeAt, Instr.sureAddr, hev, storeVar, Bl (E.ok _ _ ht), hsz, show (a.eval y).cells.size = cs.length from M.1] at W ⊢
  simp [W]
 refine .inl ?_
 simp only [Oper.wp, hrun, Oper.upon]
 have gm' : Gam n C ⟨s, ob.set k (.arr b0 tt sz 1 [Ev e off cs])⟩ H (a.put none undef) w' :=
  gm.set hk h3 (by omega) (fun i _ hi => h5 i (by simpa [Ob.fp] using hi)) (o' := .arr b0 tt sz 1 [Ev e off cs]) h2 (fun b hb => .inr hb) (by simp [Ob.fp])
 have ag' : dU Hs b0 F fv w' := by
  refine ⟨fun b o hb => gm'.held _ _ (hH _ _ hb), fun p hp => ?_⟩
  have hpF := List.all_eq_true.1 hF p hp
  simp only [Bool.or_eq_true] at hpF
  have O := ag.2 p hp
  have hlt : p.1 < G.size := by
   simp only [World.cell?, a1] at O
   exact (Array.getElem?_eq_some_iff.1 (by simpa using O)).1
  have Z : G.getD p.1 undef = fv p.1 := by
   have := Ju a1 hlt
   rw [O] at this; exact (Option.some.inj this).symm
  have Y := setRow_heap w b0 G (G.toList.take off ++ (a.eval y).cells.toList ++ G.toList.drop (off + (a.eval y).cells.toList.length)).toArray tt (0, 0) a1
  rw [← hw'] at Y
  have hns : (G.toList.take off ++ (a.eval y).cells.toList ++ G.toList.drop (off + (a.eval y).cells.toList.length)).toArray.size = G.size := by
   simp only [List.size_toArray, List.length_append, List.length_take, List.length_drop, Array.length_toList, X]; omega
  rw [Ju Y (by rw [hns]; exact hlt), Gd (by rw [X]; omega), if_neg ?_, Z]
  rintro ⟨q1, q2⟩
  rw [X] at q2
  rcases hpF with h | h
  ·have := Nat.le_of_ble_eq_true h; omega
  ·have := Nat.le_of_ble_eq_true h; omega
 exact ⟨ag', kk Hs fv H _ w' sr hv ag' hH gm'⟩
end
open Go.Sem
variable {E : Env} {n : Nat} {C : Ctx} {σ : St} {dst : Option Tmp} {ty : TypeId} {pos : String} {aft : Array Edge} {g : Option (Nat × Bool)}
theorem hG (ks m : Nat) {x hi : Operand} {t : TypeId} {ti ei : TI} {e tt sz : Nat} {v : Value} {es : List (List T)} {R : St → Prop}
  (hx : Aq σ.slots x = some (.v v)) (O : σ.objs[ks]? = some (.us v tt sz es)) (hh : Aq σ.slots hi = some (.v (.int .i64 (m : Int)))) (W : m ≤ es.length)
  (k : ∀ M, R ⟨D3 σ.slots dst (.v M), σ.objs.set ks (.us M tt sz (es.take m))⟩)
  (ht : E.tab t = some ti := by exact rfl) (hk : ti.kind = .slice e := by exact rfl) (he : E.tab e = some ei := by exact rfl) (hd : ∀ d, dst = some d → d < n := by exact By rfl) :
  AX E n C [ks] ⟨dst, .slice t x none (some hi) none, ty, pos, aft, g⟩ σ R := by
 refine AX.value fun H a w gm => ?_
 have hu := Dk (E.ok _ _ ht) hk
 have r := gm.sr
 have X := mg O
 have hex : ∀ w, (execOp a.eval ⟨dst, .slice t x none (some hi) none, ty, pos, aft, g⟩).run E.P w = ((Instr.sliceAt t v none (some (a.eval hi)) none).run E.P w).andThen fun a w => .ok (.value a) w := by
  intro w
  simp only [execOp, r.evalv hx, Sem.run_bind, Option.map_none, Option.map_some]
  rfl
 have Z : ∀ (i : Nat) (e' : List T), (es.take m)[i]? = some e' → es[i]? = some e' := fun i e' G => by
  rw [List.getElem?_take_of_lt (by have := (gs G).1; simp at this; omega)] at G; exact G
 have Y : ∃ M, (Instr.sliceAt t v none (some (a.eval hi)) none).run E.P w = .ok M w ∧ UsR H w M tt sz (es.take m) ∧ ∀ b, b ∈ Gq M → b ∈ Gq v := by
  rcases gm.objs _ X with ⟨rfl, rfl⟩ | ⟨b, c, cap, rfl, p1, p2, cs, a1, a2, a3, a4, a5, a6⟩
  ·have : m = 0 := by simpa using W
   subst this
   have hb := Dl (P := E.P) (w := w) r (isS := true) (len := 0) (cap := 0) (l := 0) (h := 0) (m := 0) (lo := none) (hi := some hi) (mx := none) rfl ⟨_, _, hh, rfl⟩ rfl (fun h => by cases h) (Nat.le_refl _) (Nat.le_refl _) (Nat.le_refl _)
   simp only [Option.map_none, Option.map_some] at hb
   refine ⟨.slice none 0 0, ?_, .inl ⟨rfl, by simp⟩, fun b hb => hb⟩
   simp [Instr.sliceAt, Instr.slice, run_underlying hu, hb, Bl (E.ok _ _ he)]
  ·have hb := Dl (P := E.P) (w := w) r (isS := true) (len := es.length) (cap := c) (l := 0) (h := m) (m := c) (lo := none) (hi := some hi) (mx := none) rfl ⟨_, _, hh, rfl⟩ rfl (fun h => by cases h) (Nat.zero_le _) (by omega) (Nat.le_refl _)
   simp only [Option.map_none, Option.map_some] at hb
   refine ⟨.slice (some ⟨b, 0, none⟩) m c, ?_, .inr ⟨b, c, cap, by rw [List.length_take, Nat.min_eq_left W], by rw [List.length_take, Nat.min_eq_left W]; omega, p2, cs, a1, a2, by rw [List.length_take, Nat.min_eq_left W]; omega, by rw [List.length_take, Nat.min_eq_left W]; omega, fun i e' G => a5 i e' (Z i e' G), fun i e' G => a6 i e' (Z i e' G)⟩, fun b' hb' => by simpa [Gq] using hb'⟩
   simp only [Instr.sliceAt, Instr.slice, Sem.run_bind, run_underlying hu, Result.andThen_ok, hb, Bl (E.ok _ _ he), Sem.run_pure]
   by_cases hml : c = 0 <;> simp [hml, C4]
 obtain ⟨M, h1, h2, h3⟩ := Y
 refine ⟨M, w, _, H, by rw [hex, h1]; rfl, k M, ?_, fun _ _ h => h, fun i p hp hmd => ?_⟩
 ·have := (gm.set (o' := .us M tt sz (es.take m)) O ⟨rfl, rfl, rfl⟩ (Nat.le_refl _) (fun _ _ _ => rfl) h2 (fun b hb => .inr (h3 b hb)) (Gi M)).put (dst := dst) (.v M) hd
  cases dst <;> exact this
 ·have hne : ks ≠ i := fun h => by subst h; simp at hmd
  exact ⟨Fj hp hne, fun b hb => rfl⟩
def Tl (v G : Value) (len i sz : Nat) : Prop :=
 (v = .slice none 0 0 ∧ G = .slice none 0 0) ∨ ∃ b c a, v = .slice (some ⟨b, 0, none⟩) len c ∧ G = .slice a (len - i) (c - i) ∧ (i < len → a = some ⟨b, i * sz, none⟩)
theorem AX.tail (ks i : Nat) {d : Nat} {x lo : Operand} {t : TypeId} {ti ei : TI} {e tt sz : Nat} {v : Value} {es : List (List T)} {R : St → Prop}
  (hi : i ≤ es.length) (k : ∀ G, Tl v G es.length i sz → R ⟨D3 σ.slots (some d) (.v G), σ.objs⟩) (Y : σ.objs[ks]? = some (.us v tt sz es) := by exact rfl)
  (hx : Aq σ.slots x = some (.v v) := by exact rfl) (hl : Aq σ.slots lo = some (.v (.int .i64 (i : Int))) := by exact rfl)
  (ht : E.tab t = some ti := by exact rfl) (hk : ti.kind = .slice e := by exact rfl) (he : E.tab e = some ei := by exact rfl) (hsz : ei.size = sz := by exact rfl) (hd : Nat.blt d n = true := by exact rfl) :
  AX E n C [] ⟨some d, .slice t x (some lo) none none, ty, pos, aft, g⟩ σ R := by
 refine AX.value fun H a w W => ?_
 have hu := Dk (E.ok _ _ ht) hk
 have r := W.sr
 have M := mg Y
 have X : ∀ w, (execOp a.eval ⟨some d, .slice t x (some lo) none none, ty, pos, aft, g⟩).run E.P w = ((Instr.sliceAt t v (some (a.eval lo)) none none).run E.P w).andThen fun a w => .ok (.value a) w := by
  intro w
  simp only [execOp, r.evalv hx, Sem.run_bind, Option.map_none, Option.map_some]
  rfl
 have O : ∃ G, (Instr.sliceAt t v (some (a.eval lo)) none none).run E.P w = .ok G w ∧ Tl v G es.length i sz := by
  rcases W.objs _ M with ⟨rfl, rfl⟩ | ⟨b, c, cap, rfl, p1, p2, -⟩
  ·have : i = 0 := by simpa using hi
   subst this
   have hb := Dl (P := E.P) (w := w) r (isS := true) (len := 0) (cap := 0) (l := 0) (h := 0) (m := 0) (lo := some lo) (hi := none) (mx := none) ⟨_, _, hl, rfl⟩ rfl rfl (fun _ => rfl) (Nat.le_refl _) (Nat.le_refl _) (Nat.le_refl _)
   simp only [Option.map_none, Option.map_some] at hb
   refine ⟨.slice none 0 0, ?_, .inl ⟨rfl, rfl⟩⟩
   simp [Instr.sliceAt, Instr.slice, run_underlying hu, hb, Bl (E.ok _ _ he)]
  ·have hb := Dl (P := E.P) (w := w) r (isS := true) (len := es.length) (cap := c) (l := i) (h := es.length) (m := c) (lo := some lo) (hi := none) (mx := none) ⟨_, _, hl, rfl⟩ rfl rfl (fun _ => rfl) hi (by omega) (Nat.le_refl _)
   simp only [Option.map_none, Option.map_some] at hb
   refine ⟨.slice (if c = i then some ⟨b, 0, none⟩ else some ⟨b, i * sz, none⟩) (es.length - i) (c - i), ?_, .inr ⟨b, c, _, rfl, rfl, fun h => if_neg (by omega)⟩⟩
   simp only [Instr.sliceAt, Instr.slice, Sem.run_bind, run_underlying hu, Result.andThen_ok, hb, Bl (E.ok _ _ he), Sem.run_pure]
   by_cases Z : c = i <;> simp [Z, C4, hsz]
 obtain ⟨G, h1, h2⟩ := O
 exact ⟨G, w, _, H, by rw [X, h1]; rfl, k G h2, W.put (dst := some d) (.v G) (By hd), fun _ _ h => h, fun i p hp _ => ⟨hp, fun b hb => rfl⟩⟩
theorem Pd {cs : Array Value} (h : cs.toList.all (·.oneCell') = true) (m : Nat) : ∀ v, v ∈ (Builtin.zeroCells cs m).toList → v.oneCell' = true := by
 intro v W
 have G : ∀ (i : Nat) (x : i < cs.size), cs[i].oneCell' = true := by simpa using h
 obtain ⟨a, O, rfl⟩ : ∃ a, a < m * cs.size ∧ cs[a % cs.size]! = v := by simpa [Builtin.zeroCells] using W
 have M : 0 < cs.size := Nat.pos_of_ne_zero fun h => by rw [h] at O; simp at O
 rw [getElem!_pos cs _ (Nat.mod_lt _ M)]
 exact G _ _
theorem AX.clear (ks i : Nat) {x : Operand} {t : TypeId} {ti ei : TI} {e tt sz : Nat} {v v' z : Value} {es : List (List T)} {R : St → Prop}
  (htl : Tl v v' es.length i sz) (hi : i ≤ es.length) (k : ∀ es'', es''.length = es.length → es''.take i = es.take i → R ⟨σ.slots, σ.objs.set ks (.us v tt sz es'')⟩)
  (W : σ.objs[ks]? = some (.us v tt sz es) := by exact rfl) (hx : Aq σ.slots x = some (.v v') := by exact rfl)
  (ht : E.tab t = some ti := by exact rfl) (hk : ti.kind = .slice e := by exact rfl) (he : E.tab e = some ei := by exact rfl) (hz : ei.zero = some z := by exact rfl) (hzs : z.cells.size = sz := by exact rfl) (h1 : z.cells.toList.all (·.oneCell') = true := by exact rfl) :
  AX E n C [ks] ⟨none, .call { callee := .builtin .clear, args := #[x], argTypes := #[t] }, ty, pos, aft, g⟩ σ R := by
 refine AX.value fun H a w gm => ?_
 have hu := Dk (E.ok _ _ ht) hk
 have r := gm.sr
 have hmem := mg W
 have hex : ∀ w w', (Builtin.clear_ #[t] ty #[v']).run E.P w = .ok (.tuple #[]) w' → (execOp a.eval ⟨none, .call { callee := .builtin .clear, args := #[x], argTypes := #[t] }, ty, pos, aft, g⟩).run E.P w = .ok (.value (.tuple #[])) w' := by
  intro w w' h
  simp only [execOp, resolve, invoke, builtin, Sem.run_bind, Sem.run_pure, Result.andThen_ok, List.map_toArray, List.map_cons, List.map_nil, r.evalv hx, h]
 have same : (Builtin.clear_ #[t] ty #[v']).run E.P w = .ok (.tuple #[]) w → ∃ v w' s' H', (execOp a.eval ⟨none, .call { callee := .builtin .clear, args := #[x], argTypes := #[t] }, ty, pos, aft, g⟩).run E.P w = .ok (.value v) w' ∧ R s' ∧ Gam n C s' H' (a.put none v) w' ∧ (∀ b o, H b = some o → H' b = some o) ∧
   ∀ i p, σ.objs[i]? = some p → [ks].contains i = false → s'.objs[i]? = some p ∧ ∀ b, b ∈ p.fp → w'.heap[b]? = w.heap[b]? := fun h => by
  have hset : σ.objs.set ks (.us v tt sz es) = σ.objs := by
   refine List.ext_getElem? fun j => ?_
   rw [List.getElem?_set]
   split
   ·rename_i hj
    subst hj
    rw [if_pos (gs W).1, W]
   ·rfl
  refine ⟨_, w, _, H, hex w w h, k es rfl rfl, ?_, fun _ _ h => h, fun i p hp _ => ⟨by rw [hset]; exact hp, fun b hb => rfl⟩⟩
  rw [hset]; exact gm
 rcases htl with ⟨rfl, rfl⟩ | ⟨b, c, ad, rfl, rfl, had⟩
 ·exact same (by simp [Builtin.clear_, run_underlying hu])
 by_cases hlt : i < es.length
 case neg =>
  refine same ?_
  rw [show es.length - i = 0 by omega]
  cases ad <;> simp [Builtin.clear_, run_underlying hu]
 obtain rfl := had hlt
 rcases gm.objs _ hmem with ⟨h, _⟩ | ⟨b', c', cap, h, p1, p2, O, a1, a2, a3, a4, a5, a6⟩
 ·cases h
 cases h
 have hmul : es.length * sz ≤ cap * sz := Nat.mul_le_mul_right _ a3
 have hsub : (es.length - i) * sz + i * sz = es.length * sz := by rw [← Nat.add_mul]; congr 1; omega
 obtain ⟨news, M⟩ : ∃ news, news = (Builtin.zeroCells z.cells (es.length - i)).toList := ⟨_, rfl⟩
 have X : news.length = (es.length - i) * sz := by rw [M, Array.length_toList, size_zeroCells, hzs]
 have hone : ∀ v, v ∈ news → v.oneCell' = true := by rw [M]; exact Pd h1 _
 have Y := run_storeCells_at (P := E.P) b (i * sz) tt news 0 O w a1 (by rw [X]; omega) hone
 simp only [Nat.add_zero] at Y
 have hrun : (Builtin.clear_ #[t] ty #[.slice (some ⟨b, i * sz, none⟩) (es.length - i) (c - i)]).run E.P w = .ok (.tuple #[]) (w.setRow b (O.toList.take (i * sz) ++ news ++ O.toList.drop (i * sz + news.length)).toArray) := by
  obtain ⟨q, hq⟩ : ∃ q, es.length - i = q + 1 := ⟨es.length - i - 1, by omega⟩
  rw [M] at Y ⊢
  simp only [Builtin.clear_, List.getElem?_toArray, List.getElem?_cons_zero, Sem.run_bind, run_underlying hu, Result.andThen_ok]
  rw [hq] at Y ⊢
  simp only [Sem.run_bind, Dh (E.ok _ _ he) w hz, Result.andThen_ok, Y, Sem.run_pure]
 let es'' : List (List T) := es.take i ++ (List.range (es.length - i)).map fun q => (List.range sz).map fun j => T.v (news.getD (q * sz + j) undef)
 have hl'' : es''.length = es.length := by simp only [es'', List.length_append, List.length_take, List.length_map, List.length_range]; omega
 have har : ArrR H (w.setRow b (O.toList.take (i * sz) ++ news ++ O.toList.drop (i * sz + news.length)).toArray) b tt sz cap es'' := by
  refine ⟨_, setRow_heap w b O _ tt _ a1, ?_, by omega, by omega, fun i' e' G => ?_, fun i' e' G j' x' Z => ?_⟩
  ·simp only [List.size_toArray, List.length_append, List.length_take, List.length_drop, Array.length_toList, X]
   omega
  ·simp only [es'', List.getElem?_append, List.length_take] at G
   split at G
   ·rw [List.getElem?_take_of_lt (by omega)] at G; exact a5 i' e' G
   ·rw [List.getElem?_map] at G
    obtain ⟨q, _, rfl⟩ := Option.map_eq_some_iff.1 G
    simp
  ·rw [Gd (by rw [X]; omega)]
   simp only [es'', List.getElem?_append, List.length_take] at G
   split at G
   ·rename_i hii
    rw [List.getElem?_take_of_lt (by omega)] at G
    have hj := (gs Z).1
    have := a5 i' e' G
    have hm : (i' + 1) * sz ≤ i * sz := Nat.mul_le_mul_right _ (by omega)
    rw [Nat.succ_mul] at hm
    rw [if_neg (by omega)]
    exact a6 i' e' G j' x' Z
   ·rename_i hii
    rw [List.getElem?_map] at G
    obtain ⟨q, hq, rfl⟩ := Option.map_eq_some_iff.1 G
    have hql := (gs hq).1
    rw [List.getElem?_range (by simpa using hql)] at hq
    have hqe : i' - min i es.length = q := by simpa using hq
    rw [List.getElem?_map] at Z
    obtain ⟨j, hj, rfl⟩ := Option.map_eq_some_iff.1 Z
    have hjl := (gs hj).1
    rw [List.getElem?_range (by simpa using hjl)] at hj
    have hje : j' = j := by simpa using hj
    subst hje
    simp at hql hjl
    have hm : (q + 1) * sz ≤ (es.length - i) * sz := Nat.mul_le_mul_right _ (by omega)
    rw [Nat.succ_mul] at hm
    have hi' : i' * sz = i * sz + q * sz := by rw [← Nat.add_mul]; congr 1; omega
    rw [if_pos (by rw [X]; omega), show i' * sz + j' - i * sz = q * sz + j' by omega]
    refine ⟨?_, .v _⟩
    rw [List.getD, gq (by omega)]
    exact hone _ (List.getElem_mem (by omega))
 refine ⟨_, _, _, H, hex _ _ hrun, k es'' hl'' (by simp only [es'']; rw [List.take_append_of_le_length (by simp; omega)]; simp [List.take_take]), ?_, fun _ _ h => h, fun i' p hp hm => ?_⟩
 ·exact gm.set W ⟨rfl, rfl, rfl⟩ (by rw [Fz]; exact Nat.le_refl _) (fun j _ hj => setRow_other w b j _ (by simpa [Ob.fp, Gq] using hj)) (.inr ⟨b, c, cap, by rw [hl''], by omega, p2, har⟩) (fun b hb => .inr hb) (by simp [Ob.fp, Gq])
 ·have hne : ks ≠ i' := fun h => by subst h; simp at hm
  exact ⟨Fj hp hne, fun b' hb' => setRow_other w b b' _ (fun h => gm.apart W hp hne b' hb' (by simp [Ob.fp, Gq, h]))⟩
theorem fW {α : Type} {la lr : List α} {b : Int} (h : Qy la 0 b = some lr) : b = (lr.length : Int) ∧ lr.length ≤ la.length ∧ la.take lr.length = lr := by
 obtain ⟨p, q, O, rfl, W, G, M⟩ := Sx h
 have : p = 0 := by omega
 subst this
 rw [List.drop_zero, Nat.sub_zero] at M
 subst M
 rw [List.length_take, Nat.min_eq_left G]
 exact ⟨rfl, G, rfl⟩
theorem dF {α : Type} {fr : α → List T} {la O : List α} {b : Int} (ks : Nat) {d : Nat} {x lo : Operand} {t : TypeId} {ti ei : TI} {e tt sz : Nat} {v : Value} {R : St → Prop}
  (M : σ.objs[ks]? = some (.us v tt sz (la.map fr))) (W : Qy la 0 b = some O) (k : ∀ G, Tl v G la.length O.length sz → R ⟨D3 σ.slots (some d) (.v G), σ.objs⟩)
  (hx : Aq σ.slots x = some (.v v) := by exact rfl) (hl : Aq σ.slots lo = some (.v (.int .i64 b)) := by exact rfl)
  (Z : E.tab t = some ti := by exact rfl) (Y : ti.kind = .slice e := by exact rfl) (he : E.tab e = some ei := by exact rfl) (hsz : ei.size = sz := by exact rfl) (X : Nat.blt d n = true := by exact rfl) :
  AX E n C [] ⟨some d, .slice t x (some lo) none none, ty, pos, aft, g⟩ σ R := by
 obtain ⟨rfl, h2, h3⟩ := fW W
 exact AX.tail ks O.length (by rw [List.length_map]; exact h2) (fun G h => k G (by rwa [List.length_map] at h)) M hx hl Z Y he hsz X
def iU {α : Type} (fr : α → List T) (G : List α) (es : List (List T)) : Prop := G.length ≤ es.length ∧ es.take G.length = G.map fr
theorem Zz {α : Type} {fr : α → List T} {la G : List α} {b : Int} (ks : Nat) {x : Operand} {t : TypeId} {ti ei : TI} {e X sz : Nat} {v Y z : Value} {R : St → Prop}
  (M : σ.objs[ks]? = some (.us v X sz (la.map fr))) (ha : Qy la 0 b = some G) (O : Tl v Y la.length G.length sz) (k : ∀ es, iU fr G es → R ⟨σ.slots, σ.objs.set ks (.us v X sz es)⟩)
  (hx : Aq σ.slots x = some (.v Y) := by exact rfl)
  (ht : E.tab t = some ti := by exact rfl) (hk : ti.kind = .slice e := by exact rfl) (he : E.tab e = some ei := by exact rfl) (hz : ei.zero = some z := by exact rfl) (W : z.cells.size = sz := by exact rfl) (h1 : z.cells.toList.all (·.oneCell') = true := by exact rfl) :
  AX E n C [ks] ⟨none, .call { callee := .builtin .clear, args := #[x], argTypes := #[t] }, ty, pos, aft, g⟩ σ R := by
 obtain ⟨rfl, h2, Z⟩ := fW ha
 refine AX.clear ks G.length (by rw [List.length_map]; exact O) (by rw [List.length_map]; exact h2) (fun es hl he => k es ⟨by rw [hl, List.length_map]; exact h2, ?_⟩) M hx ht hk he hz W h1
 rw [he, ← List.map_take, Z]
theorem fH {α : Type} {fr : α → List T} {la G : List α} {b : Int} {es : List (List T)} (ks : Nat) {d : Nat} {x hi : Operand} {t : TypeId} {ti ei : TI} {e W sz : Nat} {v : Value} {R : St → Prop}
  (O : σ.objs[ks]? = some (.us v W sz es)) (X : Qy la 0 b = some G) (hc : iU fr G es) (k : ∀ M, R ⟨D3 σ.slots (some d) (.v M), σ.objs.set ks (.us M W sz (G.map fr))⟩)
  (hx : Aq σ.slots x = some (.v v) := by exact rfl) (Z : Aq σ.slots hi = some (.v (.int .i64 b)) := by exact rfl)
  (ht : E.tab t = some ti := by exact rfl) (hk : ti.kind = .slice e := by exact rfl) (he : E.tab e = some ei := by exact rfl) (Y : Nat.blt d n = true := by exact rfl) :
  AX E n C [ks] ⟨some d, .slice t x none (some hi) none, ty, pos, aft, g⟩ σ R := by
 obtain ⟨rfl, h2, h3⟩ := fW X
 refine hG ks G.length hx O Z hc.1 (fun M => ?_) ht hk he (By Y)
 rw [hc.2]
 exact k M
end Go.Aw
