/- A program logic over the model. No condition. -/
import Derived.OrdersHeld
import Derived.Laws.Cells
import Derived.WalkKit
import Derived.RangeFuncLeaves
import Derived.RangeFuncRecord
import Derived.RangeFuncCalls
import Derived.OrdersIn
import Derived.Scope
import Derived.Laws.MakeOwn
import Derived.Laws.CopyRow
import Derived.Laws.AppendOwn
import Derived.Laws.AppendOwnNone
set_option maxRecDepth 100000
namespace Go.Aw
set_option linter.unusedVariables false
set_option linter.defProp false
set_option linter.unusedSimpArgs false
def E5 : Option Nat → Fence
 | none => Fence.wide
 | some l => Fence.wide.inRound l
def Ml : Op → Bool
 | .defer _ => false
 | _ => true
def nd : Code → Bool
 | .region _ ops _ => ops.toList.all fun o => Ml o.op
 | .seq a b => nd a && nd b
 | .cond _ a b => nd a && nd b
 | .block _ c => nd c
 | .loop c => nd c
 | .scope _ => false
 | .rangeFunc .. => false
 | _ => true
theorem N5 (ro : Option Nat) (f : FuncId) : (E5 ro).fn f := by cases ro <;> trivial
theorem Mb (ro : Option Nat) : (E5 ro).depth = none := by cases ro <;> rfl
theorem J0 {ro : Option Nat} {m : Nat} {P : Program} {f : FuncId} {args : Array Value} {w : World} {R : Ending → World → Prop} (h : Calls P f args w R) : CallsIn (E5 ro) m P f args w R := by
 have h1 : CallsIn Fence.wide m P f args w R := callsIn_wide.2 h
 cases ro with
 | none => exact h1
 | some l => exact h1
theorem Kt {ro : Option Nat} {m : Nat} {P : Program} {row : String} {args : Array Value} {w : World} {R : Value → World → Prop} (h : Rows P row args w R) : RowsIn (E5 ro) m P row args w R := by
 intro c cs _
 obtain ⟨v, w', r, s⟩ := h c cs
 refine ⟨v, w', r, ?_⟩
 have := (stepsIn_wide (P := P)).2 s
 cases ro with
 | none => exact this
 | some l => exact this
theorem iY {ro : Option Nat} {m : Nat} {P : Program} {o : Oper} {a : Act} {w : World} {K : Act → World → Prop} {Q : Exit → Act → World → Prop} (G : Ml o.op = true) (h : o.wp P a w K Q) : o.wpIn (E5 ro) m P a w K Q := by
 refine ⟨fun f _ => N5 ro f, ?_⟩
 have e : Oper.semAt (E5 ro).round a.eval o = execOp a.eval o := Oper.semAt_eq _ _ _ (fun c hc => by rw [hc] at G; simp [Ml] at G)
 rw [e]
 unfold Oper.wp at h
 generalize (execOp a.eval o).run P w = r at h
 cases r with
 | ok x w' =>
  cases x <;> simp only [Oper.upon, Oper.uponIn] at h ⊢ <;>
   first
    | exact h
    | exact h.elim
    | exact ⟨fun D => (by rw [Mb] at D; cases D), J0 h⟩
    | exact ⟨fun D => (by rw [Mb] at D; cases D), Kt h⟩
 | halt x w' => cases x <;> simp only [Oper.upon, Oper.uponIn] at h ⊢ <;> first | exact h | exact h.elim
theorem Sc {m : Nat} {P : Program} {o : Oper} {a : Act} {w : World} {K : Act → World → Prop} {Q : Exit → Act → World → Prop} (h : o.wp P a w K Q) : o.wpIn (E5 none) m P a w K Q := by
 refine ⟨fun f _ => trivial, ?_⟩
 change o.uponIn (E5 none) m P a K Q ((execOp a.eval o).run P w)
 unfold Oper.wp at h
 generalize (execOp a.eval o).run P w = r at h
 cases r with
 | ok x w' =>
  cases x <;> simp only [Oper.upon, Oper.uponIn] at h ⊢ <;>
   first
    | exact h
    | exact h.elim
    | exact ⟨fun D => (by cases D), J0 h⟩
    | exact ⟨fun D => (by cases D), Kt h⟩
 | halt x w' => cases x <;> simp only [Oper.upon, Oper.uponIn] at h ⊢ <;> first | exact h | exact h.elim
theorem Y1 {l : Nat} {m : Nat} {P : Program} {o : Oper} {a : Act} {w : World} {K : Act → World → Prop} {Q : Exit → Act → World → Prop} (D : Ml o.op = true) (h : o.wpIn Fence.wide m P a w K Q) : o.wpIn (E5 (some l)) m P a w K Q := by
 refine ⟨fun f _ => trivial, ?_⟩
 have e : Oper.semAt (E5 (some l)).round a.eval o = Oper.semAt Fence.wide.round a.eval o := (Oper.semAt_eq _ _ _ (fun c hc => by rw [hc] at D; simp [Ml] at D)).trans (Oper.semAt_eq _ _ _ (fun c hc => by rw [hc] at D; simp [Ml] at D)).symm
 rw [e]
 exact h.2
theorem I9 {F : Fence} {m : Nat} {P : Program} {o : Oper} {a : Act} {w : World} {K K' : Act → World → Prop} {Q Q' : Exit → Act → World → Prop}
  (h : ∀ a w, K a w → K' a w) (G : ∀ e a w, Q e a w → Q' e a w) (D : o.wpIn F m P a w K Q) : o.wpIn F m P a w K' Q' := by
 refine ⟨D.1, ?_⟩
 have D := D.2
 generalize (o.semAt F.round a.eval).run P w = r at *
 have hl : LetsOut Q → LetsOut Q' := fun ⟨a, w, h⟩ => ⟨a, w, G _ _ _ h⟩
 cases r with
 | ok x w' =>
  cases x <;> simp only [Oper.uponIn] at D ⊢ <;>
   first
    | exact h _ _ D
    | exact ⟨D.1, CallsIn.mono D.2 (fun e M he => by cases e <;> first | exact h _ _ he | exact G _ _ _ he | exact hl he)⟩
    | exact ⟨D.1, RowsIn.mono D.2 (fun _ _ he => h _ _ he)⟩
    | exact ⟨D.1, RoundIn.mono D.2 (fun e M he => by cases e <;> first | exact h _ _ he | exact G _ _ _ he | exact hl he)⟩
    | exact D.elim
 | halt x w' => cases x <;> simp only [Oper.uponIn] at D ⊢ <;> first | exact G _ _ _ D | exact D.elim
theorem kZ {D : Array Oper} (G : D.toList.all (fun o => Ml o.op) = true) {i : Nat} {o : Oper} (M : D[i]? = some o) : Ml o.op = true :=
 List.all_eq_true.1 G o (Array.mem_toList_iff.2 (Array.mem_of_getElem? M))
theorem iL {ro : Option Nat} {m : Nat} {P : Program} {D : Array Oper} {Q : Exit → Act → World → Prop} (O : D.toList.all (fun o => Ml o.op) = true) (M : ¬ LetsOut Q) {i : Nat} {K : Act → World → Prop} {a : Act} {w : World}
  (h : wpOp P D Q i K a w) : wpOpIn (E5 ro) m P D Q i K a w := by
 unfold wpOp at h
 unfold wpOpIn
 cases ho : D[i]? with
 | none => rw [ho] at h; exact h
 | some o =>
  rw [ho] at h
  have W := kZ O ho
  simp only [] at h ⊢
  split at h
  ·rename_i G
   rw [if_pos G]
   rcases h with h | ⟨_, h⟩
   ·exact iY W h
   ·exact absurd h M
  ·rename_i G
   rw [if_neg G]
   exact ⟨fun f _ => N5 ro f, h⟩
theorem lH {ro : Option Nat} {m : Nat} {P : Program} {md : Region.Mode} {M : Array Oper} {Q : Exit → Act → World → Prop} (W : M.toList.all (fun o => Ml o.op) = true) (O : ¬ LetsOut Q) : ∀ (G : Nat) (D : Array Bool) (a : Act) (w : World),
  wpAny P md M Q G D a w → wpAnyIn (E5 ro) m P md M Q G D a w := by
 intro G
 induction G with
 | zero => intro D a w h; exact h
 | succ G ih =>
  intro D a w h
  exact ⟨h.1, fun i hi => wpOpIn_mono (fun a w h => ih _ a w h) (iL W O (h.2 i hi))⟩
theorem Rv {ro : Option Nat} {m : Nat} {P : Program} {id : Nat} {D : Array Oper} {Q : Exit → Act → World → Prop} {a : Act} {w : World} (O : P.follows .mixedOrders = true) (M : D.toList.all (fun o => Ml o.op) = true) (G : ¬ LetsOut Q)
  (h : wpAny P .any D Q D.size (Array.replicate D.size false) a { w with drawn := w.drawn + 1 }) : (Code.region id D true).wpIn (E5 ro) m P Q a w :=
 wpIn_region_any O (lH M G _ _ _ _ h)
def cw (c : Code) (P : Program) (Q : Exit → Act → World → Prop) (a : Act) (w : World) : Prop := ∀ ro : Option Nat, (ro.isSome = true → nd c = true) → c.wpIn (E5 ro) 0 P Q a w
section
variable {P : Program} {Q : Exit → Act → World → Prop} {a : Act} {w : World}
theorem cw.wp {c : Code} (h : cw c P Q a w) : c.wp P Q a w := wpIn_wide.1 (h none (fun h => by cases h))
theorem Kd {c : Code} {Q' : Exit → Act → World → Prop} (h : cw c P Q a w) (G : ∀ e a w, Q e a w → Q' e a w) : cw c P Q' a w := fun ro D => wpIn_mono (h ro D) G
theorem jH (h : Q .normal a w) : cw .skip P Q a w := fun _ _ => wpIn_skip h
theorem fO {l : Nat} (h : Q .normal a w) : cw (.label l) P Q a w := fun _ _ => wpIn_label h
theorem jJ {id : Nat} (h : Q (.exit id) a w) : cw (.exit id) P Q a w := fun _ _ => wpIn_exit h
theorem lE (h : Q .ret a w) : cw .ret P Q a w := fun _ _ => wpIn_ret h
theorem lD {x y : Code} (h : cw x P (Exit.then (cw y P Q) Q) a w) : cw (.seq x y) P Q a w := fun ro G =>
 wpIn_seq (wpIn_mono (h ro (fun D => (Bool.and_eq_true_iff.1 (G D)).1)) fun e a w q => by
  cases e with
  | normal => exact q ro (fun D => (Bool.and_eq_true_iff.1 (G D)).2)
  | _ => exact q)
theorem R1 {c : Operand} {x y : Code} {t : Bool} (hc : a.eval c = .bool t) (M : t = true → cw x P Q a w) (hf : t = false → cw y P Q a w) : cw (.cond c x y) P Q a w := fun ro G =>
 wpIn_cond_split hc (fun h => M h ro (fun D => (Bool.and_eq_true_iff.1 (G D)).1)) (fun h => hf h ro (fun D => (Bool.and_eq_true_iff.1 (G D)).2))
theorem fP {id : Nat} {c : Code} (h : cw c P (Exit.inBlock id Q) a w) : cw (.block id c) P Q a w := fun ro D => wpIn_block (h ro D)
theorem jI {c : Code} (I : Act → World → Prop) (μ : Act → World → Nat) (M : I a w)
  (D : ∀ a w, I a w → cw c P (Exit.then (fun a' w' => I a' w' ∧ μ a' w' < μ a w) Q) a w) : cw (.loop c) P Q a w := fun ro G =>
 wpIn_loop I μ M fun a w hi => D a w hi ro G
theorem Mi {c : Code} (h : cw c P (Exit.noGoto Q) a w) : cw (.scope c) P Q a w := fun ro D => by
 cases ro with
 | none => exact wpIn_wide.2 (wp_scope_straight h.wp)
 | some l => exact absurd (D rfl) (by simp [nd])
end
inductive T where
 | v (x : Value)
 | list (sz : Nat) (es : List (List T))
 | agg (cs : List T)
 | tup (cs : List T)
 | eptr (cs : List T)
 | fn (f : FuncId) (first caps : List T)
 deriving Inhabited
abbrev GH := Nat → Option Obj
def Kv : Nat := 140737488355328
inductive VR (H : GH) : Value → T → Prop
 | v (x : Value) : VR H x (.v x)
 | empty (a : Option Addr) (cap sz : Nat) : VR H (.slice a 0 cap) (.list sz [])
 | list (b off cap sz : Nat) (es : List (List T)) (cs : Array Value) (ty : TypeId) (fr : Nat × Nat)
   (hb : H b = some (.cells cs ty fr)) (hcap : es.length ≤ cap) (hmax : es.length ≤ Kv) (hsz : off + es.length * sz ≤ cs.size)
   (hel : ∀ (i : Nat) (e : List T), es[i]? = some e → e.length = sz)
   (h1 : ∀ (i : Nat) (e : List T), es[i]? = some e → ∀ (j : Nat) (x : T), e[j]? = some x → (cs.getD (off + i * sz + j) undef).oneCell' = true)
   (hv : ∀ (i : Nat) (e : List T), es[i]? = some e → ∀ (j : Nat) (x : T), e[j]? = some x → VR H (cs.getD (off + i * sz + j) undef) x) :
   VR H (.slice (some ⟨b, off, none⟩) es.length cap) (.list sz es)
 | agg (vs : Array Value) (cs : List T) (hl : vs.size = cs.length)
   (h1 : ∀ (j : Nat) (x : T), cs[j]? = some x → (vs.getD j undef).oneCell' = true)
   (hv : ∀ (j : Nat) (x : T), cs[j]? = some x → VR H (vs.getD j undef) x) : VR H (.agg vs) (.agg cs)
 | tup (vs : Array Value) (cs : List T) (hl : vs.size = cs.length)
   (hv : ∀ (j : Nat) (x : T), cs[j]? = some x → VR H (vs.getD j undef) x) : VR H (.tuple vs) (.tup cs)
 | eptr (b off : Nat) (l : List T) (cs : Array Value) (ty : TypeId) (fr : Nat × Nat)
   (hb : H b = some (.cells cs ty fr)) (hsz : off + l.length ≤ cs.size)
   (h1 : ∀ (j : Nat) (x : T), l[j]? = some x → (cs.getD (off + j) undef).oneCell' = true)
   (hv : ∀ (j : Nat) (x : T), l[j]? = some x → VR H (cs.getD (off + j) undef) x) : VR H (.pointer (some ⟨b, off, none⟩)) (.eptr l)
 | fn (f : FuncId) (vf vc : Array Value) (fs cs : List T) (hf : vf.size = fs.length) (hc : vc.size = cs.length)
   (h1 : ∀ (j : Nat) (x : T), fs[j]? = some x → VR H (vf.getD j undef) x) (h2 : ∀ (j : Nat) (x : T), cs[j]? = some x → VR H (vc.getD j undef) x) :
   VR H (.func (.func f) vf vc) (.fn f fs cs)
theorem VR.monoC {H H' : GH} (D : ∀ b cs ty fr, H b = some (.cells cs ty fr) → H' b = some (.cells cs ty fr)) {v : Value} {x : T} (h : VR H v x) : VR H' v x := by
 induction h with
 | v x => exact .v x
 | empty a cap sz => exact .empty a cap sz
 | list b off cap sz es cs ty fr hb hcap hmax hsz hel h1 hv ih => exact .list b off cap sz es cs ty fr (D _ _ _ _ hb) hcap hmax hsz hel h1 ih
 | agg vs cs hl h1 hv ih => exact .agg vs cs hl h1 ih
 | tup vs cs hl hv ih => exact .tup vs cs hl ih
 | eptr b off l cs ty fr hb hsz h1 hv ih => exact .eptr b off l cs ty fr (D _ _ _ _ hb) hsz h1 ih
 | fn f vf vc fs cs hf hc h1 h2 ih1 ih2 => exact .fn f vf vc fs cs hf hc ih1 ih2
theorem VR.mono {H H' : GH} (D : ∀ b o, H b = some o → H' b = some o) {v : Value} {x : T} (h : VR H v x) : VR H' v x := h.monoC fun _ _ _ _ => D _ _
theorem VR.v_eq {H : GH} {v x : Value} (h : VR H v (.v x)) : v = x := by cases h; rfl
def Ku : Value → List Nat
 | .slice (some a) _ _ => [a.block]
 | _ => []
def Wf : Value → Nat
 | .slice (some a) _ _ => a.block
 | _ => 0
inductive Ob where
 | arr (b : Nat) (ty : TypeId) (sz cap : Nat) (es : List (List T))
 | us (v : Value) (ty : TypeId) (sz : Nat) (es : List (List T))
 | uss (v : Value) (ty tyi : TypeId) (szi : Nat) (vs : List Value) (L : List (Option (List (List T))))
 | raw (b : Nat) (o : Obj)
def E2 : List Value → List (Option (List (List T))) → List Nat
 | v :: vs, some _ :: L => Ku v ++ E2 vs L
 | _ :: vs, none :: L => E2 vs L
 | _, _ => []
def Ob.fp : Ob → List Nat
 | .arr b .. => [b]
 | .us v .. => Ku v
 | .uss v _ _ _ vs L => Ku v ++ E2 vs L
 | .raw b _ => [b]
def CR (H : GH) (v : Value) (x : T) : Prop := v.oneCell' = true ∧ VR H v x
def ArrR (H : GH) (w : World) (b : Nat) (ty : TypeId) (sz cap : Nat) (es : List (List T)) : Prop :=
 ∃ cs : Array Value, w.heap[b]? = some (.cells cs ty (0, 0)) ∧ cs.size = cap * sz ∧ es.length ≤ cap ∧ es.length ≤ Kv ∧
   (∀ (i : Nat) (e : List T), es[i]? = some e → e.length = sz) ∧
   (∀ (i : Nat) (e : List T), es[i]? = some e → ∀ (j : Nat) (x : T), e[j]? = some x → CR H (cs.getD (i * sz + j) undef) x)
def UsR (H : GH) (w : World) (v : Value) (ty : TypeId) (sz : Nat) (es : List (List T)) : Prop :=
 (v = .slice none 0 0 ∧ es = []) ∨ ∃ b c cap, v = .slice (some ⟨b, 0, none⟩) es.length c ∧ es.length ≤ c ∧ c ≤ cap ∧ ArrR H w b ty sz cap es
def OR (H : GH) (w : World) : Ob → Prop
 | .arr b ty sz cap es => ArrR H w b ty sz cap es
 | .us v ty sz es => UsR H w v ty sz es
 | .uss v ty tyi szi vs L => vs.length = L.length ∧ UsR H w v ty 1 (vs.map fun x => [T.v x]) ∧ ∀ (i : Nat) (x : Value) (es : List (List T)), vs[i]? = some x → L[i]? = some (some es) → UsR H w x tyi szi es
 | .raw b o => w.heap[b]? = some o
theorem ArrR.monoC {H H' : GH} (Y : ∀ b cs ty fr, H b = some (.cells cs ty fr) → H' b = some (.cells cs ty fr)) {w w' : World} {b : Nat} (Z : w'.heap[b]? = w.heap[b]?) {ty : TypeId} {sz cap : Nat} {es : List (List T)} (h : ArrR H w b ty sz cap es) : ArrR H' w' b ty sz cap es := by
 obtain ⟨cs, G, M, O, W, X, D⟩ := h
 exact ⟨cs, by rw [Z]; exact G, M, O, W, X, fun i e he j x hx => ⟨(D i e he j x hx).1, (D i e he j x hx).2.monoC Y⟩⟩
theorem UsR.monoC {H H' : GH} (G : ∀ b cs ty fr, H b = some (.cells cs ty fr) → H' b = some (.cells cs ty fr)) {w w' : World} {v : Value} (M : ∀ b, b ∈ Ku v → w'.heap[b]? = w.heap[b]?) {ty : TypeId} {sz : Nat} {es : List (List T)} (h : UsR H w v ty sz es) : UsR H' w' v ty sz es := by
 rcases h with h | ⟨b, c, cap, rfl, h1, h2, D⟩
 ·exact .inl h
 ·exact .inr ⟨b, c, cap, rfl, h1, h2, D.monoC G (M b (by simp [Ku]))⟩
theorem Kg : ∀ {vs : List Value} {L : List (Option (List (List T)))} {i : Nat} {v : Value} {es : List (List T)}, vs[i]? = some v → L[i]? = some (some es) → ∀ b, b ∈ Ku v → b ∈ E2 vs L
 | v' :: vs, some _ :: L, 0, v, es, h1, h2, b, hb => by simp at h1; subst h1; simp [E2, hb]
 | v' :: vs, some _ :: L, i + 1, v, es, h1, h2, b, hb => by simp [E2]; exact .inr (Kg (by simpa using h1) (by simpa using h2) b hb)
 | v' :: vs, none :: L, 0, v, es, h1, h2, b, hb => by simp at h2
 | v' :: vs, none :: L, i + 1, v, es, h1, h2, b, hb => by simp [E2]; exact Kg (by simpa using h1) (by simpa using h2) b hb
 | [], _, i, v, es, h1, h2, b, hb => by simp at h1
 | _ :: _, [], i, v, es, h1, h2, b, hb => by simp at h2
theorem OR.monoC {H H' : GH} (G : ∀ b cs ty fr, H b = some (.cells cs ty fr) → H' b = some (.cells cs ty fr)) {w w' : World} {o : Ob} (D : ∀ b, b ∈ o.fp → w'.heap[b]? = w.heap[b]?) (h : OR H w o) : OR H' w' o := by
 cases o with
 | arr b ty sz cap es => exact ArrR.monoC G (D b (by simp [Ob.fp])) h
 | us v ty sz es => exact UsR.monoC G D h
 | uss v ty tyi szi vs L =>
  obtain ⟨M, h1, h2⟩ := h
  exact ⟨M, h1.monoC G (fun b hb => D b (by simp [Ob.fp, hb])), fun i x es hx hl => (h2 i x es hx hl).monoC G (fun b hb => D b (by simp [Ob.fp, Kg hx hl b hb]))⟩
 | raw b o => exact (D b (by simp [Ob.fp])).trans h
theorem ArrR.mono {H H' : GH} (D : ∀ b o, H b = some o → H' b = some o) {w w' : World} {b : Nat} (G : w'.heap[b]? = w.heap[b]?) {ty : TypeId} {sz cap : Nat} {es : List (List T)} (h : ArrR H w b ty sz cap es) : ArrR H' w' b ty sz cap es := h.monoC (fun _ _ _ _ => D _ _) G
theorem UsR.mono {H H' : GH} (D : ∀ b o, H b = some o → H' b = some o) {w w' : World} {v : Value} (G : ∀ b, b ∈ Ku v → w'.heap[b]? = w.heap[b]?) {ty : TypeId} {sz : Nat} {es : List (List T)} (h : UsR H w v ty sz es) : UsR H' w' v ty sz es := h.monoC (fun _ _ _ _ => D _ _) G
theorem OR.mono {H H' : GH} (D : ∀ b o, H b = some o → H' b = some o) {w w' : World} {o : Ob} (G : ∀ b, b ∈ o.fp → w'.heap[b]? = w.heap[b]?) (h : OR H w o) : OR H' w' o := h.monoC (fun _ _ _ _ => D _ _) G
abbrev A1 := List (Nat × T)
def get : A1 → Nat → Option T
 | [], _ => none
 | (k, x) :: l, i => bif Nat.beq k i then some x else get l i
structure St where
 slots : A1
 objs : List Ob
def St.put (σ : St) (dst : Option Tmp) (x : T) : St :=
 match dst with
 | none => σ
 | some d => ⟨(d, x) :: σ.slots, σ.objs⟩
def gl : List (Nat × List T) := []
def iK (H : GH) : Prop := ∀ b l, (b, l) ∈ gl → VR H (.pointer (some ⟨b, 0, none⟩)) (.eptr l)
structure Ctx where
 w0 : World
 H0 : GH
 fp : List Nat
 hg : iK H0
def Marks (m : Nat) (H : GH) (l : List Deferred) : Prop := l.Nodup ∧ ∀ d, d ∈ l → ∃ b, d = { target := .collected b, args := #[] } ∧ H b = some (.deferred (some [])) ∧ m ≤ b
theorem Marks.mono {m : Nat} {H H' : GH} {l : List Deferred} (G : ∀ b o, H b = some o → H' b = some o) (h : Marks m H l) : Marks m H' l := ⟨h.1, fun d D => let ⟨b, h1, h2, h3⟩ := h.2 d D; ⟨b, h1, G _ _ h2, h3⟩⟩
theorem Marks.nil {m : Nat} {H : GH} : Marks m H [] := ⟨List.nodup_nil, fun d h => by cases h⟩
structure Gam (n : Nat) (C : Ctx) (σ : St) (H : GH) (a : Act) (w : World) : Prop where
 defers : Marks C.w0.heap.size H a.defers
 size : a.tmps.size = n
 slots : ∀ i x, get σ.slots i = some x → VR H (a.tmps.getD i undef) x
 objs : ∀ p, p ∈ σ.objs → OR H w p
 free : ∀ p, p ∈ σ.objs → ∀ b, b ∈ p.fp → H b = none
 new : ∀ p, p ∈ σ.objs → ∀ b, b ∈ p.fp → C.w0.heap.size ≤ b ∨ b ∈ C.fp
 nodup : (σ.objs.flatMap Ob.fp).Nodup
 held : ∀ b o, H b = some o → w.heap[b]? = some o
 grow : ∀ b o, C.H0 b = some o → H b = some o
 heap : C.w0.heap.size ≤ w.heap.size
 frame : ∀ b, b < C.w0.heap.size → b ∉ C.fp → w.heap[b]? = C.w0.heap[b]? ∧ H b = C.H0 b
 env : w.os = C.w0.os ∧ w.tape = C.w0.tape ∧ w.output = C.w0.output
inductive K where
 | slice (e : Nat) | array (n e : Nat) | struct (fs : List (Nat × Nat)) | string | int (k : IntKind) | bool | map (k e : Nat) | other
 deriving DecidableEq, Repr
structure TI where
 kind : K
 size : Nat
 bytes : Nat
 zero : Option Value
def TI.isAgg (i : TI) : Bool :=
 match i.kind with
 | .array .. | .struct .. => true
 | _ => false
def K.of : TypeDesc → K
 | .slice e => .slice e
 | .array n e => .array n e
 | .struct fs => .struct (fs.toList.map fun f => (f.offset, f.type))
 | .string => .string
 | .int k => .int k
 | .bool => .bool
 | .map k e => .map k e
 | _ => .other
def D2 (P : Program) (t : TypeId) : Option TI :=
 match P.info? t, P.underlying t with
 | some i, some d => some { kind := K.of d, size := i.size, bytes := i.bytes, zero := i.zero }
 | _, _ => none
structure Env where
 P : Program
 tab : Nat → Option TI
 ok : ∀ t i, tab t = some i → D2 P t = some i
 mixed : P.follows .mixedOrders = true
theorem H4 {P : Program} {t : TypeId} {i : TI} (h : D2 P t = some i) :
  ∃ D d, P.info? t = some D ∧ P.underlying t = some d ∧ K.of d = i.kind ∧ D.size = i.size ∧ D.bytes = i.bytes ∧ D.zero = i.zero := by
 unfold D2 at h
 split at h
 ·rename_i D d h1 h2
  simp only [Option.some.injEq] at h
  subst h
  exact ⟨D, d, h1, h2, rfl, rfl, rfl, rfl⟩
 ·simp at h
section types
variable {P : Program} {t : TypeId} {i : TI} (h : D2 P t = some i) (w : World)
include h
theorem C6 : (sizeOf t).run P w = .ok i.size w := by
 obtain ⟨G, d, h1, h2, M, D, O, W⟩ := H4 h
 simp [sizeOf, typeInfo, h1, D]
theorem I8 : ∃ D, (typeInfo t).run P w = .ok D w ∧ D.size = i.size ∧ D.bytes = i.bytes ∧ D.zero = i.zero ∧ P.info? t = some D := by
 obtain ⟨D, d, h1, h2, W, G, M, O⟩ := H4 h
 exact ⟨D, by simp [typeInfo, h1], G, M, O, h1⟩
theorem Fx {z : Value} (G : i.zero = some z) : (zeroValue t).run P w = .ok z w := by
 obtain ⟨M, d, h1, h2, O, W, X, D⟩ := H4 h
 rw [G] at D
 simp [zeroValue, typeInfo, h1, D]
theorem Gv : (isAgg t).run P w = .ok i.isAgg w := by
 obtain ⟨G, d, h1, h2, D, M, O, W⟩ := H4 h
 unfold TI.isAgg
 rw [← D]
 cases d <;> simp [isAgg, underlying, h2, K.of]
theorem G1 : ∃ d, P.underlying t = some d ∧ K.of d = i.kind := by
 obtain ⟨G, d, h1, h2, D, M, O, W⟩ := H4 h
 exact ⟨d, h2, D⟩
end types
theorem Ez {P : Program} {t : TypeId} {i : TI} (h : D2 P t = some i) {e : Nat} (D : i.kind = .slice e) : P.underlying t = some (.slice e) := by
 obtain ⟨d, h1, h2⟩ := G1 h
 rw [D] at h2
 cases d <;> simp [K.of] at h2
 subst h2; exact h1
theorem Hb {P : Program} {t : TypeId} {i : TI} (h : D2 P t = some i) {fs : List (Nat × Nat)} (D : i.kind = .struct fs) :
  ∃ ff : Array Field, P.underlying t = some (.struct ff) ∧ ff.toList.map (fun f => (f.offset, f.type)) = fs := by
 obtain ⟨d, h1, h2⟩ := G1 h
 rw [D] at h2
 cases d <;> simp [K.of] at h2
 exact ⟨_, h1, h2⟩
def AW (E : Env) (n : Nat) (C : Ctx) (c : Code) (σ : St) (Q : Exit → St → Prop) : Prop :=
 ∀ H a w, Gam n C σ H a w → cw c E.P (fun e a' w' => ∃ σ' H', Q e σ' ∧ Gam n C σ' H' a' w') a w
def Xo (P : Program) (D : Array Oper) (Q : Exit → Act → World → Prop) : List Oper → Act → World → Prop
 | [], a, w => Q .normal a w
 | o :: r, a, w =>
  if Region.wanted o (yielded D a.tmps) then o.wpIn Fence.wide 0 P a w (Xo P D Q r) Q else Xo P D Q r (a.put o.dst undef) w
def AO (E : Env) (n : Nat) (C : Ctx) (D : Array Oper) (l : List Oper) (σ : St) (R : St → Prop) : Prop :=
 ∀ H a w, Gam n C σ H a w → Xo E.P D (fun e a' w' => e = .normal ∧ ∃ σ' H', R σ' ∧ Gam n C σ' H' a' w') l a w
def AX (E : Env) (n : Nat) (C : Ctx) (md : List Nat) (o : Oper) (σ : St) (R : St → Prop) : Prop :=
 ∀ H a w, Gam n C σ H a w → o.wp E.P a w (fun a' w' => ∃ σ' H' v, R σ' ∧ Gam n C σ' H' a' w' ∧ a' = a.put o.dst v ∧ (∀ b o, H b = some o → H' b = some o) ∧
  ∀ i p, σ.objs[i]? = some p → md.contains i = false → σ'.objs[i]? = some p ∧ ∀ b, b ∈ p.fp → w'.heap[b]? = w.heap[b]?) (fun _ _ _ => False)
theorem D8 {P : Program} {o : Oper} {a : Act} {w : World} {K K' : Act → World → Prop} {Q Q' : Exit → Act → World → Prop}
  (h : ∀ a w, K a w → K' a w) (G : ∀ e a w, Q e a w → Q' e a w) (D : o.wp P a w K Q) : o.wp P a w K' Q' := by
 unfold Oper.wp at *
 generalize (execOp a.eval o).run P w = r at *
 cases r with
 | ok n w' =>
  cases n <;> simp only [Oper.upon] at D ⊢ <;>
   first
    | exact h _ _ D
    | exact Calls.mono D (fun e M he => by
      cases e with
      | returned v => exact h _ _ he
      | panicked c => exact G _ _ _ he
      | outgrown => obtain ⟨a, w, he⟩ := he; exact ⟨a, w, G _ _ _ he⟩)
    | exact Rows.mono D (fun _ _ he => h _ _ he)
 | halt x w' => cases x <;> simp only [Oper.upon] at D ⊢ <;> exact G _ _ _ D
theorem iM {P : Program} {D : Array Oper} {Q : Exit → Act → World → Prop} {ro : Option Nat} : ∀ (l : List Oper) (k : Nat) (a : Act) (w : World),
  (∀ j, j < l.length → D[k + j]? = l[j]?) → (ro.isSome = true → l.all (fun o => Ml o.op) = true) → Xo P D Q l a w → wpOpsIn (E5 ro) 0 P D Q (List.range' k l.length) a w := by
 intro l
 induction l with
 | nil => intro k a w _ _ h; exact h
 | cons o r ih =>
  intro k a w hl W h
  have Y : D[k]? = some o := by simpa using hl 0 (by simp)
  have X : ∀ j, j < r.length → D[k + 1 + j]? = r[j]? := fun j hj => by
   have := hl (j + 1) (by simp; omega)
   rw [show k + 1 + j = k + (j + 1) by omega, this]; simp
  simp only [List.length_cons, List.range'_succ]
  simp only [wpOpsIn, Y]
  simp only [Xo] at h
  have G : ro.isSome = true → r.all (fun o => Ml o.op) = true := fun Z => by
   have := W Z; simp only [List.all_cons, Bool.and_eq_true] at this; exact this.2
  split
  ·rename_i O
   simp only [O, if_true] at h
   have M := I9 (fun a' w' M => ih (k + 1) a' w' X G M) (fun _ _ _ h => h) h
   cases ro with
   | none => exact M
   | some q =>
    have := W rfl
    simp only [List.all_cons, Bool.and_eq_true] at this
    exact Y1 this.1 M
  ·rename_i O
   simp only [O] at h
   exact ⟨fun f _ => N5 ro f, ih (k + 1) _ _ X G h⟩
theorem R0 {P : Program} {id : Nat} {D : Array Oper} {Q : Exit → Act → World → Prop} {a : Act} {w : World}
  (h : Xo P D Q D.toList a w) : cw (Code.region id D false) P Q a w := by
 intro ro G
 refine wpIn_region ?_
 have := iM (ro := ro) D.toList 0 a w (fun j _ => by simp) (fun M => G M) h
 simpa [List.range_eq_range'] using this
theorem Lu {P : Program} {D : Array Oper} {Q Q' : Exit → Act → World → Prop} (G : ∀ e a w, Q e a w → Q' e a w) :
  ∀ (l : List Oper) (a : Act) (w : World), Xo P D Q l a w → Xo P D Q' l a w
 | [], a, w, h => G _ _ _ h
 | o :: r, a, w, h => by
  simp only [Xo] at *
  split
  ·rename_i M
   simp only [M, if_true] at h
   exact I9 (fun a' w' O => Lu G r a' w' O) G h
  ·rename_i M
   simp only [M] at h
   exact Lu G r _ _ h
section rules
variable {E : Env} {n : Nat} {C : Ctx} {σ : St} {Q : Exit → St → Prop}
theorem AW.mono {c : Code} {Q' : Exit → St → Prop} (h : AW E n C c σ Q) (G : ∀ e σ, Q e σ → Q' e σ) : AW E n C c σ Q' :=
 fun H a w g => Kd (h H a w g) fun e a' w' ⟨σ', H', q, D⟩ => ⟨σ', H', G e σ' q, D⟩
theorem AW.skip (h : Q .normal σ) : AW E n C .skip σ Q := fun H _ _ g => jH ⟨σ, H, h, g⟩
def nI := @AW.skip
theorem AW.label {l : Nat} (h : Q .normal σ) : AW E n C (.label l) σ Q := fun H _ _ g => fO ⟨σ, H, h, g⟩
theorem AW.exit {id : Nat} (h : Q (.exit id) σ) : AW E n C (.exit id) σ Q := fun H _ _ g => jJ ⟨σ, H, h, g⟩
def nO := @AW.exit
theorem AW.ret (h : Q .ret σ) : AW E n C .ret σ Q := fun H _ _ g => lE ⟨σ, H, h, g⟩
def nK := @AW.ret
def Kn (next : St → Prop) (Q : Exit → St → Prop) : Exit → St → Prop
 | .normal, σ => next σ
 | e, σ => Q e σ
theorem AW.seq {x y : Code} (h : AW E n C x σ (Kn (fun σ' => AW E n C y σ' Q) Q)) : AW E n C (.seq x y) σ Q :=
 fun H a w g => lD (Kd (h H a w g) fun e a' w' ⟨σ', H', q, D⟩ => by
  cases e with
  | normal => exact q H' a' w' D
  | _ => exact ⟨σ', H', q, D⟩)
def nH := @AW.seq
theorem eO {x y : Code} (M : St → Prop) (h : AW E n C x σ (Kn M Q)) (k : ∀ σ', M σ' → AW E n C y σ' Q) : AW E n C (.seq x y) σ Q :=
 AW.seq (AW.mono h fun e σ' q => by
  cases e with
  | normal => exact k σ' q
  | _ => exact q)
def Uq (id : Nat) (Q : Exit → St → Prop) : Exit → St → Prop
 | .exit id', σ => bif Nat.beq id' id then Q .normal σ else Q (.exit id') σ
 | e, σ => Q e σ
theorem AW.block {id : Nat} {c : Code} (h : AW E n C c σ (Uq id Q)) : AW E n C (.block id c) σ Q :=
 fun H a w g => fP (Kd (h H a w g) fun e a' w' ⟨σ', H', q, G⟩ => by
  cases e with
  | exit id' =>
   by_cases D : id' = id
   ·subst D
    simp only [Uq, Nat.beq_refl, cond_true] at q
    simp only [Exit.inBlock, if_true]
    exact ⟨σ', H', q, G⟩
   ·have hb : Nat.beq id' id = false := by
     cases hb : Nat.beq id' id with
     | false => rfl
     | true => exact absurd (Nat.eq_of_beq_eq_true hb) D
    simp only [Uq, hb, cond_false] at q
    simp only [Exit.inBlock, D, if_false]
    exact ⟨σ', H', q, G⟩
  | _ => exact ⟨σ', H', q, G⟩)
def nJ := @AW.block
theorem AW.loop {c : Code} (I : Nat → St → Prop) {m : Nat} (h₀ : I m σ)
  (D : ∀ m σ, I m σ → AW E n C c σ (Kn (fun σ' => ∃ G, G < m ∧ I G σ') Q)) : AW E n C (.loop c) σ Q := by
 intro H a w g
 have W : ∀ (p : Nat → Prop), (∃ m, p m) → ∃ m, p m ∧ ∀ k, k < m → ¬ p k := by
  intro p ⟨m, hm⟩
  induction m using Nat.strongRecOn with
  | _ m ih =>
   by_cases Y : ∃ k, k < m ∧ p k
   ·obtain ⟨k, Y, hp⟩ := Y; exact ih k Y hp
   ·exact ⟨m, hm, fun k ab hp => Y ⟨k, ab, hp⟩⟩
 let J : Act → World → Nat → Prop := fun a w m => ∃ σ H, I m σ ∧ Gam n C σ H a w
 have X : ∀ a w, ∃ m, (∃ k, J a w k) → J a w m ∧ ∀ k, k < m → ¬ J a w k := by
  intro a w
  by_cases h : ∃ k, J a w k
  ·obtain ⟨m, h1, h2⟩ := W _ h; exact ⟨m, fun _ => ⟨h1, h2⟩⟩
  ·exact ⟨0, fun h' => absurd h' h⟩
 let μ : Act → World → Nat := fun a w => Classical.choose (X a w)
 have hμ : ∀ a w, (∃ k, J a w k) → J a w (μ a w) ∧ ∀ k, k < μ a w → ¬ J a w k := fun a w => Classical.choose_spec (X a w)
 refine jI (fun a w => ∃ k, J a w k) μ ⟨m, σ, H, h₀, g⟩ ?_
 intro a w hJ
 obtain ⟨⟨σ₁, H₁, hI, g₁⟩, _⟩ := hμ a w hJ
 refine Kd (D _ σ₁ hI H₁ a w g₁) ?_
 rintro e a' w' ⟨σ', H', q, Z⟩
 cases e with
 | normal =>
  obtain ⟨G, ad, M⟩ := q
  have O : ∃ k, J a' w' k := ⟨G, σ', H', M, Z⟩
  refine ⟨O, ?_⟩
  have h2 := (hμ a' w' O).2
  have aa : J a' w' G := ⟨σ', H', M, Z⟩
  exact Nat.lt_of_le_of_lt (Nat.le_of_not_lt fun ac => h2 G ac aa) ad
 | _ => exact ⟨σ', H', q, Z⟩
theorem AO.nil {D : Array Oper} {R : St → Prop} (h : R σ) : AO E n C D [] σ R := fun H _ _ g => ⟨rfl, σ, H, h, g⟩
def nE := @AO.nil
theorem AO.mono {D : Array Oper} {l : List Oper} {R R' : St → Prop} (h : AO E n C D l σ R) (M : ∀ σ, R σ → R' σ) : AO E n C D l σ R' :=
 fun H a w g => Lu (fun _ _ _ ⟨he, σ', H', r, G⟩ => ⟨he, σ', H', M _ r, G⟩) l a w (h H a w g)
theorem AO.act {D : Array Oper} {o : Oper} {l : List Oper} {R : St → Prop} (md : List Nat) (hg : o.guard = none)
  (h : AX E n C md o σ (fun σ' => AO E n C D l σ' R)) : AO E n C D (o :: l) σ R := by
 intro H a w g
 simp only [Xo]
 rw [if_pos (by simp [Region.wanted, hg])]
 exact Sc (D8 (fun a' w' ⟨σ', H', v, r, G, _⟩ => r H' a' w' G) (fun _ _ _ h => h.elim) (h H a w g))
def nG := @AO.act
theorem Gam.put {H : GH} {a : Act} {w : World} (g : Gam n C σ H a w) {dst : Option Tmp} {v : Value} {x : T} (hv : VR H v x)
  (G : ∀ d, dst = some d → d < n) : Gam n C (σ.put dst x) H (a.put dst v) w := by
 cases dst with
 | none => exact g
 | some d =>
  have D := G d rfl
  refine { g with defers := g.defers, size := by simp [Act.put, g.size], slots := ?_ }
  intro i y hy
  simp only [St.put, get] at hy
  simp only [Act.put]
  by_cases hi : d = i
  ·subst hi
   simp only [Nat.beq_refl, cond_true, Option.some.injEq] at hy
   subst hy
   have : d < a.tmps.size := by rw [g.size]; exact D
   simpa [Array.getD, this] using hv
  ·have hb : Nat.beq d i = false := by
    cases hb : Nat.beq d i with
    | false => rfl
    | true => exact absurd (Nat.eq_of_beq_eq_true hb) hi
   simp only [hb, cond_false] at hy
   have := g.slots i y hy
   have he : (a.tmps.setIfInBounds d v).getD i undef = a.tmps.getD i undef := by
    simp [Array.getD_eq_getD_getElem?, Array.getElem?_setIfInBounds_ne hi]
   rw [he]; exact this
theorem AW.region {id : Nat} {D : Array Oper} (h : AO E n C D D.toList σ (fun σ' => Q .normal σ')) : AW E n C (.region id D false) σ Q :=
 fun H a w g => R0 (Lu (fun _ _ _ ⟨he, σ', H', r, G⟩ => ⟨σ', H', by subst he; exact r, G⟩) _ _ _ (h H a w g))
def nD := @AW.region
theorem AW.cond {c : Operand} {x y : Code} {t : Nat} {b : Bool} (hc : c = .tmp t) (D : get σ.slots t = some (.v (.bool b)))
  (h1 : b = true → AW E n C x σ Q) (h2 : b = false → AW E n C y σ Q) : AW E n C (.cond c x y) σ Q := by
 intro H a w g
 subst hc
 have hv : a.eval (.tmp t) = .bool b := (g.slots t _ D).v_eq
 exact R1 hv (fun hb => h1 hb H a w g) (fun hb => h2 hb H a w g)
def Sub : A1 → A1 → Prop
 | [], _ => True
 | (i, x) :: l, s => get s i = some x ∧ Sub l s
theorem Sub.get : ∀ {l s : A1}, Sub l s → ∀ i x, Aw.get l i = some x → Aw.get s i = some x
 | [], _, _, i, x, h => by simp [Aw.get] at h
 | (k, y) :: l, s, hs, i, x, h => by
  obtain ⟨h1, h2⟩ := hs
  simp only [Aw.get] at h
  cases hb : Nat.beq k i with
  | true =>
   have := Nat.eq_of_beq_eq_true hb
   subst this
   simp only [hb, cond_true, Option.some.injEq] at h
   subst h; exact h1
  | false =>
   simp only [hb, cond_false] at h
   exact Sub.get h2 i x h
theorem D5 {α β : Type} {f : α → List β} : ∀ {l m : List α}, l.Sublist m → (l.flatMap f).Sublist (m.flatMap f)
 | _, _, .slnil => .slnil
 | _, _, .cons a h => by simp only [List.flatMap_cons]; exact (D5 h).trans (List.sublist_append_right _ _)
 | _, _, .cons_cons a h => by simp only [List.flatMap_cons]; exact (List.Sublist.refl _).append (D5 h)
theorem Gam.weaken {H : GH} {a : Act} {w : World} (g : Gam n C σ H a w) {s : A1} {ob : List Ob} (M : Sub s σ.slots) (G : ob.Sublist σ.objs) :
  Gam n C ⟨s, ob⟩ H a w :=
 { g with
  slots := fun i x h => g.slots i x (M.get i x h)
  objs := fun p D => g.objs p (G.subset D)
  free := fun p D => g.free p (G.subset D)
  new := fun p D => g.new p (G.subset D)
  nodup := (D5 G).nodup g.nodup }
theorem AW.weaken {c : Code} {s : A1} {ob : List Ob} (G : Sub s σ.slots) (D : ob.Sublist σ.objs) (h : AW E n C c ⟨s, ob⟩ Q) : AW E n C c σ Q :=
 fun H a w g => h H a w (g.weaken G D)
theorem AO.weaken {D : Array Oper} {l : List Oper} {R : St → Prop} {s : A1} {ob : List Ob} (M : Sub s σ.slots) (G : ob.Sublist σ.objs) (h : AO E n C D l ⟨s, ob⟩ R) :
  AO E n C D l σ R :=
 fun H a w g => h H a w (g.weaken M G)
end rules
def Bn (s : A1) : Operand → Option T
 | .tmp t => get s t
 | .const v => some (.v v)
 | .global g => some (.v (.pointer (some ⟨g, 0, none⟩)))
 | .func f => some (.v (.func (.func f) #[] #[]))
structure SR (n : Nat) (s : A1) (H : GH) (a : Act) : Prop where
 size : a.tmps.size = n
 slots : ∀ i x, get s i = some x → VR H (a.tmps.getD i undef) x
theorem SR.eval {n : Nat} {s : A1} {H : GH} {a : Act} (g : SR n s H a) {x : Operand} {y : T} (h : Bn s x = some y) : VR H (a.eval x) y := by
 cases x with
 | tmp t => exact g.slots t y h
 | const v => simp only [Bn, Option.some.injEq] at h; subst h; exact .v v
 | global g => simp only [Bn, Option.some.injEq] at h; subst h; exact .v _
 | func f => simp only [Bn, Option.some.injEq] at h; subst h; exact .v _
theorem SR.evalv {n : Nat} {s : A1} {H : GH} {a : Act} (g : SR n s H a) {x : Operand} {y : Value} (h : Bn s x = some (.v y)) : a.eval x = y := (g.eval h).v_eq
def Yp (P : Program) (n : Nat) (s : A1) (o : Oper) (x : T) : Prop :=
 ∀ H a, SR n s H a → ∃ v, VR H v x ∧ ∀ w, (execOp a.eval o).run P w = .ok (.value v) w
def Kp (H : GH) (objs : List Ob) (w w' : World) : Prop :=
 (∀ b o, H b = some o → w'.heap[b]? = some o) ∧ ∀ p, p ∈ objs → ∀ b, b ∈ p.fp → w'.heap[b]? = w.heap[b]?
structure WR (objs : List Ob) (H : GH) (w : World) : Prop where
 objs : ∀ p, p ∈ objs → OR H w p
 held : ∀ b o, H b = some o → w.heap[b]? = some o
def Yd (P : Program) (n : Nat) (s : A1) (objs : List Ob) (o : Oper) (x : T) : Prop :=
 ∀ H a w, SR n s H a → WR objs H w → ∃ v, VR H v x ∧ ∀ w', Kp H objs w w' → (execOp a.eval o).run P w' = .ok (.value v) w'
theorem Yp.yd {P : Program} {n : Nat} {s : A1} {objs : List Ob} {o : Oper} {x : T} (h : Yp P n s o x) : Yd P n s objs o x :=
 fun H a _ g _ => let ⟨v, hv, hr⟩ := h H a g; ⟨v, hv, fun w' _ => hr w'⟩
def Ep (D : TI) (cs : List T) (off : Nat) : Option T :=
 bif D.isAgg then
  (bif Nat.beq off 0 && Nat.beq D.size cs.length then some (.agg cs)
   else bif Nat.ble (off + D.size) cs.length then some (.agg ((cs.drop off).take D.size)) else none)
 else cs[off]?
theorem D7 (b off n : Nat) : Addr.add ⟨b, off, none⟩ n = ⟨b, off + n, none⟩ := by
 unfold Addr.add
 split
 ·rename_i h; subst h; rfl
 ·rfl
section
variable {E : Env} {n : Nat} {s : A1} {dst : Option Tmp} {ty : TypeId} {pos : String} {aft : Array Edge} {g : Option (Nat × Bool)}
theorem Yp.move {x : Operand} {y : T} (h : Bn s x = some y) : Yp E.P n s ⟨dst, .move x, ty, pos, aft, g⟩ y :=
 fun H a r => ⟨a.eval x, r.eval h, fun w => by simp [execOp]⟩
theorem Yp.assign {x : Operand} {y : T} (h : Bn s x = some y) : Yp E.P n s ⟨dst, .assign x, ty, pos, aft, g⟩ y :=
 fun H a r => ⟨a.eval x, r.eval h, fun w => by simp [execOp]⟩
def oB := @Yp.assign
theorem gA {c x y : Operand} {z : T} (hc : Bn s c = some (.v (.bool true))) (h : Bn s x = some z) : Yp E.P n s ⟨dst, .pick c x y, ty, pos, aft, g⟩ z :=
 fun H a r => ⟨a.eval x, r.eval h, fun w => by simp [execOp, r.evalv hc, asBool]⟩
theorem gB {c x y : Operand} {z : T} (hc : Bn s c = some (.v (.bool false))) (h : Bn s y = some z) : Yp E.P n s ⟨dst, .pick c x y, ty, pos, aft, g⟩ z :=
 fun H a r => ⟨a.eval y, r.eval h, fun w => by simp [execOp, r.evalv hc, asBool]⟩
theorem Lr {op : BinOp} {t D : TypeId} {x y : Operand} {k : IntKind} {a b c : Int} (hx : Bn s x = some (.v (.int k a))) (hy : Bn s y = some (.v (.int k b)))
  (hc : match op with | .add => k.wrap (a + b) = c | .sub => k.wrap (a - b) = c | .mul => k.wrap (a * b) = c | .quo => b ≠ 0 ∧ k.wrap (a.tdiv b) = c | .rem => b ≠ 0 ∧ a.tmod b = c | _ => False) :
  Yp E.P n s ⟨dst, .binOp op t x y D, ty, pos, aft, g⟩ (.v (.int k c)) := by
 refine fun H A r => ⟨_, .v _, fun w => ?_⟩
 cases op <;> simp only at hc <;> simp [execOp, r.evalv hx, r.evalv hy, eqGuard, binOp, Op.intArith, Op.intDiv, hc]
def cmpI : BinOp → Int → Int → Option Bool
 | .eql, a, b => some (a == b)
 | .neq, a, b => some (a != b)
 | .lss, a, b => some (decide (a < b))
 | .leq, a, b => some (decide (a ≤ b))
 | .gtr, a, b => some (decide (a > b))
 | .geq, a, b => some (decide (a ≥ b))
 | _, _, _ => none
theorem Yp.cmpI {op : BinOp} {t D : TypeId} {x y : Operand} {k : IntKind} {a b : Int} {c : Bool} (hx : Bn s x = some (.v (.int k a))) (hy : Bn s y = some (.v (.int k b)))
  (hc : Aw.cmpI op a b = some c) : Yp E.P n s ⟨dst, .binOp op t x y D, ty, pos, aft, g⟩ (.v (.bool c)) := by
 refine fun H A r => ⟨_, .v _, fun w => ?_⟩
 cases op <;> simp only [Aw.cmpI, Option.some.injEq, reduceCtorEq] at hc <;> subst hc <;> simp [execOp, r.evalv hx, r.evalv hy, eqGuard, binOp, Op.intCmp]
def nY := @Yp.cmpI
theorem lJ {t O : TypeId} {x y : Operand} {p q : Bool} {D : TI} (M : E.tab t = some D) (G : D.kind = .bool)
  (hx : Bn s x = some (.v (.bool p))) (hy : Bn s y = some (.v (.bool q))) :
  Yp E.P n s ⟨dst, .binOp .eql t x y O, ty, pos, aft, g⟩ (.v (.bool (p == q))) := by
 refine fun H A r => ⟨_, .v _, fun w => ?_⟩
 obtain ⟨d, h1, h2⟩ := G1 (E.ok _ _ M)
 rw [G] at h2
 cases d <;> simp [K.of] at h2
 simp [execOp, r.evalv hx, r.evalv hy, eqGuard, run_eql_bool w t p q h1]
def cmpS : BinOp → ByteArray → ByteArray → Option Bool
 | .eql, a, b => some (a.toList == b.toList)
 | .neq, a, b => some (!(a.toList == b.toList))
 | .lss, a, b => some (Op.bytesLess a.toList b.toList)
 | .gtr, a, b => some (!(Op.bytesLess a.toList b.toList || a.toList == b.toList))
 | .leq, a, b => some (Op.bytesLess a.toList b.toList || a.toList == b.toList)
 | .geq, a, b => some (!Op.bytesLess a.toList b.toList)
 | _, _, _ => none
theorem Yp.cmpS {op : BinOp} {t D : TypeId} {x y : Operand} {a b : ByteArray} {c : Bool} (hx : Bn s x = some (.v (.string a))) (hy : Bn s y = some (.v (.string b)))
  (hc : Aw.cmpS op a b = some c) : Yp E.P n s ⟨dst, .binOp op t x y D, ty, pos, aft, g⟩ (.v (.bool c)) := by
 refine fun H A r => ⟨_, .v _, fun w => ?_⟩
 cases op <;> simp only [Aw.cmpS, Option.some.injEq, reduceCtorEq] at hc <;> subst hc <;> simp [execOp, r.evalv hx, r.evalv hy, eqGuard, binOp, Op.stringOp]
theorem jT {t D : TypeId} {x y : Operand} {a b : ByteArray} (hx : Bn s x = some (.v (.string a))) (hy : Bn s y = some (.v (.string b)))
  (hc : a.size + b.size < 9223372036854775807) : Yp E.P n s ⟨dst, .binOp .add t x y D, ty, pos, aft, g⟩ (.v (.string (a ++ b))) := by
 refine fun H A r => ⟨_, .v _, fun w => ?_⟩
 have : ¬ (((a.size + b.size : Nat) : Int) > IntKind.i64.max) := by
  have : IntKind.i64.max = 9223372036854775807 := by decide
  rw [this]; omega
 simp only [execOp, r.evalv hx, r.evalv hy, eqGuard, binOp, Op.stringOp, if_neg this]
 simp
theorem Yp.not {t : TypeId} {x : Operand} {b : Bool} (hx : Bn s x = some (.v (.bool b))) : Yp E.P n s ⟨dst, .unOp .not t x, ty, pos, aft, g⟩ (.v (.bool (!b))) :=
 fun H A r => ⟨_, .v _, fun w => by simp [execOp, r.evalv hx, Op.unary]⟩
theorem Yp.neg {t : TypeId} {x : Operand} {k : IntKind} {a c : Int} (hx : Bn s x = some (.v (.int k a))) (hc : k.wrap (0 - a) = c) :
  Yp E.P n s ⟨dst, .unOp .neg t x, ty, pos, aft, g⟩ (.v (.int k c)) :=
 fun H A r => ⟨_, .v _, fun w => by subst hc; simp [execOp, r.evalv hx, Op.unary, Op.intArith]⟩
theorem Yp.extract {x : Operand} {i : Nat} {l : List T} {y : T} (hx : Bn s x = some (.tup l)) (hi : l[i]? = some y) : Yp E.P n s ⟨dst, .extract x i, ty, pos, aft, g⟩ y := by
 intro H A r
 have h := r.eval hx
 generalize hv : A.eval x = v at h
 cases h with
 | tup vs cs hl hvs =>
  refine ⟨vs.getD i undef, hvs i y hi, fun w => ?_⟩
  have D : i < vs.size := by
   rw [hl]; exact (List.getElem?_eq_some_iff.1 hi).1
  simp [execOp, hv, Instr.extract, Array.getElem?_eq_getElem D, Array.getD, D]
theorem gE {t W : TypeId} {x : Operand} {k O : IntKind} {a c : Int} {ti D : TI} (Z : E.tab t = some ti) (M : E.tab W = some D) (G : D.kind = .int O)
  (hx : Bn s x = some (.v (.int k a))) (hc : O.wrap a = c) : Yp E.P n s ⟨dst, .convert t W x, ty, pos, aft, g⟩ (.v (.int O c)) := by
 refine fun H A r => ⟨_, .v _, fun w => ?_⟩
 obtain ⟨d, h1, h2⟩ := G1 (E.ok _ _ M)
 obtain ⟨X, Y, h4⟩ := G1 (E.ok _ _ Z)
 rw [G] at h2
 cases d <;> simp [K.of] at h2
 subst h2
 subst hc
 cases X <;> simp [execOp, r.evalv hx, convert, run_underlying h1, run_underlying Y, Conv.intToInt]
theorem VR.part {H : GH} {vs : Array Value} {cs : List T} (h : VR H (.agg vs) (.agg cs)) {off size : Nat} (W : off + size ≤ cs.length) :
  VR H (.agg (vs.extract off (off + size))) (.agg ((cs.drop off).take size)) := by
 cases h with
 | agg vs cs hl h1 hv =>
  have D : ∀ j x, ((cs.drop off).take size)[j]? = some x → cs[off + j]? = some x ∧ (vs.extract off (off + size)).getD j undef = vs.getD (off + j) undef := by
   intro j x hx
   have O : j < size := by
    have := (List.getElem?_eq_some_iff.1 hx).1
    simp at this; omega
   rw [List.getElem?_take_of_lt O, List.getElem?_drop] at hx
   refine ⟨hx, ?_⟩
   simp [Array.getD_eq_getD_getElem?, Array.getElem?_extract]
   rw [if_pos (by omega)]
  exact .agg _ _ (by simp; omega) (fun j x hx => by obtain ⟨G, M⟩ := D j x hx; rw [M]; exact h1 _ _ G)
   (fun j x hx => by obtain ⟨G, M⟩ := D j x hx; rw [M]; exact hv _ _ G)
theorem K9 {P : Program} {H : GH} {vs : Array Value} {cs : List T} (h : VR H (.agg vs) (.agg cs)) {t : TypeId} {G : TI} (X : D2 P t = some G) {off : Nat} {y : T}
  (D : Ep G cs off = some y) : ∃ v, VR H v y ∧ ∀ w, (part t vs off).run P w = .ok v w := by
 unfold Ep at D
 cases ha : G.isAgg with
 | true =>
  simp only [ha, cond_true] at D
  have O : ∀ w, (part t vs off).run P w = .ok (.agg (vs.extract off (off + G.size))) w := fun w => by
   simp [part, Gv X, ha, C6 X]
  refine ⟨_, ?_, O⟩
  cases hb : (Nat.beq off 0 && Nat.beq G.size cs.length) with
  | true =>
   simp only [hb, cond_true, Option.some.injEq] at D
   subst D
   simp only [Bool.and_eq_true] at hb
   obtain ⟨W, hsz⟩ := hb
   have W := Nat.eq_of_beq_eq_true W
   have hsz := Nat.eq_of_beq_eq_true hsz
   subst W
   have := h.part (off := 0) (size := G.size) (by omega)
   simpa [hsz] using this
  | false =>
   simp only [hb, cond_false] at D
   cases hc : Nat.ble (off + G.size) cs.length with
   | false => simp [hc] at D
   | true =>
    simp only [hc, cond_true, Option.some.injEq] at D
    subst D
    exact h.part (Nat.le_of_ble_eq_true hc)
 | false =>
  simp only [ha, cond_false] at D
  cases h with
  | agg vs cs hl h1 hv =>
   refine ⟨_, hv _ _ D, fun w => ?_⟩
   have M : off < vs.size := by rw [hl]; exact (List.getElem?_eq_some_iff.1 D).1
   simp [part, Gv X, ha, Array.getElem?_eq_getElem M, Array.getD, M]
theorem Yp.field {t : TypeId} {x : Operand} {f : Nat} {cs : List T} {ti Z : TI} {fs : List (Nat × Nat)} {off G : Nat} {y : T}
  (ht : E.tab t = some ti) (hk : ti.kind = .struct fs) (hf : fs[f]? = some (off, G)) (O : E.tab G = some Z)
  (hx : Bn s x = some (.agg cs)) (hp : Ep Z cs off = some y) : Yp E.P n s ⟨dst, .field t x f, ty, pos, aft, g⟩ y := by
 intro H A r
 obtain ⟨ff, h1, h2⟩ := Hb (E.ok _ _ ht) hk
 have h := r.eval hx
 generalize hv : A.eval x = v at h
 have M : ∃ D, ff[f]? = some D ∧ D.offset = off ∧ D.type = G := by
  rw [← h2] at hf
  simp only [List.getElem?_map, Option.map_eq_some_iff] at hf
  obtain ⟨D, Y, q2⟩ := hf
  refine ⟨D, by simpa using Y, ?_, ?_⟩ <;> simp_all
 obtain ⟨D, Y, rfl, rfl⟩ := M
 cases h with
 | agg vs cs hl hc hvs =>
  obtain ⟨v, W, X⟩ := K9 (VR.agg vs cs hl hc hvs) (E.ok _ _ O) hp
  exact ⟨v, W, fun w => by simp [execOp, hv, Instr.field, run_underlying h1, Y, asAgg, X]⟩
theorem V8 {t : TypeId} {x : Operand} {f : Nat} {b o : Nat} {ti G : TI} {fs : List (Nat × Nat)} {off M : Nat}
  (ht : E.tab t = some ti) (hk : ti.kind = .struct fs) (hf : fs[f]? = some (off, M)) (W : E.tab M = some G) (Z : Nat.beq G.size 0 = false)
  (hx : Bn s x = some (.v (.pointer (some ⟨b, o, none⟩)))) : Yp E.P n s ⟨dst, .fieldAddr t x f, ty, pos, aft, g⟩ (.v (.pointer (some ⟨b, o + off, none⟩))) := by
 intro H A r
 obtain ⟨ff, h1, h2⟩ := Hb (E.ok _ _ ht) hk
 have O : ∃ D, ff[f]? = some D ∧ D.offset = off ∧ D.type = M := by
  rw [← h2] at hf
  simp only [List.getElem?_map, Option.map_eq_some_iff] at hf
  obtain ⟨D, Y, q2⟩ := hf
  refine ⟨D, by simpa using Y, ?_, ?_⟩ <;> simp_all
 obtain ⟨D, Y, rfl, rfl⟩ := O
 have X : ¬ G.size = 0 := by intro h; rw [h] at Z; simp at Z
 exact ⟨_, .v _, fun w => by
  simp [execOp, r.evalv hx, Instr.fieldAt, run_underlying h1, Y, Instr.sureAddr, fieldPlace, C6 (E.ok _ _ W), X, D7]⟩
theorem VR.eptr_drop {H : GH} {b o : Nat} {l : List T} (h : VR H (.pointer (some ⟨b, o, none⟩)) (.eptr l)) {off : Nat} (D : off ≤ l.length) :
  VR H (.pointer (some ⟨b, o + off, none⟩)) (.eptr (l.drop off)) := by
 cases h with
 | eptr b off' l cs ty fr hb hsz h1 hv =>
  refine .eptr b (o + off) (l.drop off) cs ty fr hb (by simp; omega) (fun j x hx => ?_) (fun j x hx => ?_)
  ·rw [List.getElem?_drop] at hx; rw [show o + off + j = o + (off + j) by omega]; exact h1 _ _ hx
  ·rw [List.getElem?_drop] at hx; rw [show o + off + j = o + (off + j) by omega]; exact hv _ _ hx
theorem VR.eptr_ptr {H : GH} {v : Value} {l : List T} (h : VR H v (.eptr l)) : ∃ b o, v = .pointer (some ⟨b, o, none⟩) := by
 cases h; exact ⟨_, _, rfl⟩
theorem Ze {t : TypeId} {x : Operand} {f : Nat} {cs : List T} {ti G : TI} {fs : List (Nat × Nat)} {off M : Nat}
  (ht : E.tab t = some ti) (hk : ti.kind = .struct fs) (hf : fs[f]? = some (off, M)) (W : E.tab M = some G) (hz : Nat.beq G.size 0 = false)
  (hx : Bn s x = some (.eptr cs)) (X : Nat.ble off cs.length = true) : Yp E.P n s ⟨dst, .fieldAddr t x f, ty, pos, aft, g⟩ (.eptr (cs.drop off)) := by
 intro H A r
 obtain ⟨ff, h1, h2⟩ := Hb (E.ok _ _ ht) hk
 have O : ∃ D, ff[f]? = some D ∧ D.offset = off ∧ D.type = M := by
  rw [← h2] at hf
  simp only [List.getElem?_map, Option.map_eq_some_iff] at hf
  obtain ⟨D, Z, q2⟩ := hf
  refine ⟨D, by simpa using Z, ?_, ?_⟩ <;> simp_all
 obtain ⟨D, Z, rfl, rfl⟩ := O
 have Y : ¬ G.size = 0 := by intro h; rw [h] at hz; simp at hz
 have h := r.eval hx
 obtain ⟨b, o, hv⟩ := h.eptr_ptr
 rw [hv] at h
 exact ⟨_, h.eptr_drop (Nat.le_of_ble_eq_true X), fun w => by
  simp [execOp, hv, Instr.fieldAt, run_underlying h1, Z, Instr.sureAddr, fieldPlace, C6 (E.ok _ _ W), Y, D7]⟩
theorem Ux {x : Operand} {b : Addr} (hx : Bn s x = some (.v (.pointer (some b)))) : Yp E.P n s ⟨dst, .nilCheck x, ty, pos, aft, g⟩ (.v (.pointer (some b))) :=
 fun H A r => ⟨_, .v _, fun w => by simp [execOp, r.evalv hx]⟩
theorem Uy {x : Operand} {cs : List T} (hx : Bn s x = some (.eptr cs)) : Yp E.P n s ⟨dst, .nilCheck x, ty, pos, aft, g⟩ (.eptr cs) := by
 intro H A r
 have h := r.eval hx
 obtain ⟨b, o, hv⟩ := h.eptr_ptr
 exact ⟨_, h, fun w => by simp [execOp, hv]⟩
theorem VR.list_slice {H : GH} {v : Value} {sz : Nat} {es : List (List T)} (h : VR H v (.list sz es)) : ∃ a cap, v = .slice a es.length cap := by
 cases h with
 | empty a cap sz => exact ⟨a, cap, rfl⟩
 | list b off cap sz es cs ty fr hb hcap hmax hsz hel h1 hv => exact ⟨_, _, rfl⟩
theorem VR.list_max {H : GH} {v : Value} {sz : Nat} {es : List (List T)} (h : VR H v (.list sz es)) : es.length ≤ Kv := by
 cases h with
 | empty a cap sz => simp [Kv]
 | list b off cap sz es cs ty fr hb hcap hmax hsz hel h1 hv => exact hmax
theorem W6 {x : Operand} {t : TypeId} {sz : Nat} {es : List (List T)} {ti : TI} {e : Nat} (G : E.tab t = some ti) (D : ti.kind = .slice e) (hx : Bn s x = some (.list sz es)) :
  Yp E.P n s ⟨dst, .call { callee := .builtin .len, args := #[x], argTypes := #[t] }, ty, pos, aft, g⟩ (.v (.int .i64 es.length)) := by
 refine fun H A r => ⟨_, .v _, fun w => ?_⟩
 obtain ⟨a, cap, hv⟩ := (r.eval hx).list_slice
 simp [execOp, resolve, invoke, builtin, Builtin.len_, hv, run_underlying (Ez (E.ok _ _ G) D), goInt]
theorem Gd {x : Operand} {t : TypeId} {a : Option Addr} {len cap : Nat} {ti : TI} {e : Nat} (G : E.tab t = some ti) (D : ti.kind = .slice e) (hx : Bn s x = some (.v (.slice a len cap))) :
  Yp E.P n s ⟨dst, .call { callee := .builtin .len, args := #[x], argTypes := #[t] }, ty, pos, aft, g⟩ (.v (.int .i64 len)) :=
 fun H A r => ⟨_, .v _, fun w => by simp [execOp, resolve, invoke, builtin, Builtin.len_, r.evalv hx, run_underlying (Ez (E.ok _ _ G) D), goInt]⟩
theorem Hc {P : Program} {t : TypeId} {i : TI} (h : D2 P t = some i) (D : i.kind = .string) : P.underlying t = some .string := by
 obtain ⟨d, h1, h2⟩ := G1 h
 rw [D] at h2
 cases d <;> simp [K.of] at h2
 exact h1
theorem Uz {x : Operand} {t : TypeId} {b : ByteArray} {ti : TI} (G : E.tab t = some ti) (D : ti.kind = .string) (hx : Bn s x = some (.v (.string b))) :
  Yp E.P n s ⟨dst, .call { callee := .builtin .len, args := #[x], argTypes := #[t] }, ty, pos, aft, g⟩ (.v (.int .i64 b.size)) :=
 fun H A r => ⟨_, .v _, fun w => by simp [execOp, resolve, invoke, builtin, Builtin.len_, r.evalv hx, run_underlying (Hc (E.ok _ _ G) D), goInt]⟩
theorem jS {x y : Operand} {D : Array TypeId} {k : IntKind} {a b : Int} (hx : Bn s x = some (.v (.int k a))) (hy : Bn s y = some (.v (.int k b))) :
  Yp E.P n s ⟨dst, .call { callee := .builtin .max, args := #[x, y], argTypes := D }, ty, pos, aft, g⟩ (.v (.int k (max a b))) := by
 refine fun H A r => ⟨_, .v _, fun w => ?_⟩
 have : (if b > a then b else a) = max a b := by split <;> omega
 simp [execOp, resolve, invoke, builtin, Builtin.max_, Builtin.max2, r.evalv hx, r.evalv hy]
 omega
theorem jR {x y : Operand} {D : Array TypeId} {k : IntKind} {a b : Int} (hx : Bn s x = some (.v (.int k a))) (hy : Bn s y = some (.v (.int k b))) :
  Yp E.P n s ⟨dst, .call { callee := .builtin .min, args := #[x, y], argTypes := D }, ty, pos, aft, g⟩ (.v (.int k (min a b))) := by
 refine fun H A r => ⟨_, .v _, fun w => ?_⟩
 simp [execOp, resolve, invoke, builtin, Builtin.min_, Builtin.min2, r.evalv hx, r.evalv hy]
 omega
theorem Zd {t : TypeId} {x y : Operand} {k : IntKind} {i : Int} {m : Nat} {sz : Nat} {es : List (List T)} {e : List T} {ti G : TI} {D : Nat}
  (W : E.tab t = some ti) (O : ti.kind = .slice D) (hel : E.tab D = some G) (hsz : G.size = sz)
  (hx : Bn s x = some (.list sz es)) (hy : Bn s y = some (.v (.int k i))) (hi : i = (m : Int)) (he : es[m]? = some e) :
  Yp E.P n s ⟨dst, .indexAddr t x y, ty, pos, aft, g⟩ (.eptr e) := by
 intro H A r
 have h := r.eval hx
 have M : m < es.length := (List.getElem?_eq_some_iff.1 he).1
 generalize hv : A.eval x = v at h
 cases h with
 | empty a cap sz => simp at he
 | list b off cap sz es cs ty fr hb hcap hmax hsz' hel' h1 hvs =>
  refine ⟨.pointer (some ⟨b, off + m * sz, none⟩), .eptr b (off + m * sz) e cs ty fr hb ?_ (fun j x hx => h1 m e he j x hx) (fun j x hx => hvs m e he j x hx), fun w => ?_⟩
  ·rw [hel' m e he]
   have : (m + 1) * sz ≤ es.length * sz := Nat.mul_le_mul_right _ M
   rw [Nat.succ_mul] at this; omega
  ·subst hi
   simp [execOp, hv, r.evalv hy, Instr.indexAt, asIntOf, run_underlying (Ez (E.ok _ _ W) O), C6 (E.ok _ _ hel), hsz, M, D7]
theorem N8 {t : TypeId} {x y : Operand} {k : IntKind} {i : Int} {m : Nat} {b off len cap : Nat} {ti G : TI} {D : Nat}
  (W : E.tab t = some ti) (M : ti.kind = .slice D) (hel : E.tab D = some G)
  (hx : Bn s x = some (.v (.slice (some ⟨b, off, none⟩) len cap))) (hy : Bn s y = some (.v (.int k i))) (hi : i = (m : Int)) (O : m < len) :
  Yp E.P n s ⟨dst, .indexAddr t x y, ty, pos, aft, g⟩ (.v (.pointer (some ⟨b, off + m * G.size, none⟩))) := by
 refine fun H A r => ⟨_, .v _, fun w => ?_⟩
 subst hi
 simp [execOp, r.evalv hx, r.evalv hy, Instr.indexAt, asIntOf, run_underlying (Ez (E.ok _ _ W) M), C6 (E.ok _ _ hel), O, D7]
theorem Ny {P : Program} {t : TypeId} {i : TI} (h : D2 P t = some i) {m e : Nat} (D : i.kind = .array m e) : P.underlying t = some (.array m e) := by
 obtain ⟨d, h1, h2⟩ := G1 h
 rw [D] at h2
 cases d <;> simp [K.of] at h2
 obtain ⟨rfl, rfl⟩ := h2; exact h1
theorem D0 {t : TypeId} {x y : Operand} {k : IntKind} {i : Int} {m : Nat} {b off len : Nat} {ti G : TI} {D : Nat}
  (W : E.tab t = some ti) (M : ti.kind = .array len D) (hel : E.tab D = some G)
  (hx : Bn s x = some (.v (.pointer (some ⟨b, off, none⟩)))) (hy : Bn s y = some (.v (.int k i))) (hi : i = (m : Int)) (O : m < len) :
  Yp E.P n s ⟨dst, .indexAddr t x y, ty, pos, aft, g⟩ (.v (.pointer (some ⟨b, off + m * G.size, none⟩))) := by
 refine fun H A r => ⟨_, .v _, fun w => ?_⟩
 subst hi
 simp [execOp, r.evalv hx, r.evalv hy, Instr.indexAt, Instr.sureAddr, asIntOf, run_underlying (Ny (E.ok _ _ W) M), C6 (E.ok _ _ hel), O, D7]
def Xp (s : A1) (x : Option Operand) (d m : Nat) : Prop :=
 match x with
 | none => m = d
 | some x => ∃ k i, Bn s x = some (.v (.int k i)) ∧ i = (m : Int)
theorem Dw {P : Program} {w : World} {k : IntKind} {m y : Nat} {D : BoundsCode} (h : m ≤ y) : (Instr.sliceBound (.int k (m : Int)) y D).run P w = .ok m w := by
 simp [Instr.sliceBound, asIntOf, h]
theorem I7 {P : Program} {w : World} {a : Act} {H : GH} (r : SR n s H a) {isS : Bool} {len cap l h m : Nat} {lo hi mx : Option Operand} (h1 : Xp s lo 0 l) (h2 : Xp s hi len h) (D : Xp s mx cap m)
  (X : hi = none → mx = none) (M : l ≤ h) (G : h ≤ m) (W : m ≤ cap) :
  (Instr.sliceBounds isS len cap (lo.map a.eval) (hi.map a.eval) (mx.map a.eval)).run P w = .ok (l, h, m) w := by
 unfold Instr.sliceBounds
 cases lo with
 | none =>
  simp only [Xp] at h1
  subst h1
  cases hi with
  | none =>
   have := X rfl; subst this
   simp only [Xp] at h2 D
   subst h2 D
   simp
  | some hi =>
   obtain ⟨k2, i2, O, rfl⟩ := h2
   cases mx with
   | none => simp only [Xp] at D; subst D; simp [r.evalv O, Dw G]
   | some mx => obtain ⟨k3, i3, Z, rfl⟩ := D; simp [r.evalv O, r.evalv Z, Dw W, Dw G]
 | some lo =>
  obtain ⟨k1, i1, Y, rfl⟩ := h1
  cases hi with
  | none =>
   have := X rfl; subst this
   simp only [Xp] at h2 D
   subst h2 D
   simp [r.evalv Y, Dw M]
  | some hi =>
   obtain ⟨k2, i2, O, rfl⟩ := h2
   cases mx with
   | none => simp only [Xp] at D; subst D; simp [r.evalv Y, r.evalv O, Dw G, Dw M]
   | some mx => obtain ⟨k3, i3, Z, rfl⟩ := D; simp [r.evalv Y, r.evalv O, r.evalv Z, Dw W, Dw G, Dw M]
theorem VR.sub {H : GH} {b off cap sz : Nat} {es : List (List T)} (h : VR H (.slice (some ⟨b, off, none⟩) es.length cap) (.list sz es)) {l k c : Nat} (G : l + k ≤ es.length) (hc : k ≤ c) :
  VR H (.slice (some ⟨b, off + l * sz, none⟩) k c) (.list sz ((es.drop l).take k)) := by
 generalize hv : Value.slice (some ⟨b, off, none⟩) es.length cap = v at h
 cases h with
 | empty a cap sz =>
  have O : k = 0 := by simp at G; omega
  subst O
  simpa using VR.empty (H := H) (some ⟨b, off + l * sz, none⟩) c sz
 | list b' off' cap' sz es cs ty fr hb hcap hmax hsz hel h1 hvs =>
  simp only [Value.slice.injEq, Option.some.injEq, Addr.mk.injEq, and_true] at hv
  obtain ⟨⟨rfl, rfl⟩, _, _⟩ := hv
  have hlen : ((es.drop l).take k).length = k := by simp; omega
  have D : ∀ (i : Nat) (e : List T), ((es.drop l).take k)[i]? = some e → es[l + i]? = some e := by
   intro i e he
   have hi : i < k := by have := (List.getElem?_eq_some_iff.1 he).1; omega
   rwa [List.getElem?_take_of_lt hi, List.getElem?_drop] at he
  have M : (l + k) * sz ≤ es.length * sz := Nat.mul_le_mul_right _ G
  rw [Nat.add_mul] at M
  have := VR.list (H := H) b (off + l * sz) c sz ((es.drop l).take k) cs ty fr hb (by rw [hlen]; exact hc) (by rw [hlen]; exact Nat.le_trans (by omega) hmax) (by rw [hlen]; omega) (fun i e he => hel _ _ (D i e he))
   (fun i e he j x hx => by have := h1 _ _ (D i e he) j x hx; rwa [Nat.add_mul, ← Nat.add_assoc] at this)
   (fun i e he j x hx => by have := hvs _ _ (D i e he) j x hx; rwa [Nat.add_mul, ← Nat.add_assoc] at this)
  rwa [hlen] at this
theorem Zc {t : TypeId} {x : Operand} {lo hi mx : Option Operand} {sz : Nat} {es : List (List T)} {ti W : TI} {e : Nat} (l h m : Nat)
  (ht : E.tab t = some ti) (hk : ti.kind = .slice e) (he : E.tab e = some W) (hsz : W.size = sz) (hx : Bn s x = some (.list sz es))
  (h1 : Xp s lo 0 l) (h2 : Xp s hi es.length h) (h3 : ∀ cap, es.length ≤ cap → ∃ D, Xp s mx cap D ∧ h ≤ D ∧ D ≤ cap) (O : hi = none → mx = none) (M : l ≤ h) (hh : h ≤ es.length) :
  Yp E.P n s ⟨dst, .slice t x lo hi mx, ty, pos, aft, g⟩ (.list sz ((es.drop l).take (h - l))) := by
 intro H A r
 have hv := r.eval hx
 have hu := Ez (E.ok _ _ ht) hk
 generalize Y : A.eval x = v at hv
 have G : ∀ w, (execOp A.eval ⟨dst, .slice t x lo hi mx, ty, pos, aft, g⟩).run E.P w = ((Instr.sliceAt t v (lo.map A.eval) (hi.map A.eval) (mx.map A.eval)).run E.P w).andThen fun a w => .ok (.value a) w := by
  intro w
  simp only [execOp, Y, Sem.run_bind]
  rfl
 cases hv with
 | empty a cap sz =>
  simp only [List.length_nil, Nat.le_zero] at hh
  subst hh
  simp only [List.length_nil] at h2
  have : l = 0 := by omega
  subst this
  obtain ⟨D, Z, q2, q3⟩ := h3 cap (by simp)
  refine ⟨.slice (if D = 0 then a else a.map (·.add (0 * W.size))) (0 - 0) (D - 0), by simpa using VR.empty _ _ _, fun w => ?_⟩
  rw [G]
  simp only [Instr.sliceAt, Instr.slice, Sem.run_bind, run_underlying hu, Result.andThen_ok, I7 r h1 h2 Z O M q2 q3, C6 (E.ok _ _ he), Sem.run_pure]
 | list b off cap sz es cs ty fr hb hcap hmax hsz' hel hh1 hvs =>
  obtain ⟨D, Z, q2, q3⟩ := h3 cap hcap
  refine ⟨.slice (if D = l then some ⟨b, off, none⟩ else (some (⟨b, off, none⟩ : Addr)).map (·.add (l * W.size))) (h - l) (D - l), ?_, fun w => ?_⟩
  ·by_cases X : D = l
   ·have : h - l = 0 := by omega
    rw [this]; simpa using VR.empty (H := H) _ _ _
   ·rw [if_neg X]
    simp only [Option.map_some, D7, hsz]
    exact VR.sub (.list b off cap sz es cs ty fr hb hcap hmax hsz' hel hh1 hvs) (by omega) (by omega)
  ·rw [G]
   simp only [Instr.sliceAt, Instr.slice, Sem.run_bind, run_underlying hu, Result.andThen_ok, I7 r h1 h2 Z O M q2 q3, C6 (E.ok _ _ he), Sem.run_pure]
theorem V7 {t : TypeId} {x y : Operand} {b : ByteArray} {k : IntKind} {i : Int} {m : Nat} {ti : TI} (O : E.tab t = some ti) (M : ti.kind = .string) (hx : Bn s x = some (.v (.string b)))
  (hy : Bn s y = some (.v (.int k i))) (hi : i = (m : Int)) (G : m < b.size) : Yp E.P n s ⟨dst, .index t x y, ty, pos, aft, g⟩ (.v (.int .u8 ((b.data.getD m 0).toNat : Int))) := by
 refine fun H A r => ⟨_, .v _, fun w => ?_⟩
 subst hi
 have W := Hc (E.ok _ _ O) M
 have D : m < b.data.size := G
 have : b[m]? = some (b.data.getD m 0) := by
  simp [getElem?_def, G, Array.getD, D]
  rfl
 simp [execOp, r.evalv hx, r.evalv hy, Instr.index, asIntOf, run_underlying W, this]
end
section
variable {E : Env} {n : Nat} {C : Ctx} {σ : St} {dst : Option Tmp} {ty : TypeId} {pos : String} {aft : Array Edge} {g : Option (Nat × Bool)}
theorem Gam.sr {H : GH} {a : Act} {w : World} (h : Gam n C σ H a w) : SR n σ.slots H a := ⟨h.size, h.slots⟩
theorem Gam.wr {H : GH} {a : Act} {w : World} (h : Gam n C σ H a w) : WR σ.objs H w := ⟨h.objs, h.held⟩
theorem Ho {H : GH} {cs : Array Value} {D : Nat} {e : List T} {G : TI} {j : Nat} {y : T} (hsz : D + e.length ≤ cs.size)
  (h1 : ∀ (j : Nat) (x : T), e[j]? = some x → (cs.getD (D + j) undef).oneCell' = true) (hv : ∀ (j : Nat) (x : T), e[j]? = some x → VR H (cs.getD (D + j) undef) x)
  (M : Ep G e j = some y) :
  (G.isAgg = true → j + G.size ≤ e.length ∧ VR H (.agg ((List.range G.size).map fun i => cs.getD (D + j + i) undef).toArray) y) ∧
  (G.isAgg = false → j < e.length ∧ VR H (cs.getD (D + j) undef) y) := by
 unfold Ep at M
 refine ⟨fun O => ?_, fun O => ?_⟩
 ·simp only [O, cond_true] at M
  have W : j + G.size ≤ e.length ∧ y = .agg ((e.drop j).take G.size) := by
   cases hb : (Nat.beq j 0 && Nat.beq G.size e.length) with
   | true =>
    simp only [hb, cond_true, Option.some.injEq] at M
    simp only [Bool.and_eq_true] at hb
    have X := Nat.eq_of_beq_eq_true hb.1
    have h2 := Nat.eq_of_beq_eq_true hb.2
    subst X
    exact ⟨by omega, by rw [← M, h2]; simp⟩
   | false =>
    simp only [hb, cond_false] at M
    cases hc : Nat.ble (j + G.size) e.length with
    | false => simp [hc] at M
    | true =>
     simp only [hc, cond_true, Option.some.injEq] at M
     exact ⟨Nat.le_of_ble_eq_true hc, M.symm⟩
  obtain ⟨Y, rfl⟩ := W
  refine ⟨Y, .agg _ _ (by simp; omega) ?_ ?_⟩
  all_goals
   intro i x hx
   have hi : i < G.size := by
    have := (List.getElem?_eq_some_iff.1 hx).1
    simp at this; omega
   rw [List.getElem?_take_of_lt hi, List.getElem?_drop] at hx
   have he : (((List.range G.size).map fun i => cs.getD (D + j + i) undef).toArray).getD i undef = cs.getD (D + (j + i)) undef := by
    simp [Array.getD_eq_getD_getElem?, hi, Nat.add_assoc]
   rw [he]
   first | exact h1 _ _ hx | exact hv _ _ hx
 ·simp only [O, cond_false] at M
  exact ⟨(List.getElem?_eq_some_iff.1 M).1, hv _ _ M⟩
def Ff (D : TI) (cs : Array Value) (o : Nat) : Value :=
 if D.isAgg then .agg ((List.range D.size).map fun i => cs.getD (o + i) undef).toArray else cs.getD o undef
theorem Vs {w : World} {b o : Nat} {cs : Array Value} {ty : TypeId} {fr : Nat × Nat} (h : w.heap[b]? = some (.cells cs ty fr)) (D : o < cs.size) :
  w.cell? ⟨b, o, none⟩ = some (cs.getD o undef) := by
 simp [World.cell?, h, Array.getD, D]
theorem Fy {P : Program} {H : GH} {w : World} {t : TypeId} {G : TI} (M : D2 P t = some G) {b D j : Nat} {cs : Array Value} {ty : TypeId} {fr : Nat × Nat} {e : List T} {y : T}
  (hb : w.heap[b]? = some (.cells cs ty fr)) (hsz : D + e.length ≤ cs.size)
  (h1 : ∀ (j : Nat) (x : T), e[j]? = some x → (cs.getD (D + j) undef).oneCell' = true) (hv : ∀ (j : Nat) (x : T), e[j]? = some x → VR H (cs.getD (D + j) undef) x)
  (O : Ep G e j = some y) : (loadVar t ⟨b, D + j, none⟩).run P w = .ok (Ff G cs (D + j)) w := by
 unfold Ff
 obtain ⟨p1, p2⟩ := Ho hsz h1 hv O
 cases ha : G.isAgg with
 | true =>
  obtain ⟨W, _⟩ := p1 ha
  have hl := run_loadCells (P := P) w ⟨b, D + j, none⟩ G.size (fun i => cs.getD (D + j + i) undef) (fun i hi => by
   rw [D7]; exact Vs hb (by omega))
  simp [loadVar, Gv M, ha, C6 M, hl]
 | false =>
  obtain ⟨W, _⟩ := p2 ha
  simp [loadVar, Gv M, ha, Vs hb (show D + j < cs.size by omega)]
theorem Q0 {t : TypeId} {x : Operand} {cs : List T} {D : TI} {y : T} {objs : List Ob} {s : A1} (O : E.tab t = some D) (hx : Bn s x = some (.eptr cs)) (G : Ep D cs 0 = some y) :
  Yd E.P n s objs ⟨dst, .load t x, ty, pos, aft, g⟩ y := by
 intro H a w r wr
 have h := r.eval hx
 generalize hv : a.eval x = v at h
 cases h with
 | eptr b off l cs' ty' fr hb hsz h1 hvs =>
  obtain ⟨p1, p2⟩ := Ho hsz h1 hvs G
  refine ⟨Ff D cs' off, ?_, fun w' M => ?_⟩
  rotate_left
  ·have := Fy (j := 0) (E.ok _ _ O) (M.1 _ _ hb) hsz h1 hvs G
   simp only [execOp, hv, Instr.loadAt, Instr.sureAddr, Sem.run_bind, Sem.run_pure, Result.andThen_ok]
   simp only [Nat.add_zero] at this
   rw [this]
   first | done | rfl
  ·cases ha : D.isAgg with
   | true => simpa [Ff, ha] using (p1 ha).2
   | false => simpa [Ff, ha] using (p2 ha).2
theorem OR.cells {H : GH} {w : World} {b M sz cap : Nat} {es : List (List T)} (h : OR H w (.arr b M sz cap es)) {i : Nat} {e : List T} (he : es[i]? = some e) :
  ∃ cs, w.heap[b]? = some (.cells cs M (0, 0)) ∧ i * sz + e.length ≤ cs.size ∧ e.length = sz ∧
   (∀ (j : Nat) (x : T), e[j]? = some x → (cs.getD (i * sz + j) undef).oneCell' = true) ∧ (∀ (j : Nat) (x : T), e[j]? = some x → VR H (cs.getD (i * sz + j) undef) x) := by
 obtain ⟨cs, O, W, X, Y, D, G⟩ := h
 refine ⟨cs, O, ?_, D i e he, fun j x hx => (G i e he j x hx).1, fun j x hx => (G i e he j x hx).2⟩
 have hi : i < es.length := (List.getElem?_eq_some_iff.1 he).1
 have : (i + 1) * sz ≤ cap * sz := Nat.mul_le_mul_right _ (by omega)
 rw [Nat.succ_mul] at this
 rw [D i e he, W]; exact this
theorem Bx (k : Nat) {t : TypeId} {x : Operand} {G : TI} {y : T} {objs : List Ob} {s : A1} {b off tt sz cap : Nat} {es : List (List T)} (i j : Nat) {e : List T}
  (ht : E.tab t = some G) (hx : Bn s x = some (.v (.pointer (some ⟨b, off, none⟩))))
  (W : objs[k]? = some (.arr b tt sz cap es)) (he : es[i]? = some e) (ho : off = i * sz + j) (X : Ep G e j = some y) :
  Yd E.P n s objs ⟨dst, .load t x, ty, pos, aft, g⟩ y := by
 intro H a w r wr
 have hv := r.evalv hx
 have M := wr.objs _ (List.mem_of_getElem? W)
 obtain ⟨cs, Y, O, a3, h1, D⟩ := OR.cells M he
 obtain ⟨p1, p2⟩ := Ho O h1 D X
 subst ho
 refine ⟨Ff G cs (i * sz + j), ?_, fun w' Z => ?_⟩
 rotate_left
 ·have hb := Z.2 _ (List.mem_of_getElem? W)
  have := Fy (j := j) (E.ok _ _ ht) ((hb b (by simp [Ob.fp])).trans Y) O h1 D X
  simp only [execOp, hv, Instr.loadAt, Instr.sureAddr, Sem.run_bind, Sem.run_pure, Result.andThen_ok, this]
  first | done | rfl
 ·cases ha : G.isAgg with
  | true => simpa [Ff, ha] using (p1 ha).2
  | false => simpa [Ff, ha] using (p2 ha).2
theorem UsR.arr {H : GH} {w : World} {v : Value} {D sz : Nat} {es : List (List T)} (h : UsR H w v D sz es) {i : Nat} {e : List T} (he : es[i]? = some e) :
  ∃ c cap, v = .slice (some ⟨Wf v, 0, none⟩) es.length c ∧ es.length ≤ c ∧ c ≤ cap ∧ ArrR H w (Wf v) D sz cap es ∧ Ku v = [Wf v] := by
 rcases h with ⟨_, h⟩ | ⟨b, c, cap, rfl, h1, h2, G⟩
 ·subst h; simp at he
 ·exact ⟨c, cap, rfl, h1, h2, G, rfl⟩
theorem Ba (k : Nat) {t : TypeId} {x : Operand} {W : TI} {y : T} {objs : List Ob} {s : A1} {v : Value} {off M sz : Nat} {es : List (List T)} (i j : Nat) {e : List T}
  (ht : E.tab t = some W) (hx : Bn s x = some (.v (.pointer (some ⟨Wf v, off, none⟩))))
  (X : objs[k]? = some (.us v M sz es)) (he : es[i]? = some e) (ho : off = i * sz + j) (D : Ep W e j = some y) :
  Yd E.P n s objs ⟨dst, .load t x, ty, pos, aft, g⟩ y := by
 intro H a w r wr
 have G : UsR H w v M sz es := wr.objs _ (List.mem_of_getElem? X)
 obtain ⟨c, cap, hv, h1, h2, Y, Z⟩ := G.arr he
 obtain ⟨z, hz, hr⟩ := Bx (E := E) (n := n) (dst := dst) (ty := ty) (pos := pos) (aft := aft) (g := g) (objs := [.arr (Wf v) M sz cap es]) 0 i j ht hx rfl he ho D H a w r ⟨fun p D => by simp at D; subst D; exact Y, wr.held⟩
 refine ⟨z, hz, fun w' O => hr w' ⟨O.1, fun p D b hb => ?_⟩⟩
 simp only [List.mem_singleton] at D
 subst D
 exact O.2 _ (List.mem_of_getElem? X) b (by simp only [Ob.fp, Z] at *; exact hb)
theorem jU (k : Nat) {x : Operand} {t : TypeId} {objs : List Ob} {s : A1} {v : Value} {O sz : Nat} {es : List (List T)} {ti : TI} {e : Nat} (G : E.tab t = some ti) (D : ti.kind = .slice e) (hx : Bn s x = some (.v v))
  (W : objs[k]? = some (.us v O sz es)) : Yd E.P n s objs ⟨dst, .call { callee := .builtin .len, args := #[x], argTypes := #[t] }, ty, pos, aft, g⟩ (.v (.int .i64 es.length)) := by
 intro H a w r wr
 have M : UsR H w v O sz es := wr.objs _ (List.mem_of_getElem? W)
 rcases M with ⟨rfl, rfl⟩ | ⟨b, c, cap, rfl, h1, h2, X⟩
 ·exact ⟨_, .v _, fun w' _ => (Gd (E := E) (n := n) G D hx H a r).choose_spec.2 w' |> fun h => by rw [h]; have := (Gd (E := E) (n := n) (dst := dst) (ty := ty) (pos := pos) (aft := aft) (g := g) G D hx H a r).choose_spec.1.v_eq; rw [this]; rfl⟩
 ·exact ⟨_, .v _, fun w' _ => (Gd (E := E) (n := n) G D hx H a r).choose_spec.2 w' |> fun h => by rw [h]; have := (Gd (E := E) (n := n) (dst := dst) (ty := ty) (pos := pos) (aft := aft) (g := g) G D hx H a r).choose_spec.1.v_eq; rw [this]⟩
theorem Bi (k : Nat) {t : TypeId} {x y : Operand} {kk : IntKind} {i : Int} {m : Nat} {objs : List Ob} {s : A1} {v : Value} {Z sz : Nat} {es : List (List T)} {e : List T} {ti W : TI} {O : Nat}
  (Y : E.tab t = some ti) (X : ti.kind = .slice O) (hel : E.tab O = some W) (hsz : W.size = sz)
  (hx : Bn s x = some (.v v)) (ho : objs[k]? = some (.us v Z sz es)) (hy : Bn s y = some (.v (.int kk i))) (hi : i = (m : Int)) (G : es[m]? = some e) :
  Yd E.P n s objs ⟨dst, .indexAddr t x y, ty, pos, aft, g⟩ (.v (.pointer (some ⟨Wf v, m * sz, none⟩))) := by
 intro H a w r wr
 have M : UsR H w v Z sz es := wr.objs _ (List.mem_of_getElem? ho)
 obtain ⟨c, cap, hv, h1, h2, h3, h4⟩ := M.arr G
 have D : Bn s x = some (.v (.slice (some ⟨Wf v, 0, none⟩) es.length c)) := by rw [← hv]; exact hx
 have := N8 (E := E) (n := n) (dst := dst) (ty := ty) (pos := pos) (aft := aft) (g := g) Y X hel D hy hi (List.getElem?_eq_some_iff.1 G).1 H a r
 rw [hsz, Nat.zero_add] at this
 exact (Yp.yd (fun H A r => N8 (E := E) (n := n) (dst := dst) (ty := ty) (pos := pos) (aft := aft) (g := g) Y X hel D hy hi (List.getElem?_eq_some_iff.1 G).1 H A r) (objs := objs) H a w r wr) |> fun h => by rw [hsz, Nat.zero_add] at h; exact h
theorem AO.still {D : Array Oper} {o : Oper} {l : List Oper} {R : St → Prop} {x : T} (hy : Yd E.P n σ.slots σ.objs o x) (hg : o.guard = none) (M : ∀ d, o.dst = some d → d < n)
  (k : AO E n C D l (σ.put o.dst x) R) : AO E n C D (o :: l) σ R := by
 intro H a w G
 obtain ⟨v, hv, O⟩ := hy H a w G.sr G.wr
 simp only [Xo]
 rw [if_pos (by simp [Region.wanted, hg])]
 refine Sc ?_
 simp only [Oper.wp, O w ⟨G.held, fun _ _ _ _ => rfl⟩, Oper.upon]
 exact k H _ w (G.put hv M)
theorem C3 {n d : Nat} (h : Nat.blt d n = true) : ∀ D, some d = some D → D < n := fun D he => by
 cases he; exact Nat.le_of_ble_eq_true h
theorem Fr {H : GH} {a : Act} {s : A1} (r : SR n s H a) {D : Array Oper} {j : Nat} {t : Tmp} {b : Bool} (M : (D[j]?).bind (·.dst) = some t) (O : get s t = some (.v (.bool b))) :
  yielded D a.tmps j = some b := by
 have hv := (r.slots t _ O).v_eq
 have G : t < a.tmps.size := by
  apply Classical.byContradiction
  intro hc
  rw [Array.getD_eq_getD_getElem?, Array.getElem?_eq_none (Nat.le_of_not_lt hc)] at hv
  simp [undef] at hv
 have : a.tmps[t]? = some (.bool b) := by
  rw [Array.getD_eq_getD_getElem?, Array.getElem?_eq_getElem G] at hv
  rw [Array.getElem?_eq_getElem G]; simpa using hv
 simp [yielded, M, this]
theorem AO.guard {D : Array Oper} {op : Op} {l : List Oper} {R : St → Prop} {j : Nat} {Dc b : Bool} {t : Tmp}
  (W : (D[j]?).bind (·.dst) = some t) (X : get σ.slots t = some (.v (.bool b))) (O : ∀ d, dst = some d → d < n)
  (h1 : b = Dc → AO E n C D (⟨dst, op, ty, pos, aft, none⟩ :: l) σ R)
  (h2 : b = !Dc → AO E n C D l (σ.put dst (.v undef)) R) : AO E n C D (⟨dst, op, ty, pos, aft, some (j, Dc)⟩ :: l) σ R := by
 intro H a w G
 have hy := Fr G.sr W X
 simp only [Xo]
 by_cases hb : b = Dc
 ·rw [if_pos (by simp [Region.wanted, hy, hb])]
  have := h1 hb H a w G
  simp only [Xo] at this
  rw [if_pos (by simp [Region.wanted])] at this
  exact this
 ·rw [if_neg (by simp [Region.wanted, hy, hb])]
  have M : b = !Dc := by cases b <;> cases Dc <;> simp_all
  exact h2 M H _ w (G.put (.v _) O)
def kD (X : List Nat) (D : Array Bool) : Bool := X.all fun x => !(D.getD x true)
def Gg (P : Program) (D : Array Oper) (Q : Exit → Act → World → Prop) (S : World → Prop) (X : List Nat) : Nat → Array Bool → Act → World → Prop
 | 0, listed, a, w => Region.ready .any D listed = [] ∧ Q .normal a w
 | fuel + 1, listed, a, w =>
  (Region.ready .any D listed = [] → Q .normal a w) ∧
  ∀ i ∈ Region.ready .any D listed, wpOp P D Q i (fun a' w' => (kD X (listed.setIfInBounds i true) = true → S w') ∧ Gg P D Q S X fuel (listed.setIfInBounds i true) a' w') a w
theorem Q4 {P : Program} {M : Array Oper} {Q : Exit → Act → World → Prop} {S : World → Prop} {X : List Nat} : ∀ (D : Nat) (G : Array Bool) (a : Act) (w : World), Gg P M Q S X D G a w → wpAny P .any M Q D G a w
 | 0, _, _, _, h => h
 | D + 1, _, _, _, h => ⟨h.1, fun i hi => wpOp_mono (fun a' w' O => Q4 D _ a' w' O.2) (h.2 i hi)⟩
theorem Ou {P : Program} {M : Array Oper} {Q : Exit → Act → World → Prop} {S : World → Prop} {X : List Nat} {D : Array Bool} {a : Act} {w : World} (O : Region.ready .any M D = []) (h : Q .normal a w) :
  ∀ G, Gg P M Q S X G D a w
 | 0 => ⟨O, h⟩
 | _ + 1 => ⟨fun _ => h, by rw [O]; simp⟩
theorem Ej {P : Program} {G : Array Oper} {Q : Exit → Act → World → Prop} {S : World → Prop} {X rs : List Nat} {M : Nat} {D : Array Bool} {a : Act} {w : World} (W : Region.ready .any G D = rs) (O : rs ≠ [])
  (h : ∀ i ∈ rs, wpOp P G Q i (fun a' w' => (kD X (D.setIfInBounds i true) = true → S w') ∧ Gg P G Q S X M (D.setIfInBounds i true) a' w') a w) : Gg P G Q S X (M + 1) D a w :=
 ⟨fun Y => absurd (W ▸ Y) O, W ▸ h⟩
def Blk (G : Array Oper) (D : Array Bool) (U : List Nat) (i : Nat) : Prop :=
 ∀ u, u ∈ U → D.getD u true = false ∧ (u = i ∨ ∃ o e, G[u]? = some o ∧ e ∈ o.after ∧ Region.binds .any e = true ∧ e.on ∈ U)
theorem Blk.not_ready {O : Array Oper} {D : Array Bool} {U : List Nat} {i j : Nat} (hb : Blk O D U i) (hj : j ∈ Region.ready .any O D) (Y : j ≠ i) : j ∉ U := by
 intro hU
 obtain ⟨_, h⟩ := hb j hU
 rcases h with h | ⟨o, e, ho, he, X, Z⟩
 ·exact Y h
 ·obtain ⟨_, o', M, G⟩ := mem_ready.1 hj
  rw [ho] at M
  cases M
  have h1 := G e he X
  have h0 := (hb e.on Z).1
  rcases Nat.lt_or_ge e.on D.size with W | W
  ·simp [W] at h0 h1; rw [h0] at h1; cases h1
  ·simp [Array.getElem?_eq_none W] at h1
theorem L7 {P : Program} {G : Array Oper} {Q : Exit → Act → World → Prop} {S : World → Prop} {X U : List Nat} {i : Nat} {oi : Oper} {v : Value} (hi : G[i]? = some oi) (ac : ∀ (j : Nat) (o : Oper) cs b, G[j]? = some o → o.op ≠ .select cs b)
  (hQ : ∀ c a w, Q (.panic c) (a.put oi.dst v) w → Q (.panic c) a w) (hX : ∀ x, x ∈ X → x ∈ U ∧ x ≠ i) :
  ∀ (O : Nat) (D : Array Bool) (a : Act) (w : World),
   (∀ j oj, G[j]? = some oj → j ≠ i → D.getD j true = false → (∀ e ∈ oj.after, Region.binds .any e = true → e.on ≠ i) → oi.apart G oj = true) → Blk G D U i →
   i ∈ Region.ready .any G D → YieldsIf P G S oi v a → S w →
   Gg P G Q S X O (D.setIfInBounds i true) (a.put oi.dst v) w → Gg P G Q S X (O + 1) D a w := by
 intro O
 induction O with
 | zero =>
  intro D a w _ _ hr hy hS H
  refine ⟨fun h => (by rw [h] at hr; cases hr), fun j hj => ?_⟩
  by_cases M : j = i
  ·subst M; exact hy.wpOp hi hS ⟨fun _ => hS, H⟩
  ·have := ready_mono hj M
   rw [H.1] at this
   cases this
 | succ O ih =>
  intro D a w Y W hr hy hS H
  refine ⟨fun h => (by rw [h] at hr; cases hr), fun j hj => ?_⟩
  by_cases M : j = i
  ·subst M; exact hy.wpOp hi hS ⟨fun _ => hS, H⟩
  ·have h1 := H.2 j (ready_mono hj M)
   have hjU := W.not_ready hj M
   obtain ⟨ab, oj, ae, hall⟩ := mem_ready.1 hj
   have hnot : ∀ e ∈ oj.after, Region.binds .any e = true → e.on ≠ i := fun e he hb heq => by
    have h1 := hall e he hb
    have h0 := (mem_ready.1 hr).1
    rw [heq] at h1
    rcases Nat.lt_or_ge i D.size with h' | h'
    ·simp [h'] at h0 h1; rw [h0] at h1; cases h1
    ·simp [Array.getElem?_eq_none h'] at h1
   have aa : kD X ((D.setIfInBounds i true).setIfInBounds j true) = true := by
    refine List.all_eq_true.2 fun x hx => ?_
    obtain ⟨hxU, hxi⟩ := hX x hx
    rw [getD_set_ne true (show j ≠ x from fun h => hjU (h ▸ hxU)), getD_set_ne true (Ne.symm hxi), (W x hxU).1]; rfl
   have h2 := wpOp_putIf ae (Y j oj ae M ab hnot) (fun cs b => ac i oi cs b hi) (fun cs b => ac j oj cs b ae) hQ hy h1
   have Z : ∀ k ok, G[k]? = some ok → k ≠ i → (D.setIfInBounds j true).getD k true = false →
     (∀ e ∈ ok.after, Region.binds .any e = true → e.on ≠ i) → oi.apart G ok = true := fun k ok hk hki hun aa => by
    refine Y k ok hk hki ?_ aa
    by_cases hjk : j = k
    ·subst hjk; exact ab
    ·rw [getD_set_ne true hjk] at hun; exact hun
   have ad : Blk G (D.setIfInBounds j true) U i := fun u hu => ⟨by rw [getD_set_ne true (show j ≠ u from fun h => hjU (h ▸ hu))]; exact (W u hu).1, (W u hu).2⟩
   refine wpOp_mono (fun a' w' h3 => ⟨fun _ => h3.2.1 aa, ih (D.setIfInBounds j true) a' w' Z ad (ready_mono hr (Ne.symm M)) h3.1 (h3.2.1 aa) ?_⟩) h2
   rw [Array.setIfInBounds_comm _ _ M]
   exact h3.2.2
def kR (G : Array Oper) (D : Array Bool) (i : Nat) : List Nat :=
 (List.range G.size).foldl (fun U u => bif !(D.getD u true) && !(Nat.beq u i) && (match G[u]? with | some o => o.after.any (fun e => Region.binds .any e && U.contains e.on) | none => false) then u :: U else U) [i]
def lX (G : Array Oper) (D : Array Bool) (X U : List Nat) (i : Nat) : Bool :=
 X.isEmpty || (U.all (fun u => !(D.getD u true) && (Nat.beq u i || (match G[u]? with | some o => o.after.any (fun e => Region.binds .any e && U.contains e.on) | none => false))) && X.all (fun x => U.contains x && !(Nat.beq x i)))
theorem V0 {P : Program} {G : Array Oper} {Q : Exit → Act → World → Prop} {S : World → Prop} {X U : List Nat} {i : Nat} {oi : Oper} {v : Value} {M : Nat} {D : Array Bool} {a : Act} {w : World} (hi : G[i]? = some oi)
  (hs : Region.noSelect G = true) (hf : Region.free .any G D i = true) (hr : (Region.ready .any G D).contains i = true) (hb : lX G D X U i = true)
  (Z : ∀ c a w, Q (.panic c) (a.put oi.dst v) w → Q (.panic c) a w) (hy : YieldsIf P G S oi v a) (hS : S w)
  (h : Gg P G Q S X M (D.setIfInBounds i true) (a.put oi.dst v) w) : Gg P G Q S X (M + 1) D a w := by
 have W : i ∈ Region.ready .any G D := by simpa using hr
 rcases Bool.or_eq_true _ _ |>.mp hb with hb | hb
 ·have : X = [] := by simpa using hb
  subst this
  exact L7 (U := [i]) hi (Region.noSelect_spec hs) Z (by simp) M D a w (Region.free_spec hi hf) (fun u Y => by simp at Y; subst Y; exact ⟨(mem_ready.1 W).1, .inl rfl⟩) W hy hS h
 ·simp only [Bool.and_eq_true] at hb
  obtain ⟨h1, h2⟩ := hb
  refine L7 (U := U) hi (Region.noSelect_spec hs) Z (fun x hx => ?_) M D a w (Region.free_spec hi hf) (fun u Y => ?_) W hy hS h
  ·have := List.all_eq_true.1 h2 x hx
   simp only [Bool.and_eq_true, Bool.not_eq_true'] at this
   refine ⟨by simpa using this.1, fun he => ?_⟩
   rw [he] at this
   simp at this
  ·have := List.all_eq_true.1 h1 u Y
   simp only [Bool.and_eq_true, Bool.not_eq_true', Bool.or_eq_true] at this
   refine ⟨this.1, ?_⟩
   rcases this.2 with h | h
   ·exact .inl (Nat.eq_of_beq_eq_true h)
   ·split at h
    ·rename_i o ho
     rw [Array.any_eq_true'] at h
     obtain ⟨e, he, O⟩ := h
     simp only [Bool.and_eq_true] at O
     exact .inr ⟨o, e, ho, he, O.1, by simpa using O.2⟩
    ·cases h
inductive PL where
 | nil
 | still (i : Nat) (r : PL)
 | act (i : Nat) (r : PL)
 | two (i j : Nat) (r1 r2 : PL)
 | three (i j k : Nat) (r1 r2 r3 : PL)
 | four (i j k l : Nat) (r1 r2 r3 r4 : PL)
 | five (i j k l m : Nat) (r1 r2 r3 r4 r5 : PL)
 | par (A : List (Nat × List Nat)) (r : PL)
 | drop (i : Nat) (r : PL)
def R4 (G : Array Oper) (A : List (Nat × List Nat)) (k : Array Bool → Bool) : Nat → List Nat → Array Bool → Bool
 | 0, _, _ => false
 | f + 1, D, listed => bif A.all (fun p => D.contains p.1) then k listed else
  match Region.ready .any G listed with
  | [] => false
  | i :: l => (i :: l).all fun j => !D.contains j && A.any (fun p => Nat.beq p.1 j && p.2.all D.contains) && R4 G A k f (j :: D) (listed.setIfInBounds j true)
def PL.actsOnly : PL → Bool
 | .nil => true
 | .act _ r => r.actsOnly
 | .drop _ r => r.actsOnly
 | _ => false
def PL.drops : PL → List Nat
 | .nil => []
 | .still _ r => r.drops
 | .act _ r => r.drops
 | .two _ _ r1 r2 => r1.drops ++ r2.drops
 | .three _ _ _ r1 r2 r3 => r1.drops ++ (r2.drops ++ r3.drops)
 | .four _ _ _ _ r1 r2 r3 r4 => r1.drops ++ (r2.drops ++ (r3.drops ++ r4.drops))
 | .five _ _ _ _ _ r1 r2 r3 r4 r5 => r1.drops ++ (r2.drops ++ (r3.drops ++ (r4.drops ++ r5.drops)))
 | .par _ r => r.drops
 | .drop i r => i :: r.drops
def Dk (D : Array Oper) (X : List Nat) : PL → Array Bool → Bool
 | .nil, listed => (Region.ready .any D listed).isEmpty
 | .still i r, listed => Region.free .any D listed i && (Region.ready .any D listed).contains i && lX D listed X (bif X.isEmpty then [] else kR D listed i) i && Dk D X r (listed.setIfInBounds i true)
 | .act i r, listed => Region.ready .any D listed == [i] && Dk D X r (listed.setIfInBounds i true)
 | .two i j r1 r2, listed => Region.ready .any D listed == [i, j] && Dk D X r1 (listed.setIfInBounds i true) && Dk D X r2 (listed.setIfInBounds j true)
 | .three i j k r1 r2 r3, listed => Region.ready .any D listed == [i, j, k] && Dk D X r1 (listed.setIfInBounds i true) && Dk D X r2 (listed.setIfInBounds j true) && Dk D X r3 (listed.setIfInBounds k true)
 | .four i j k l r1 r2 r3 r4, listed => Region.ready .any D listed == [i, j, k, l] && Dk D X r1 (listed.setIfInBounds i true) && Dk D X r2 (listed.setIfInBounds j true) && Dk D X r3 (listed.setIfInBounds k true) && Dk D X r4 (listed.setIfInBounds l true)
 | .five i j k l m r1 r2 r3 r4 r5, listed => Region.ready .any D listed == [i, j, k, l, m] && Dk D X r1 (listed.setIfInBounds i true) && Dk D X r2 (listed.setIfInBounds j true) && Dk D X r3 (listed.setIfInBounds k true) && Dk D X r4 (listed.setIfInBounds l true) && Dk D X r5 (listed.setIfInBounds m true)
 | .par A r, listed => R4 D A (Dk D X r) (A.length + 1) [] listed
 | .drop i r, listed => Region.ready .any D listed == [i] && X.contains i && r.actsOnly && Dk D X r (listed.setIfInBounds i true)
def PL.depth : PL → Nat
 | .nil => 0
 | .still _ r => r.depth + 1
 | .act _ r => r.depth + 1
 | .two _ _ r1 r2 => max r1.depth r2.depth + 1
 | .three _ _ _ r1 r2 r3 => max r1.depth (max r2.depth r3.depth) + 1
 | .four _ _ _ _ r1 r2 r3 r4 => max r1.depth (max r2.depth (max r3.depth r4.depth)) + 1
 | .five _ _ _ _ _ r1 r2 r3 r4 r5 => max r1.depth (max r2.depth (max r3.depth (max r4.depth r5.depth))) + 1
 | .par A r => r.depth + A.length
 | .drop _ r => r.depth + 1
def R3 (D : Array Oper) (pl : PL) : Bool :=
 Region.noSelect D && Nat.ble pl.depth D.size && Dk D pl.drops pl (Array.replicate D.size false)
def Dy (P : Program) (G : Array Oper) (Q : Exit → Act → World → Prop) : (World → Prop) → PL → Act → World → Prop
 | _, .nil, a, w => Q .normal a w
 | S, .still i r, a, w => ∃ o v, G[i]? = some o ∧ YieldsIf P G S o v a ∧ S w ∧ Dy P G Q S r (a.put o.dst v) w
 | S, .act i r, a, w => wpOp P G Q i (fun a' w' => S w' ∧ Dy P G Q S r a' w') a w
 | S, .two i j r1 r2, a, w => wpOp P G Q i (fun a' w' => S w' ∧ Dy P G Q S r1 a' w') a w ∧ wpOp P G Q j (fun a' w' => S w' ∧ Dy P G Q S r2 a' w') a w
 | S, .three i j k r1 r2 r3, a, w => wpOp P G Q i (fun a' w' => S w' ∧ Dy P G Q S r1 a' w') a w ∧ wpOp P G Q j (fun a' w' => S w' ∧ Dy P G Q S r2 a' w') a w ∧ wpOp P G Q k (fun a' w' => S w' ∧ Dy P G Q S r3 a' w') a w
 | S, .four i j k l r1 r2 r3 r4, a, w => wpOp P G Q i (fun a' w' => S w' ∧ Dy P G Q S r1 a' w') a w ∧ wpOp P G Q j (fun a' w' => S w' ∧ Dy P G Q S r2 a' w') a w ∧ wpOp P G Q k (fun a' w' => S w' ∧ Dy P G Q S r3 a' w') a w ∧ wpOp P G Q l (fun a' w' => S w' ∧ Dy P G Q S r4 a' w') a w
 | S, .five i j k l m r1 r2 r3 r4 r5, a, w => wpOp P G Q i (fun a' w' => S w' ∧ Dy P G Q S r1 a' w') a w ∧ wpOp P G Q j (fun a' w' => S w' ∧ Dy P G Q S r2 a' w') a w ∧ wpOp P G Q k (fun a' w' => S w' ∧ Dy P G Q S r3 a' w') a w ∧ wpOp P G Q l (fun a' w' => S w' ∧ Dy P G Q S r4 a' w') a w ∧ wpOp P G Q m (fun a' w' => S w' ∧ Dy P G Q S r5 a' w') a w
 | S, .par A r, a, w => ∃ J : List Nat → Act → World → Prop, J [] a w ∧
   (∀ (D : List Nat) (j : Nat) (ds : List Nat) a w, (j, ds) ∈ A → (∀ d, d ∈ ds → d ∈ D) → j ∉ D → J D a w → wpOp P G Q j (fun a' w' => S w' ∧ J (j :: D) a' w') a w) ∧
   (∀ (D : List Nat) a w, (∀ p, p ∈ A → p.1 ∈ D) → J D a w → Dy P G Q S r a w)
 | _, .drop i r, a, w => wpOp P G Q i (fun a' w' => Dy P G Q (fun _ => True) r a' w') a w
theorem Ot {P : Program} {D : Array Oper} {Q : Exit → Act → World → Prop} : ∀ (r : PL) (S : World → Prop) (a : Act) (w : World), r.actsOnly = true → Dy P D Q S r a w → Dy P D Q (fun _ => True) r a w
 | .nil, _, _, _, _, h => h
 | .act _ r, S, _, _, hr, h => wpOp_mono (fun a' w' G => ⟨trivial, Ot r S a' w' hr G.2⟩) h
 | .drop _ _, _, _, _, _, h => h
theorem O5 {X : List Nat} {D : Array Bool} {i : Nat} (h : kD X D = false) : kD X (D.setIfInBounds i true) = false := by
 unfold kD at *
 obtain ⟨x, hx, hv⟩ := List.all_eq_false.1 h
 refine List.all_eq_false.2 ⟨x, hx, ?_⟩
 simp only [Bool.not_eq_true', Bool.not_eq_false] at *
 by_cases G : i = x
 ·subst G
  by_cases hl : i < D.size
  ·simp [hl]
  ·simp [hl]
 ·rw [getD_set_ne true G]; exact hv
theorem Ye {X : List Nat} {D : Array Bool} {i : Nat} (h : X.contains i = true) : kD X (D.setIfInBounds i true) = false := by
 refine List.all_eq_false.2 ⟨i, by simpa using h, ?_⟩
 by_cases hl : i < D.size
 ·simp [hl]
 ·simp [hl]
theorem Jv {P : Program} {M : Array Oper} {Q : Exit → Act → World → Prop} {S : World → Prop} {X : List Nat} :
  ∀ (pl : PL) (G : Nat) (D : Array Bool) (a : Act) (w : World), pl.actsOnly = true → kD X D = false → pl.depth ≤ G → Dk M X pl D = true → Dy P M Q (fun _ => True) pl a w → Gg P M Q S X G D a w
 | .nil, G, D, a, w, _, _, _, hp, h => Ou (by simpa [Dk] using hp) h G
 | .act i r, 0, _, _, _, _, _, hl, _, _ => by simp [PL.depth] at hl
 | .act i r, G + 1, D, a, w, ha, hn, hl, hp, h => by
  simp only [Dk, Bool.and_eq_true, beq_iff_eq] at hp
  refine Ej hp.1 (by simp) (fun j O => ?_)
  simp only [List.mem_singleton] at O
  subst O
  exact wpOp_mono (fun a' w' W => ⟨fun hx => absurd hx (by rw [O5 hn]; simp), Jv r G _ _ _ ha (O5 hn) (by simp [PL.depth] at hl; omega) hp.2 W.2⟩) h
 | .drop i r, 0, _, _, _, _, _, hl, _, _ => by simp [PL.depth] at hl
 | .drop i r, G + 1, D, a, w, ha, hn, hl, hp, h => by
  simp only [Dk, Bool.and_eq_true, beq_iff_eq] at hp
  refine Ej hp.1.1.1 (by simp) (fun j O => ?_)
  simp only [List.mem_singleton] at O
  subst O
  exact wpOp_mono (fun a' w' W => ⟨fun hx => absurd hx (by rw [O5 hn]; simp), Jv r G _ _ _ ha (O5 hn) (by simp [PL.depth] at hl; omega) hp.2 W⟩) h
theorem V1 {P : Program} {aa : Array Oper} {Q : Exit → Act → World → Prop} {S : World → Prop} {X : List Nat} (hsel : Region.noSelect aa = true) (hQ : ∀ c a w, ¬ Q (.panic c) a w) :
  ∀ (pl : PL) (G : Nat) (M : Array Bool) (a : Act) (w : World), pl.depth ≤ G → Dk aa X pl M = true → Dy P aa Q S pl a w → Gg P aa Q S X G M a w := by
 intro pl
 induction pl with
 | nil =>
  intro G M a w _ W h
  exact Ou (by simpa [Dk] using W) h G
 | still i r ih =>
  intro G M a w hl W h
  cases G with
  | zero => simp [PL.depth] at hl
  | succ G =>
   simp only [Dk, Bool.and_eq_true] at W
   obtain ⟨⟨⟨hf, Z⟩, hb⟩, ad⟩ := W
   obtain ⟨o, v, ho, hy, hS, hrest⟩ := h
   exact V0 ho hsel hf Z hb (fun c a w hq => absurd hq (hQ _ _ _)) hy hS (ih G _ _ _ (by simp [PL.depth] at hl; omega) ad hrest)
 | act i r ih =>
  intro G M a w hl W h
  cases G with
  | zero => simp [PL.depth] at hl
  | succ G =>
   simp only [Dk, Bool.and_eq_true, beq_iff_eq] at W
   obtain ⟨Z, ad⟩ := W
   refine Ej Z (by simp) (fun j hj => ?_)
   simp only [List.mem_singleton] at hj
   subst hj
   exact wpOp_mono (fun a' w' O => ⟨fun _ => O.1, ih G _ _ _ (by simp [PL.depth] at hl; omega) ad O.2⟩) h
 | two i j r1 r2 ih1 ih2 =>
  intro G M a w hl W h
  cases G with
  | zero => simp [PL.depth] at hl
  | succ G =>
   simp only [Dk, Bool.and_eq_true, beq_iff_eq] at W
   obtain ⟨⟨Z, ab⟩, ac⟩ := W
   simp only [PL.depth] at hl
   refine Ej Z (by simp) (fun k Y => ?_)
   simp only [List.mem_cons, List.not_mem_nil, or_false] at Y
   rcases Y with rfl | rfl
   ·exact wpOp_mono (fun a' w' O => ⟨fun _ => O.1, ih1 G _ _ _ (by omega) ab O.2⟩) h.1
   ·exact wpOp_mono (fun a' w' O => ⟨fun _ => O.1, ih2 G _ _ _ (by omega) ac O.2⟩) h.2
 | three i j k r1 r2 r3 ih1 ih2 ih3 =>
  intro G M a w hl W h
  cases G with
  | zero => simp [PL.depth] at hl
  | succ G =>
   simp only [Dk, Bool.and_eq_true, beq_iff_eq] at W
   obtain ⟨⟨⟨Z, ab⟩, ac⟩, ae⟩ := W
   simp only [PL.depth] at hl
   obtain ⟨af, ag, ah⟩ := h
   refine Ej Z (by simp) (fun kk Y => ?_)
   simp only [List.mem_cons, List.not_mem_nil, or_false] at Y
   rcases Y with rfl | rfl | rfl
   ·exact wpOp_mono (fun a' w' O => ⟨fun _ => O.1, ih1 G _ _ _ (by omega) ab O.2⟩) af
   ·exact wpOp_mono (fun a' w' O => ⟨fun _ => O.1, ih2 G _ _ _ (by omega) ac O.2⟩) ag
   ·exact wpOp_mono (fun a' w' O => ⟨fun _ => O.1, ih3 G _ _ _ (by omega) ae O.2⟩) ah
 | four i j k l r1 r2 r3 r4 ih1 ih2 ih3 ih4 =>
  intro G M a w hl W h
  cases G with
  | zero => simp [PL.depth] at hl
  | succ G =>
   simp only [Dk, Bool.and_eq_true, beq_iff_eq] at W
   obtain ⟨⟨⟨⟨Z, ab⟩, ac⟩, ae⟩, hp4⟩ := W
   simp only [PL.depth] at hl
   obtain ⟨af, ag, ah, hw4⟩ := h
   refine Ej Z (by simp) (fun kk Y => ?_)
   simp only [List.mem_cons, List.not_mem_nil, or_false] at Y
   rcases Y with rfl | rfl | rfl | rfl
   ·exact wpOp_mono (fun a' w' O => ⟨fun _ => O.1, ih1 G _ _ _ (by omega) ab O.2⟩) af
   ·exact wpOp_mono (fun a' w' O => ⟨fun _ => O.1, ih2 G _ _ _ (by omega) ac O.2⟩) ag
   ·exact wpOp_mono (fun a' w' O => ⟨fun _ => O.1, ih3 G _ _ _ (by omega) ae O.2⟩) ah
   ·exact wpOp_mono (fun a' w' O => ⟨fun _ => O.1, ih4 G _ _ _ (by omega) hp4 O.2⟩) hw4
 | five i j k l m r1 r2 r3 r4 r5 ih1 ih2 ih3 ih4 ih5 =>
  intro G M a w hl W h
  cases G with
  | zero => simp [PL.depth] at hl
  | succ G =>
   simp only [Dk, Bool.and_eq_true, beq_iff_eq] at W
   obtain ⟨⟨⟨⟨⟨Z, ab⟩, ac⟩, ae⟩, hp4⟩, hp5⟩ := W
   simp only [PL.depth] at hl
   obtain ⟨af, ag, ah, hw4, hw5⟩ := h
   refine Ej Z (by simp) (fun kk Y => ?_)
   simp only [List.mem_cons, List.not_mem_nil, or_false] at Y
   rcases Y with rfl | rfl | rfl | rfl | rfl
   ·exact wpOp_mono (fun a' w' O => ⟨fun _ => O.1, ih1 G _ _ _ (by omega) ab O.2⟩) af
   ·exact wpOp_mono (fun a' w' O => ⟨fun _ => O.1, ih2 G _ _ _ (by omega) ac O.2⟩) ag
   ·exact wpOp_mono (fun a' w' O => ⟨fun _ => O.1, ih3 G _ _ _ (by omega) ae O.2⟩) ah
   ·exact wpOp_mono (fun a' w' O => ⟨fun _ => O.1, ih4 G _ _ _ (by omega) hp4 O.2⟩) hw4
   ·exact wpOp_mono (fun a' w' O => ⟨fun _ => O.1, ih5 G _ _ _ (by omega) hp5 O.2⟩) hw5
 | drop i r ih =>
  intro G M a w hl W h
  cases G with
  | zero => simp [PL.depth] at hl
  | succ G =>
   simp only [Dk, Bool.and_eq_true, beq_iff_eq] at W
   obtain ⟨⟨⟨Z, hx⟩, ha⟩, ad⟩ := W
   refine Ej Z (by simp) (fun j hj => ?_)
   simp only [List.mem_singleton] at hj
   subst hj
   exact wpOp_mono (fun a' w' O => ⟨fun hn => absurd hn (by rw [Ye hx]; simp), Jv r G _ _ _ ha (Ye hx) (by simp [PL.depth] at hl; omega) ad O⟩) h
 | par A r ih =>
  intro G M a w hl W h
  obtain ⟨J, h0, hstep, hend⟩ := h
  simp only [PL.depth] at hl
  have main : ∀ (f : Nat) (D : List Nat) (M : Array Bool) (a : Act) (w : World) (G : Nat), f + r.depth ≤ G + 1 → R4 aa A (Dk aa X r) f D M = true → J D a w → Gg P aa Q S X G M a w := by
   intro f
   induction f with
   | zero => intro D M a w G _ Y; simp [R4] at Y
   | succ f ihf =>
    intro D M a w G hf Y hJ
    simp only [R4] at Y
    cases hall : A.all (fun p => D.contains p.1) with
    | true =>
     rw [hall, cond_true] at Y
     exact ih G M a w (by omega) Y (hend D a w (fun p W => by simpa using List.all_eq_true.1 hall p W) hJ)
    | false =>
     rw [hall, cond_false] at Y
     cases Z : Region.ready .any aa M with
     | nil => rw [Z] at Y; simp at Y
     | cons i l =>
      rw [Z] at Y
      simp only [] at Y
      cases G with
      | zero =>
       have hi := List.all_eq_true.1 Y i (by simp)
       simp only [Bool.and_eq_true] at hi
       have : f = 0 := by omega
       subst this
       simp [R4] at hi
      | succ G =>
       refine Ej Z (by simp) (fun j hj => ?_)
       have hi := List.all_eq_true.1 Y j hj
       simp only [Bool.and_eq_true, Bool.not_eq_true', List.any_eq_true] at hi
       obtain ⟨⟨hD, ⟨j', ds⟩, hm, hb, hds⟩, hrec⟩ := hi
       have := Nat.eq_of_beq_eq_true hb
       dsimp only at this
       subst this
       exact wpOp_mono (fun a' w' O => ⟨fun _ => O.1, ihf _ _ _ _ G (by omega) hrec O.2⟩)
        (hstep D _ ds a w hm (fun d hd => by simpa using List.all_eq_true.1 hds d hd) (by simpa using hD) hJ)
  exact main (A.length + 1) [] M a w G (by omega) W h0
theorem Rr {P : Program} {id : Nat} {D : Array Oper} {Q : Exit → Act → World → Prop} {S : World → Prop} {a : Act} {w : World} (O : P.follows .mixedOrders = true) (pl : PL)
  (M : R3 D pl = true) (Y : ∀ c a w, ¬ Q (.panic c) a w) (X : ¬ LetsOut Q) (h : Dy P D Q S pl a w.drew) : cw (Code.region id D true) P Q a w := by
 simp only [R3, Bool.and_eq_true] at M
 obtain ⟨⟨h1, h2⟩, W⟩ := M
 have G := Q4 _ _ _ _ (V1 h1 Y pl D.size _ a _ (Nat.le_of_ble_eq_true h2) W h)
 intro ro Z
 cases ro with
 | none => exact wpIn_wide.2 (wp_region_any O G)
 | some q => exact Rv O (Z rfl) X G
def mV (s : A1) : Option Tmp → A1
 | none => s
 | some d => s.filter fun p => !Nat.beq p.1 d
theorem F5 {d i : Nat} : ∀ {s : A1} {x : T}, get (s.filter fun p => !Nat.beq p.1 d) i = some x → i ≠ d ∧ get s i = some x
 | [], x, h => by simp [get] at h
 | (k, y) :: l, x, h => by
  cases hk : Nat.beq k d with
  | true =>
   simp only [List.filter, hk, Bool.not_true] at h
   obtain ⟨h1, h2⟩ := F5 h
   have : k = d := Nat.eq_of_beq_eq_true hk
   refine ⟨h1, ?_⟩
   have D : Nat.beq k i = false := by
    cases hb : Nat.beq k i with
    | false => rfl
    | true => exact absurd (by rw [← this, Nat.eq_of_beq_eq_true hb]) h1
   simp [get, D, h2]
  | false =>
   simp only [List.filter, hk, Bool.not_false, get] at h
   cases hb : Nat.beq k i with
   | true =>
    simp only [hb, cond_true] at h
    have D := Nat.eq_of_beq_eq_true hb
    refine ⟨fun he => ?_, by simp [get, hb, h]⟩
    rw [← he, ← D] at hk
    simp at hk
   | false =>
    simp only [hb, cond_false] at h
    obtain ⟨h1, h2⟩ := F5 h
    exact ⟨h1, by simp [get, hb, h2]⟩
theorem mO {s : A1} {H : GH} {a : Act} (r : SR n s H a) (dst : Option Tmp) (v : Value) : SR n (mV s dst) H (a.put dst v) := by
 cases dst with
 | none => exact r
 | some d =>
  refine ⟨by simp [Act.put, r.size], fun i x h => ?_⟩
  obtain ⟨h1, h2⟩ := F5 h
  have he : (a.tmps.setIfInBounds d v).getD i undef = a.tmps.getD i undef := by
   simp [Array.getD_eq_getD_getElem?, Array.getElem?_setIfInBounds_ne (Ne.symm h1)]
  simp only [Act.put]
  rw [he]; exact r.slots i x h2
def free (s : A1) : Option Tmp → Bool
 | none => true
 | some d => s.all fun p => !Nat.beq p.1 d
theorem Rb {d i : Nat} : ∀ {s : A1} {x : T}, (s.all fun p => !Nat.beq p.1 d) = true → get s i = some x → i ≠ d
 | [], x, _, h => by simp [get] at h
 | (k, y) :: l, x, ha, h => by
  simp only [List.all_cons, Bool.and_eq_true, Bool.not_eq_true'] at ha
  simp only [get] at h
  cases hb : Nat.beq k i with
  | true =>
   have D := Nat.eq_of_beq_eq_true hb
   rintro rfl
   rw [hb] at ha; simp at ha
  | false =>
   simp only [hb, cond_false] at h
   exact Rb ha.2 h
theorem SR.free {s : A1} {H : GH} {a : Act} (r : SR n s H a) (dst : Option Tmp) (v : Value) (hf : free s dst = true) : SR n s H (a.put dst v) := by
 cases dst with
 | none => exact r
 | some d =>
  refine ⟨by simp [Act.put, r.size], fun i x h => ?_⟩
  have h1 := Rb hf h
  have he : (a.tmps.setIfInBounds d v).getD i undef = a.tmps.getD i undef := by
   simp [Array.getD_eq_getD_getElem?, Array.getElem?_setIfInBounds_ne (Ne.symm h1)]
  simp only [Act.put]
  rw [he]; exact r.slots i x h
def Fn (s : A1) (dst : Option Tmp) (x : T) : A1 :=
 match dst with
 | none => s
 | some d => (d, x) :: s
theorem SR.put {s : A1} {H : GH} {a : Act} (r : SR n s H a) {dst : Option Tmp} {v : Value} {x : T} (hv : VR H v x) (G : ∀ d, dst = some d → d < n) : SR n (Fn s dst x) H (a.put dst v) := by
 cases dst with
 | none => exact r
 | some d =>
  refine ⟨by simp [Act.put, r.size], fun i y h => ?_⟩
  simp only [Fn, get] at h
  simp only [Act.put]
  cases hb : Nat.beq d i with
  | true =>
   have := Nat.eq_of_beq_eq_true hb
   subst this
   simp only [hb, cond_true, Option.some.injEq] at h
   subst h
   have : d < a.tmps.size := by rw [r.size]; exact G d rfl
   simpa [Array.getD, this] using hv
  | false =>
   simp only [hb, cond_false] at h
   have D : d ≠ i := fun h => by rw [h] at hb; simp at hb
   have he : (a.tmps.setIfInBounds d v).getD i undef = a.tmps.getD i undef := by
    simp [Array.getD_eq_getD_getElem?, Array.getElem?_setIfInBounds_ne D]
   rw [he]; exact r.slots i y h
def AP (E : Env) (n : Nat) (C : Ctx) (M : Array Oper) (G : List Nat) (D : List Ob) (pl : PL) (so : A1) (σ : St) (R : St → Prop) : Prop :=
 ∀ Hs O H a w, SR n so Hs a → WR D Hs O → Kp Hs D O w → (∀ b o, Hs b = some o → H b = some o) →
  (∀ p, p ∈ D → ∃ i, G.contains i = true ∧ σ.objs[i]? = some p) → Gam n C σ H a w →
  Dy E.P M (fun e a' w' => e = .normal ∧ ∃ σ' H', R σ' ∧ Gam n C σ' H' a' w') (Kp Hs D O) pl a w
theorem AP.nil {M : Array Oper} {G : List Nat} {D : List Ob} {so : A1} {R : St → Prop} (h : R σ) : AP E n C M G D .nil so σ R :=
 fun _ _ H _ _ _ _ _ _ _ O => ⟨rfl, σ, H, h, O⟩
theorem Ws {M : Array Oper} {G : List Nat} {D : List Ob} {so : A1} {R : St → Prop} {i : Nat} {r : PL} {o : Oper} {x : T} (ho : M[i]? = some o)
  (hy : Yd E.P n so D o x) (hg : o.guard = none) (Y : ∀ d, o.dst = some d → d < n) (k : AP E n C M G D r (Fn so o.dst x) (σ.put o.dst x) R) :
  AP E n C M G D (.still i r) so σ R := by
 intro Hs Z H a w sr wr W X hp gm
 obtain ⟨v, hv, O⟩ := hy Hs a Z sr wr
 refine ⟨o, v, ho, .inl ⟨by simp [Region.wanted, hg], O⟩, W, ?_⟩
 exact k Hs Z H _ w (sr.put hv Y) wr W X (by cases h : o.dst <;> simpa [St.put, h] using hp) (gm.put (hv.mono X) Y)
theorem AP.new {M : Array Oper} {G : List Nat} {D : List Ob} {so : A1} {R : St → Prop} {i : Nat} {r : PL} {o : Oper} {x : T} (ho : M[i]? = some o)
  (hy : Yp E.P n σ.slots o x) (hg : o.guard = none) (Z : ∀ d, o.dst = some d → d < n) (k : AP E n C M G D r so (σ.put o.dst x) R) (hf : free so o.dst = true := by rfl) :
  AP E n C M G D (.still i r) so σ R := by
 intro Hs ws H a w sr wr W Y hp X
 obtain ⟨v, hv, O⟩ := hy H a X.sr
 refine ⟨o, v, ho, .inl ⟨by simp [Region.wanted, hg], fun w' _ => O w'⟩, W, ?_⟩
 exact k Hs ws H _ w (sr.free _ _ hf) wr W Y (by cases h : o.dst <;> simpa [St.put, h] using hp) (X.put hv Z)
theorem AP.act {W : Array Oper} {G : List Nat} {D : List Ob} {so : A1} {R : St → Prop} {i : Nat} {r : PL} {o : Oper} (md : List Nat) (ho : W[i]? = some o)
  (hg : o.guard = none) (hm : (G.all fun i => !md.contains i) = true) (h : AX E n C md o σ (fun σ' => AP E n C W G D r so σ' R)) (hf : free so o.dst = true := by rfl) :
  AP E n C W G D (.act i r) so σ R := by
 intro Hs ws H a w sr wr ag hH hp gm
 have ab : ∀ i, G.contains i = true → md.contains i = false := fun i hi => by
  have := (List.all_eq_true.1 hm) i (by simpa using hi)
  simpa using this
 simp only [Dy, wpOp, ho]
 rw [if_pos (by simp [Region.wanted, hg])]
 refine .inl (D8 ?_ (fun _ _ _ h => h.elim) (h H a w gm))
 rintro a' w' ⟨σ', H', v, hr, Y, ac, Z, aa⟩
 have X : Kp Hs D ws w' := by
  refine ⟨fun b o hb => Y.held _ _ (Z _ _ (hH _ _ hb)), fun p M b hb => ?_⟩
  obtain ⟨i, hi, O⟩ := hp p M
  exact ((aa i p O (ab i hi)).2 b hb).trans (ag.2 p M b hb)
 refine ⟨X, hr Hs ws H' a' w' (by rw [ac]; exact sr.free _ _ hf) wr X (fun b o hb => Z _ _ (hH _ _ hb)) (fun p M => ?_) Y⟩
 obtain ⟨i, hi, O⟩ := hp p M
 exact ⟨i, hi, (aa i p O (ab i hi)).1⟩
def nF := @AP.act
theorem AP.drop {G : Array Oper} {O : List Nat} {M : List Ob} {so : A1} {R : St → Prop} {i : Nat} {r : PL} {o : Oper} (md : List Nat) (hr : r.actsOnly = true) (ho : G[i]? = some o)
  (hg : o.guard = none) (h : AX E n C md o σ (fun σ' => AP E n C G [] [] r [] σ' R)) :
  AP E n C G O M (.drop i r) so σ R := by
 intro Hs ws H a w sr wr ag hH hp X
 simp only [Dy, wpOp, ho]
 rw [if_pos (by simp [Region.wanted, hg])]
 refine .inl (D8 ?_ (fun _ _ _ h => h.elim) (h H a w X))
 rintro a' w' ⟨σ', H', v, W, D, Z, Y, aa⟩
 exact Ot r _ a' w' hr (W H' w' H' a' w' ⟨D.size, fun i x h => by simp [get] at h⟩ ⟨by simp, D.held⟩ ⟨D.held, by simp⟩ (fun _ _ h => h) (by simp) D)
def nW := @AP.drop
theorem AP.skip {D : Array Oper} {M : List Nat} {G : List Ob} {so : A1} {R : St → Prop} {i : Nat} {r : PL} {o : Oper} {j : Nat} {Dc b : Bool} {t : Tmp} (ho : D[i]? = some o)
  (hg : o.guard = some (j, Dc)) (Z : (D[j]?).bind (·.dst) = some t) (hs : get σ.slots t = some (.v (.bool b))) (hb : b = !Dc) (Y : ∀ d, o.dst = some d → d < n)
  (k : AP E n C D M G r so (σ.put o.dst (.v undef)) R) (hf : free so o.dst = true := by rfl) : AP E n C D M G (.still i r) so σ R := by
 intro Hs ws H a w sr wr O X hp W
 have hy := Fr W.sr Z hs
 have hw : Region.wanted o (yielded D a.tmps) = false := by subst hb; cases Dc <;> simp [Region.wanted, hg, hy]
 have hk := k Hs ws H _ w (sr.free o.dst undef hf) wr O X (by cases h : o.dst <;> simpa [St.put, h] using hp) (W.put (.v undef) Y)
 exact ⟨o, undef, ho, .inr ⟨hw, rfl⟩, O, hk⟩
theorem iB {D : Array Oper} {M : List Nat} {G : List Ob} {so : A1} {R : St → Prop} {i : Nat} {r : PL} {o : Oper} {j : Nat} {Dc b : Bool} {t : Tmp} (ho : D[i]? = some o)
  (hg : o.guard = some (j, Dc)) (Z : (D[j]?).bind (·.dst) = some t) (hs : get σ.slots t = some (.v (.bool b))) (hb : b = !Dc) (Y : ∀ d, o.dst = some d → d < n)
  (k : AP E n C D M G r so (σ.put o.dst (.v undef)) R) (hf : free so o.dst = true := by rfl) : AP E n C D M G (.act i r) so σ R := by
 intro Hs ws H a w sr wr O X hp W
 have hy := Fr W.sr Z hs
 have hw : Region.wanted o (yielded D a.tmps) = false := by subst hb; cases Dc <;> simp [Region.wanted, hg, hy]
 have hk := k Hs ws H _ w (sr.free o.dst undef hf) wr O X (by cases h : o.dst <;> simpa [St.put, h] using hp) (W.put (.v undef) Y)
 simp only [Dy, wpOp, ho]
 rw [if_neg (by simp [hw])]
 exact ⟨O, hk⟩
theorem AP.two {M : Array Oper} {G : List Nat} {D : List Ob} {so : A1} {R : St → Prop} {i j : Nat} {r1 r2 : PL} (h1 : AP E n C M G D (.act i r1) so σ R) (h2 : AP E n C M G D (.act j r2) so σ R) :
  AP E n C M G D (.two i j r1 r2) so σ R :=
 fun Hs Z H a w sr wr O X Y W => ⟨h1 Hs Z H a w sr wr O X Y W, h2 Hs Z H a w sr wr O X Y W⟩
def nT := @AP.two
theorem AP.three {M : Array Oper} {G : List Nat} {D : List Ob} {so : A1} {R : St → Prop} {i j k : Nat} {r1 r2 r3 : PL} (h1 : AP E n C M G D (.act i r1) so σ R) (h2 : AP E n C M G D (.act j r2) so σ R) (h3 : AP E n C M G D (.act k r3) so σ R) :
  AP E n C M G D (.three i j k r1 r2 r3) so σ R :=
 fun Hs Z H a w sr wr O X Y W => ⟨h1 Hs Z H a w sr wr O X Y W, h2 Hs Z H a w sr wr O X Y W, h3 Hs Z H a w sr wr O X Y W⟩
def nX := @AP.three
theorem AP.four {M : Array Oper} {G : List Nat} {D : List Ob} {so : A1} {R : St → Prop} {i j k l : Nat} {r1 r2 r3 r4 : PL} (h1 : AP E n C M G D (.act i r1) so σ R) (h2 : AP E n C M G D (.act j r2) so σ R) (h3 : AP E n C M G D (.act k r3) so σ R) (h4 : AP E n C M G D (.act l r4) so σ R) :
  AP E n C M G D (.four i j k l r1 r2 r3 r4) so σ R :=
 fun Hs Z H a w sr wr O X Y W => ⟨h1 Hs Z H a w sr wr O X Y W, h2 Hs Z H a w sr wr O X Y W, h3 Hs Z H a w sr wr O X Y W, h4 Hs Z H a w sr wr O X Y W⟩
theorem AP.five {M : Array Oper} {G : List Nat} {D : List Ob} {so : A1} {R : St → Prop} {i j k l m : Nat} {r1 r2 r3 r4 r5 : PL} (h1 : AP E n C M G D (.act i r1) so σ R) (h2 : AP E n C M G D (.act j r2) so σ R) (h3 : AP E n C M G D (.act k r3) so σ R) (h4 : AP E n C M G D (.act l r4) so σ R) (h5 : AP E n C M G D (.act m r5) so σ R) :
  AP E n C M G D (.five i j k l m r1 r2 r3 r4 r5) so σ R :=
 fun Hs Z H a w sr wr O X Y W => ⟨h1 Hs Z H a w sr wr O X Y W, h2 Hs Z H a w sr wr O X Y W, h3 Hs Z H a w sr wr O X Y W, h4 Hs Z H a w sr wr O X Y W, h5 Hs Z H a w sr wr O X Y W⟩
theorem AP.weaken {D : Array Oper} {pl : PL} {so : A1} {R : St → Prop} {s : A1} {ob : List Ob} (X : Sub s σ.slots) (W : ob.Sublist σ.objs) (h : AP E n C D [] [] pl so ⟨s, ob⟩ R) :
  AP E n C D [] [] pl so σ R :=
 fun Hs Y H a w sr wr G O _ M => h Hs Y H a w sr wr G O (by simp) (M.weaken X W)
theorem Gu {G : Array Oper} {M : List Nat} {D : List Ob} {so : A1} {R : St → Prop} {i : Nat} {r : PL} {op : Op} {x : T} {j : Nat} {Dc b : Bool} {t : Tmp}
  (ho : G[i]? = some ⟨dst, op, ty, pos, aft, some (j, Dc)⟩)
  (hj : (G[j]?).bind (·.dst) = some t) (hs : get σ.slots t = some (.v (.bool b))) (hb : b = Dc)
  (hy : Yd E.P n so D ⟨dst, op, ty, pos, aft, none⟩ x) (hd : ∀ d, dst = some d → d < n) (k : AP E n C G M D r (Fn so dst x) (σ.put dst x) R) :
  AP E n C G M D (.still i r) so σ R := by
 intro Hs ws H a w sr wr X Z hp Y
 obtain ⟨v, hv, O⟩ := hy Hs a ws sr wr
 have W := Fr Y.sr hj hs
 refine ⟨_, v, ho, .inl ⟨by simp [Region.wanted, W, hb], O⟩, X, ?_⟩
 exact k Hs ws H _ w (sr.put hv hd) wr X Z (by cases dst <;> simpa [St.put] using hp) (Y.put (hv.mono Z) hd)
theorem kC {G : Array Oper} {M : List Nat} {D : List Ob} {so : A1} {R : St → Prop} {i : Nat} {r : PL} {op : Op} {x : T} {j : Nat} {Dc b : Bool} {t : Tmp}
  (ho : G[i]? = some ⟨dst, op, ty, pos, aft, some (j, Dc)⟩)
  (hj : (G[j]?).bind (·.dst) = some t) (hs : get σ.slots t = some (.v (.bool b))) (hb : b = Dc)
  (hy : Yp E.P n σ.slots ⟨dst, op, ty, pos, aft, none⟩ x) (hd : ∀ d, dst = some d → d < n) (k : AP E n C G M D r so (σ.put dst x) R) (hf : free so dst = true := by rfl) :
  AP E n C G M D (.still i r) so σ R := by
 intro Hs ws H a w sr wr Y Z hp W
 obtain ⟨v, hv, O⟩ := hy H a W.sr
 have X := Fr W.sr hj hs
 refine ⟨_, v, ho, .inl ⟨by simp [Region.wanted, X, hb], fun w' _ => O w'⟩, Y, ?_⟩
 exact k Hs ws H _ w (sr.free _ _ hf) wr Y Z (by cases dst <;> simpa [St.put] using hp) (W.put hv hd)
theorem Ls {O : Array Oper} {G : List Nat} {D : List Ob} {so : A1} {R : St → Prop} {i : Nat} {r : PL} {op : Op} {j : Nat} {Dc b : Bool} {t : Tmp} (md : List Nat)
  (ho : O[i]? = some ⟨dst, op, ty, pos, aft, some (j, Dc)⟩)
  (hj : (O[j]?).bind (·.dst) = some t) (hs : get σ.slots t = some (.v (.bool b))) (hb : b = Dc) (hm : (G.all fun i => !md.contains i) = true)
  (h : AX E n C md ⟨dst, op, ty, pos, aft, none⟩ σ (fun σ' => AP E n C O G D r so σ' R)) (hf : free so dst = true := by rfl) :
  AP E n C O G D (.act i r) so σ R := by
 intro Hs ws H a w sr wr ag hH hp gm
 have ab : ∀ i, G.contains i = true → md.contains i = false := fun i hi => by
  have := (List.all_eq_true.1 hm) i (by simpa using hi)
  simpa using this
 have ad := Fr gm.sr hj hs
 simp only [Dy, wpOp, ho]
 rw [if_pos (by simp [Region.wanted, ad, hb])]
 have e : ∀ K Q, Oper.wp E.P ⟨dst, op, ty, pos, aft, some (j, Dc)⟩ a w K Q = Oper.wp E.P ⟨dst, op, ty, pos, aft, none⟩ a w K Q := fun _ _ => rfl
 rw [e]
 refine .inl (D8 ?_ (fun _ _ _ h => h.elim) (h H a w gm))
 rintro a' w' ⟨σ', H', v, hr, Y, ac, Z, aa⟩
 have X : Kp Hs D ws w' := by
  refine ⟨fun b o hb => Y.held _ _ (Z _ _ (hH _ _ hb)), fun p M b hb => ?_⟩
  obtain ⟨i, hi, W⟩ := hp p M
  exact ((aa i p W (ab i hi)).2 b hb).trans (ag.2 p M b hb)
 refine ⟨X, hr Hs ws H' a' w' (by rw [ac]; exact sr.free _ _ hf) wr X (fun b o hb => Z _ _ (hH _ _ hb)) (fun p M => ?_) Y⟩
 obtain ⟨i, hi, W⟩ := hp p M
 exact ⟨i, hi, (aa i p W (ab i hi)).1⟩
theorem Gam.drew {H : GH} {a : Act} {w : World} (D : Gam n C σ H a w) : Gam n C σ H a w.drew :=
 { D with
  objs := fun p G => OR.mono (fun _ _ h => h) (fun _ _ => rfl) (D.objs p G)
  held := D.held, heap := D.heap, frame := D.frame }
theorem Lh {id : Nat} {O : Array Oper} {Q : Exit → St → Prop} (pl : PL) (G : List Nat) (D : List Ob) (hB : R3 O pl = true)
  (hp : G.map (fun i => σ.objs[i]?) = D.map some)
  (h : AP E n C O G D pl σ.slots σ (fun σ' => Q .normal σ')) : AW E n C (.region id O true) σ Q := by
 intro H a w Z
 have X : ∀ p, p ∈ D → ∃ i, G.contains i = true ∧ σ.objs[i]? = some p := by
  intro p M
  have : some p ∈ G.map (fun i => σ.objs[i]?) := by rw [hp]; exact List.mem_map_of_mem M
  obtain ⟨i, hi, he⟩ := List.mem_map.1 this
  exact ⟨i, by simpa using hi, he⟩
 refine Kd (Rr (S := Kp H D w.drew) E.mixed pl hB (Q := fun e a' w' => e = .normal ∧ ∃ σ' H', Q .normal σ' ∧ Gam n C σ' H' a' w') ?_ ?_ ?_) ?_
 ·rintro c a w ⟨h, _⟩; cases h
 ·rintro ⟨a, w, h, _⟩; cases h
 ·have W := Z.drew
  exact h H w.drew H a w.drew W.sr ⟨fun p M => by obtain ⟨i, _, he⟩ := X p M; exact W.objs p (List.mem_of_getElem? he), W.held⟩ ⟨W.held, fun _ _ _ _ => rfl⟩ (fun _ _ h => h) X W
 ·rintro e a' w' ⟨rfl, σ', H', q, Y⟩
  exact ⟨σ', H', q, Y⟩
end
def Er : T → Option (List T)
 | .agg cs => some cs
 | .v x => bif x.oneCell' then some [.v x] else none
 | .list sz es => some [.list sz es]
 | .eptr l => some [.eptr l]
 | .tup _ => none
 | .fn f fs cs => some [.fn f fs cs]
def AR (H : GH) (arr : Array Value) (l : List T) : Prop := arr.size = l.length ∧ ∀ (j : Nat) (x : T), l[j]? = some x → CR H (arr.getD j undef) x
theorem Sq {v : Value} (h : v.oneCell' = true) : v.cells = #[v] := by cases v <;> simp_all [Value.cells, Value.oneCell']
theorem AR.one {H : GH} {v : Value} {x : T} (h1 : v.oneCell' = true) (h : VR H v x) : AR H #[v] [x] := by
 refine ⟨rfl, fun j y hy => ?_⟩
 cases j with
 | zero => simp at hy; subst hy; exact ⟨h1, h⟩
 | succ j => simp at hy
theorem Jx {H : GH} {v : Value} {y : T} {cs : List T} (h : VR H v y) (hc : Er y = some cs) : AR H v.cells cs := by
 cases y with
 | v x =>
  have := h.v_eq
  subst this
  simp only [Er] at hc
  cases ho : v.oneCell' with
  | false => simp [ho] at hc
  | true =>
   simp only [ho, cond_true, Option.some.injEq] at hc
   subst hc
   rw [Sq ho]
   exact .one ho h
 | list sz es =>
  simp only [Er, Option.some.injEq] at hc
  subst hc
  obtain ⟨a, cap, rfl⟩ := h.list_slice
  exact .one rfl h
 | agg l =>
  simp only [Er, Option.some.injEq] at hc
  subst hc
  cases h with
  | agg vs cs hl h1 hv => exact ⟨hl, fun j x hx => ⟨h1 j x hx, hv j x hx⟩⟩
 | tup l => simp [Er] at hc
 | fn f fs cs =>
  simp only [Er, Option.some.injEq] at hc
  subst hc
  have h1 : v.oneCell' = true := by cases h; rfl
  rw [Sq h1]
  exact .one h1 h
 | eptr l =>
  simp only [Er, Option.some.injEq] at hc
  subst hc
  obtain ⟨b, o, rfl⟩ := h.eptr_ptr
  exact .one rfl h
theorem AR.all1 {H : GH} {arr : Array Value} {l : List T} (h : AR H arr l) : ∀ v, v ∈ arr.toList → v.oneCell' = true := by
 intro v hv
 obtain ⟨j, M, he⟩ := List.getElem_of_mem hv
 have D : j < arr.size := by simpa using M
 have G : j < l.length := by rw [← h.1]; exact D
 have := (h.2 j l[j] (List.getElem?_eq_getElem G)).1
 have hg : arr.getD j undef = v := by
  rw [Array.getD_eq_getD_getElem?, Array.getElem?_eq_getElem D]
  simpa using he
 rwa [hg] at this
def Gq : List T → Nat → List T → List T
 | [], _, _ => []
 | e, 0, [] => e
 | _ :: e, 0, c :: cs => c :: Gq e 0 cs
 | x :: e, j + 1, cs => x :: Gq e j cs
theorem Gb : ∀ (l : List T) (j : Nat) (cs : List T), (Gq l j cs).length = l.length
 | [], _, _ => rfl
 | _ :: _, 0, [] => rfl
 | _ :: e, 0, _ :: cs => by simp [Gq, Gb e 0 cs]
 | _ :: e, j + 1, cs => by simp [Gq, Gb e j cs]
theorem Lw : ∀ (l : List T) (j : Nat) (cs : List T) (i : Nat) (x : T), (Gq l j cs)[i]? = some x →
  (j ≤ i ∧ i < j + cs.length ∧ cs[i - j]? = some x) ∨ ((i < j ∨ j + cs.length ≤ i) ∧ l[i]? = some x)
 | [], _, _, i, x, h => by simp [Gq] at h
 | y :: e, 0, [], i, x, h => .inr ⟨by simp, h⟩
 | y :: e, 0, c :: cs, i, x, h => by
  simp only [Gq] at h
  cases i with
  | zero => left; simp at h; exact ⟨by omega, by simp, by simp [h]⟩
  | succ i =>
   simp only [List.getElem?_cons_succ] at h
   rcases Lw e 0 cs i x h with ⟨h1, h2, D⟩ | ⟨h1, h2⟩
   ·left; exact ⟨by omega, by simp; omega, by simpa using D⟩
   ·right; refine ⟨by simp; omega, by simpa using h2⟩
 | y :: e, j + 1, cs, i, x, h => by
  simp only [Gq] at h
  cases i with
  | zero => right; simp at h; exact ⟨by omega, by simp [h]⟩
  | succ i =>
   simp only [List.getElem?_cons_succ] at h
   rcases Lw e j cs i x h with ⟨h1, h2, D⟩ | ⟨h1, h2⟩
   ·left; exact ⟨by omega, by omega, by rw [show i + 1 - (j + 1) = i - j by omega]; exact D⟩
   ·right; exact ⟨by omega, by simpa using h2⟩
section
variable {E : Env} {n : Nat} {C : Ctx} {σ : St} {dst : Option Tmp} {ty : TypeId} {pos : String} {aft : Array Edge} {g : Option (Nat × Bool)}
theorem UsR.lt {H : GH} {w : World} {v : Value} {ty sz : Nat} {es : List (List T)} (h : UsR H w v ty sz es) : ∀ b, b ∈ Ku v → b < w.heap.size := by
 intro b hb
 rcases h with ⟨rfl, _⟩ | ⟨G, c, cap, rfl, _, _, cs, D, _⟩
 ·simp [Ku] at hb
 ·simp [Ku] at hb; subst hb; exact (Array.getElem?_eq_some_iff.1 D).1
theorem Qn : ∀ {vs : List Value} {L : List (Option (List (List T)))} {b : Nat}, b ∈ E2 vs L → ∃ (i : Nat) (v : Value) (es : List (List T)), vs[i]? = some v ∧ L[i]? = some (some es) ∧ b ∈ Ku v
 | v :: vs, some es :: L, b, h => by
  simp only [E2, List.mem_append] at h
  rcases h with h | h
  ·exact ⟨0, v, es, rfl, rfl, h⟩
  ·obtain ⟨i, v, es, h1, h2, D⟩ := Qn h
   exact ⟨i + 1, v, es, by simpa using h1, by simpa using h2, D⟩
 | v :: vs, none :: L, b, h => by
  simp only [E2] at h
  obtain ⟨i, v, es, h1, h2, D⟩ := Qn h
  exact ⟨i + 1, v, es, by simpa using h1, by simpa using h2, D⟩
 | [], _, b, h => by simp [E2] at h
 | _ :: _, [], b, h => by simp [E2] at h
theorem OR.lt {H : GH} {w : World} {o : Ob} (h : OR H w o) : ∀ b, b ∈ o.fp → b < w.heap.size := by
 intro b hb
 cases o with
 | arr b' ty sz cap es => simp only [Ob.fp, List.mem_singleton] at hb; subst hb; obtain ⟨cs, D, _⟩ := h; exact (Array.getElem?_eq_some_iff.1 D).1
 | us v ty sz es => exact UsR.lt h b hb
 | uss v ty tyi szi vs L =>
  obtain ⟨_, h1, h2⟩ := h
  simp only [Ob.fp, List.mem_append] at hb
  rcases hb with hb | hb
  ·exact h1.lt b hb
  ·obtain ⟨i, x, es, G, M, O⟩ := Qn hb
   exact (h2 i x es G M).lt b O
 | raw b' o => simp only [Ob.fp, List.mem_singleton] at hb; subst hb; exact (Array.getElem?_eq_some_iff.1 h).1
theorem L6 {α : Type} : ∀ {l : List α} {k : Nat} {x : α}, l[k]? = some x → ∃ D G, l = D ++ x :: G ∧ D.length = k ∧ (∀ y, l.set k y = D ++ y :: G) ∧ l.eraseIdx k = D ++ G
 | [], k, x, h => by simp at h
 | a :: l, 0, x, h => by simp at h; subst h; exact ⟨[], l, rfl, rfl, fun _ => rfl, rfl⟩
 | a :: l, k + 1, x, h => by
  obtain ⟨D, G, h1, h2, M, O⟩ := L6 (l := l) (k := k) (by simpa using h)
  exact ⟨a :: D, G, by rw [h1]; rfl, by simp [h2], fun y => by simp [M y], by simp [O]⟩
theorem R5 {α : Type} {f : α → List Nat} {l : List α} (D : (l.flatMap f).Nodup) {k i : Nat} {p q : α} (M : l[k]? = some p) (hi : l[i]? = some q) (O : k ≠ i) : ∀ b, b ∈ f p → b ∉ f q := by
 obtain ⟨W, Z, rfl, h2, _, _⟩ := L6 M
 intro b hb G
 rw [List.flatMap_append, List.flatMap_cons, List.nodup_append, List.nodup_append] at D
 obtain ⟨_, ⟨_, _, X⟩, Y⟩ := D
 rcases Nat.lt_or_ge i k with h | h
 ·rw [List.getElem?_append_left (by omega)] at hi
  exact Y b (List.mem_flatMap.2 ⟨q, List.mem_of_getElem? hi, G⟩) b (by simp [hb]) rfl
 ·rw [List.getElem?_append_right (by omega), show i - W.length = (i - k - 1) + 1 by omega, List.getElem?_cons_succ] at hi
  exact X b hb b (List.mem_flatMap.2 ⟨q, List.mem_of_getElem? hi, G⟩) rfl
theorem Vj {α : Type} {f : α → List Nat} {l : List α} (W : (l.flatMap f).Nodup) {k : Nat} {p q : α} (Z : l[k]? = some p) (hq : (f q).Nodup) (O : ∀ b, b ∈ f q → b ∈ f p ∨ ∀ x, x ∈ l → b ∉ f x) : ((l.set k q).flatMap f).Nodup := by
 obtain ⟨l1, l2, rfl, h2, Y, _⟩ := L6 Z
 rw [Y]
 rw [List.flatMap_append, List.flatMap_cons, List.nodup_append, List.nodup_append] at W ⊢
 obtain ⟨n0, ⟨n1, M, n2⟩, X⟩ := W
 refine ⟨n0, ⟨hq, M, ?_⟩, ?_⟩
 ·intro b hb c hc D
  subst D
  rcases O b hb with h | h
  ·exact n2 b h b hc rfl
  ·obtain ⟨x, hx, G⟩ := List.mem_flatMap.1 hc
   exact h x (by simp [hx]) G
 ·intro b hb c hc D
  subst D
  rcases List.mem_append.1 hc with hc | hc
  ·rcases O b hc with h | h
   ·exact X b hb b (by simp [h]) rfl
   ·obtain ⟨x, hx, G⟩ := List.mem_flatMap.1 hb
    exact h x (by simp [hx]) G
  ·exact X b hb b (by rw [List.mem_append]; exact .inr hc) rfl
theorem Gam.H_lt {H : GH} {a : Act} {w : World} (D : Gam n C σ H a w) {b : Nat} (hb : w.heap.size ≤ b) : H b = none := by
 cases h : H b with
 | none => rfl
 | some o => have := (Array.getElem?_eq_some_iff.1 (D.held b o h)).1; omega
theorem Gam.world {H : GH} {a : Act} {w w' : World} (D : Gam n C σ H a w) {objs : List Ob} (row : Nat → Prop) (O : w'.os = w.os ∧ w'.tape = w.tape ∧ w'.output = w.output) (hsz : w.heap.size ≤ w'.heap.size)
  (X : ∀ k, k < w.heap.size → ¬ row k → w'.heap[k]? = w.heap[k]?) (W : ∀ k, row k → k < w.heap.size → ∃ o, o ∈ σ.objs ∧ k ∈ o.fp)
  (ho : ∀ p, p ∈ objs → (p ∈ σ.objs ∧ ∀ b, b ∈ p.fp → ¬ row b) ∨ (OR H w' p ∧ ∀ b, b ∈ p.fp → w.heap.size ≤ b ∨ ∃ o, o ∈ σ.objs ∧ b ∈ o.fp))
  (hn : (objs.flatMap Ob.fp).Nodup) : Gam n C ⟨σ.slots, objs⟩ H a w' := by
 have G : ∀ k o, o ∈ σ.objs → k ∈ o.fp → H k = none ∧ (C.w0.heap.size ≤ k ∨ k ∈ C.fp) := fun k o h X => ⟨D.free _ h k X, D.new _ h k X⟩
 refine ⟨D.defers, D.size, D.slots, ?_, ?_, ?_, hn, ?_, D.grow, Nat.le_trans D.heap hsz, ?_, ⟨O.1.trans D.env.1, O.2.1.trans D.env.2.1, O.2.2.trans D.env.2.2⟩⟩
 ·intro p Y
  rcases ho p Y with ⟨h1, h2⟩ | ⟨h1, _⟩
  ·have := D.objs p h1
   exact this.mono (fun _ _ h => h) (fun b hb => X _ (this.lt b hb) (h2 b hb))
  ·exact h1
 ·intro p Y b hb
  rcases ho p Y with ⟨h1, _⟩ | ⟨_, h2⟩
  ·exact D.free p h1 b hb
  ·rcases h2 b hb with h2 | ⟨o, h2, h3⟩
   ·exact D.H_lt h2
   ·exact (G _ _ h2 h3).1
 ·intro p Y b hb
  rcases ho p Y with ⟨h1, _⟩ | ⟨_, h2⟩
  ·exact D.new p h1 b hb
  ·rcases h2 b hb with h2 | ⟨o, h2, h3⟩
   ·exact .inl (Nat.le_trans D.heap h2)
   ·exact (G _ _ h2 h3).2
 ·intro b o hb
  have M := (Array.getElem?_eq_some_iff.1 (D.held b o hb)).1
  have : ¬ row b := fun hr => by
   obtain ⟨o', h, Z⟩ := W b hr M
   rw [(G _ _ h Z).1] at hb; cases hb
  rw [X b M this]; exact D.held b o hb
 ·intro b hb hf
  have M := Nat.lt_of_lt_of_le hb D.heap
  have : ¬ row b := fun hr => by
   obtain ⟨o', h, Z⟩ := W b hr M
   rcases (G _ _ h Z).2 with h2 | h2
   ·omega
   ·exact hf h2
  rw [X b M this]; exact D.frame b hb hf
theorem Gam.more {H : GH} {a : Act} {w w' : World} (G : Gam n C σ H a w) {ob : Ob} (D : w'.os = w.os ∧ w'.tape = w.tape ∧ w'.output = w.output) (hsz : w.heap.size ≤ w'.heap.size)
  (Z : ∀ k, k < w.heap.size → w'.heap[k]? = w.heap[k]?) (h : OR H w' ob) (hf : ∀ b, b ∈ ob.fp → w.heap.size ≤ b) (W : ob.fp.Nodup) : Gam n C ⟨σ.slots, σ.objs ++ [ob]⟩ H a w' := by
 refine G.world (fun _ => False) D hsz (fun k O _ => Z k O) (fun _ h => h.elim) ?_ ?_
 ·intro p X
  rcases List.mem_append.1 X with h1 | h1
  ·exact .inl ⟨h1, fun _ _ h => h⟩
  ·simp only [List.mem_singleton] at h1; subst h1; exact .inr ⟨h, fun b hb => .inl (hf b hb)⟩
 ·rw [List.flatMap_append, List.nodup_append]
  refine ⟨G.nodup, by simpa using W, ?_⟩
  intro x hx y hy Y
  subst Y
  simp only [List.flatMap_cons, List.flatMap_nil, List.append_nil] at hy
  obtain ⟨p, X, M⟩ := List.mem_flatMap.1 hx
  have := (G.objs p X).lt x M
  have := hf x hy
  omega
theorem Gam.alloc {H : GH} {a : Act} {w : World} (D : Gam n C σ H a w) {o : Obj} {ob : Ob} (h : OR H (w.alloc o) ob) (hf : ob.fp = [w.heap.size]) : Gam n C ⟨σ.slots, σ.objs ++ [ob]⟩ H a (w.alloc o) :=
 D.more ⟨rfl, rfl, rfl⟩ (by show w.heap.size ≤ (w.heap.push o).size; simp) (fun k G => heap_alloc_old w o G) h (by rw [hf]; simp) (by rw [hf]; simp)
theorem OR.box {H : GH} {w : World} {t : TypeId} {arr : Array Value} {l : List T} {b : Nat} (h : w.heap[b]? = some (.cells arr t (0, 0))) (D : AR H arr l) : OR H w (.arr b t l.length 1 [l]) := by
 refine ⟨arr, h, by rw [D.1]; omega, by simp, by simp [Kv], ?_, ?_⟩
 ·intro i e he
  cases i with
  | zero => simp at he; subst he; rfl
  | succ i => simp at he
 ·intro i e he j x hx
  cases i with
  | zero => simp at he; subst he; simpa using D.2 j x hx
  | succ i => simp at he
theorem AX.value {md : List Nat} {o : Oper} {R : St → Prop}
  (h : ∀ H a w, Gam n C σ H a w → ∃ v w' D H', (execOp a.eval o).run E.P w = .ok (.value v) w' ∧ R D ∧ Gam n C D H' (a.put o.dst v) w' ∧ (∀ b o, H b = some o → H' b = some o) ∧
   ∀ i p, σ.objs[i]? = some p → md.contains i = false → D.objs[i]? = some p ∧ ∀ b, b ∈ p.fp → w'.heap[b]? = w.heap[b]?) : AX E n C md o σ R := by
 intro H a w G
 obtain ⟨v, w', D, H', h1, h2, M, O, W⟩ := h H a w G
 simp only [Oper.wp, h1, Oper.upon]
 exact ⟨D, H', v, h2, M, rfl, O, W⟩
theorem AX.skip {md : List Nat} {o : Oper} {R : St → Prop}
  (h : ∀ H a w, Gam n C σ H a w → ∃ w' D H', (execOp a.eval o).run E.P w = .ok .skip w' ∧ R D ∧ Gam n C D H' (a.put o.dst undef) w' ∧ (∀ b o, H b = some o → H' b = some o) ∧
   ∀ i p, σ.objs[i]? = some p → md.contains i = false → D.objs[i]? = some p ∧ ∀ b, b ∈ p.fp → w'.heap[b]? = w.heap[b]?) : AX E n C md o σ R := by
 intro H a w G
 obtain ⟨w', D, H', h1, h2, M, O, W⟩ := h H a w G
 simp only [Oper.wp, h1, Oper.upon]
 exact ⟨D, H', undef, h2, M, rfl, O, W⟩
theorem Fj {objs : List Ob} {x : Ob} {i : Nat} {p : Ob} (h : objs[i]? = some p) : (objs ++ [x])[i]? = some p := by
 rw [List.getElem?_append_left (List.getElem?_eq_some_iff.1 h).1]; exact h
theorem AX.alloc {t : TypeId} {ti : TI} {z : Value} {cs : List T} {R : St → Prop} (Z : E.tab t = some ti) (hz : ti.zero = some z) (hc : z.cells.toList.map T.v = cs) (h1 : z.cells.toList.all (·.oneCell') = true) {m : Nat} (Y : cs.length = m)
  (X : ∀ d, dst = some d → d < n) (k : ∀ b, R ⟨Fn σ.slots dst (.v (.pointer (some ⟨b, 0, none⟩))), σ.objs ++ [(.arr b t m 1 [cs])]⟩) :
  AX E n C [] ⟨dst, .alloc t, ty, pos, aft, g⟩ σ R := by
 refine AX.value fun H a w O => ?_
 have G : AR H z.cells cs := by
  subst hc
  refine ⟨by simp, fun j x hx => ?_⟩
  simp only [List.getElem?_map, Option.map_eq_some_iff] at hx
  obtain ⟨v, hv, rfl⟩ := hx
  have M : z.cells.getD j undef = v := by
   rw [Array.getD_eq_getD_getElem?, ← Array.getElem?_toList, hv]; rfl
  rw [M]
  exact ⟨List.all_eq_true.1 h1 v (List.mem_of_getElem? hv), .v v⟩
 have D : OR H (w.alloc (.cells z.cells t)) (.arr w.heap.size t cs.length 1 [cs]) := OR.box (heap_alloc_new w _) G
 rw [Y] at D
 refine ⟨.pointer (some ⟨w.heap.size, 0, none⟩), w.alloc (.cells z.cells t), _, H, ?_, k w.heap.size, ?_, fun _ _ h => h, ?_⟩
 ·simp [execOp, Instr.alloc, Fx (E.ok _ _ Z) w hz, newVar, newRow]
 ·have := (O.alloc D rfl).put (dst := dst) (.v (.pointer (some ⟨w.heap.size, 0, none⟩))) X
  cases dst <;> exact this
 ·intro i p W _
  exact ⟨Fj W, fun b hb => heap_alloc_old w _ ((O.objs p (List.mem_of_getElem? W)).lt b hb)⟩
def nN := @AX.alloc
theorem AX.box {t : TypeId} {x : Operand} {y : T} {cs : List T} {R : St → Prop} (hx : Bn σ.slots x = some y) (hc : Er y = some cs) {m : Nat} (X : cs.length = m)
  (W : ∀ d, dst = some d → d < n) (k : ∀ b, R ⟨Fn σ.slots dst (.v (.pointer (some ⟨b, 0, none⟩))), σ.objs ++ [(.arr b t m 1 [cs])]⟩) :
  AX E n C [] ⟨dst, .box t x, ty, pos, aft, g⟩ σ R := by
 refine AX.value fun H a w G => ?_
 have M := Jx (G.sr.eval hx) hc
 have D : OR H (w.alloc (.cells (a.eval x).cells t)) (.arr w.heap.size t cs.length 1 [cs]) := OR.box (heap_alloc_new w _) M
 rw [X] at D
 refine ⟨.pointer (some ⟨w.heap.size, 0, none⟩), w.alloc (.cells (a.eval x).cells t), _, H, ?_, k w.heap.size, ?_, fun _ _ h => h, ?_⟩
 ·simp [execOp, Instr.box, newVar, newRow]
 ·have := (G.alloc D rfl).put (dst := dst) (.v (.pointer (some ⟨w.heap.size, 0, none⟩))) W
  cases dst <;> exact this
 ·intro i p O _
  exact ⟨Fj O, fun b hb => heap_alloc_old w _ ((G.objs p (List.mem_of_getElem? O)).lt b hb)⟩
def nQ := @AX.box
theorem Nz {objs : List Ob} {k i : Nat} {x p : Ob} (h : objs[i]? = some p) (hi : k ≠ i) : (objs.set k x)[i]? = some p := by
 rw [List.getElem?_set_ne hi]; exact h
theorem Gam.set {H : GH} {a : Act} {w w' : World} (W : Gam n C σ H a w) {k : Nat} {o o' : Ob} (X : σ.objs[k]? = some o) (M : w'.os = w.os ∧ w'.tape = w.tape ∧ w'.output = w.output) (hsz : w.heap.size ≤ w'.heap.size)
  (ac : ∀ i, i < w.heap.size → i ∉ o.fp → w'.heap[i]? = w.heap[i]?) (ab : OR H w' o') (O : ∀ b, b ∈ o'.fp → w.heap.size ≤ b ∨ b ∈ o.fp) (aa : o'.fp.Nodup) : Gam n C ⟨σ.slots, σ.objs.set k o'⟩ H a w' := by
 have hm := List.mem_of_getElem? X
 refine W.world (fun i => i ∈ o.fp) M hsz ac (fun i hi _ => ⟨o, hm, hi⟩) ?_ ?_
 ·intro p hp
  obtain ⟨i, hi, he⟩ := List.getElem_of_mem hp
  have D : (σ.objs.set k o')[i]? = some p := by rw [List.getElem?_eq_getElem hi, he]
  by_cases G : k = i
  ·subst G
   rw [List.getElem?_set_self (List.getElem?_eq_some_iff.1 X).1] at D
   cases D
   exact .inr ⟨ab, fun b hb => (O b hb).imp id (fun h => ⟨o, hm, h⟩)⟩
  ·rw [List.getElem?_set_ne G] at D
   exact .inl ⟨List.mem_of_getElem? D, fun b hb Y => R5 W.nodup X D G b Y hb⟩
 ·refine Vj W.nodup X aa (fun b hb => ?_)
  rcases O b hb with h | h
  ·exact .inr fun x hx Z => by have := (W.objs x hx).lt b Z; omega
  ·exact .inl h
theorem Gam.apart {H : GH} {a : Act} {w : World} (G : Gam n C σ H a w) {k i : Nat} {p q : Ob} (M : σ.objs[k]? = some p) (hi : σ.objs[i]? = some q) (D : k ≠ i) : ∀ b, b ∈ q.fp → b ∉ p.fp :=
 fun b W O => R5 G.nodup M hi D b O W
theorem Ov (w : World) (g : Nat) (cs : Array Value) : (w.setRow g cs).heap.size = w.heap.size := by simp [World.setRow]
theorem Qy {D : Array Value} {vs : List Value} {o i : Nat} (hl : o + vs.length ≤ D.size) :
  ((D.toList.take o ++ vs ++ D.toList.drop (o + vs.length)).toArray).getD i undef = if o ≤ i ∧ i < o + vs.length then vs.getD (i - o) undef else D.getD i undef := by
 simp only [Array.getD_eq_getD_getElem?, List.getElem?_toArray, List.getElem?_append, List.length_append, List.length_take, Array.length_toList, List.getElem?_drop, List.getElem?_take, Array.getElem?_toList, List.getD]
 by_cases h1 : i < o
 ·have : min o D.size = o := by omega
  simp [this, h1, show i < o + vs.length by omega, show ¬ o ≤ i by omega]
 ·have : min o D.size = o := by omega
  by_cases h2 : i < o + vs.length
  ·simp [this, h1, h2, show o ≤ i by omega]
  ·simp [this, h1, h2, show o + vs.length + (i - (o + vs.length)) = i by omega]
theorem Q6 {H : GH} {a : Act} {w : World} {s : A1} (r : SR n s H a) {t : TypeId} {x y : Operand} {ti : TI} {c : T} {cs : List T} {b off tt sz cap : Nat} {es : List (List T)} (i j : Nat) {e : List T}
  (ht : E.tab t = some ti) (hx : Bn s x = some (.v (.pointer (some ⟨b, off, none⟩)))) (hor : ArrR H w b tt sz cap es) (he : es[i]? = some e) (ho : off = i * sz + j)
  (hy : Bn s y = some c) (hc : Er c = some cs) (hsz : ti.size = cs.length) (hj : j + cs.length ≤ e.length) :
  ∃ w', (execOp a.eval ⟨none, .store t x y, ty, pos, aft, g⟩).run E.P w = .ok .skip w' ∧ ArrR H w' b tt sz cap (es.set i (Gq e j cs)) ∧ (w'.os = w.os ∧ w'.tape = w.tape ∧ w'.output = w.output) ∧ w'.heap.size = w.heap.size ∧
   ∀ i, i ≠ b → w'.heap[i]? = w.heap[i]? := by
 obtain ⟨M, a1, a2, a3, a4, a5, a6⟩ := hor
 have O := Jx (r.eval hy) hc
 have aa := (List.getElem?_eq_some_iff.1 he).1
 have hel := a5 i e he
 have ab : (i + 1) * sz ≤ cap * sz := Nat.mul_le_mul_right _ (by omega)
 rw [Nat.succ_mul] at ab
 have G : (a.eval y).cells.toList.length = cs.length := by simpa using O.1
 have X := run_storeCells_at (P := E.P) b off tt (a.eval y).cells.toList 0 M w a1 (by rw [G]; omega) O.all1
 simp only [Nat.add_zero] at X
 refine ⟨w.setRow b (M.toList.take off ++ (a.eval y).cells.toList ++ M.toList.drop (off + (a.eval y).cells.toList.length)).toArray, ?_, ?_, ⟨rfl, rfl, rfl⟩, Ov _ _ _, fun i hi => setRow_other w b i _ hi⟩
 ·simp [execOp, Instr.storeAt, Instr.sureAddr, r.evalv hx, storeVar, C6 (E.ok _ _ ht), hsz, show (a.eval y).cells.size = cs.length from O.1] at X ⊢
  simp [X]
 ·refine ⟨_, setRow_heap w b M _ tt _ a1, ?_, by simpa using a3, by simpa using a4, ?_, ?_⟩
  ·simp only [List.size_toArray, List.length_append, List.length_take, List.length_drop, Array.length_toList, G]
   omega
  ·intro Z e' D
   rw [List.getElem?_set] at D
   split at D
   ·simp only [aa, if_true, Option.some.injEq] at D
    subst D; rw [Gb]; exact hel
   ·exact a5 Z e' D
  ·intro Z e' D j' x' Y
   rw [Qy (by rw [G]; omega)]
   rw [List.getElem?_set] at D
   split at D
   ·rename_i W
    subst W
    simp only [aa, if_true, Option.some.injEq] at D
    subst D
    rcases Lw e j cs j' x' Y with ⟨q1, q2, q3⟩ | ⟨q1, q2⟩
    ·rw [if_pos (by rw [G]; omega)]
     have := O.2 _ _ q3
     rw [show i * sz + j' - off = j' - j by omega]
     rw [Array.getD_eq_getD_getElem?, ← Array.getElem?_toList] at this
     simpa [List.getD] using this
    ·rw [if_neg (by rw [G]; omega)]
     exact a6 i e he j' x' q2
   ·rename_i W
    have hj'l := (List.getElem?_eq_some_iff.1 Y).1
    have hel' := a5 Z e' D
    rw [if_neg ?_]
    ·exact a6 Z e' D j' x' Y
    ·rw [G]
     rintro ⟨q1, q2⟩
     rcases Nat.lt_or_gt_of_ne W with h | h
     ·have : (i + 1) * sz ≤ Z * sz := Nat.mul_le_mul_right _ h
      rw [Nat.succ_mul] at this; omega
     ·have : (Z + 1) * sz ≤ i * sz := Nat.mul_le_mul_right _ h
      rw [Nat.succ_mul] at this; omega
theorem AX.store (k : Nat) {t : TypeId} {x y : Operand} {ti : TI} {c : T} {cs : List T} {b off tt sz cap : Nat} {es es' : List (List T)} (i j : Nat) {e : List T} {R : St → Prop}
  (ht : E.tab t = some ti) (hx : Bn σ.slots x = some (.v (.pointer (some ⟨b, off, none⟩)))) (W : σ.objs[k]? = some (.arr b tt sz cap es)) (he : es[i]? = some e) (ho : off = i * sz + j)
  (hy : Bn σ.slots y = some c) (hc : Er c = some cs) (hsz : ti.size = cs.length) (hj : j + cs.length ≤ e.length) (hd : dst = none) (O : es.set i (Gq e j cs) = es')
  (kk : R ⟨σ.slots, σ.objs.set k (.arr b tt sz cap es')⟩) :
  AX E n C [k] ⟨dst, .store t x y, ty, pos, aft, g⟩ σ R := by
 subst hd
 subst O
 refine AX.skip fun H a w G => ?_
 obtain ⟨w', h1, h2, h3, h4, Y⟩ := Q6 (ty := ty) (pos := pos) (aft := aft) (g := g) G.sr i j ht hx (G.objs _ (List.mem_of_getElem? W)) he ho hy hc hsz hj
 refine ⟨w', _, H, h1, kk, ?_, fun _ _ h => h, fun i' p Z hm => ?_⟩
 ·exact G.set W h3 (by omega) (fun i _ hi => Y i (by simpa [Ob.fp] using hi)) h2 (fun b hb => .inr hb) (by simp [Ob.fp])
 ·have D : k ≠ i' := fun h => by subst h; simp at hm
  exact ⟨Nz Z D, fun X M => Y X (fun h => G.apart W Z D X M (by simp [Ob.fp, h]))⟩
def nU := @AX.store
theorem gG {H : GH} {w : World} {v : Value} {D sz : Nat} {es es' : List (List T)} {c cap : Nat} (hv : v = .slice (some ⟨Wf v, 0, none⟩) es.length c) (h1 : es.length ≤ c) (h2 : c ≤ cap) (hl : es'.length = es.length)
  (h : ArrR H w (Wf v) D sz cap es') : UsR H w v D sz es' :=
 .inr ⟨Wf v, c, cap, by rw [hl]; exact hv, by omega, h2, h⟩
theorem Ci (k : Nat) {t : TypeId} {x y : Operand} {ti : TI} {c : T} {cs : List T} {v : Value} {off Z sz : Nat} {es es' : List (List T)} (i j : Nat) {e : List T} {R : St → Prop}
  (ht : E.tab t = some ti) (hx : Bn σ.slots x = some (.v (.pointer (some ⟨Wf v, off, none⟩)))) (W : σ.objs[k]? = some (.us v Z sz es)) (he : es[i]? = some e) (ho : off = i * sz + j)
  (hy : Bn σ.slots y = some c) (hc : Er c = some cs) (hsz : ti.size = cs.length) (hj : j + cs.length ≤ e.length) (hd : dst = none) (O : es.set i (Gq e j cs) = es')
  (kk : R ⟨σ.slots, σ.objs.set k (.us v Z sz es')⟩) :
  AX E n C [k] ⟨dst, .store t x y, ty, pos, aft, g⟩ σ R := by
 subst hd
 subst O
 refine AX.skip fun H a w G => ?_
 have X : UsR H w v Z sz es := G.objs _ (List.mem_of_getElem? W)
 obtain ⟨c', cap, hv, q1, q2, q3, Y⟩ := X.arr he
 obtain ⟨w', h1, h2, h3, h4, h5⟩ := Q6 (ty := ty) (pos := pos) (aft := aft) (g := g) G.sr i j ht hx q3 he ho hy hc hsz hj
 refine ⟨w', _, H, h1, kk, ?_, fun _ _ h => h, fun i' p hp hm => ?_⟩
 ·exact G.set W h3 (by omega) (fun i _ hi => h5 i (by simpa [Ob.fp, Y] using hi)) (gG hv q1 q2 (by simp) h2) (fun b hb => .inr hb) (by simp [Ob.fp, Y])
 ·have D : k ≠ i' := fun h => by subst h; simp at hm
  exact ⟨Nz hp D, fun b' M => h5 b' (fun h => G.apart W hp D b' M (by simp [Ob.fp, Y, h]))⟩
end
end Go.Aw
