/- A program logic over the model. No condition. -/
import Derived.OrdersHeld
import Derived.Laws.Cells
import Derived.WalkKit
import Derived.RangeFuncLeaves
import Derived.RangeFuncRecord
import Derived.RangeFuncCalls
import Derived.OrdersIn
import Derived.Scope
import Derived.Laws.MakeOwn
import Derived.Laws.CopyRow
import Derived.Laws.AppendOwn
import Derived.Laws.AppendOwnNone
set_option maxRecDepth 100000
namespace Go.Aw
abbrev Li := List Int
theorem gs {α : Type _} {l : List α} {i : Nat} {a : α} (h : l[i]? = some a) : ∃ w : i < l.length, l[i] = a := List.getElem?_eq_some_iff.1 h
theorem gq {α : Type _} {l : List α} {i : Nat} (h : i < l.length) : l[i]? = some l[i] := List.getElem?_eq_getElem h
theorem mg {α : Type _} {l : List α} {i : Nat} {a : α} (h : l[i]? = some a) : a ∈ l := List.mem_of_getElem? h
theorem nq {a b : Nat} (h : Nat.beq a b = true) : a = b := Nat.eq_of_beq_eq_true h
set_option linter.unusedVariables false
set_option linter.defProp false
set_option linter.unusedSimpArgs false
def E6 : Option Nat → Fence
 | none => Fence.wide
 | some l => Fence.wide.inRound l
def Ms : Op → Bool
 | .defer _ => false
 | _ => true
def nd : Code → Bool
 | .region _ ops _ => ops.toList.all fun o => Ms o.op
 | .seq a b => nd a && nd b
 | .cond _ a b => nd a && nd b
 | .block _ c => nd c
 | .loop c => nd c
 | .scope _ => false
 | .rangeFunc .. => false
 | _ => true
theorem N5 (ro : Option Nat) (f : FuncId) : (E6 ro).fn f := by cases ro <;> trivial
theorem Mh (ro : Option Nat) : (E6 ro).depth = none := by cases ro <;> rfl
theorem Jc {ro : Option Nat} {m : Nat} {P : Program} {f : FuncId} {args : Array Value} {w : World} {R : Ending → World → Prop} (h : Calls P f args w R) : CallsIn (E6 ro) m P f args w R := by
 have G : CallsIn Fence.wide m P f args w R := callsIn_wide.2 h
 cases ro with
 | none => exact G
 | some l => exact G
theorem Ki {ro : Option Nat} {m : Nat} {P : Program} {row : String} {args : Array Value} {w : World} {R : Value → World → Prop} (h : Rows P row args w R) : RowsIn (E6 ro) m P row args w R := by
 intro c G _
 obtain ⟨v, O, r, s⟩ := h c G
 refine ⟨v, O, r, ?_⟩
 have := (stepsIn_wide (P := P)).2 s
 cases ro with
 | none => exact this
 | some l => exact this
theorem pF {ro : Option Nat} {m : Nat} {P : Program} {o : Oper} {a : Act} {w : World} {K : Act → World → Prop} {Q : Exit → Act → World → Prop} (O : Ms o.op = true) (h : o.wp P a w K Q) : o.wpIn (E6 ro) m P a w K Q := by
 refine ⟨fun f _ => N5 ro f, ?_⟩
 have e : Oper.semAt (E6 ro).round a.eval o = execOp a.eval o := Oper.semAt_eq _ _ _ (fun c Y => by rw [Y] at O; simp [Ms] at O)
 rw [e]
 unfold Oper.wp at h
 generalize (execOp a.eval o).run P w = r at h
 cases r with
 | ok x w' =>
  cases x <;> simp only [Oper.upon, Oper.uponIn] at h ⊢ <;>
   first
    | exact h
    | exact h.elim
    | exact ⟨fun G => (by rw [Mh] at G; cases G), Jc h⟩
    | exact ⟨fun G => (by rw [Mh] at G; cases G), Ki h⟩
 | halt x w' => cases x <;> simp only [Oper.upon, Oper.uponIn] at h ⊢ <;> first | exact h | exact h.elim
theorem Te {m : Nat} {P : Program} {o : Oper} {a : Act} {w : World} {K : Act → World → Prop} {Q : Exit → Act → World → Prop} (h : o.wp P a w K Q) : o.wpIn (E6 none) m P a w K Q := by
 refine ⟨fun f _ => trivial, ?_⟩
 change o.uponIn (E6 none) m P a K Q ((execOp a.eval o).run P w)
 unfold Oper.wp at h
 generalize (execOp a.eval o).run P w = r at h
 cases r with
 | ok x w' =>
  cases x <;> simp only [Oper.upon, Oper.uponIn] at h ⊢ <;>
   first
    | exact h
    | exact h.elim
    | exact ⟨fun G => (by cases G), Jc h⟩
    | exact ⟨fun G => (by cases G), Ki h⟩
 | halt x w' => cases x <;> simp only [Oper.upon, Oper.uponIn] at h ⊢ <;> first | exact h | exact h.elim
theorem cY {l : Nat} {m : Nat} {P : Program} {o : Oper} {a : Act} {w : World} {K : Act → World → Prop} {Q : Exit → Act → World → Prop} (G : Ms o.op = true) (h : o.wpIn Fence.wide m P a w K Q) : o.wpIn (E6 (some l)) m P a w K Q := by
 refine ⟨fun f _ => trivial, ?_⟩
 have e : Oper.semAt (E6 (some l)).round a.eval o = Oper.semAt Fence.wide.round a.eval o := (Oper.semAt_eq _ _ _ (fun c O => by rw [O] at G; simp [Ms] at G)).trans (Oper.semAt_eq _ _ _ (fun c O => by rw [O] at G; simp [Ms] at G)).symm
 rw [e]
 exact h.2
theorem Ih {F : Fence} {m : Nat} {P : Program} {o : Oper} {a : Act} {w : World} {K K' : Act → World → Prop} {Q Q' : Exit → Act → World → Prop}
  (h : ∀ a w, K a w → K' a w) (Y : ∀ e a w, Q e a w → Q' e a w) (G : o.wpIn F m P a w K Q) : o.wpIn F m P a w K' Q' := by
 refine ⟨G.1, ?_⟩
 have G := G.2
 generalize (o.semAt F.round a.eval).run P w = r at *
 have hl : LetsOut Q → LetsOut Q' := fun ⟨a, w, h⟩ => ⟨a, w, Y _ _ _ h⟩
 cases r with
 | ok x w' =>
  cases x <;> simp only [Oper.uponIn] at G ⊢ <;>
   first
    | exact h _ _ G
    | exact ⟨G.1, CallsIn.mono G.2 (fun e Z O => by cases e <;> first | exact h _ _ O | exact Y _ _ _ O | exact hl O)⟩
    | exact ⟨G.1, RowsIn.mono G.2 (fun _ _ O => h _ _ O)⟩
    | exact ⟨G.1, RoundIn.mono G.2 (fun e Z O => by cases e <;> first | exact h _ _ O | exact Y _ _ _ O | exact hl O)⟩
    | exact G.elim
 | halt x w' => cases x <;> simp only [Oper.uponIn] at G ⊢ <;> first | exact Y _ _ _ G | exact G.elim
theorem rY {G : Array Oper} (O : G.toList.all (fun o => Ms o.op) = true) {i : Nat} {o : Oper} (Y : G[i]? = some o) : Ms o.op = true :=
 List.all_eq_true.1 O o (Array.mem_toList_iff.2 (Array.mem_of_getElem? Y))
theorem oO {ro : Option Nat} {m : Nat} {P : Program} {G : Array Oper} {Q : Exit → Act → World → Prop} (Z : G.toList.all (fun o => Ms o.op) = true) (Y : ¬ LetsOut Q) {i : Nat} {K : Act → World → Prop} {a : Act} {w : World}
  (h : wpOp P G Q i K a w) : wpOpIn (E6 ro) m P G Q i K a w := by
 unfold wpOp at h
 unfold wpOpIn
 cases ho : G[i]? with
 | none => rw [ho] at h; exact h
 | some o =>
  rw [ho] at h
  have hm := rY Z ho
  simp only [] at h ⊢
  split at h
  ·rename_i O
   rw [if_pos O]
   rcases h with h | ⟨_, h⟩
   ·exact pF hm h
   ·exact absurd h Y
  ·rename_i O
   rw [if_neg O]
   exact ⟨fun f _ => N5 ro f, h⟩
theorem sH {ro : Option Nat} {m : Nat} {P : Program} {md : Region.Mode} {O : Array Oper} {Q : Exit → Act → World → Prop} (Z : O.toList.all (fun o => Ms o.op) = true) (Y : ¬ LetsOut Q) : ∀ (fuel : Nat) (G : Array Bool) (a : Act) (w : World),
  wpAny P md O Q fuel G a w → wpAnyIn (E6 ro) m P md O Q fuel G a w := by
 intro fuel
 induction fuel with
 | zero => intro G a w h; exact h
 | succ fuel ih =>
  intro G a w h
  exact ⟨h.1, fun i hi => wpOpIn_mono (fun a w h => ih _ a w h) (oO Z Y (h.2 i hi))⟩
theorem Ss {ro : Option Nat} {m : Nat} {P : Program} {id : Nat} {G : Array Oper} {Q : Exit → Act → World → Prop} {a : Act} {w : World} (Z : P.follows .mixedOrders = true) (Y : G.toList.all (fun o => Ms o.op) = true) (O : ¬ LetsOut Q)
  (h : wpAny P .any G Q G.size (Array.replicate G.size false) a { w with drawn := w.drawn + 1 }) : (Code.region id G true).wpIn (E6 ro) m P Q a w :=
 wpIn_region_any Z (sH Y O _ _ _ _ h)
def cw (c : Code) (P : Program) (Q : Exit → Act → World → Prop) (a : Act) (w : World) : Prop := ∀ ro : Option Nat, (ro.isSome = true → nd c = true) → c.wpIn (E6 ro) 0 P Q a w
section
variable {P : Program} {Q : Exit → Act → World → Prop} {a : Act} {w : World}
theorem cw.wp {c : Code} (h : cw c P Q a w) : c.wp P Q a w := wpIn_wide.1 (h none (fun h => by cases h))
theorem Ji {c : Code} {Q' : Exit → Act → World → Prop} (h : cw c P Q a w) (O : ∀ e a w, Q e a w → Q' e a w) : cw c P Q' a w := fun ro G => wpIn_mono (h ro G) O
theorem pO (h : Q .normal a w) : cw .skip P Q a w := fun _ _ => wpIn_skip h
theorem mE {l : Nat} (h : Q .normal a w) : cw (.label l) P Q a w := fun _ _ => wpIn_label h
theorem pQ {id : Nat} (h : Q (.exit id) a w) : cw (.exit id) P Q a w := fun _ _ => wpIn_exit h
theorem sE (h : Q .ret a w) : cw .ret P Q a w := fun _ _ => wpIn_ret h
theorem sD {x y : Code} (h : cw x P (Exit.then (cw y P Q) Q) a w) : cw (.seq x y) P Q a w := fun ro O =>
 wpIn_seq (wpIn_mono (h ro (fun G => (Bool.and_eq_true_iff.1 (O G)).1)) fun e a w q => by
  cases e with
  | normal => exact q ro (fun G => (Bool.and_eq_true_iff.1 (O G)).2)
  | _ => exact q)
theorem Sz {c : Operand} {x y : Code} {t : Bool} (hc : a.eval c = .bool t) (Y : t = true → cw x P Q a w) (hf : t = false → cw y P Q a w) : cw (.cond c x y) P Q a w := fun ro O =>
 wpIn_cond_split hc (fun h => Y h ro (fun G => (Bool.and_eq_true_iff.1 (O G)).1)) (fun h => hf h ro (fun G => (Bool.and_eq_true_iff.1 (O G)).2))
theorem mF {id : Nat} {c : Code} (h : cw c P (Exit.inBlock id Q) a w) : cw (.block id c) P Q a w := fun ro G => wpIn_block (h ro G)
theorem pP {c : Code} (I : Act → World → Prop) (μ : Act → World → Nat) (Y : I a w)
  (G : ∀ a w, I a w → cw c P (Exit.then (fun a' w' => I a' w' ∧ μ a' w' < μ a w) Q) a w) : cw (.loop c) P Q a w := fun ro O =>
 wpIn_loop I μ Y fun a w hi => G a w hi ro O
theorem Mq {c : Code} (h : cw c P (Exit.noGoto Q) a w) : cw (.scope c) P Q a w := fun ro G => by
 cases ro with
 | none => exact wpIn_wide.2 (wp_scope_straight h.wp)
 | some l => exact absurd (G rfl) (by simp [nd])
end
inductive T where
 | v (x : Value)
 | list (sz : Nat) (es : List (List T))
 | agg (cs : List T)
 | tup (cs : List T)
 | eptr (cs : List T)
 | fn (f : FuncId) (first caps : List T)
 deriving Inhabited
abbrev GH := Nat → Option Obj
def Hf : Nat := 140737488355328
inductive VR (H : GH) : Value → T → Prop
 | v (x : Value) : VR H x (.v x)
 | empty (a : Option Addr) (cap sz : Nat) : VR H (.slice a 0 cap) (.list sz [])
 | list (b off cap sz : Nat) (es : List (List T)) (cs : Array Value) (ty : TypeId) (fr : Nat × Nat)
   (hb : H b = some (.cells cs ty fr)) (hcap : es.length ≤ cap) (hmax : es.length ≤ Hf) (hsz : off + es.length * sz ≤ cs.size)
   (hel : ∀ (i : Nat) (e : List T), es[i]? = some e → e.length = sz)
   (h1 : ∀ (i : Nat) (e : List T), es[i]? = some e → ∀ (j : Nat) (x : T), e[j]? = some x → (cs.getD (off + i * sz + j) undef).oneCell' = true)
   (hv : ∀ (i : Nat) (e : List T), es[i]? = some e → ∀ (j : Nat) (x : T), e[j]? = some x → VR H (cs.getD (off + i * sz + j) undef) x) :
   VR H (.slice (some ⟨b, off, none⟩) es.length cap) (.list sz es)
 | agg (vs : Array Value) (cs : List T) (hl : vs.size = cs.length)
   (h1 : ∀ (j : Nat) (x : T), cs[j]? = some x → (vs.getD j undef).oneCell' = true)
   (hv : ∀ (j : Nat) (x : T), cs[j]? = some x → VR H (vs.getD j undef) x) : VR H (.agg vs) (.agg cs)
 | tup (vs : Array Value) (cs : List T) (hl : vs.size = cs.length)
   (hv : ∀ (j : Nat) (x : T), cs[j]? = some x → VR H (vs.getD j undef) x) : VR H (.tuple vs) (.tup cs)
 | eptr (b off : Nat) (l : List T) (cs : Array Value) (ty : TypeId) (fr : Nat × Nat)
   (hb : H b = some (.cells cs ty fr)) (hsz : off + l.length ≤ cs.size)
   (h1 : ∀ (j : Nat) (x : T), l[j]? = some x → (cs.getD (off + j) undef).oneCell' = true)
   (hv : ∀ (j : Nat) (x : T), l[j]? = some x → VR H (cs.getD (off + j) undef) x) : VR H (.pointer (some ⟨b, off, none⟩)) (.eptr l)
 | fn (f : FuncId) (vf vc : Array Value) (fs cs : List T) (hf : vf.size = fs.length) (hc : vc.size = cs.length)
   (h1 : ∀ (j : Nat) (x : T), fs[j]? = some x → VR H (vf.getD j undef) x) (h2 : ∀ (j : Nat) (x : T), cs[j]? = some x → VR H (vc.getD j undef) x) :
   VR H (.func (.func f) vf vc) (.fn f fs cs)
theorem VR.monoC {H H' : GH} (G : ∀ b cs ty fr, H b = some (.cells cs ty fr) → H' b = some (.cells cs ty fr)) {v : Value} {x : T} (h : VR H v x) : VR H' v x := by
 induction h with
 | v x => exact .v x
 | empty a cap sz => exact .empty a cap sz
 | list b off cap sz es cs ty fr hb hcap hmax hsz hel h1 hv ih => exact .list b off cap sz es cs ty fr (G _ _ _ _ hb) hcap hmax hsz hel h1 ih
 | agg vs cs hl h1 hv ih => exact .agg vs cs hl h1 ih
 | tup vs cs hl hv ih => exact .tup vs cs hl ih
 | eptr b off l cs ty fr hb hsz h1 hv ih => exact .eptr b off l cs ty fr (G _ _ _ _ hb) hsz h1 ih
 | fn f vf vc fs cs hf hc h1 h2 ih1 ih2 => exact .fn f vf vc fs cs hf hc ih1 ih2
theorem VR.mono {H H' : GH} (G : ∀ b o, H b = some o → H' b = some o) {v : Value} {x : T} (h : VR H v x) : VR H' v x := h.monoC fun _ _ _ _ => G _ _
theorem VR.v_eq {H : GH} {v x : Value} (h : VR H v (.v x)) : v = x := by cases h; rfl
def F5 : Value → List Nat
 | .slice (some a) _ _ => [a.block]
 | _ => []
def G2 : Value → Nat
 | .slice (some a) _ _ => a.block
 | _ => 0
inductive Ob where
 | arr (b : Nat) (ty : TypeId) (sz cap : Nat) (es : List (List T))
 | us (v : Value) (ty : TypeId) (sz : Nat) (es : List (List T))
 | uss (v : Value) (ty tyi : TypeId) (szi : Nat) (vs : List Value) (L : List (Option (List (List T))))
 | raw (b : Nat) (o : Obj)
def Dw : List Value → List (Option (List (List T))) → List Nat
 | v :: vs, some _ :: L => F5 v ++ Dw vs L
 | _ :: vs, none :: L => Dw vs L
 | _, _ => []
def Ob.fp : Ob → List Nat
 | .arr b .. => [b]
 | .us v .. => F5 v
 | .uss v _ _ _ vs L => F5 v ++ Dw vs L
 | .raw b _ => [b]
def CR (H : GH) (v : Value) (x : T) : Prop := v.oneCell' = true ∧ VR H v x
def ArrR (H : GH) (w : World) (b : Nat) (ty : TypeId) (sz cap : Nat) (es : List (List T)) : Prop :=
 ∃ G : Array Value, w.heap[b]? = some (.cells G ty (0, 0)) ∧ G.size = cap * sz ∧ es.length ≤ cap ∧ es.length ≤ Hf ∧
   (∀ (i : Nat) (e : List T), es[i]? = some e → e.length = sz) ∧
   (∀ (i : Nat) (e : List T), es[i]? = some e → ∀ (j : Nat) (x : T), e[j]? = some x → CR H (G.getD (i * sz + j) undef) x)
def UsR (H : GH) (w : World) (v : Value) (ty : TypeId) (sz : Nat) (es : List (List T)) : Prop :=
 (v = .slice none 0 0 ∧ es = []) ∨ ∃ b c G, v = .slice (some ⟨b, 0, none⟩) es.length c ∧ es.length ≤ c ∧ c ≤ G ∧ ArrR H w b ty sz G es
def OR (H : GH) (w : World) : Ob → Prop
 | .arr b ty sz cap G => ArrR H w b ty sz cap G
 | .us v ty sz G => UsR H w v ty sz G
 | .uss v ty tyi szi vs L => vs.length = L.length ∧ UsR H w v ty 1 (vs.map fun x => [T.v x]) ∧ ∀ (i : Nat) (x : Value) (G : List (List T)), vs[i]? = some x → L[i]? = some (some G) → UsR H w x tyi szi G
 | .raw b o => w.heap[b]? = some o
theorem ArrR.monoC {H H' : GH} (hh : ∀ b cs ty fr, H b = some (.cells cs ty fr) → H' b = some (.cells cs ty fr)) {w w' : World} {b : Nat} (hw : w'.heap[b]? = w.heap[b]?) {ty : TypeId} {sz cap : Nat} {es : List (List T)} (h : ArrR H w b ty sz cap es) : ArrR H' w' b ty sz cap es := by
 obtain ⟨cs, Z, a2, a3, a4, a5, G⟩ := h
 exact ⟨cs, by rw [hw]; exact Z, a2, a3, a4, a5, fun i e O j x Y => ⟨(G i e O j x Y).1, (G i e O j x Y).2.monoC hh⟩⟩
theorem UsR.monoC {H H' : GH} (hh : ∀ b cs ty fr, H b = some (.cells cs ty fr) → H' b = some (.cells cs ty fr)) {w w' : World} {v : Value} (hw : ∀ b, b ∈ F5 v → w'.heap[b]? = w.heap[b]?) {ty : TypeId} {sz : Nat} {es : List (List T)} (h : UsR H w v ty sz es) : UsR H' w' v ty sz es := by
 rcases h with h | ⟨b, c, G, rfl, O, Y, Z⟩
 ·exact .inl h
 ·exact .inr ⟨b, c, G, rfl, O, Y, Z.monoC hh (hw b (by simp [F5]))⟩
theorem Fp : ∀ {vs : List Value} {L : List (Option (List (List T)))} {i : Nat} {v : Value} {es : List (List T)}, vs[i]? = some v → L[i]? = some (some es) → ∀ b, b ∈ F5 v → b ∈ Dw vs L
 | v' :: vs, some _ :: L, 0, v, es, h1, h2, b, hb => by simp at h1; subst h1; simp [Dw, hb]
 | v' :: vs, some _ :: L, i + 1, v, es, h1, h2, b, hb => by simp [Dw]; exact .inr (Fp (by simpa using h1) (by simpa using h2) b hb)
 | v' :: vs, none :: L, 0, v, es, h1, h2, b, hb => by simp at h2
 | v' :: vs, none :: L, i + 1, v, es, h1, h2, b, hb => by simp [Dw]; exact Fp (by simpa using h1) (by simpa using h2) b hb
 | [], _, i, v, es, h1, h2, b, hb => by simp at h1
 | _ :: _, [], i, v, es, h1, h2, b, hb => by simp at h2
theorem OR.monoC {H H' : GH} (O : ∀ b cs ty fr, H b = some (.cells cs ty fr) → H' b = some (.cells cs ty fr)) {w w' : World} {o : Ob} (G : ∀ b, b ∈ o.fp → w'.heap[b]? = w.heap[b]?) (h : OR H w o) : OR H' w' o := by
 cases o with
 | arr b ty sz cap Y => exact ArrR.monoC O (G b (by simp [Ob.fp])) h
 | us v ty sz Y => exact UsR.monoC O G h
 | uss v ty tyi szi vs L =>
  obtain ⟨h0, h1, h2⟩ := h
  exact ⟨h0, h1.monoC O (fun b Z => G b (by simp [Ob.fp, Z])), fun i x Y hx hl => (h2 i x Y hx hl).monoC O (fun b Z => G b (by simp [Ob.fp, Fp hx hl b Z]))⟩
 | raw b o => exact (G b (by simp [Ob.fp])).trans h
theorem ArrR.mono {H H' : GH} (G : ∀ b o, H b = some o → H' b = some o) {w w' : World} {b : Nat} (O : w'.heap[b]? = w.heap[b]?) {ty : TypeId} {sz cap : Nat} {es : List (List T)} (h : ArrR H w b ty sz cap es) : ArrR H' w' b ty sz cap es := h.monoC (fun _ _ _ _ => G _ _) O
theorem UsR.mono {H H' : GH} (G : ∀ b o, H b = some o → H' b = some o) {w w' : World} {v : Value} (O : ∀ b, b ∈ F5 v → w'.heap[b]? = w.heap[b]?) {ty : TypeId} {sz : Nat} {es : List (List T)} (h : UsR H w v ty sz es) : UsR H' w' v ty sz es := h.monoC (fun _ _ _ _ => G _ _) O
theorem OR.mono {H H' : GH} (G : ∀ b o, H b = some o → H' b = some o) {w w' : World} {o : Ob} (O : ∀ b, b ∈ o.fp → w'.heap[b]? = w.heap[b]?) (h : OR H w o) : OR H' w' o := h.monoC (fun _ _ _ _ => G _ _) O
abbrev Az := List (Nat × T)
def get : Az → Nat → Option T
 | [], _ => none
 | (k, x) :: l, i => bif Nat.beq k i then some x else get l i
structure St where
 slots : Az
 objs : List Ob
def St.put (σ : St) (dst : Option Tmp) (x : T) : St :=
 match dst with
 | none => σ
 | some d => ⟨(d, x) :: σ.slots, σ.objs⟩
def gl : List (Nat × List T) := [(0, [400, 1200, 0, 2000, 0, 5000, 1, 2000].map fun n => .v (.int .i64 n))]
def cE (H : GH) : Prop := ∀ b l, (b, l) ∈ gl → VR H (.pointer (some ⟨b, 0, none⟩)) (.eptr l)
structure Ctx where
 w0 : World
 H0 : GH
 fp : List Nat
 hg : cE H0
def Marks (m : Nat) (H : GH) (l : List Deferred) : Prop := l.Nodup ∧ ∀ d, d ∈ l → ∃ b, d = { target := .collected b, args := #[] } ∧ H b = some (.deferred (some [])) ∧ m ≤ b
theorem Marks.mono {m : Nat} {H H' : GH} {l : List Deferred} (O : ∀ b o, H b = some o → H' b = some o) (h : Marks m H l) : Marks m H' l := ⟨h.1, fun d G => let ⟨b, h1, h2, h3⟩ := h.2 d G; ⟨b, h1, O _ _ h2, h3⟩⟩
theorem Marks.nil {m : Nat} {H : GH} : Marks m H [] := ⟨List.nodup_nil, fun d h => by cases h⟩
structure Gam (n : Nat) (C : Ctx) (σ : St) (H : GH) (a : Act) (w : World) : Prop where
 defers : Marks C.w0.heap.size H a.defers
 size : a.tmps.size = n
 slots : ∀ i x, get σ.slots i = some x → VR H (a.tmps.getD i undef) x
 objs : ∀ p, p ∈ σ.objs → OR H w p
 free : ∀ p, p ∈ σ.objs → ∀ b, b ∈ p.fp → H b = none
 new : ∀ p, p ∈ σ.objs → ∀ b, b ∈ p.fp → C.w0.heap.size ≤ b ∨ b ∈ C.fp
 nodup : (σ.objs.flatMap Ob.fp).Nodup
 held : ∀ b o, H b = some o → w.heap[b]? = some o
 grow : ∀ b o, C.H0 b = some o → H b = some o
 heap : C.w0.heap.size ≤ w.heap.size
 frame : ∀ b, b < C.w0.heap.size → b ∉ C.fp → w.heap[b]? = C.w0.heap[b]? ∧ H b = C.H0 b
 env : w.os = C.w0.os ∧ w.tape = C.w0.tape ∧ w.output = C.w0.output
inductive K where
 | slice (e : Nat) | array (n e : Nat) | struct (fs : List (Nat × Nat)) | string | int (k : IntKind) | bool | map (k e : Nat) | other
 deriving DecidableEq, Repr
structure TI where
 kind : K
 size : Nat
 bytes : Nat
 zero : Option Value
def TI.isAgg (i : TI) : Bool :=
 match i.kind with
 | .array .. | .struct .. => true
 | _ => false
def Ph : TypeDesc → K
 | .slice e => .slice e
 | .array n e => .array n e
 | .struct fs => .struct (fs.toList.map fun f => (f.offset, f.type))
 | .string => .string
 | .int k => .int k
 | .bool => .bool
 | .map k e => .map k e
 | _ => .other
def Ka (P : Program) (t : TypeId) : Option TI :=
 match P.info? t, P.underlying t with
 | some i, some d => some { kind := Ph d, size := i.size, bytes := i.bytes, zero := i.zero }
 | _, _ => none
structure Env where
 P : Program
 tab : Nat → Option TI
 ok : ∀ t i, tab t = some i → Ka P t = some i
 mixed : P.follows .mixedOrders = true
theorem Hj {P : Program} {t : TypeId} {i : TI} (h : Ka P t = some i) :
  ∃ G d, P.info? t = some G ∧ P.underlying t = some d ∧ Ph d = i.kind ∧ G.size = i.size ∧ G.bytes = i.bytes ∧ G.zero = i.zero := by
 unfold Ka at h
 split at h
 ·rename_i G d O Y
  simp only [Option.some.injEq] at h
  subst h
  exact ⟨G, d, O, Y, rfl, rfl, rfl, rfl⟩
 ·simp at h
section types
variable {P : Program} {t : TypeId} {i : TI} (h : Ka P t = some i) (w : World)
include h
theorem Cy : (sizeOf t).run P w = .ok i.size w := by
 obtain ⟨Y, d, G, Z, h3, O, h5, h6⟩ := Hj h
 simp [sizeOf, typeInfo, G, O]
theorem Ig : ∃ inf, (typeInfo t).run P w = .ok inf w ∧ inf.size = i.size ∧ inf.bytes = i.bytes ∧ inf.zero = i.zero ∧ P.info? t = some inf := by
 obtain ⟨inf, d, G, h2, h3, O, Y, Z⟩ := Hj h
 exact ⟨inf, by simp [typeInfo, G], O, Y, Z, G⟩
theorem Ex {z : Value} (Y : i.zero = some z) : (zeroValue t).run P w = .ok z w := by
 obtain ⟨Z, d, O, h2, h3, h4, h5, G⟩ := Hj h
 rw [Y] at G
 simp [zeroValue, typeInfo, O, G]
theorem Gg : (isAgg t).run P w = .ok i.isAgg w := by
 obtain ⟨Y, d, Z, G, O, h4, h5, h6⟩ := Hj h
 unfold TI.isAgg
 rw [← O]
 cases d <;> simp [isAgg, underlying, G, Ph]
theorem Hv : ∃ d, P.underlying t = some d ∧ Ph d = i.kind := by
 obtain ⟨Y, d, Z, G, O, h4, h5, h6⟩ := Hj h
 exact ⟨d, G, O⟩
end types
theorem Ev {P : Program} {t : TypeId} {i : TI} (h : Ka P t = some i) {e : Nat} (Y : i.kind = .slice e) : P.underlying t = some (.slice e) := by
 obtain ⟨d, O, G⟩ := Hv h
 rw [Y] at G
 cases d <;> simp [Ph] at G
 subst G; exact O
theorem K9 {P : Program} {t : TypeId} {i : TI} (h : Ka P t = some i) {fs : List (Nat × Nat)} (Z : i.kind = .struct fs) :
  ∃ O : Array Field, P.underlying t = some (.struct O) ∧ O.toList.map (fun f => (f.offset, f.type)) = fs := by
 obtain ⟨d, Y, G⟩ := Hv h
 rw [Z] at G
 cases d <;> simp [Ph] at G
 exact ⟨_, Y, G⟩
def AW (E : Env) (n : Nat) (C : Ctx) (c : Code) (σ : St) (Q : Exit → St → Prop) : Prop :=
 ∀ H a w, Gam n C σ H a w → cw c E.P (fun e G O => ∃ σ' H', Q e σ' ∧ Gam n C σ' H' G O) a w
def aY (P : Program) (G : Array Oper) (Q : Exit → Act → World → Prop) : List Oper → Act → World → Prop
 | [], a, w => Q .normal a w
 | o :: r, a, w =>
  if Region.wanted o (yielded G a.tmps) then o.wpIn Fence.wide 0 P a w (aY P G Q r) Q else aY P G Q r (a.put o.dst undef) w
def AO (E : Env) (n : Nat) (C : Ctx) (G : Array Oper) (l : List Oper) (σ : St) (R : St → Prop) : Prop :=
 ∀ H a w, Gam n C σ H a w → aY E.P G (fun e O Y => e = .normal ∧ ∃ σ' H', R σ' ∧ Gam n C σ' H' O Y) l a w
def AX (E : Env) (n : Nat) (C : Ctx) (md : List Nat) (o : Oper) (σ : St) (R : St → Prop) : Prop :=
 ∀ H a w, Gam n C σ H a w → o.wp E.P a w (fun G O => ∃ σ' H' v, R σ' ∧ Gam n C σ' H' G O ∧ G = a.put o.dst v ∧ (∀ b o, H b = some o → H' b = some o) ∧
  ∀ i p, σ.objs[i]? = some p → md.contains i = false → σ'.objs[i]? = some p ∧ ∀ b, b ∈ p.fp → O.heap[b]? = w.heap[b]?) (fun _ _ _ => False)
theorem D2 {P : Program} {o : Oper} {a : Act} {w : World} {K K' : Act → World → Prop} {Q Q' : Exit → Act → World → Prop}
  (h : ∀ a w, K a w → K' a w) (Y : ∀ e a w, Q e a w → Q' e a w) (O : o.wp P a w K Q) : o.wp P a w K' Q' := by
 unfold Oper.wp at *
 generalize (execOp a.eval o).run P w = r at *
 cases r with
 | ok n w' =>
  cases n <;> simp only [Oper.upon] at O ⊢ <;>
   first
    | exact h _ _ O
    | exact Calls.mono O (fun e Z G => by
      cases e with
      | returned v => exact h _ _ G
      | panicked c => exact Y _ _ _ G
      | outgrown => obtain ⟨a, w, G⟩ := G; exact ⟨a, w, Y _ _ _ G⟩)
    | exact Rows.mono O (fun _ _ G => h _ _ G)
 | halt x w' => cases x <;> simp only [Oper.upon] at O ⊢ <;> exact Y _ _ _ O
theorem oP {P : Program} {G : Array Oper} {Q : Exit → Act → World → Prop} {ro : Option Nat} : ∀ (l : List Oper) (k : Nat) (a : Act) (w : World),
  (∀ j, j < l.length → G[k + j]? = l[j]?) → (ro.isSome = true → l.all (fun o => Ms o.op) = true) → aY P G Q l a w → wpOpsIn (E6 ro) 0 P G Q (List.range' k l.length) a w := by
 intro l
 induction l with
 | nil => intro k a w _ _ h; exact h
 | cons o r ih =>
  intro k a w hl hn h
  have h0 : G[k]? = some o := by simpa using hl 0 (by simp)
  have hr : ∀ j, j < r.length → G[k + 1 + j]? = r[j]? := fun j hj => by
   have := hl (j + 1) (by simp; omega)
   rw [show k + 1 + j = k + (j + 1) by omega, this]; simp
  simp only [List.length_cons, List.range'_succ]
  simp only [wpOpsIn, h0]
  simp only [aY] at h
  have O : ro.isSome = true → r.all (fun o => Ms o.op) = true := fun hs => by
   have := hn hs; simp only [List.all_cons, Bool.and_eq_true] at this; exact this.2
  split
  ·rename_i Z
   simp only [Z, if_true] at h
   have Y := Ih (fun a' w' Y => ih (k + 1) a' w' hr O Y) (fun _ _ _ h => h) h
   cases ro with
   | none => exact Y
   | some q =>
    have := hn rfl
    simp only [List.all_cons, Bool.and_eq_true] at this
    exact cY this.1 Y
  ·rename_i Z
   simp only [Z] at h
   exact ⟨fun f _ => N5 ro f, ih (k + 1) _ _ hr O h⟩
theorem Sy {P : Program} {id : Nat} {G : Array Oper} {Q : Exit → Act → World → Prop} {a : Act} {w : World}
  (h : aY P G Q G.toList a w) : cw (Code.region id G false) P Q a w := by
 intro ro O
 refine wpIn_region ?_
 have := oP (ro := ro) G.toList 0 a w (fun j _ => by simp) (fun Y => O Y) h
 simpa [List.range_eq_range'] using this
theorem L3 {P : Program} {G : Array Oper} {Q Q' : Exit → Act → World → Prop} (O : ∀ e a w, Q e a w → Q' e a w) :
  ∀ (l : List Oper) (a : Act) (w : World), aY P G Q l a w → aY P G Q' l a w
 | [], a, w, h => O _ _ _ h
 | o :: r, a, w, h => by
  simp only [aY] at *
  split
  ·rename_i Y
   simp only [Y, if_true] at h
   exact Ih (fun Z w' h' => L3 O r Z w' h') O h
  ·rename_i Y
   simp only [Y] at h
   exact L3 O r _ _ h
section rules
variable {E : Env} {n : Nat} {C : Ctx} {σ : St} {Q : Exit → St → Prop}
theorem AW.mono {c : Code} {Q' : Exit → St → Prop} (h : AW E n C c σ Q) (O : ∀ e σ, Q e σ → Q' e σ) : AW E n C c σ Q' :=
 fun H a w g => Ji (h H a w g) fun e Y Z ⟨σ', H', q, G⟩ => ⟨σ', H', O e σ' q, G⟩
theorem AW.skip (h : Q .normal σ) : AW E n C .skip σ Q := fun H _ _ g => pO ⟨σ, H, h, g⟩
def tZ := @AW.skip
theorem AW.label {l : Nat} (h : Q .normal σ) : AW E n C (.label l) σ Q := fun H _ _ g => mE ⟨σ, H, h, g⟩
theorem AW.exit {id : Nat} (h : Q (.exit id) σ) : AW E n C (.exit id) σ Q := fun H _ _ g => pQ ⟨σ, H, h, g⟩
def uE := @AW.exit
theorem AW.ret (h : Q .ret σ) : AW E n C .ret σ Q := fun H _ _ g => sE ⟨σ, H, h, g⟩
def uC := @AW.ret
def Kb (next : St → Prop) (Q : Exit → St → Prop) : Exit → St → Prop
 | .normal, σ => next σ
 | e, σ => Q e σ
theorem AW.seq {x y : Code} (h : AW E n C x σ (Kb (fun σ' => AW E n C y σ' Q) Q)) : AW E n C (.seq x y) σ Q :=
 fun H a w g => sD (Ji (h H a w g) fun e O Y ⟨σ', H', q, G⟩ => by
  cases e with
  | normal => exact q H' O Y G
  | _ => exact ⟨σ', H', q, G⟩)
def uB := @AW.seq
theorem lD {x y : Code} (M : St → Prop) (h : AW E n C x σ (Kb M Q)) (k : ∀ σ', M σ' → AW E n C y σ' Q) : AW E n C (.seq x y) σ Q :=
 AW.seq (AW.mono h fun e σ' q => by
  cases e with
  | normal => exact k σ' q
  | _ => exact q)
def Wr (id : Nat) (Q : Exit → St → Prop) : Exit → St → Prop
 | .exit id', σ => bif Nat.beq id' id then Q .normal σ else Q (.exit id') σ
 | e, σ => Q e σ
theorem AW.block {id : Nat} {c : Code} (h : AW E n C c σ (Wr id Q)) : AW E n C (.block id c) σ Q :=
 fun H a w g => mF (Ji (h H a w g) fun e Z w' ⟨σ', H', q, O⟩ => by
  cases e with
  | exit id' =>
   by_cases G : id' = id
   ·subst G
    simp only [Wr, Nat.beq_refl, cond_true] at q
    simp only [Exit.inBlock, if_true]
    exact ⟨σ', H', q, O⟩
   ·have Y : Nat.beq id' id = false := by
     cases Y : Nat.beq id' id with
     | false => rfl
     | true => exact absurd (nq Y) G
    simp only [Wr, Y, cond_false] at q
    simp only [Exit.inBlock, G, if_false]
    exact ⟨σ', H', q, O⟩
  | _ => exact ⟨σ', H', q, O⟩)
def uA := @AW.block
theorem AW.loop {c : Code} (I : Nat → St → Prop) {m : Nat} (h₀ : I m σ)
  (G : ∀ m σ, I m σ → AW E n C c σ (Kb (fun σ' => ∃ m', m' < m ∧ I m' σ') Q)) : AW E n C (.loop c) σ Q := by
 intro H a w g
 have Z : ∀ (p : Nat → Prop), (∃ m, p m) → ∃ m, p m ∧ ∀ k, k < m → ¬ p k := by
  intro p ⟨m, hm⟩
  induction m using Nat.strongRecOn with
  | _ m ih =>
   by_cases hk : ∃ k, k < m ∧ p k
   ·obtain ⟨k, hk, hp⟩ := hk; exact ih k hk hp
   ·exact ⟨m, hm, fun k hkm hp => hk ⟨k, hkm, hp⟩⟩
 let J : Act → World → Nat → Prop := fun a w m => ∃ σ H, I m σ ∧ Gam n C σ H a w
 have aa : ∀ a w, ∃ m, (∃ k, J a w k) → J a w m ∧ ∀ k, k < m → ¬ J a w k := by
  intro a w
  by_cases h : ∃ k, J a w k
  ·obtain ⟨m, h1, h2⟩ := Z _ h; exact ⟨m, fun _ => ⟨h1, h2⟩⟩
  ·exact ⟨0, fun h' => absurd h' h⟩
 let μ : Act → World → Nat := fun a w => Classical.choose (aa a w)
 have hμ : ∀ a w, (∃ k, J a w k) → J a w (μ a w) ∧ ∀ k, k < μ a w → ¬ J a w k := fun a w => Classical.choose_spec (aa a w)
 refine pP (fun a w => ∃ k, J a w k) μ ⟨m, σ, H, h₀, g⟩ ?_
 intro a w hJ
 obtain ⟨⟨σ₁, H₁, hI, g₁⟩, _⟩ := hμ a w hJ
 refine Ji (G _ σ₁ hI H₁ a w g₁) ?_
 rintro e a' w' ⟨σ', H', q, g'⟩
 cases e with
 | normal =>
  obtain ⟨m', hm', O⟩ := q
  have Y : ∃ k, J a' w' k := ⟨m', σ', H', O, g'⟩
  refine ⟨Y, ?_⟩
  have h2 := (hμ a' w' Y).2
  have hJm : J a' w' m' := ⟨σ', H', O, g'⟩
  exact Nat.lt_of_le_of_lt (Nat.le_of_not_lt fun hlt => h2 m' hlt hJm) hm'
 | _ => exact ⟨σ', H', q, g'⟩
theorem AO.nil {G : Array Oper} {R : St → Prop} (h : R σ) : AO E n C G [] σ R := fun H _ _ g => ⟨rfl, σ, H, h, g⟩
def tW := @AO.nil
theorem AO.mono {G : Array Oper} {l : List Oper} {R R' : St → Prop} (h : AO E n C G l σ R) (Z : ∀ σ, R σ → R' σ) : AO E n C G l σ R' :=
 fun H a w g => L3 (fun _ _ _ ⟨Y, σ', H', r, O⟩ => ⟨Y, σ', H', Z _ r, O⟩) l a w (h H a w g)
theorem AO.act {G : Array Oper} {o : Oper} {l : List Oper} {R : St → Prop} (md : List Nat) (hg : o.guard = none)
  (h : AX E n C md o σ (fun σ' => AO E n C G l σ' R)) : AO E n C G (o :: l) σ R := by
 intro H a w g
 simp only [aY]
 rw [if_pos (by simp [Region.wanted, hg])]
 exact Te (D2 (fun O Z ⟨σ', H', v, r, Y, _⟩ => r H' O Z Y) (fun _ _ _ h => h.elim) (h H a w g))
def tX := @AO.act
theorem Gam.put {H : GH} {a : Act} {w : World} (g : Gam n C σ H a w) {dst : Option Tmp} {v : Value} {x : T} (hv : VR H v x)
  (Z : ∀ d, dst = some d → d < n) : Gam n C (σ.put dst x) H (a.put dst v) w := by
 cases dst with
 | none => exact g
 | some d =>
  have Y := Z d rfl
  refine { g with defers := g.defers, size := by simp [Act.put, g.size], slots := ?_ }
  intro i y G
  simp only [St.put, get] at G
  simp only [Act.put]
  by_cases hi : d = i
  ·subst hi
   simp only [Nat.beq_refl, cond_true, Option.some.injEq] at G
   subst G
   have : d < a.tmps.size := by rw [g.size]; exact Y
   simpa [Array.getD, this] using hv
  ·have O : Nat.beq d i = false := by
    cases O : Nat.beq d i with
    | false => rfl
    | true => exact absurd (nq O) hi
   simp only [O, cond_false] at G
   have := g.slots i y G
   have he : (a.tmps.setIfInBounds d v).getD i undef = a.tmps.getD i undef := by
    simp [Array.getD_eq_getD_getElem?, Array.getElem?_setIfInBounds_ne hi]
   rw [he]; exact this
theorem AW.region {id : Nat} {G : Array Oper} (h : AO E n C G G.toList σ (fun σ' => Q .normal σ')) : AW E n C (.region id G false) σ Q :=
 fun H a w g => Sy (L3 (fun _ _ _ ⟨Y, σ', H', r, O⟩ => ⟨σ', H', by subst Y; exact r, O⟩) _ _ _ (h H a w g))
def tV := @AW.region
theorem AW.cond {c : Operand} {x y : Code} {t : Nat} {b : Bool} (hc : c = .tmp t) (O : get σ.slots t = some (.v (.bool b)))
  (h1 : b = true → AW E n C x σ Q) (h2 : b = false → AW E n C y σ Q) : AW E n C (.cond c x y) σ Q := by
 intro H a w g
 subst hc
 have Y : a.eval (.tmp t) = .bool b := (g.slots t _ O).v_eq
 exact Sz Y (fun G => h1 G H a w g) (fun G => h2 G H a w g)
def Sub : Az → Az → Prop
 | [], _ => True
 | (i, x) :: l, s => get s i = some x ∧ Sub l s
theorem Sub.get : ∀ {l s : Az}, Sub l s → ∀ i x, Aw.get l i = some x → Aw.get s i = some x
 | [], _, _, i, x, h => by simp [Aw.get] at h
 | (k, y) :: l, s, hs, i, x, h => by
  obtain ⟨G, O⟩ := hs
  simp only [Aw.get] at h
  cases hb : Nat.beq k i with
  | true =>
   have := nq hb
   subst this
   simp only [hb, cond_true, Option.some.injEq] at h
   subst h; exact G
  | false =>
   simp only [hb, cond_false] at h
   exact Sub.get O i x h
theorem Dz {α β : Type} {f : α → List β} : ∀ {l m : List α}, l.Sublist m → (l.flatMap f).Sublist (m.flatMap f)
 | _, _, .slnil => .slnil
 | _, _, .cons a h => by simp only [List.flatMap_cons]; exact (Dz h).trans (List.sublist_append_right _ _)
 | _, _, .cons_cons a h => by simp only [List.flatMap_cons]; exact (List.Sublist.refl _).append (Dz h)
theorem Gam.weaken {H : GH} {a : Act} {w : World} (g : Gam n C σ H a w) {s : Az} {ob : List Ob} (Y : Sub s σ.slots) (O : ob.Sublist σ.objs) :
  Gam n C ⟨s, ob⟩ H a w :=
 { g with
  slots := fun i x h => g.slots i x (Y.get i x h)
  objs := fun p G => g.objs p (O.subset G)
  free := fun p G => g.free p (O.subset G)
  new := fun p G => g.new p (O.subset G)
  nodup := (Dz O).nodup g.nodup }
theorem AW.weaken {c : Code} {s : Az} {ob : List Ob} (O : Sub s σ.slots) (G : ob.Sublist σ.objs) (h : AW E n C c ⟨s, ob⟩ Q) : AW E n C c σ Q :=
 fun H a w g => h H a w (g.weaken O G)
theorem AO.weaken {G : Array Oper} {l : List Oper} {R : St → Prop} {s : Az} {ob : List Ob} (Y : Sub s σ.slots) (O : ob.Sublist σ.objs) (h : AO E n C G l ⟨s, ob⟩ R) :
  AO E n C G l σ R :=
 fun H a w g => h H a w (g.weaken Y O)
end rules
def Bg (s : Az) : Operand → Option T
 | .tmp t => get s t
 | .const v => some (.v v)
 | .global g => some (.v (.pointer (some ⟨g, 0, none⟩)))
 | .func f => some (.v (.func (.func f) #[] #[]))
structure SR (n : Nat) (s : Az) (H : GH) (a : Act) : Prop where
 size : a.tmps.size = n
 slots : ∀ i x, get s i = some x → VR H (a.tmps.getD i undef) x
theorem SR.eval {n : Nat} {s : Az} {H : GH} {a : Act} (g : SR n s H a) {x : Operand} {y : T} (h : Bg s x = some y) : VR H (a.eval x) y := by
 cases x with
 | tmp t => exact g.slots t y h
 | const v => simp only [Bg, Option.some.injEq] at h; subst h; exact .v v
 | global g => simp only [Bg, Option.some.injEq] at h; subst h; exact .v _
 | func f => simp only [Bg, Option.some.injEq] at h; subst h; exact .v _
theorem SR.evalv {n : Nat} {s : Az} {H : GH} {a : Act} (g : SR n s H a) {x : Operand} {y : Value} (h : Bg s x = some (.v y)) : a.eval x = y := (g.eval h).v_eq
def Yp (P : Program) (n : Nat) (s : Az) (o : Oper) (x : T) : Prop :=
 ∀ H a, SR n s H a → ∃ v, VR H v x ∧ ∀ w, (execOp a.eval o).run P w = .ok (.value v) w
def Ke (H : GH) (objs : List Ob) (w w' : World) : Prop :=
 (∀ b o, H b = some o → w'.heap[b]? = some o) ∧ ∀ p, p ∈ objs → ∀ b, b ∈ p.fp → w'.heap[b]? = w.heap[b]?
structure WR (objs : List Ob) (H : GH) (w : World) : Prop where
 objs : ∀ p, p ∈ objs → OR H w p
 held : ∀ b o, H b = some o → w.heap[b]? = some o
def Yd (P : Program) (n : Nat) (s : Az) (objs : List Ob) (o : Oper) (x : T) : Prop :=
 ∀ H a w, SR n s H a → WR objs H w → ∃ v, VR H v x ∧ ∀ G, Ke H objs w G → (execOp a.eval o).run P G = .ok (.value v) G
theorem Yp.yd {P : Program} {n : Nat} {s : Az} {objs : List Ob} {o : Oper} {x : T} (h : Yp P n s o x) : Yd P n s objs o x :=
 fun H a _ g _ => let ⟨v, hv, hr⟩ := h H a g; ⟨v, hv, fun G _ => hr G⟩
def En (G : TI) (cs : List T) (off : Nat) : Option T :=
 bif G.isAgg then
  (bif Nat.beq off 0 && Nat.beq G.size cs.length then some (.agg cs)
   else bif Nat.ble (off + G.size) cs.length then some (.agg ((cs.drop off).take G.size)) else none)
 else cs[off]?
theorem D1 (b off n : Nat) : Addr.add ⟨b, off, none⟩ n = ⟨b, off + n, none⟩ := by
 unfold Addr.add
 split
 ·rename_i h; subst h; rfl
 ·rfl
section
variable {E : Env} {n : Nat} {s : Az} {dst : Option Tmp} {ty : TypeId} {pos : String} {aft : Array Edge} {g : Option (Nat × Bool)}
theorem Yp.move {x : Operand} {y : T} (h : Bg s x = some y) : Yp E.P n s ⟨dst, .move x, ty, pos, aft, g⟩ y :=
 fun H a r => ⟨a.eval x, r.eval h, fun w => by simp [execOp]⟩
theorem Yp.assign {x : Operand} {y : T} (h : Bg s x = some y) : Yp E.P n s ⟨dst, .assign x, ty, pos, aft, g⟩ y :=
 fun H a r => ⟨a.eval x, r.eval h, fun w => by simp [execOp]⟩
theorem mT {c x y : Operand} {z : T} (hc : Bg s c = some (.v (.bool true))) (h : Bg s x = some z) : Yp E.P n s ⟨dst, .pick c x y, ty, pos, aft, g⟩ z :=
 fun H a r => ⟨a.eval x, r.eval h, fun w => by simp [execOp, r.evalv hc, asBool]⟩
theorem mU {c x y : Operand} {z : T} (hc : Bg s c = some (.v (.bool false))) (h : Bg s y = some z) : Yp E.P n s ⟨dst, .pick c x y, ty, pos, aft, g⟩ z :=
 fun H a r => ⟨a.eval y, r.eval h, fun w => by simp [execOp, r.evalv hc, asBool]⟩
theorem El {G : BinOp} {t Z : TypeId} {x y : Operand} {k : IntKind} {a b c : Int} (O : Bg s x = some (.v (.int k a))) (Y : Bg s y = some (.v (.int k b)))
  (hc : match G with | .add => k.wrap (a + b) = c | .sub => k.wrap (a - b) = c | .mul => k.wrap (a * b) = c | .quo => b ≠ 0 ∧ k.wrap (a.tdiv b) = c | .rem => b ≠ 0 ∧ a.tmod b = c | _ => False) :
  Yp E.P n s ⟨dst, .binOp G t x y Z, ty, pos, aft, g⟩ (.v (.int k c)) := by
 refine fun H A r => ⟨_, .v _, fun w => ?_⟩
 cases G <;> simp only at hc <;> simp [execOp, r.evalv O, r.evalv Y, eqGuard, binOp, Op.intArith, Op.intDiv, hc]
def cmpI : BinOp → Int → Int → Option Bool
 | .eql, a, b => some (a == b)
 | .neq, a, b => some (a != b)
 | .lss, a, b => some (decide (a < b))
 | .leq, a, b => some (decide (a ≤ b))
 | .gtr, a, b => some (decide (a > b))
 | .geq, a, b => some (decide (a ≥ b))
 | _, _, _ => none
theorem Yp.cmpI {G : BinOp} {t Z : TypeId} {x y : Operand} {k : IntKind} {a b : Int} {c : Bool} (O : Bg s x = some (.v (.int k a))) (Y : Bg s y = some (.v (.int k b)))
  (hc : Aw.cmpI G a b = some c) : Yp E.P n s ⟨dst, .binOp G t x y Z, ty, pos, aft, g⟩ (.v (.bool c)) := by
 refine fun H A r => ⟨_, .v _, fun w => ?_⟩
 cases G <;> simp only [Aw.cmpI, Option.some.injEq, reduceCtorEq] at hc <;> subst hc <;> simp [execOp, r.evalv O, r.evalv Y, eqGuard, binOp, Op.intCmp]
def uO := @Yp.cmpI
def cmpS : BinOp → ByteArray → ByteArray → Option Bool
 | .eql, a, b => some (a.toList == b.toList)
 | .neq, a, b => some (!(a.toList == b.toList))
 | .lss, a, b => some (Op.bytesLess a.toList b.toList)
 | .gtr, a, b => some (!(Op.bytesLess a.toList b.toList || a.toList == b.toList))
 | .leq, a, b => some (Op.bytesLess a.toList b.toList || a.toList == b.toList)
 | .geq, a, b => some (!Op.bytesLess a.toList b.toList)
 | _, _, _ => none
theorem Yp.cmpS {G : BinOp} {t Z : TypeId} {x y : Operand} {a b : ByteArray} {c : Bool} (O : Bg s x = some (.v (.string a))) (Y : Bg s y = some (.v (.string b)))
  (hc : Aw.cmpS G a b = some c) : Yp E.P n s ⟨dst, .binOp G t x y Z, ty, pos, aft, g⟩ (.v (.bool c)) := by
 refine fun H A r => ⟨_, .v _, fun w => ?_⟩
 cases G <;> simp only [Aw.cmpS, Option.some.injEq, reduceCtorEq] at hc <;> subst hc <;> simp [execOp, r.evalv O, r.evalv Y, eqGuard, binOp, Op.stringOp]
theorem qF {t Y : TypeId} {x y : Operand} {a b : ByteArray} (G : Bg s x = some (.v (.string a))) (O : Bg s y = some (.v (.string b)))
  (hc : a.size + b.size < 9223372036854775807) : Yp E.P n s ⟨dst, .binOp .add t x y Y, ty, pos, aft, g⟩ (.v (.string (a ++ b))) := by
 refine fun H A r => ⟨_, .v _, fun w => ?_⟩
 have : ¬ (((a.size + b.size : Nat) : Int) > IntKind.i64.max) := by
  have : IntKind.i64.max = 9223372036854775807 := by decide
  rw [this]; omega
 simp only [execOp, r.evalv G, r.evalv O, eqGuard, binOp, Op.stringOp, if_neg this]
 simp
theorem Yp.not {t : TypeId} {x : Operand} {b : Bool} (G : Bg s x = some (.v (.bool b))) : Yp E.P n s ⟨dst, .unOp .not t x, ty, pos, aft, g⟩ (.v (.bool (!b))) :=
 fun H A r => ⟨_, .v _, fun w => by simp [execOp, r.evalv G, Op.unary]⟩
theorem Yp.neg {t : TypeId} {x : Operand} {k : IntKind} {a c : Int} (G : Bg s x = some (.v (.int k a))) (hc : k.wrap (0 - a) = c) :
  Yp E.P n s ⟨dst, .unOp .neg t x, ty, pos, aft, g⟩ (.v (.int k c)) :=
 fun H A r => ⟨_, .v _, fun w => by subst hc; simp [execOp, r.evalv G, Op.unary, Op.intArith]⟩
theorem Yp.extract {x : Operand} {i : Nat} {l : List T} {y : T} (Y : Bg s x = some (.tup l)) (hi : l[i]? = some y) : Yp E.P n s ⟨dst, .extract x i, ty, pos, aft, g⟩ y := by
 intro H A r
 have h := r.eval Y
 generalize O : A.eval x = v at h
 cases h with
 | tup vs cs hl hvs =>
  refine ⟨vs.getD i undef, hvs i y hi, fun w => ?_⟩
  have G : i < vs.size := by
   rw [hl]; exact (gs hi).1
  simp [execOp, O, Instr.extract, Array.getElem?_eq_getElem G, Array.getD, G]
theorem I4 {t t' : TypeId} {x : Operand} {k k' : IntKind} {a c : Int} {ti G : TI} (ht : E.tab t = some ti) (Z : E.tab t' = some G) (Y : G.kind = .int k')
  (hx : Bg s x = some (.v (.int k a))) (hc : k'.wrap a = c) : Yp E.P n s ⟨dst, .convert t t' x, ty, pos, aft, g⟩ (.v (.int k' c)) := by
 refine fun H A r => ⟨_, .v _, fun w => ?_⟩
 obtain ⟨d, h1, O⟩ := Hv (E.ok _ _ Z)
 obtain ⟨d0, h3, h4⟩ := Hv (E.ok _ _ ht)
 rw [Y] at O
 cases d <;> simp [Ph] at O
 subst O
 subst hc
 cases d0 <;> simp [execOp, r.evalv hx, convert, run_underlying h1, run_underlying h3, Conv.intToInt]
theorem VR.part {H : GH} {vs : Array Value} {cs : List T} (h : VR H (.agg vs) (.agg cs)) {off size : Nat} (hle : off + size ≤ cs.length) :
  VR H (.agg (vs.extract off (off + size))) (.agg ((cs.drop off).take size)) := by
 cases h with
 | agg vs cs hl h1 hv =>
  have O : ∀ j x, ((cs.drop off).take size)[j]? = some x → cs[off + j]? = some x ∧ (vs.extract off (off + size)).getD j undef = vs.getD (off + j) undef := by
   intro j x G
   have hj : j < size := by
    have := (gs G).1
    simp at this; omega
   rw [List.getElem?_take_of_lt hj, List.getElem?_drop] at G
   refine ⟨G, ?_⟩
   simp [Array.getD_eq_getD_getElem?, Array.getElem?_extract]
   rw [if_pos (by omega)]
  exact .agg _ _ (by simp; omega) (fun j x G => by obtain ⟨Y, Z⟩ := O j x G; rw [Z]; exact h1 _ _ Y)
   (fun j x G => by obtain ⟨Y, Z⟩ := O j x G; rw [Z]; exact hv _ _ Y)
theorem R3 {P : Program} {H : GH} {vs : Array Value} {cs : List T} (h : VR H (.agg vs) (.agg cs)) {t : TypeId} {O : TI} (ht : Ka P t = some O) {off : Nat} {y : T}
  (G : En O cs off = some y) : ∃ v, VR H v y ∧ ∀ w, (part t vs off).run P w = .ok v w := by
 unfold En at G
 cases ha : O.isAgg with
 | true =>
  simp only [ha, cond_true] at G
  have aa : ∀ w, (part t vs off).run P w = .ok (.agg (vs.extract off (off + O.size))) w := fun w => by
   simp [part, Gg ht, ha, Cy ht]
  refine ⟨_, ?_, aa⟩
  cases hb : (Nat.beq off 0 && Nat.beq O.size cs.length) with
  | true =>
   simp only [hb, cond_true, Option.some.injEq] at G
   subst G
   simp only [Bool.and_eq_true] at hb
   obtain ⟨ho, Y⟩ := hb
   have ho := nq ho
   have Y := nq Y
   subst ho
   have := h.part (off := 0) (size := O.size) (by omega)
   simpa [Y] using this
  | false =>
   simp only [hb, cond_false] at G
   cases hc : Nat.ble (off + O.size) cs.length with
   | false => simp [hc] at G
   | true =>
    simp only [hc, cond_true, Option.some.injEq] at G
    subst G
    exact h.part (Nat.le_of_ble_eq_true hc)
 | false =>
  simp only [ha, cond_false] at G
  cases h with
  | agg vs cs hl h1 hv =>
   refine ⟨_, hv _ _ G, fun w => ?_⟩
   have Z : off < vs.size := by rw [hl]; exact (gs G).1
   simp [part, Gg ht, ha, Array.getElem?_eq_getElem Z, Array.getD, Z]
theorem Y4 {t : TypeId} {x : Operand} {f : Nat} {b o : Nat} {ti O : TI} {fs : List (Nat × Nat)} {off ft : Nat}
  (ht : E.tab t = some ti) (hk : ti.kind = .struct fs) (hf : fs[f]? = some (off, ft)) (Z : E.tab ft = some O) (hz : Nat.beq O.size 0 = false)
  (hx : Bg s x = some (.v (.pointer (some ⟨b, o, none⟩)))) : Yp E.P n s ⟨dst, .fieldAddr t x f, ty, pos, aft, g⟩ (.v (.pointer (some ⟨b, o + off, none⟩))) := by
 intro H A r
 obtain ⟨ff, h1, h2⟩ := K9 (E.ok _ _ ht) hk
 have Y : ∃ G, ff[f]? = some G ∧ G.offset = off ∧ G.type = ft := by
  rw [← h2] at hf
  simp only [List.getElem?_map, Option.map_eq_some_iff] at hf
  obtain ⟨G, q1, q2⟩ := hf
  refine ⟨G, by simpa using q1, ?_, ?_⟩ <;> simp_all
 obtain ⟨G, q1, rfl, rfl⟩ := Y
 have aa : ¬ O.size = 0 := by intro h; rw [h] at hz; simp at hz
 exact ⟨_, .v _, fun w => by
  simp [execOp, r.evalv hx, Instr.fieldAt, run_underlying h1, q1, Instr.sureAddr, fieldPlace, Cy (E.ok _ _ Z), aa, D1]⟩
theorem VR.eptr_drop {H : GH} {b o : Nat} {l : List T} (h : VR H (.pointer (some ⟨b, o, none⟩)) (.eptr l)) {off : Nat} (O : off ≤ l.length) :
  VR H (.pointer (some ⟨b, o + off, none⟩)) (.eptr (l.drop off)) := by
 cases h with
 | eptr b off' l cs ty fr hb hsz h1 hv =>
  refine .eptr b (o + off) (l.drop off) cs ty fr hb (by simp; omega) (fun j x G => ?_) (fun j x G => ?_)
  ·rw [List.getElem?_drop] at G; rw [show o + off + j = o + (off + j) by omega]; exact h1 _ _ G
  ·rw [List.getElem?_drop] at G; rw [show o + off + j = o + (off + j) by omega]; exact hv _ _ G
theorem VR.eptr_ptr {H : GH} {v : Value} {l : List T} (h : VR H v (.eptr l)) : ∃ b o, v = .pointer (some ⟨b, o, none⟩) := by
 cases h; exact ⟨_, _, rfl⟩
theorem dP {t : TypeId} {x : Operand} {f : Nat} {cs : List T} {ti O : TI} {fs : List (Nat × Nat)} {off ft : Nat}
  (ht : E.tab t = some ti) (hk : ti.kind = .struct fs) (hf : fs[f]? = some (off, ft)) (Z : E.tab ft = some O) (hz : Nat.beq O.size 0 = false)
  (hx : Bg s x = some (.eptr cs)) (aa : Nat.ble off cs.length = true) : Yp E.P n s ⟨dst, .fieldAddr t x f, ty, pos, aft, g⟩ (.eptr (cs.drop off)) := by
 intro H A r
 obtain ⟨ff, h1, h2⟩ := K9 (E.ok _ _ ht) hk
 have Y : ∃ G, ff[f]? = some G ∧ G.offset = off ∧ G.type = ft := by
  rw [← h2] at hf
  simp only [List.getElem?_map, Option.map_eq_some_iff] at hf
  obtain ⟨G, q1, q2⟩ := hf
  refine ⟨G, by simpa using q1, ?_, ?_⟩ <;> simp_all
 obtain ⟨G, q1, rfl, rfl⟩ := Y
 have ab : ¬ O.size = 0 := by intro h; rw [h] at hz; simp at hz
 have h := r.eval hx
 obtain ⟨b, o, hv⟩ := h.eptr_ptr
 rw [hv] at h
 exact ⟨_, h.eptr_drop (Nat.le_of_ble_eq_true aa), fun w => by
  simp [execOp, hv, Instr.fieldAt, run_underlying h1, q1, Instr.sureAddr, fieldPlace, Cy (E.ok _ _ Z), ab, D1]⟩
theorem Wz {x : Operand} {b : Addr} (G : Bg s x = some (.v (.pointer (some b)))) : Yp E.P n s ⟨dst, .nilCheck x, ty, pos, aft, g⟩ (.v (.pointer (some b))) :=
 fun H A r => ⟨_, .v _, fun w => by simp [execOp, r.evalv G]⟩
theorem W7 {x : Operand} {cs : List T} (O : Bg s x = some (.eptr cs)) : Yp E.P n s ⟨dst, .nilCheck x, ty, pos, aft, g⟩ (.eptr cs) := by
 intro H A r
 have h := r.eval O
 obtain ⟨b, o, G⟩ := h.eptr_ptr
 exact ⟨_, h, fun w => by simp [execOp, G]⟩
theorem VR.list_slice {H : GH} {v : Value} {sz : Nat} {es : List (List T)} (h : VR H v (.list sz es)) : ∃ a cap, v = .slice a es.length cap := by
 cases h with
 | empty a cap sz => exact ⟨a, cap, rfl⟩
 | list b off cap sz es cs ty fr hb hcap hmax hsz hel h1 hv => exact ⟨_, _, rfl⟩
theorem VR.list_max {H : GH} {v : Value} {sz : Nat} {es : List (List T)} (h : VR H v (.list sz es)) : es.length ≤ Hf := by
 cases h with
 | empty a cap sz => simp [Hf]
 | list b off cap sz es cs ty fr hb hcap hmax hsz hel h1 hv => exact hmax
theorem aL {x : Operand} {t : TypeId} {sz : Nat} {es : List (List T)} {ti : TI} {e : Nat} (Y : E.tab t = some ti) (O : ti.kind = .slice e) (hx : Bg s x = some (.list sz es)) :
  Yp E.P n s ⟨dst, .call { callee := .builtin .len, args := #[x], argTypes := #[t] }, ty, pos, aft, g⟩ (.v (.int .i64 es.length)) := by
 refine fun H A r => ⟨_, .v _, fun w => ?_⟩
 obtain ⟨a, G, Z⟩ := (r.eval hx).list_slice
 simp [execOp, resolve, invoke, builtin, Builtin.len_, Z, run_underlying (Ev (E.ok _ _ Y) O), goInt]
theorem F4 {x : Operand} {t : TypeId} {a : Option Addr} {len cap : Nat} {ti : TI} {e : Nat} (O : E.tab t = some ti) (G : ti.kind = .slice e) (Y : Bg s x = some (.v (.slice a len cap))) :
  Yp E.P n s ⟨dst, .call { callee := .builtin .len, args := #[x], argTypes := #[t] }, ty, pos, aft, g⟩ (.v (.int .i64 len)) :=
 fun H A r => ⟨_, .v _, fun w => by simp [execOp, resolve, invoke, builtin, Builtin.len_, r.evalv Y, run_underlying (Ev (E.ok _ _ O) G), goInt]⟩
theorem H5 {P : Program} {t : TypeId} {i : TI} (h : Ka P t = some i) (Y : i.kind = .string) : P.underlying t = some .string := by
 obtain ⟨d, O, G⟩ := Hv h
 rw [Y] at G
 cases d <;> simp [Ph] at G
 exact O
theorem W8 {x : Operand} {t : TypeId} {b : ByteArray} {ti : TI} (O : E.tab t = some ti) (G : ti.kind = .string) (Y : Bg s x = some (.v (.string b))) :
  Yp E.P n s ⟨dst, .call { callee := .builtin .len, args := #[x], argTypes := #[t] }, ty, pos, aft, g⟩ (.v (.int .i64 b.size)) :=
 fun H A r => ⟨_, .v _, fun w => by simp [execOp, resolve, invoke, builtin, Builtin.len_, r.evalv Y, run_underlying (H5 (E.ok _ _ O) G), goInt]⟩
theorem qE {x y : Operand} {Y : Array TypeId} {k : IntKind} {a b : Int} (G : Bg s x = some (.v (.int k a))) (O : Bg s y = some (.v (.int k b))) :
  Yp E.P n s ⟨dst, .call { callee := .builtin .max, args := #[x, y], argTypes := Y }, ty, pos, aft, g⟩ (.v (.int k (max a b))) := by
 refine fun H A r => ⟨_, .v _, fun w => ?_⟩
 have : (if b > a then b else a) = max a b := by split <;> omega
 simp [execOp, resolve, invoke, builtin, Builtin.max_, Builtin.max2, r.evalv G, r.evalv O]
 omega
theorem qD {x y : Operand} {Y : Array TypeId} {k : IntKind} {a b : Int} (G : Bg s x = some (.v (.int k a))) (O : Bg s y = some (.v (.int k b))) :
  Yp E.P n s ⟨dst, .call { callee := .builtin .min, args := #[x, y], argTypes := Y }, ty, pos, aft, g⟩ (.v (.int k (min a b))) := by
 refine fun H A r => ⟨_, .v _, fun w => ?_⟩
 simp [execOp, resolve, invoke, builtin, Builtin.min_, Builtin.min2, r.evalv G, r.evalv O]
 omega
theorem dO {t : TypeId} {x y : Operand} {k : IntKind} {i : Int} {m : Nat} {sz : Nat} {es : List (List T)} {e : List T} {ti Y : TI} {O : Nat}
  (ht : E.tab t = some ti) (hk : ti.kind = .slice O) (hel : E.tab O = some Y) (hsz : Y.size = sz)
  (G : Bg s x = some (.list sz es)) (hy : Bg s y = some (.v (.int k i))) (hi : i = (m : Int)) (he : es[m]? = some e) :
  Yp E.P n s ⟨dst, .indexAddr t x y, ty, pos, aft, g⟩ (.eptr e) := by
 intro H A r
 have h := r.eval G
 have Z : m < es.length := (gs he).1
 generalize hv : A.eval x = v at h
 cases h with
 | empty a cap sz => simp at he
 | list b off cap sz es cs ty fr hb hcap hmax hsz' hel' h1 hvs =>
  refine ⟨.pointer (some ⟨b, off + m * sz, none⟩), .eptr b (off + m * sz) e cs ty fr hb ?_ (fun j x G => h1 m e he j x G) (fun j x G => hvs m e he j x G), fun w => ?_⟩
  ·rw [hel' m e he]
   have : (m + 1) * sz ≤ es.length * sz := Nat.mul_le_mul_right _ Z
   rw [Nat.succ_mul] at this; omega
  ·subst hi
   simp [execOp, hv, r.evalv hy, Instr.indexAt, asIntOf, run_underlying (Ev (E.ok _ _ ht) hk), Cy (E.ok _ _ hel), hsz, Z, D1]
theorem N8 {t : TypeId} {x y : Operand} {k : IntKind} {i : Int} {m : Nat} {b off len cap : Nat} {ti O : TI} {G : Nat}
  (ht : E.tab t = some ti) (Y : ti.kind = .slice G) (hel : E.tab G = some O)
  (hx : Bg s x = some (.v (.slice (some ⟨b, off, none⟩) len cap))) (hy : Bg s y = some (.v (.int k i))) (hi : i = (m : Int)) (Z : m < len) :
  Yp E.P n s ⟨dst, .indexAddr t x y, ty, pos, aft, g⟩ (.v (.pointer (some ⟨b, off + m * O.size, none⟩))) := by
 refine fun H A r => ⟨_, .v _, fun w => ?_⟩
 subst hi
 simp [execOp, r.evalv hx, r.evalv hy, Instr.indexAt, asIntOf, run_underlying (Ev (E.ok _ _ ht) Y), Cy (E.ok _ _ hel), Z, D1]
theorem Jl {P : Program} {t : TypeId} {i : TI} (h : Ka P t = some i) {m e : Nat} (Y : i.kind = .array m e) : P.underlying t = some (.array m e) := by
 obtain ⟨d, O, G⟩ := Hv h
 rw [Y] at G
 cases d <;> simp [Ph] at G
 obtain ⟨rfl, rfl⟩ := G; exact O
theorem Du {t : TypeId} {x y : Operand} {k : IntKind} {i : Int} {m : Nat} {b off len : Nat} {ti O : TI} {G : Nat}
  (ht : E.tab t = some ti) (Y : ti.kind = .array len G) (hel : E.tab G = some O)
  (hx : Bg s x = some (.v (.pointer (some ⟨b, off, none⟩)))) (hy : Bg s y = some (.v (.int k i))) (hi : i = (m : Int)) (Z : m < len) :
  Yp E.P n s ⟨dst, .indexAddr t x y, ty, pos, aft, g⟩ (.v (.pointer (some ⟨b, off + m * O.size, none⟩))) := by
 refine fun H A r => ⟨_, .v _, fun w => ?_⟩
 subst hi
 simp [execOp, r.evalv hx, r.evalv hy, Instr.indexAt, Instr.sureAddr, asIntOf, run_underlying (Jl (E.ok _ _ ht) Y), Cy (E.ok _ _ hel), Z, D1]
def Zg (s : Az) (x : Option Operand) (d m : Nat) : Prop :=
 match x with
 | none => m = d
 | some x => ∃ k i, Bg s x = some (.v (.int k i)) ∧ i = (m : Int)
theorem Dr {P : Program} {w : World} {k : IntKind} {m y : Nat} {G : BoundsCode} (h : m ≤ y) : (Instr.sliceBound (.int k (m : Int)) y G).run P w = .ok m w := by
 simp [Instr.sliceBound, asIntOf, h]
theorem If {P : Program} {w : World} {a : Act} {H : GH} (r : SR n s H a) {isS : Bool} {len cap l h m : Nat} {lo hi mx : Option Operand} (h1 : Zg s lo 0 l) (h2 : Zg s hi len h) (G : Zg s mx cap m)
  (ab : hi = none → mx = none) (Y : l ≤ h) (O : h ≤ m) (aa : m ≤ cap) :
  (Instr.sliceBounds isS len cap (lo.map a.eval) (hi.map a.eval) (mx.map a.eval)).run P w = .ok (l, h, m) w := by
 unfold Instr.sliceBounds
 cases lo with
 | none =>
  simp only [Zg] at h1
  subst h1
  cases hi with
  | none =>
   have := ab rfl; subst this
   simp only [Zg] at h2 G
   subst h2 G
   simp
  | some hi =>
   obtain ⟨k2, i2, Z, rfl⟩ := h2
   cases mx with
   | none => simp only [Zg] at G; subst G; simp [r.evalv Z, Dr O]
   | some mx => obtain ⟨k3, i3, e3, rfl⟩ := G; simp [r.evalv Z, r.evalv e3, Dr aa, Dr O]
 | some lo =>
  obtain ⟨k1, i1, e1, rfl⟩ := h1
  cases hi with
  | none =>
   have := ab rfl; subst this
   simp only [Zg] at h2 G
   subst h2 G
   simp [r.evalv e1, Dr Y]
  | some hi =>
   obtain ⟨k2, i2, Z, rfl⟩ := h2
   cases mx with
   | none => simp only [Zg] at G; subst G; simp [r.evalv e1, r.evalv Z, Dr O, Dr Y]
   | some mx => obtain ⟨k3, i3, e3, rfl⟩ := G; simp [r.evalv e1, r.evalv Z, r.evalv e3, Dr aa, Dr O, Dr Y]
theorem VR.sub {H : GH} {b off cap sz : Nat} {es : List (List T)} (h : VR H (.slice (some ⟨b, off, none⟩) es.length cap) (.list sz es)) {l k c : Nat} (Z : l + k ≤ es.length) (hc : k ≤ c) :
  VR H (.slice (some ⟨b, off + l * sz, none⟩) k c) (.list sz ((es.drop l).take k)) := by
 generalize hv : Value.slice (some ⟨b, off, none⟩) es.length cap = v at h
 cases h with
 | empty a cap sz =>
  have hk : k = 0 := by simp at Z; omega
  subst hk
  simpa using VR.empty (H := H) (some ⟨b, off + l * sz, none⟩) c sz
 | list b' off' cap' sz es cs ty fr hb hcap hmax hsz hel h1 hvs =>
  simp only [Value.slice.injEq, Option.some.injEq, Addr.mk.injEq, and_true] at hv
  obtain ⟨⟨rfl, rfl⟩, _, _⟩ := hv
  have G : ((es.drop l).take k).length = k := by simp; omega
  have Y : ∀ (i : Nat) (e : List T), ((es.drop l).take k)[i]? = some e → es[l + i]? = some e := by
   intro i e O
   have hi : i < k := by have := (gs O).1; omega
   rwa [List.getElem?_take_of_lt hi, List.getElem?_drop] at O
  have aa : (l + k) * sz ≤ es.length * sz := Nat.mul_le_mul_right _ Z
  rw [Nat.add_mul] at aa
  have := VR.list (H := H) b (off + l * sz) c sz ((es.drop l).take k) cs ty fr hb (by rw [G]; exact hc) (by rw [G]; exact Nat.le_trans (by omega) hmax) (by rw [G]; omega) (fun i e O => hel _ _ (Y i e O))
   (fun i e O j x hx => by have := h1 _ _ (Y i e O) j x hx; rwa [Nat.add_mul, ← Nat.add_assoc] at this)
   (fun i e O j x hx => by have := hvs _ _ (Y i e O) j x hx; rwa [Nat.add_mul, ← Nat.add_assoc] at this)
  rwa [G] at this
theorem dN {t : TypeId} {x : Operand} {lo hi mx : Option Operand} {sz : Nat} {es : List (List T)} {ti ei : TI} {e : Nat} (l h m : Nat)
  (ht : E.tab t = some ti) (hk : ti.kind = .slice e) (he : E.tab e = some ei) (hsz : ei.size = sz) (hx : Bg s x = some (.list sz es))
  (h1 : Zg s lo 0 l) (h2 : Zg s hi es.length h) (h3 : ∀ cap, es.length ≤ cap → ∃ G, Zg s mx cap G ∧ h ≤ G ∧ G ≤ cap) (Z : hi = none → mx = none) (Y : l ≤ h) (hh : h ≤ es.length) :
  Yp E.P n s ⟨dst, .slice t x lo hi mx, ty, pos, aft, g⟩ (.list sz ((es.drop l).take (h - l))) := by
 intro H A r
 have hv := r.eval hx
 have hu := Ev (E.ok _ _ ht) hk
 generalize hvv : A.eval x = v at hv
 have O : ∀ w, (execOp A.eval ⟨dst, .slice t x lo hi mx, ty, pos, aft, g⟩).run E.P w = ((Instr.sliceAt t v (lo.map A.eval) (hi.map A.eval) (mx.map A.eval)).run E.P w).andThen fun a w => .ok (.value a) w := by
  intro w
  simp only [execOp, hvv, Sem.run_bind]
  rfl
 cases hv with
 | empty a cap sz =>
  simp only [List.length_nil, Nat.le_zero] at hh
  subst hh
  simp only [List.length_nil] at h2
  have : l = 0 := by omega
  subst this
  obtain ⟨G, q1, q2, q3⟩ := h3 cap (by simp)
  refine ⟨.slice (if G = 0 then a else a.map (·.add (0 * ei.size))) (0 - 0) (G - 0), by simpa using VR.empty _ _ _, fun w => ?_⟩
  rw [O]
  simp only [Instr.sliceAt, Instr.slice, Sem.run_bind, run_underlying hu, Result.andThen_ok, If r h1 h2 q1 Z Y q2 q3, Cy (E.ok _ _ he), Sem.run_pure]
 | list b off cap sz es cs ty fr hb hcap hmax hsz' hel hh1 hvs =>
  obtain ⟨G, q1, q2, q3⟩ := h3 cap hcap
  refine ⟨.slice (if G = l then some ⟨b, off, none⟩ else (some (⟨b, off, none⟩ : Addr)).map (·.add (l * ei.size))) (h - l) (G - l), ?_, fun w => ?_⟩
  ·by_cases hml : G = l
   ·have : h - l = 0 := by omega
    rw [this]; simpa using VR.empty (H := H) _ _ _
   ·rw [if_neg hml]
    simp only [Option.map_some, D1, hsz]
    exact VR.sub (.list b off cap sz es cs ty fr hb hcap hmax hsz' hel hh1 hvs) (by omega) (by omega)
  ·rw [O]
   simp only [Instr.sliceAt, Instr.slice, Sem.run_bind, run_underlying hu, Result.andThen_ok, If r h1 h2 q1 Z Y q2 q3, Cy (E.ok _ _ he), Sem.run_pure]
theorem Y2 {t : TypeId} {x y : Operand} {b : ByteArray} {k : IntKind} {i : Int} {m : Nat} {ti : TI} (Z : E.tab t = some ti) (Y : ti.kind = .string) (hx : Bg s x = some (.v (.string b)))
  (hy : Bg s y = some (.v (.int k i))) (hi : i = (m : Int)) (O : m < b.size) : Yp E.P n s ⟨dst, .index t x y, ty, pos, aft, g⟩ (.v (.int .u8 ((b.data.getD m 0).toNat : Int))) := by
 refine fun H A r => ⟨_, .v _, fun w => ?_⟩
 subst hi
 have hu := H5 (E.ok _ _ Z) Y
 have G : m < b.data.size := O
 have : b[m]? = some (b.data.getD m 0) := by
  simp [getElem?_def, O, Array.getD, G]
  rfl
 simp [execOp, r.evalv hx, r.evalv hy, Instr.index, asIntOf, run_underlying hu, this]
end
section
variable {E : Env} {n : Nat} {C : Ctx} {σ : St} {dst : Option Tmp} {ty : TypeId} {pos : String} {aft : Array Edge} {g : Option (Nat × Bool)}
theorem Gam.sr {H : GH} {a : Act} {w : World} (h : Gam n C σ H a w) : SR n σ.slots H a := ⟨h.size, h.slots⟩
theorem Gam.wr {H : GH} {a : Act} {w : World} (h : Gam n C σ H a w) : WR σ.objs H w := ⟨h.objs, h.held⟩
theorem F3 {H : GH} {cs : Array Value} {G : Nat} {e : List T} {O : TI} {j : Nat} {y : T} (hsz : G + e.length ≤ cs.size)
  (h1 : ∀ (j : Nat) (x : T), e[j]? = some x → (cs.getD (G + j) undef).oneCell' = true) (hv : ∀ (j : Nat) (x : T), e[j]? = some x → VR H (cs.getD (G + j) undef) x)
  (Y : En O e j = some y) :
  (O.isAgg = true → j + O.size ≤ e.length ∧ VR H (.agg ((List.range O.size).map fun i => cs.getD (G + j + i) undef).toArray) y) ∧
  (O.isAgg = false → j < e.length ∧ VR H (cs.getD (G + j) undef) y) := by
 unfold En at Y
 refine ⟨fun ha => ?_, fun ha => ?_⟩
 ·simp only [ha, cond_true] at Y
  have key : j + O.size ≤ e.length ∧ y = .agg ((e.drop j).take O.size) := by
   cases hb : (Nat.beq j 0 && Nat.beq O.size e.length) with
   | true =>
    simp only [hb, cond_true, Option.some.injEq] at Y
    simp only [Bool.and_eq_true] at hb
    have h0 := nq hb.1
    have h2 := nq hb.2
    subst h0
    exact ⟨by omega, by rw [← Y, h2]; simp⟩
   | false =>
    simp only [hb, cond_false] at Y
    cases hc : Nat.ble (j + O.size) e.length with
    | false => simp [hc] at Y
    | true =>
     simp only [hc, cond_true, Option.some.injEq] at Y
     exact ⟨Nat.le_of_ble_eq_true hc, Y.symm⟩
  obtain ⟨k1, rfl⟩ := key
  refine ⟨k1, .agg _ _ (by simp; omega) ?_ ?_⟩
  all_goals
   intro i x Z
   have hi : i < O.size := by
    have := (gs Z).1
    simp at this; omega
   rw [List.getElem?_take_of_lt hi, List.getElem?_drop] at Z
   have he : (((List.range O.size).map fun i => cs.getD (G + j + i) undef).toArray).getD i undef = cs.getD (G + (j + i)) undef := by
    simp [Array.getD_eq_getD_getElem?, hi, Nat.add_assoc]
   rw [he]
   first | exact h1 _ _ Z | exact hv _ _ Z
 ·simp only [ha, cond_false] at Y
  exact ⟨(gs Y).1, hv _ _ Y⟩
def Ek (G : TI) (cs : Array Value) (o : Nat) : Value :=
 if G.isAgg then .agg ((List.range G.size).map fun i => cs.getD (o + i) undef).toArray else cs.getD o undef
theorem Yg {w : World} {b o : Nat} {cs : Array Value} {ty : TypeId} {fr : Nat × Nat} (h : w.heap[b]? = some (.cells cs ty fr)) (G : o < cs.size) :
  w.cell? ⟨b, o, none⟩ = some (cs.getD o undef) := by
 simp [World.cell?, h, Array.getD, G]
theorem Ey {P : Program} {H : GH} {w : World} {t : TypeId} {O : TI} (Y : Ka P t = some O) {b G j : Nat} {cs : Array Value} {ty : TypeId} {fr : Nat × Nat} {e : List T} {y : T}
  (hb : w.heap[b]? = some (.cells cs ty fr)) (hsz : G + e.length ≤ cs.size)
  (h1 : ∀ (j : Nat) (x : T), e[j]? = some x → (cs.getD (G + j) undef).oneCell' = true) (hv : ∀ (j : Nat) (x : T), e[j]? = some x → VR H (cs.getD (G + j) undef) x)
  (hp : En O e j = some y) : (loadVar t ⟨b, G + j, none⟩).run P w = .ok (Ek O cs (G + j)) w := by
 unfold Ek
 obtain ⟨p1, p2⟩ := F3 hsz h1 hv hp
 cases ha : O.isAgg with
 | true =>
  obtain ⟨k1, _⟩ := p1 ha
  have Z := run_loadCells (P := P) w ⟨b, G + j, none⟩ O.size (fun i => cs.getD (G + j + i) undef) (fun i hi => by
   rw [D1]; exact Yg hb (by omega))
  simp [loadVar, Gg Y, ha, Cy Y, Z]
 | false =>
  obtain ⟨k1, _⟩ := p2 ha
  simp [loadVar, Gg Y, ha, Yg hb (show G + j < cs.size by omega)]
theorem Hi {t : TypeId} {x : Operand} {cs : List T} {G : TI} {y : T} {objs : List Ob} {s : Az} (Z : E.tab t = some G) (hx : Bg s x = some (.eptr cs)) (O : En G cs 0 = some y) :
  Yd E.P n s objs ⟨dst, .load t x, ty, pos, aft, g⟩ y := by
 intro H a w r wr
 have h := r.eval hx
 generalize hv : a.eval x = v at h
 cases h with
 | eptr b off l cs' ty' fr hb hsz h1 hvs =>
  obtain ⟨p1, p2⟩ := F3 hsz h1 hvs O
  refine ⟨Ek G cs' off, ?_, fun w' Y => ?_⟩
  rotate_left
  ·have := Ey (j := 0) (E.ok _ _ Z) (Y.1 _ _ hb) hsz h1 hvs O
   simp only [execOp, hv, Instr.loadAt, Instr.sureAddr, Sem.run_bind, Sem.run_pure, Result.andThen_ok]
   simp only [Nat.add_zero] at this
   rw [this]
   first | done | rfl
  ·cases ha : G.isAgg with
   | true => simpa [Ek, ha] using (p1 ha).2
   | false => simpa [Ek, ha] using (p2 ha).2
theorem OR.cells {H : GH} {w : World} {b Z sz cap : Nat} {es : List (List T)} (h : OR H w (.arr b Z sz cap es)) {i : Nat} {e : List T} (he : es[i]? = some e) :
  ∃ cs, w.heap[b]? = some (.cells cs Z (0, 0)) ∧ i * sz + e.length ≤ cs.size ∧ e.length = sz ∧
   (∀ (j : Nat) (x : T), e[j]? = some x → (cs.getD (i * sz + j) undef).oneCell' = true) ∧ (∀ (j : Nat) (x : T), e[j]? = some x → VR H (cs.getD (i * sz + j) undef) x) := by
 obtain ⟨cs, a1, a2, a3, a4, O, Y⟩ := h
 refine ⟨cs, a1, ?_, O i e he, fun j x G => (Y i e he j x G).1, fun j x G => (Y i e he j x G).2⟩
 have hi : i < es.length := (gs he).1
 have : (i + 1) * sz ≤ cap * sz := Nat.mul_le_mul_right _ (by omega)
 rw [Nat.succ_mul] at this
 rw [O i e he, a2]; exact this
theorem C4 (k : Nat) {t : TypeId} {x : Operand} {O : TI} {y : T} {objs : List Ob} {s : Az} {b off tt sz cap : Nat} {es : List (List T)} (i j : Nat) {e : List T}
  (ht : E.tab t = some O) (hx : Bg s x = some (.v (.pointer (some ⟨b, off, none⟩))))
  (hk : objs[k]? = some (.arr b tt sz cap es)) (he : es[i]? = some e) (ho : off = i * sz + j) (hp : En O e j = some y) :
  Yd E.P n s objs ⟨dst, .load t x, ty, pos, aft, g⟩ y := by
 intro H a w r wr
 have hv := r.evalv hx
 have Y := wr.objs _ (mg hk)
 obtain ⟨cs, a1, Z, a3, h1, G⟩ := OR.cells Y he
 obtain ⟨p1, p2⟩ := F3 Z h1 G hp
 subst ho
 refine ⟨Ek O cs (i * sz + j), ?_, fun w' ag => ?_⟩
 rotate_left
 ·have hb := ag.2 _ (mg hk)
  have := Ey (j := j) (E.ok _ _ ht) ((hb b (by simp [Ob.fp])).trans a1) Z h1 G hp
  simp only [execOp, hv, Instr.loadAt, Instr.sureAddr, Sem.run_bind, Sem.run_pure, Result.andThen_ok, this]
  first | done | rfl
 ·cases ha : O.isAgg with
  | true => simpa [Ek, ha] using (p1 ha).2
  | false => simpa [Ek, ha] using (p2 ha).2
theorem UsR.arr {H : GH} {w : World} {v : Value} {G sz : Nat} {es : List (List T)} (h : UsR H w v G sz es) {i : Nat} {e : List T} (he : es[i]? = some e) :
  ∃ c cap, v = .slice (some ⟨G2 v, 0, none⟩) es.length c ∧ es.length ≤ c ∧ c ≤ cap ∧ ArrR H w (G2 v) G sz cap es ∧ F5 v = [G2 v] := by
 rcases h with ⟨_, h⟩ | ⟨b, c, cap, rfl, O, Y, Z⟩
 ·subst h; simp at he
 ·exact ⟨c, cap, rfl, O, Y, Z, rfl⟩
theorem Bl (k : Nat) {t : TypeId} {x : Operand} {fi : TI} {y : T} {objs : List Ob} {s : Az} {v : Value} {off Z sz : Nat} {es : List (List T)} (i j : Nat) {e : List T}
  (ht : E.tab t = some fi) (hx : Bg s x = some (.v (.pointer (some ⟨G2 v, off, none⟩))))
  (hk : objs[k]? = some (.us v Z sz es)) (he : es[i]? = some e) (ho : off = i * sz + j) (G : En fi e j = some y) :
  Yd E.P n s objs ⟨dst, .load t x, ty, pos, aft, g⟩ y := by
 intro H a w r wr
 have Y : UsR H w v Z sz es := wr.objs _ (mg hk)
 obtain ⟨c, O, hv, h1, h2, h3, h4⟩ := Y.arr he
 obtain ⟨z, hz, hr⟩ := C4 (E := E) (n := n) (dst := dst) (ty := ty) (pos := pos) (aft := aft) (g := g) (objs := [.arr (G2 v) Z sz O es]) 0 i j ht hx rfl he ho G H a w r ⟨fun p G => by simp at G; subst G; exact h3, wr.held⟩
 refine ⟨z, hz, fun w' ag => hr w' ⟨ag.1, fun p G b hb => ?_⟩⟩
 simp only [List.mem_singleton] at G
 subst G
 exact ag.2 _ (mg hk) b (by simp only [Ob.fp, h4] at *; exact hb)
theorem qG (k : Nat) {x : Operand} {t : TypeId} {objs : List Ob} {s : Az} {v : Value} {tt sz : Nat} {es : List (List T)} {ti : TI} {e : Nat} (O : E.tab t = some ti) (G : ti.kind = .slice e) (Y : Bg s x = some (.v v))
  (ho : objs[k]? = some (.us v tt sz es)) : Yd E.P n s objs ⟨dst, .call { callee := .builtin .len, args := #[x], argTypes := #[t] }, ty, pos, aft, g⟩ (.v (.int .i64 es.length)) := by
 intro H a w r wr
 have Z : UsR H w v tt sz es := wr.objs _ (mg ho)
 rcases Z with ⟨rfl, rfl⟩ | ⟨b, c, cap, rfl, h1, h2, h3⟩
 ·exact ⟨_, .v _, fun w' _ => (F4 (E := E) (n := n) O G Y H a r).choose_spec.2 w' |> fun h => by rw [h]; have := (F4 (E := E) (n := n) (dst := dst) (ty := ty) (pos := pos) (aft := aft) (g := g) O G Y H a r).choose_spec.1.v_eq; rw [this]; rfl⟩
 ·exact ⟨_, .v _, fun w' _ => (F4 (E := E) (n := n) O G Y H a r).choose_spec.2 w' |> fun h => by rw [h]; have := (F4 (E := E) (n := n) (dst := dst) (ty := ty) (pos := pos) (aft := aft) (g := g) O G Y H a r).choose_spec.1.v_eq; rw [this]⟩
theorem Bm (k : Nat) {t : TypeId} {x y : Operand} {kk : IntKind} {i : Int} {m : Nat} {objs : List Ob} {s : Az} {v : Value} {tt sz : Nat} {es : List (List T)} {e : List T} {ti fi : TI} {Z : Nat}
  (ht : E.tab t = some ti) (hk : ti.kind = .slice Z) (hel : E.tab Z = some fi) (hsz : fi.size = sz)
  (hx : Bg s x = some (.v v)) (ho : objs[k]? = some (.us v tt sz es)) (hy : Bg s y = some (.v (.int kk i))) (hi : i = (m : Int)) (O : es[m]? = some e) :
  Yd E.P n s objs ⟨dst, .indexAddr t x y, ty, pos, aft, g⟩ (.v (.pointer (some ⟨G2 v, m * sz, none⟩))) := by
 intro H a w r wr
 have Y : UsR H w v tt sz es := wr.objs _ (mg ho)
 obtain ⟨c, cap, hv, h1, h2, h3, h4⟩ := Y.arr O
 have G : Bg s x = some (.v (.slice (some ⟨G2 v, 0, none⟩) es.length c)) := by rw [← hv]; exact hx
 have := N8 (E := E) (n := n) (dst := dst) (ty := ty) (pos := pos) (aft := aft) (g := g) ht hk hel G hy hi (gs O).1 H a r
 rw [hsz, Nat.zero_add] at this
 exact (Yp.yd (fun H A r => N8 (E := E) (n := n) (dst := dst) (ty := ty) (pos := pos) (aft := aft) (g := g) ht hk hel G hy hi (gs O).1 H A r) (objs := objs) H a w r wr) |> fun h => by rw [hsz, Nat.zero_add] at h; exact h
theorem AO.still {G : Array Oper} {o : Oper} {l : List Oper} {R : St → Prop} {x : T} (hy : Yd E.P n σ.slots σ.objs o x) (hg : o.guard = none) (Y : ∀ d, o.dst = some d → d < n)
  (k : AO E n C G l (σ.put o.dst x) R) : AO E n C G (o :: l) σ R := by
 intro H a w O
 obtain ⟨v, hv, Z⟩ := hy H a w O.sr O.wr
 simp only [aY]
 rw [if_pos (by simp [Region.wanted, hg])]
 refine Te ?_
 simp only [Oper.wp, Z w ⟨O.held, fun _ _ _ _ => rfl⟩, Oper.upon]
 exact k H _ w (O.put hv Y)
theorem Dl {n d : Nat} (h : Nat.blt d n = true) : ∀ G, some d = some G → G < n := fun G he => by
 cases he; exact Nat.le_of_ble_eq_true h
theorem Fr {H : GH} {a : Act} {s : Az} (r : SR n s H a) {G : Array Oper} {j : Nat} {t : Tmp} {b : Bool} (hj : (G[j]?).bind (·.dst) = some t) (hs : get s t = some (.v (.bool b))) :
  yielded G a.tmps j = some b := by
 have O := (r.slots t _ hs).v_eq
 have Y : t < a.tmps.size := by
  apply Classical.byContradiction
  intro Z
  rw [Array.getD_eq_getD_getElem?, Array.getElem?_eq_none (Nat.le_of_not_lt Z)] at O
  simp [undef] at O
 have : a.tmps[t]? = some (.bool b) := by
  rw [Array.getD_eq_getD_getElem?, Array.getElem?_eq_getElem Y] at O
  rw [Array.getElem?_eq_getElem Y]; simpa using O
 simp [yielded, hj, this]
theorem AO.guard {G : Array Oper} {op : Op} {l : List Oper} {R : St → Prop} {j : Nat} {want b : Bool} {t : Tmp}
  (hj : (G[j]?).bind (·.dst) = some t) (hs : get σ.slots t = some (.v (.bool b))) (hd : ∀ d, dst = some d → d < n)
  (h1 : b = want → AO E n C G (⟨dst, op, ty, pos, aft, none⟩ :: l) σ R)
  (h2 : b = !want → AO E n C G l (σ.put dst (.v undef)) R) : AO E n C G (⟨dst, op, ty, pos, aft, some (j, want)⟩ :: l) σ R := by
 intro H a w O
 have hy := Fr O.sr hj hs
 simp only [aY]
 by_cases Y : b = want
 ·rw [if_pos (by simp [Region.wanted, hy, Y])]
  have := h1 Y H a w O
  simp only [aY] at this
  rw [if_pos (by simp [Region.wanted])] at this
  exact this
 ·rw [if_neg (by simp [Region.wanted, hy, Y])]
  have Z : b = !want := by cases b <;> cases want <;> simp_all
  exact h2 Z H _ w (O.put (.v _) hd)
def qO (X : List Nat) (G : Array Bool) : Bool := X.all fun x => !(G.getD x true)
def F6 (P : Program) (G : Array Oper) (Q : Exit → Act → World → Prop) (S : World → Prop) (X : List Nat) : Nat → Array Bool → Act → World → Prop
 | 0, listed, a, w => Region.ready .any G listed = [] ∧ Q .normal a w
 | fuel + 1, listed, a, w =>
  (Region.ready .any G listed = [] → Q .normal a w) ∧
  ∀ i ∈ Region.ready .any G listed, wpOp P G Q i (fun Y O => (qO X (listed.setIfInBounds i true) = true → S O) ∧ F6 P G Q S X fuel (listed.setIfInBounds i true) Y O) a w
theorem R0 {P : Program} {O : Array Oper} {Q : Exit → Act → World → Prop} {S : World → Prop} {X : List Nat} : ∀ (fuel : Nat) (G : Array Bool) (a : Act) (w : World), F6 P O Q S X fuel G a w → wpAny P .any O Q fuel G a w
 | 0, _, _, _, h => h
 | fuel + 1, _, _, _, h => ⟨h.1, fun i hi => wpOp_mono (fun Y w' Z => R0 fuel _ Y w' Z.2) (h.2 i hi)⟩
theorem Ov {P : Program} {O : Array Oper} {Q : Exit → Act → World → Prop} {S : World → Prop} {X : List Nat} {G : Array Bool} {a : Act} {w : World} (Y : Region.ready .any O G = []) (h : Q .normal a w) :
  ∀ fuel, F6 P O Q S X fuel G a w
 | 0 => ⟨Y, h⟩
 | _ + 1 => ⟨fun _ => h, by rw [Y]; simp⟩
theorem Em {P : Program} {O : Array Oper} {Q : Exit → Act → World → Prop} {S : World → Prop} {X Z : List Nat} {fuel : Nat} {G : Array Bool} {a : Act} {w : World} (hr : Region.ready .any O G = Z) (Y : Z ≠ [])
  (h : ∀ i ∈ Z, wpOp P O Q i (fun a' w' => (qO X (G.setIfInBounds i true) = true → S w') ∧ F6 P O Q S X fuel (G.setIfInBounds i true) a' w') a w) : F6 P O Q S X (fuel + 1) G a w :=
 ⟨fun h0 => absurd (hr ▸ h0) Y, hr ▸ h⟩
def Blk (O : Array Oper) (G : Array Bool) (U : List Nat) (i : Nat) : Prop :=
 ∀ u, u ∈ U → G.getD u true = false ∧ (u = i ∨ ∃ o e, O[u]? = some o ∧ e ∈ o.after ∧ Region.binds .any e = true ∧ e.on ∈ U)
theorem Blk.not_ready {Z : Array Oper} {G : Array Bool} {U : List Nat} {i j : Nat} (hb : Blk Z G U i) (hj : j ∈ Region.ready .any Z G) (hji : j ≠ i) : j ∉ U := by
 intro hU
 obtain ⟨_, h⟩ := hb j hU
 rcases h with h | ⟨o, e, ho, he, hbi, hon⟩
 ·exact hji h
 ·obtain ⟨_, o', Y, O⟩ := mem_ready.1 hj
  rw [ho] at Y
  cases Y
  have h1 := O e he hbi
  have h0 := (hb e.on hon).1
  rcases Nat.lt_or_ge e.on G.size with h' | h'
  ·simp [h'] at h0 h1; rw [h0] at h1; cases h1
  ·simp [Array.getElem?_eq_none h'] at h1
theorem Md {P : Program} {O : Array Oper} {Q : Exit → Act → World → Prop} {S : World → Prop} {X U : List Nat} {i : Nat} {oi : Oper} {v : Value} (hi : O[i]? = some oi) (ae : ∀ (j : Nat) (o : Oper) cs b, O[j]? = some o → o.op ≠ .select cs b)
  (hQ : ∀ c a w, Q (.panic c) (a.put oi.dst v) w → Q (.panic c) a w) (hX : ∀ x, x ∈ X → x ∈ U ∧ x ≠ i) :
  ∀ (fuel : Nat) (G : Array Bool) (a : Act) (w : World),
   (∀ j oj, O[j]? = some oj → j ≠ i → G.getD j true = false → (∀ e ∈ oj.after, Region.binds .any e = true → e.on ≠ i) → oi.apart O oj = true) → Blk O G U i →
   i ∈ Region.ready .any O G → YieldsIf P O S oi v a → S w →
   F6 P O Q S X fuel (G.setIfInBounds i true) (a.put oi.dst v) w → F6 P O Q S X (fuel + 1) G a w := by
 intro fuel
 induction fuel with
 | zero =>
  intro G a w _ _ hr hy hS H
  refine ⟨fun h => (by rw [h] at hr; cases hr), fun j hj => ?_⟩
  by_cases Y : j = i
  ·subst Y; exact hy.wpOp hi hS ⟨fun _ => hS, H⟩
  ·have := ready_mono hj Y
   rw [H.1] at this
   cases this
 | succ fuel ih =>
  intro G a w aa Z hr hy hS H
  refine ⟨fun h => (by rw [h] at hr; cases hr), fun j hj => ?_⟩
  by_cases Y : j = i
  ·subst Y; exact hy.wpOp hi hS ⟨fun _ => hS, H⟩
  ·have h1 := H.2 j (ready_mono hj Y)
   have hjU := Z.not_ready hj Y
   obtain ⟨ad, oj, hoj, hall⟩ := mem_ready.1 hj
   have hnot : ∀ e ∈ oj.after, Region.binds .any e = true → e.on ≠ i := fun e he hb heq => by
    have h1 := hall e he hb
    have h0 := (mem_ready.1 hr).1
    rw [heq] at h1
    rcases Nat.lt_or_ge i G.size with h' | h'
    ·simp [h'] at h0 h1; rw [h0] at h1; cases h1
    ·simp [Array.getElem?_eq_none h'] at h1
   have ac : qO X ((G.setIfInBounds i true).setIfInBounds j true) = true := by
    refine List.all_eq_true.2 fun x hx => ?_
    obtain ⟨hxU, hxi⟩ := hX x hx
    rw [getD_set_ne true (show j ≠ x from fun h => hjU (h ▸ hxU)), getD_set_ne true (Ne.symm hxi), (Z x hxU).1]; rfl
   have h2 := wpOp_putIf hoj (aa j oj hoj Y ad hnot) (fun cs b => ae i oi cs b hi) (fun cs b => ae j oj cs b hoj) hQ hy h1
   have ab : ∀ k ok, O[k]? = some ok → k ≠ i → (G.setIfInBounds j true).getD k true = false →
     (∀ e ∈ ok.after, Region.binds .any e = true → e.on ≠ i) → oi.apart O ok = true := fun k ok hk hki hun ac => by
    refine aa k ok hk hki ?_ ac
    by_cases hjk : j = k
    ·subst hjk; exact ad
    ·rw [getD_set_ne true hjk] at hun; exact hun
   have hblk' : Blk O (G.setIfInBounds j true) U i := fun u hu => ⟨by rw [getD_set_ne true (show j ≠ u from fun h => hjU (h ▸ hu))]; exact (Z u hu).1, (Z u hu).2⟩
   refine wpOp_mono (fun a' w' h3 => ⟨fun _ => h3.2.1 ac, ih (G.setIfInBounds j true) a' w' ab hblk' (ready_mono hr (Ne.symm Y)) h3.1 (h3.2.1 ac) ?_⟩) h2
   rw [Array.setIfInBounds_comm _ _ Y]
   exact h3.2.2
def rQ (O : Array Oper) (G : Array Bool) (i : Nat) : List Nat :=
 (List.range O.size).foldl (fun U u => bif !(G.getD u true) && !(Nat.beq u i) && (match O[u]? with | some o => o.after.any (fun e => Region.binds .any e && U.contains e.on) | none => false) then u :: U else U) [i]
def sV (O : Array Oper) (G : Array Bool) (X U : List Nat) (i : Nat) : Bool :=
 X.isEmpty || (U.all (fun u => !(G.getD u true) && (Nat.beq u i || (match O[u]? with | some o => o.after.any (fun e => Region.binds .any e && U.contains e.on) | none => false))) && X.all (fun x => U.contains x && !(Nat.beq x i)))
theorem Ys {P : Program} {G : Array Oper} {Q : Exit → Act → World → Prop} {S : World → Prop} {X U : List Nat} {i : Nat} {oi : Oper} {v : Value} {fuel : Nat} {listed : Array Bool} {a : Act} {w : World} (hi : G[i]? = some oi)
  (hs : Region.noSelect G = true) (hf : Region.free .any G listed i = true) (hr : (Region.ready .any G listed).contains i = true) (hb : sV G listed X U i = true)
  (hQ : ∀ c a w, Q (.panic c) (a.put oi.dst v) w → Q (.panic c) a w) (hy : YieldsIf P G S oi v a) (hS : S w)
  (h : F6 P G Q S X fuel (listed.setIfInBounds i true) (a.put oi.dst v) w) : F6 P G Q S X (fuel + 1) listed a w := by
 have Y : i ∈ Region.ready .any G listed := by simpa using hr
 rcases Bool.or_eq_true _ _ |>.mp hb with hb | hb
 ·have : X = [] := by simpa using hb
  subst this
  exact Md (U := [i]) hi (Region.noSelect_spec hs) hQ (by simp) fuel listed a w (Region.free_spec hi hf) (fun u Z => by simp at Z; subst Z; exact ⟨(mem_ready.1 Y).1, .inl rfl⟩) Y hy hS h
 ·simp only [Bool.and_eq_true] at hb
  obtain ⟨h1, h2⟩ := hb
  refine Md (U := U) hi (Region.noSelect_spec hs) hQ (fun x hx => ?_) fuel listed a w (Region.free_spec hi hf) (fun u Z => ?_) Y hy hS h
  ·have := List.all_eq_true.1 h2 x hx
   simp only [Bool.and_eq_true, Bool.not_eq_true'] at this
   refine ⟨by simpa using this.1, fun he => ?_⟩
   rw [he] at this
   simp at this
  ·have := List.all_eq_true.1 h1 u Z
   simp only [Bool.and_eq_true, Bool.not_eq_true', Bool.or_eq_true] at this
   refine ⟨this.1, ?_⟩
   rcases this.2 with h | h
   ·exact .inl (nq h)
   ·split at h
    ·rename_i o ho
     rw [Array.any_eq_true'] at h
     obtain ⟨e, he, O⟩ := h
     simp only [Bool.and_eq_true] at O
     exact .inr ⟨o, e, ho, he, O.1, by simpa using O.2⟩
    ·cases h
inductive PL where
 | nil
 | still (i : Nat) (r : PL)
 | act (i : Nat) (r : PL)
 | two (i j : Nat) (r1 r2 : PL)
 | three (i j k : Nat) (r1 r2 r3 : PL)
 | four (i j k l : Nat) (r1 r2 r3 r4 : PL)
 | five (i j k l m : Nat) (r1 r2 r3 r4 r5 : PL)
 | par (A : List (Nat × List Nat)) (r : PL)
 | drop (i : Nat) (r : PL)
def S2 (G : Array Oper) (A : List (Nat × List Nat)) (k : Array Bool → Bool) : Nat → List Nat → Array Bool → Bool
 | 0, _, _ => false
 | f + 1, D, listed => bif A.all (fun p => D.contains p.1) then k listed else
  match Region.ready .any G listed with
  | [] => false
  | i :: l => (i :: l).all fun j => !D.contains j && A.any (fun p => Nat.beq p.1 j && p.2.all D.contains) && S2 G A k f (j :: D) (listed.setIfInBounds j true)
def PL.actsOnly : PL → Bool
 | .nil => true
 | .act _ r => r.actsOnly
 | .drop _ r => r.actsOnly
 | _ => false
def PL.drops : PL → List Nat
 | .nil => []
 | .still _ r => r.drops
 | .act _ r => r.drops
 | .two _ _ r1 r2 => r1.drops ++ r2.drops
 | .three _ _ _ r1 r2 r3 => r1.drops ++ (r2.drops ++ r3.drops)
 | .four _ _ _ _ r1 r2 r3 r4 => r1.drops ++ (r2.drops ++ (r3.drops ++ r4.drops))
 | .five _ _ _ _ _ r1 r2 r3 r4 r5 => r1.drops ++ (r2.drops ++ (r3.drops ++ (r4.drops ++ r5.drops)))
 | .par _ r => r.drops
 | .drop i r => i :: r.drops
def Dm (G : Array Oper) (X : List Nat) : PL → Array Bool → Bool
 | .nil, listed => (Region.ready .any G listed).isEmpty
 | .still i r, listed => Region.free .any G listed i && (Region.ready .any G listed).contains i && sV G listed X (bif X.isEmpty then [] else rQ G listed i) i && Dm G X r (listed.setIfInBounds i true)
 | .act i r, listed => Region.ready .any G listed == [i] && Dm G X r (listed.setIfInBounds i true)
 | .two i j r1 r2, listed => Region.ready .any G listed == [i, j] && Dm G X r1 (listed.setIfInBounds i true) && Dm G X r2 (listed.setIfInBounds j true)
 | .three i j k r1 r2 r3, listed => Region.ready .any G listed == [i, j, k] && Dm G X r1 (listed.setIfInBounds i true) && Dm G X r2 (listed.setIfInBounds j true) && Dm G X r3 (listed.setIfInBounds k true)
 | .four i j k l r1 r2 r3 r4, listed => Region.ready .any G listed == [i, j, k, l] && Dm G X r1 (listed.setIfInBounds i true) && Dm G X r2 (listed.setIfInBounds j true) && Dm G X r3 (listed.setIfInBounds k true) && Dm G X r4 (listed.setIfInBounds l true)
 | .five i j k l m r1 r2 r3 r4 r5, listed => Region.ready .any G listed == [i, j, k, l, m] && Dm G X r1 (listed.setIfInBounds i true) && Dm G X r2 (listed.setIfInBounds j true) && Dm G X r3 (listed.setIfInBounds k true) && Dm G X r4 (listed.setIfInBounds l true) && Dm G X r5 (listed.setIfInBounds m true)
 | .par A r, listed => S2 G A (Dm G X r) (A.length + 1) [] listed
 | .drop i r, listed => Region.ready .any G listed == [i] && X.contains i && r.actsOnly && Dm G X r (listed.setIfInBounds i true)
def PL.depth : PL → Nat
 | .nil => 0
 | .still _ r => r.depth + 1
 | .act _ r => r.depth + 1
 | .two _ _ r1 r2 => max r1.depth r2.depth + 1
 | .three _ _ _ r1 r2 r3 => max r1.depth (max r2.depth r3.depth) + 1
 | .four _ _ _ _ r1 r2 r3 r4 => max r1.depth (max r2.depth (max r3.depth r4.depth)) + 1
 | .five _ _ _ _ _ r1 r2 r3 r4 r5 => max r1.depth (max r2.depth (max r3.depth (max r4.depth r5.depth))) + 1
 | .par A r => r.depth + A.length
 | .drop _ r => r.depth + 1
def S1 (G : Array Oper) (pl : PL) : Bool :=
 Region.noSelect G && Nat.ble pl.depth G.size && Dm G pl.drops pl (Array.replicate G.size false)
def Dt (P : Program) (G : Array Oper) (Q : Exit → Act → World → Prop) : (World → Prop) → PL → Act → World → Prop
 | _, .nil, a, w => Q .normal a w
 | S, .still i r, a, w => ∃ o v, G[i]? = some o ∧ YieldsIf P G S o v a ∧ S w ∧ Dt P G Q S r (a.put o.dst v) w
 | S, .act i r, a, w => wpOp P G Q i (fun Y O => S O ∧ Dt P G Q S r Y O) a w
 | S, .two i j r1 r2, a, w => wpOp P G Q i (fun Y O => S O ∧ Dt P G Q S r1 Y O) a w ∧ wpOp P G Q j (fun Y O => S O ∧ Dt P G Q S r2 Y O) a w
 | S, .three i j k r1 r2 r3, a, w => wpOp P G Q i (fun Y O => S O ∧ Dt P G Q S r1 Y O) a w ∧ wpOp P G Q j (fun Y O => S O ∧ Dt P G Q S r2 Y O) a w ∧ wpOp P G Q k (fun Y O => S O ∧ Dt P G Q S r3 Y O) a w
 | S, .four i j k l r1 r2 r3 r4, a, w => wpOp P G Q i (fun Y O => S O ∧ Dt P G Q S r1 Y O) a w ∧ wpOp P G Q j (fun Y O => S O ∧ Dt P G Q S r2 Y O) a w ∧ wpOp P G Q k (fun Y O => S O ∧ Dt P G Q S r3 Y O) a w ∧ wpOp P G Q l (fun Y O => S O ∧ Dt P G Q S r4 Y O) a w
 | S, .five i j k l m r1 r2 r3 r4 r5, a, w => wpOp P G Q i (fun Y O => S O ∧ Dt P G Q S r1 Y O) a w ∧ wpOp P G Q j (fun Y O => S O ∧ Dt P G Q S r2 Y O) a w ∧ wpOp P G Q k (fun Y O => S O ∧ Dt P G Q S r3 Y O) a w ∧ wpOp P G Q l (fun Y O => S O ∧ Dt P G Q S r4 Y O) a w ∧ wpOp P G Q m (fun Y O => S O ∧ Dt P G Q S r5 Y O) a w
 | S, .par A r, a, w => ∃ J : List Nat → Act → World → Prop, J [] a w ∧
   (∀ (D : List Nat) (j : Nat) (Z : List Nat) a w, (j, Z) ∈ A → (∀ d, d ∈ Z → d ∈ D) → j ∉ D → J D a w → wpOp P G Q j (fun Y O => S O ∧ J (j :: D) Y O) a w) ∧
   (∀ (D : List Nat) a w, (∀ p, p ∈ A → p.1 ∈ D) → J D a w → Dt P G Q S r a w)
 | _, .drop i r, a, w => wpOp P G Q i (fun Y O => Dt P G Q (fun _ => True) r Y O) a w
theorem Ou {P : Program} {G : Array Oper} {Q : Exit → Act → World → Prop} : ∀ (r : PL) (S : World → Prop) (a : Act) (w : World), r.actsOnly = true → Dt P G Q S r a w → Dt P G Q (fun _ => True) r a w
 | .nil, _, _, _, _, h => h
 | .act _ r, S, _, _, hr, h => wpOp_mono (fun O Z Y => ⟨trivial, Ou r S O Z hr Y.2⟩) h
 | .drop _ _, _, _, _, _, h => h
theorem Pm {X : List Nat} {G : Array Bool} {i : Nat} (h : qO X G = false) : qO X (G.setIfInBounds i true) = false := by
 unfold qO at *
 obtain ⟨x, hx, Z⟩ := List.all_eq_false.1 h
 refine List.all_eq_false.2 ⟨x, hx, ?_⟩
 simp only [Bool.not_eq_true', Bool.not_eq_false] at *
 by_cases O : i = x
 ·subst O
  by_cases Y : i < G.size
  ·simp [Y]
  ·simp [Y]
 ·rw [getD_set_ne true O]; exact Z
theorem bQ {X : List Nat} {G : Array Bool} {i : Nat} (h : X.contains i = true) : qO X (G.setIfInBounds i true) = false := by
 refine List.all_eq_false.2 ⟨i, by simpa using h, ?_⟩
 by_cases O : i < G.size
 ·simp [O]
 ·simp [O]
theorem I6 {P : Program} {O : Array Oper} {Q : Exit → Act → World → Prop} {S : World → Prop} {X : List Nat} :
  ∀ (pl : PL) (fuel : Nat) (G : Array Bool) (a : Act) (w : World), pl.actsOnly = true → qO X G = false → pl.depth ≤ fuel → Dm O X pl G = true → Dt P O Q (fun _ => True) pl a w → F6 P O Q S X fuel G a w
 | .nil, fuel, G, a, w, _, _, _, hp, h => Ov (by simpa [Dm] using hp) h fuel
 | .act i r, 0, _, _, _, _, _, hl, _, _ => by simp [PL.depth] at hl
 | .act i r, fuel + 1, G, a, w, ha, hn, hl, hp, h => by
  simp only [Dm, Bool.and_eq_true, beq_iff_eq] at hp
  refine Em hp.1 (by simp) (fun j Y => ?_)
  simp only [List.mem_singleton] at Y
  subst Y
  exact wpOp_mono (fun a' w' Z => ⟨fun hx => absurd hx (by rw [Pm hn]; simp), I6 r fuel _ _ _ ha (Pm hn) (by simp [PL.depth] at hl; omega) hp.2 Z.2⟩) h
 | .drop i r, 0, _, _, _, _, _, hl, _, _ => by simp [PL.depth] at hl
 | .drop i r, fuel + 1, G, a, w, ha, hn, hl, hp, h => by
  simp only [Dm, Bool.and_eq_true, beq_iff_eq] at hp
  refine Em hp.1.1.1 (by simp) (fun j Y => ?_)
  simp only [List.mem_singleton] at Y
  subst Y
  exact wpOp_mono (fun a' w' Z => ⟨fun hx => absurd hx (by rw [Pm hn]; simp), I6 r fuel _ _ _ ha (Pm hn) (by simp [PL.depth] at hl; omega) hp.2 Z⟩) h
theorem Yt {P : Program} {ops : Array Oper} {Q : Exit → Act → World → Prop} {S : World → Prop} {X : List Nat} (hsel : Region.noSelect ops = true) (hQ : ∀ c a w, ¬ Q (.panic c) a w) :
  ∀ (pl : PL) (fuel : Nat) (G : Array Bool) (a : Act) (w : World), pl.depth ≤ fuel → Dm ops X pl G = true → Dt P ops Q S pl a w → F6 P ops Q S X fuel G a w := by
 intro pl
 induction pl with
 | nil =>
  intro fuel G a w _ Y h
  exact Ov (by simpa [Dm] using Y) h fuel
 | still i r ih =>
  intro fuel G a w hl Y h
  cases fuel with
  | zero => simp [PL.depth] at hl
  | succ fuel =>
   simp only [Dm, Bool.and_eq_true] at Y
   obtain ⟨⟨⟨hf, hr⟩, hb⟩, hp'⟩ := Y
   obtain ⟨o, v, ho, hy, hS, hrest⟩ := h
   exact Ys ho hsel hf hr hb (fun c a w hq => absurd hq (hQ _ _ _)) hy hS (ih fuel _ _ _ (by simp [PL.depth] at hl; omega) hp' hrest)
 | act i r ih =>
  intro fuel G a w hl Y h
  cases fuel with
  | zero => simp [PL.depth] at hl
  | succ fuel =>
   simp only [Dm, Bool.and_eq_true, beq_iff_eq] at Y
   obtain ⟨hr, hp'⟩ := Y
   refine Em hr (by simp) (fun j hj => ?_)
   simp only [List.mem_singleton] at hj
   subst hj
   exact wpOp_mono (fun a' w' O => ⟨fun _ => O.1, ih fuel _ _ _ (by simp [PL.depth] at hl; omega) hp' O.2⟩) h
 | two i j r1 r2 ih1 ih2 =>
  intro fuel G a w hl Y h
  cases fuel with
  | zero => simp [PL.depth] at hl
  | succ fuel =>
   simp only [Dm, Bool.and_eq_true, beq_iff_eq] at Y
   obtain ⟨⟨hr, hp1⟩, hp2⟩ := Y
   simp only [PL.depth] at hl
   refine Em hr (by simp) (fun k Z => ?_)
   simp only [List.mem_cons, List.not_mem_nil, or_false] at Z
   rcases Z with rfl | rfl
   ·exact wpOp_mono (fun a' w' O => ⟨fun _ => O.1, ih1 fuel _ _ _ (by omega) hp1 O.2⟩) h.1
   ·exact wpOp_mono (fun a' w' O => ⟨fun _ => O.1, ih2 fuel _ _ _ (by omega) hp2 O.2⟩) h.2
 | three i j k r1 r2 r3 ih1 ih2 ih3 =>
  intro fuel G a w hl Y h
  cases fuel with
  | zero => simp [PL.depth] at hl
  | succ fuel =>
   simp only [Dm, Bool.and_eq_true, beq_iff_eq] at Y
   obtain ⟨⟨⟨hr, hp1⟩, hp2⟩, hp3⟩ := Y
   simp only [PL.depth] at hl
   obtain ⟨hw1, hw2, hw3⟩ := h
   refine Em hr (by simp) (fun kk Z => ?_)
   simp only [List.mem_cons, List.not_mem_nil, or_false] at Z
   rcases Z with rfl | rfl | rfl
   ·exact wpOp_mono (fun a' w' O => ⟨fun _ => O.1, ih1 fuel _ _ _ (by omega) hp1 O.2⟩) hw1
   ·exact wpOp_mono (fun a' w' O => ⟨fun _ => O.1, ih2 fuel _ _ _ (by omega) hp2 O.2⟩) hw2
   ·exact wpOp_mono (fun a' w' O => ⟨fun _ => O.1, ih3 fuel _ _ _ (by omega) hp3 O.2⟩) hw3
 | four i j k l r1 r2 r3 r4 ih1 ih2 ih3 ih4 =>
  intro fuel G a w hl Y h
  cases fuel with
  | zero => simp [PL.depth] at hl
  | succ fuel =>
   simp only [Dm, Bool.and_eq_true, beq_iff_eq] at Y
   obtain ⟨⟨⟨⟨hr, hp1⟩, hp2⟩, hp3⟩, hp4⟩ := Y
   simp only [PL.depth] at hl
   obtain ⟨hw1, hw2, hw3, hw4⟩ := h
   refine Em hr (by simp) (fun kk Z => ?_)
   simp only [List.mem_cons, List.not_mem_nil, or_false] at Z
   rcases Z with rfl | rfl | rfl | rfl
   ·exact wpOp_mono (fun a' w' O => ⟨fun _ => O.1, ih1 fuel _ _ _ (by omega) hp1 O.2⟩) hw1
   ·exact wpOp_mono (fun a' w' O => ⟨fun _ => O.1, ih2 fuel _ _ _ (by omega) hp2 O.2⟩) hw2
   ·exact wpOp_mono (fun a' w' O => ⟨fun _ => O.1, ih3 fuel _ _ _ (by omega) hp3 O.2⟩) hw3
   ·exact wpOp_mono (fun a' w' O => ⟨fun _ => O.1, ih4 fuel _ _ _ (by omega) hp4 O.2⟩) hw4
 | five i j k l m r1 r2 r3 r4 r5 ih1 ih2 ih3 ih4 ih5 =>
  intro fuel G a w hl Y h
  cases fuel with
  | zero => simp [PL.depth] at hl
  | succ fuel =>
   simp only [Dm, Bool.and_eq_true, beq_iff_eq] at Y
   obtain ⟨⟨⟨⟨⟨hr, hp1⟩, hp2⟩, hp3⟩, hp4⟩, hp5⟩ := Y
   simp only [PL.depth] at hl
   obtain ⟨hw1, hw2, hw3, hw4, hw5⟩ := h
   refine Em hr (by simp) (fun kk Z => ?_)
   simp only [List.mem_cons, List.not_mem_nil, or_false] at Z
   rcases Z with rfl | rfl | rfl | rfl | rfl
   ·exact wpOp_mono (fun a' w' O => ⟨fun _ => O.1, ih1 fuel _ _ _ (by omega) hp1 O.2⟩) hw1
   ·exact wpOp_mono (fun a' w' O => ⟨fun _ => O.1, ih2 fuel _ _ _ (by omega) hp2 O.2⟩) hw2
   ·exact wpOp_mono (fun a' w' O => ⟨fun _ => O.1, ih3 fuel _ _ _ (by omega) hp3 O.2⟩) hw3
   ·exact wpOp_mono (fun a' w' O => ⟨fun _ => O.1, ih4 fuel _ _ _ (by omega) hp4 O.2⟩) hw4
   ·exact wpOp_mono (fun a' w' O => ⟨fun _ => O.1, ih5 fuel _ _ _ (by omega) hp5 O.2⟩) hw5
 | drop i r ih =>
  intro fuel G a w hl Y h
  cases fuel with
  | zero => simp [PL.depth] at hl
  | succ fuel =>
   simp only [Dm, Bool.and_eq_true, beq_iff_eq] at Y
   obtain ⟨⟨⟨hr, hx⟩, ha⟩, hp'⟩ := Y
   refine Em hr (by simp) (fun j hj => ?_)
   simp only [List.mem_singleton] at hj
   subst hj
   exact wpOp_mono (fun a' w' O => ⟨fun hn => absurd hn (by rw [bQ hx]; simp), I6 r fuel _ _ _ ha (bQ hx) (by simp [PL.depth] at hl; omega) hp' O⟩) h
 | par A r ih =>
  intro fuel G a w hl Y h
  obtain ⟨J, h0, hstep, hend⟩ := h
  simp only [PL.depth] at hl
  have main : ∀ (f : Nat) (D : List Nat) (G : Array Bool) (a : Act) (w : World) (fuel : Nat), f + r.depth ≤ fuel + 1 → S2 ops A (Dm ops X r) f D G = true → J D a w → F6 P ops Q S X fuel G a w := by
   intro f
   induction f with
   | zero => intro D G a w fuel _ Z; simp [S2] at Z
   | succ f ihf =>
    intro D G a w fuel hf Z hJ
    simp only [S2] at Z
    cases hall : A.all (fun p => D.contains p.1) with
    | true =>
     rw [hall, cond_true] at Z
     exact ih fuel G a w (by omega) Z (hend D a w (fun p Y => by simpa using List.all_eq_true.1 hall p Y) hJ)
    | false =>
     rw [hall, cond_false] at Z
     cases hr : Region.ready .any ops G with
     | nil => rw [hr] at Z; simp at Z
     | cons i l =>
      rw [hr] at Z
      simp only [] at Z
      cases fuel with
      | zero =>
       have hi := List.all_eq_true.1 Z i (by simp)
       simp only [Bool.and_eq_true] at hi
       have : f = 0 := by omega
       subst this
       simp [S2] at hi
      | succ fuel =>
       refine Em hr (by simp) (fun j hj => ?_)
       have hi := List.all_eq_true.1 Z j hj
       simp only [Bool.and_eq_true, Bool.not_eq_true', List.any_eq_true] at hi
       obtain ⟨⟨hD, ⟨j', ds⟩, hm, hb, hds⟩, hrec⟩ := hi
       have := nq hb
       dsimp only at this
       subst this
       exact wpOp_mono (fun a' w' O => ⟨fun _ => O.1, ihf _ _ _ _ fuel (by omega) hrec O.2⟩)
        (hstep D _ ds a w hm (fun d hd => by simpa using List.all_eq_true.1 hds d hd) (by simpa using hD) hJ)
  exact main (A.length + 1) [] G a w fuel (by omega) Y h0
theorem Sk {P : Program} {id : Nat} {G : Array Oper} {Q : Exit → Act → World → Prop} {S : World → Prop} {a : Act} {w : World} (Z : P.follows .mixedOrders = true) (pl : PL)
  (Y : S1 G pl = true) (hQ : ∀ c a w, ¬ Q (.panic c) a w) (hL : ¬ LetsOut Q) (h : Dt P G Q S pl a w.drew) : cw (Code.region id G true) P Q a w := by
 simp only [S1, Bool.and_eq_true] at Y
 obtain ⟨⟨h1, h2⟩, h3⟩ := Y
 have O := R0 _ _ _ _ (Yt h1 hQ pl G.size _ a _ (Nat.le_of_ble_eq_true h2) h3 h)
 intro ro hn
 cases ro with
 | none => exact wpIn_wide.2 (wp_region_any Z O)
 | some q => exact Ss Z (hn rfl) hL O
def tP (s : Az) : Option Tmp → Az
 | none => s
 | some d => s.filter fun p => !Nat.beq p.1 d
theorem Hb {d i : Nat} : ∀ {s : Az} {x : T}, get (s.filter fun p => !Nat.beq p.1 d) i = some x → i ≠ d ∧ get s i = some x
 | [], x, h => by simp [get] at h
 | (k, y) :: l, x, h => by
  cases hk : Nat.beq k d with
  | true =>
   simp only [List.filter, hk, Bool.not_true] at h
   obtain ⟨O, Y⟩ := Hb h
   have : k = d := nq hk
   refine ⟨O, ?_⟩
   have G : Nat.beq k i = false := by
    cases hb : Nat.beq k i with
    | false => rfl
    | true => exact absurd (by rw [← this, nq hb]) O
   simp [get, G, Y]
  | false =>
   simp only [List.filter, hk, Bool.not_false, get] at h
   cases hb : Nat.beq k i with
   | true =>
    simp only [hb, cond_true] at h
    have G := nq hb
    refine ⟨fun Z => ?_, by simp [get, hb, h]⟩
    rw [← Z, ← G] at hk
    simp at hk
   | false =>
    simp only [hb, cond_false] at h
    obtain ⟨O, Y⟩ := Hb h
    exact ⟨O, by simp [get, hb, Y]⟩
def free (s : Az) : Option Tmp → Bool
 | none => true
 | some d => s.all fun p => !Nat.beq p.1 d
theorem R8 {d i : Nat} : ∀ {s : Az} {x : T}, (s.all fun p => !Nat.beq p.1 d) = true → get s i = some x → i ≠ d
 | [], x, _, h => by simp [get] at h
 | (k, y) :: l, x, ha, h => by
  simp only [List.all_cons, Bool.and_eq_true, Bool.not_eq_true'] at ha
  simp only [get] at h
  cases hb : Nat.beq k i with
  | true =>
   have G := nq hb
   rintro rfl
   rw [hb] at ha; simp at ha
  | false =>
   simp only [hb, cond_false] at h
   exact R8 ha.2 h
theorem SR.free {s : Az} {H : GH} {a : Act} (r : SR n s H a) (dst : Option Tmp) (v : Value) (hf : free s dst = true) : SR n s H (a.put dst v) := by
 cases dst with
 | none => exact r
 | some d =>
  refine ⟨by simp [Act.put, r.size], fun i x h => ?_⟩
  have G := R8 hf h
  have O : (a.tmps.setIfInBounds d v).getD i undef = a.tmps.getD i undef := by
   simp [Array.getD_eq_getD_getElem?, Array.getElem?_setIfInBounds_ne (Ne.symm G)]
  simp only [Act.put]
  rw [O]; exact r.slots i x h
def Fb (s : Az) (dst : Option Tmp) (x : T) : Az :=
 match dst with
 | none => s
 | some d => (d, x) :: s
theorem SR.put {s : Az} {H : GH} {a : Act} (r : SR n s H a) {dst : Option Tmp} {v : Value} {x : T} (hv : VR H v x) (O : ∀ d, dst = some d → d < n) : SR n (Fb s dst x) H (a.put dst v) := by
 cases dst with
 | none => exact r
 | some d =>
  refine ⟨by simp [Act.put, r.size], fun i y h => ?_⟩
  simp only [Fb, get] at h
  simp only [Act.put]
  cases hb : Nat.beq d i with
  | true =>
   have := nq hb
   subst this
   simp only [hb, cond_true, Option.some.injEq] at h
   subst h
   have : d < a.tmps.size := by rw [r.size]; exact O d rfl
   simpa [Array.getD, this] using hv
  | false =>
   simp only [hb, cond_false] at h
   have G : d ≠ i := fun h => by rw [h] at hb; simp at hb
   have Y : (a.tmps.setIfInBounds d v).getD i undef = a.tmps.getD i undef := by
    simp [Array.getD_eq_getD_getElem?, Array.getElem?_setIfInBounds_ne G]
   rw [Y]; exact r.slots i y h
def AP (E : Env) (n : Nat) (C : Ctx) (Y : Array Oper) (O : List Nat) (G : List Ob) (pl : PL) (so : Az) (σ : St) (R : St → Prop) : Prop :=
 ∀ Hs Z H a w, SR n so Hs a → WR G Hs Z → Ke Hs G Z w → (∀ b o, Hs b = some o → H b = some o) →
  (∀ p, p ∈ G → ∃ i, O.contains i = true ∧ σ.objs[i]? = some p) → Gam n C σ H a w →
  Dt E.P Y (fun e a' w' => e = .normal ∧ ∃ σ' H', R σ' ∧ Gam n C σ' H' a' w') (Ke Hs G Z) pl a w
theorem AP.nil {Y : Array Oper} {O : List Nat} {G : List Ob} {so : Az} {R : St → Prop} (h : R σ) : AP E n C Y O G .nil so σ R :=
 fun _ _ H _ _ _ _ _ _ _ Z => ⟨rfl, σ, H, h, Z⟩
theorem Z2 {Y : Array Oper} {O : List Nat} {G : List Ob} {so : Az} {R : St → Prop} {i : Nat} {r : PL} {o : Oper} {x : T} (ho : Y[i]? = some o)
  (hy : Yd E.P n so G o x) (hg : o.guard = none) (hd : ∀ d, o.dst = some d → d < n) (k : AP E n C Y O G r (Fb so o.dst x) (σ.put o.dst x) R) :
  AP E n C Y O G (.still i r) so σ R := by
 intro Hs ws H a w sr wr ag hH hp gm
 obtain ⟨v, hv, Z⟩ := hy Hs a ws sr wr
 refine ⟨o, v, ho, .inl ⟨by simp [Region.wanted, hg], Z⟩, ag, ?_⟩
 exact k Hs ws H _ w (sr.put hv hd) wr ag hH (by cases h : o.dst <;> simpa [St.put, h] using hp) (gm.put (hv.mono hH) hd)
theorem AP.new {Y : Array Oper} {O : List Nat} {G : List Ob} {so : Az} {R : St → Prop} {i : Nat} {r : PL} {o : Oper} {x : T} (ho : Y[i]? = some o)
  (hy : Yp E.P n σ.slots o x) (hg : o.guard = none) (hd : ∀ d, o.dst = some d → d < n) (k : AP E n C Y O G r so (σ.put o.dst x) R) (hf : free so o.dst = true := by rfl) :
  AP E n C Y O G (.still i r) so σ R := by
 intro Hs ws H a w sr wr ag hH hp gm
 obtain ⟨v, hv, Z⟩ := hy H a gm.sr
 refine ⟨o, v, ho, .inl ⟨by simp [Region.wanted, hg], fun w' _ => Z w'⟩, ag, ?_⟩
 exact k Hs ws H _ w (sr.free _ _ hf) wr ag hH (by cases h : o.dst <;> simpa [St.put, h] using hp) (gm.put hv hd)
theorem AP.act {aa : Array Oper} {O : List Nat} {G : List Ob} {so : Az} {R : St → Prop} {i : Nat} {r : PL} {o : Oper} (md : List Nat) (ho : aa[i]? = some o)
  (hg : o.guard = none) (hm : (O.all fun i => !md.contains i) = true) (h : AX E n C md o σ (fun σ' => AP E n C aa O G r so σ' R)) (hf : free so o.dst = true := by rfl) :
  AP E n C aa O G (.act i r) so σ R := by
 intro Hs ws H a w sr wr ag hH hp gm
 have af : ∀ i, O.contains i = true → md.contains i = false := fun i hi => by
  have := (List.all_eq_true.1 hm) i (by simpa using hi)
  simpa using this
 simp only [Dt, wpOp, ho]
 rw [if_pos (by simp [Region.wanted, hg])]
 refine .inl (D2 ?_ (fun _ _ _ h => h.elim) (h H a w gm))
 rintro a' w' ⟨σ', H', v, hr, ac, ah, ad, ae⟩
 have ab : Ke Hs G ws w' := by
  refine ⟨fun b o hb => ac.held _ _ (ad _ _ (hH _ _ hb)), fun p Y b hb => ?_⟩
  obtain ⟨i, hi, Z⟩ := hp p Y
  exact ((ae i p Z (af i hi)).2 b hb).trans (ag.2 p Y b hb)
 refine ⟨ab, hr Hs ws H' a' w' (by rw [ah]; exact sr.free _ _ hf) wr ab (fun b o hb => ad _ _ (hH _ _ hb)) (fun p Y => ?_) ac⟩
 obtain ⟨i, hi, Z⟩ := hp p Y
 exact ⟨i, hi, (ae i p Z (af i hi)).1⟩
def tY := @AP.act
theorem AP.drop {O : Array Oper} {Z : List Nat} {Y : List Ob} {so : Az} {R : St → Prop} {i : Nat} {r : PL} {o : Oper} (md : List Nat) (hr : r.actsOnly = true) (ho : O[i]? = some o)
  (hg : o.guard = none) (h : AX E n C md o σ (fun σ' => AP E n C O [] [] r [] σ' R)) :
  AP E n C O Z Y (.drop i r) so σ R := by
 intro Hs ws H a w sr wr ag hH hp gm
 simp only [Dt, wpOp, ho]
 rw [if_pos (by simp [Region.wanted, hg])]
 refine .inl (D2 ?_ (fun _ _ _ h => h.elim) (h H a w gm))
 rintro a' w' ⟨σ', H', v, aa, G, ha', hHH, hfr⟩
 exact Ou r _ a' w' hr (aa H' w' H' a' w' ⟨G.size, fun i x h => by simp [get] at h⟩ ⟨by simp, G.held⟩ ⟨G.held, by simp⟩ (fun _ _ h => h) (by simp) G)
def uP := @AP.drop
theorem AP.skip {G : Array Oper} {Z : List Nat} {O : List Ob} {so : Az} {R : St → Prop} {i : Nat} {r : PL} {o : Oper} {j : Nat} {Y b : Bool} {t : Tmp} (ho : G[i]? = some o)
  (hg : o.guard = some (j, Y)) (hj : (G[j]?).bind (·.dst) = some t) (hs : get σ.slots t = some (.v (.bool b))) (hb : b = !Y) (hd : ∀ d, o.dst = some d → d < n)
  (k : AP E n C G Z O r so (σ.put o.dst (.v undef)) R) (hf : free so o.dst = true := by rfl) : AP E n C G Z O (.still i r) so σ R := by
 intro Hs ws H a w sr wr ag hH hp gm
 have hy := Fr gm.sr hj hs
 have hw : Region.wanted o (yielded G a.tmps) = false := by subst hb; cases Y <;> simp [Region.wanted, hg, hy]
 have hk := k Hs ws H _ w (sr.free o.dst undef hf) wr ag hH (by cases h : o.dst <;> simpa [St.put, h] using hp) (gm.put (.v undef) hd)
 exact ⟨o, undef, ho, .inr ⟨hw, rfl⟩, ag, hk⟩
theorem oF {G : Array Oper} {Z : List Nat} {O : List Ob} {so : Az} {R : St → Prop} {i : Nat} {r : PL} {o : Oper} {j : Nat} {Y b : Bool} {t : Tmp} (ho : G[i]? = some o)
  (hg : o.guard = some (j, Y)) (hj : (G[j]?).bind (·.dst) = some t) (hs : get σ.slots t = some (.v (.bool b))) (hb : b = !Y) (hd : ∀ d, o.dst = some d → d < n)
  (k : AP E n C G Z O r so (σ.put o.dst (.v undef)) R) (hf : free so o.dst = true := by rfl) : AP E n C G Z O (.act i r) so σ R := by
 intro Hs ws H a w sr wr ag hH hp gm
 have hy := Fr gm.sr hj hs
 have hw : Region.wanted o (yielded G a.tmps) = false := by subst hb; cases Y <;> simp [Region.wanted, hg, hy]
 have hk := k Hs ws H _ w (sr.free o.dst undef hf) wr ag hH (by cases h : o.dst <;> simpa [St.put, h] using hp) (gm.put (.v undef) hd)
 simp only [Dt, wpOp, ho]
 rw [if_neg (by simp [hw])]
 exact ⟨ag, hk⟩
theorem AP.two {Y : Array Oper} {O : List Nat} {G : List Ob} {so : Az} {R : St → Prop} {i j : Nat} {r1 r2 : PL} (h1 : AP E n C Y O G (.act i r1) so σ R) (h2 : AP E n C Y O G (.act j r2) so σ R) :
  AP E n C Y O G (.two i j r1 r2) so σ R :=
 fun Hs ws H a w sr wr Z hH hp gm => ⟨h1 Hs ws H a w sr wr Z hH hp gm, h2 Hs ws H a w sr wr Z hH hp gm⟩
def uK := @AP.two
theorem AP.three {Y : Array Oper} {O : List Nat} {G : List Ob} {so : Az} {R : St → Prop} {i j k : Nat} {r1 r2 r3 : PL} (h1 : AP E n C Y O G (.act i r1) so σ R) (h2 : AP E n C Y O G (.act j r2) so σ R) (h3 : AP E n C Y O G (.act k r3) so σ R) :
  AP E n C Y O G (.three i j k r1 r2 r3) so σ R :=
 fun Hs ws H a w sr wr Z hH hp gm => ⟨h1 Hs ws H a w sr wr Z hH hp gm, h2 Hs ws H a w sr wr Z hH hp gm, h3 Hs ws H a w sr wr Z hH hp gm⟩
def uT := @AP.three
theorem AP.four {Y : Array Oper} {O : List Nat} {G : List Ob} {so : Az} {R : St → Prop} {i j k l : Nat} {r1 r2 r3 r4 : PL} (h1 : AP E n C Y O G (.act i r1) so σ R) (h2 : AP E n C Y O G (.act j r2) so σ R) (h3 : AP E n C Y O G (.act k r3) so σ R) (h4 : AP E n C Y O G (.act l r4) so σ R) :
  AP E n C Y O G (.four i j k l r1 r2 r3 r4) so σ R :=
 fun Hs ws H a w sr wr Z hH hp gm => ⟨h1 Hs ws H a w sr wr Z hH hp gm, h2 Hs ws H a w sr wr Z hH hp gm, h3 Hs ws H a w sr wr Z hH hp gm, h4 Hs ws H a w sr wr Z hH hp gm⟩
theorem AP.five {Y : Array Oper} {O : List Nat} {G : List Ob} {so : Az} {R : St → Prop} {i j k l m : Nat} {r1 r2 r3 r4 r5 : PL} (h1 : AP E n C Y O G (.act i r1) so σ R) (h2 : AP E n C Y O G (.act j r2) so σ R) (h3 : AP E n C Y O G (.act k r3) so σ R) (h4 : AP E n C Y O G (.act l r4) so σ R) (h5 : AP E n C Y O G (.act m r5) so σ R) :
  AP E n C Y O G (.five i j k l m r1 r2 r3 r4 r5) so σ R :=
 fun Hs ws H a w sr wr Z hH hp gm => ⟨h1 Hs ws H a w sr wr Z hH hp gm, h2 Hs ws H a w sr wr Z hH hp gm, h3 Hs ws H a w sr wr Z hH hp gm, h4 Hs ws H a w sr wr Z hH hp gm, h5 Hs ws H a w sr wr Z hH hp gm⟩
theorem AP.weaken {G : Array Oper} {pl : PL} {so : Az} {R : St → Prop} {s : Az} {ob : List Ob} (hs : Sub s σ.slots) (ho : ob.Sublist σ.objs) (h : AP E n C G [] [] pl so ⟨s, ob⟩ R) :
  AP E n C G [] [] pl so σ R :=
 fun Hs ws H a w sr wr O Z _ Y => h Hs ws H a w sr wr O Z (by simp) (Y.weaken hs ho)
theorem Fv {O : Array Oper} {Y : List Nat} {G : List Ob} {so : Az} {R : St → Prop} {i : Nat} {r : PL} {op : Op} {x : T} {j : Nat} {Z b : Bool} {t : Tmp}
  (ho : O[i]? = some ⟨dst, op, ty, pos, aft, some (j, Z)⟩)
  (hj : (O[j]?).bind (·.dst) = some t) (hs : get σ.slots t = some (.v (.bool b))) (hb : b = Z)
  (hy : Yd E.P n so G ⟨dst, op, ty, pos, aft, none⟩ x) (hd : ∀ d, dst = some d → d < n) (k : AP E n C O Y G r (Fb so dst x) (σ.put dst x) R) :
  AP E n C O Y G (.still i r) so σ R := by
 intro Hs ws H a w sr wr ag hH hp gm
 obtain ⟨v, hv, aa⟩ := hy Hs a ws sr wr
 have ab := Fr gm.sr hj hs
 refine ⟨_, v, ho, .inl ⟨by simp [Region.wanted, ab, hb], aa⟩, ag, ?_⟩
 exact k Hs ws H _ w (sr.put hv hd) wr ag hH (by cases dst <;> simpa [St.put] using hp) (gm.put (hv.mono hH) hd)
theorem qM {O : Array Oper} {Y : List Nat} {G : List Ob} {so : Az} {R : St → Prop} {i : Nat} {r : PL} {op : Op} {x : T} {j : Nat} {Z b : Bool} {t : Tmp}
  (ho : O[i]? = some ⟨dst, op, ty, pos, aft, some (j, Z)⟩)
  (hj : (O[j]?).bind (·.dst) = some t) (hs : get σ.slots t = some (.v (.bool b))) (hb : b = Z)
  (hy : Yp E.P n σ.slots ⟨dst, op, ty, pos, aft, none⟩ x) (hd : ∀ d, dst = some d → d < n) (k : AP E n C O Y G r so (σ.put dst x) R) (hf : free so dst = true := by rfl) :
  AP E n C O Y G (.still i r) so σ R := by
 intro Hs ws H a w sr wr ag hH hp gm
 obtain ⟨v, hv, aa⟩ := hy H a gm.sr
 have hyi := Fr gm.sr hj hs
 refine ⟨_, v, ho, .inl ⟨by simp [Region.wanted, hyi, hb], fun w' _ => aa w'⟩, ag, ?_⟩
 exact k Hs ws H _ w (sr.free _ _ hf) wr ag hH (by cases dst <;> simpa [St.put] using hp) (gm.put hv hd)
theorem qN {aa : Array Oper} {O : List Nat} {G : List Ob} {so : Az} {R : St → Prop} {i : Nat} {r : PL} {op : Op} {j : Nat} {Y b : Bool} {t : Tmp} (md : List Nat)
  (ho : aa[i]? = some ⟨dst, op, ty, pos, aft, some (j, Y)⟩)
  (hj : (aa[j]?).bind (·.dst) = some t) (hs : get σ.slots t = some (.v (.bool b))) (hb : b = Y) (hm : (O.all fun i => !md.contains i) = true)
  (h : AX E n C md ⟨dst, op, ty, pos, aft, none⟩ σ (fun σ' => AP E n C aa O G r so σ' R)) (hf : free so dst = true := by rfl) :
  AP E n C aa O G (.act i r) so σ R := by
 intro Hs ws H a w sr wr ag hH hp gm
 have ah : ∀ i, O.contains i = true → md.contains i = false := fun i hi => by
  have := (List.all_eq_true.1 hm) i (by simpa using hi)
  simpa using this
 have aj := Fr gm.sr hj hs
 simp only [Dt, wpOp, ho]
 rw [if_pos (by simp [Region.wanted, aj, hb])]
 have e : ∀ K Q, Oper.wp E.P ⟨dst, op, ty, pos, aft, some (j, Y)⟩ a w K Q = Oper.wp E.P ⟨dst, op, ty, pos, aft, none⟩ a w K Q := fun _ _ => rfl
 rw [e]
 refine .inl (D2 ?_ (fun _ _ _ h => h.elim) (h H a w gm))
 rintro a' w' ⟨σ', H', v, hr, ad, ai, ae, af⟩
 have ac : Ke Hs G ws w' := by
  refine ⟨fun b o hb => ad.held _ _ (ae _ _ (hH _ _ hb)), fun p Z b hb => ?_⟩
  obtain ⟨i, hi, ab⟩ := hp p Z
  exact ((af i p ab (ah i hi)).2 b hb).trans (ag.2 p Z b hb)
 refine ⟨ac, hr Hs ws H' a' w' (by rw [ai]; exact sr.free _ _ hf) wr ac (fun b o hb => ae _ _ (hH _ _ hb)) (fun p Z => ?_) ad⟩
 obtain ⟨i, hi, ab⟩ := hp p Z
 exact ⟨i, hi, (af i p ab (ah i hi)).1⟩
theorem Gam.drew {H : GH} {a : Act} {w : World} (G : Gam n C σ H a w) : Gam n C σ H a w.drew :=
 { G with
  objs := fun p O => OR.mono (fun _ _ h => h) (fun _ _ => rfl) (G.objs p O)
  held := G.held, heap := G.heap, frame := G.frame }
theorem Ln {id : Nat} {Z : Array Oper} {Q : Exit → St → Prop} (pl : PL) (O : List Nat) (G : List Ob) (hB : S1 Z pl = true)
  (hp : O.map (fun i => σ.objs[i]?) = G.map some)
  (h : AP E n C Z O G pl σ.slots σ (fun σ' => Q .normal σ')) : AW E n C (.region id Z true) σ Q := by
 intro H a w gm
 have hpp : ∀ p, p ∈ G → ∃ i, O.contains i = true ∧ σ.objs[i]? = some p := by
  intro p Y
  have : some p ∈ O.map (fun i => σ.objs[i]?) := by rw [hp]; exact List.mem_map_of_mem Y
  obtain ⟨i, hi, he⟩ := List.mem_map.1 this
  exact ⟨i, by simpa using hi, he⟩
 refine Ji (Sk (S := Ke H G w.drew) E.mixed pl hB (Q := fun e a' w' => e = .normal ∧ ∃ σ' H', Q .normal σ' ∧ Gam n C σ' H' a' w') ?_ ?_ ?_) ?_
 ·rintro c a w ⟨h, _⟩; cases h
 ·rintro ⟨a, w, h, _⟩; cases h
 ·have gd := gm.drew
  exact h H w.drew H a w.drew gd.sr ⟨fun p Y => by obtain ⟨i, _, he⟩ := hpp p Y; exact gd.objs p (mg he), gd.held⟩ ⟨gd.held, fun _ _ _ _ => rfl⟩ (fun _ _ h => h) hpp gd
 ·rintro e a' w' ⟨rfl, σ', H', q, g'⟩
  exact ⟨σ', H', q, g'⟩
end
def Ei : T → Option (List T)
 | .agg cs => some cs
 | .v x => bif x.oneCell' then some [.v x] else none
 | .list sz es => some [.list sz es]
 | .eptr l => some [.eptr l]
 | .tup _ => none
 | .fn f fs cs => some [.fn f fs cs]
def AR (H : GH) (arr : Array Value) (l : List T) : Prop := arr.size = l.length ∧ ∀ (j : Nat) (x : T), l[j]? = some x → CR H (arr.getD j undef) x
theorem Tq {v : Value} (h : v.oneCell' = true) : v.cells = #[v] := by cases v <;> simp_all [Value.cells, Value.oneCell']
theorem AR.one {H : GH} {v : Value} {x : T} (h1 : v.oneCell' = true) (h : VR H v x) : AR H #[v] [x] := by
 refine ⟨rfl, fun j y G => ?_⟩
 cases j with
 | zero => simp at G; subst G; exact ⟨h1, h⟩
 | succ j => simp at G
theorem I9 {H : GH} {v : Value} {y : T} {cs : List T} (h : VR H v y) (hc : Ei y = some cs) : AR H v.cells cs := by
 cases y with
 | v x =>
  have := h.v_eq
  subst this
  simp only [Ei] at hc
  cases ho : v.oneCell' with
  | false => simp [ho] at hc
  | true =>
   simp only [ho, cond_true, Option.some.injEq] at hc
   subst hc
   rw [Tq ho]
   exact .one ho h
 | list sz es =>
  simp only [Ei, Option.some.injEq] at hc
  subst hc
  obtain ⟨a, Y, rfl⟩ := h.list_slice
  exact .one rfl h
 | agg l =>
  simp only [Ei, Option.some.injEq] at hc
  subst hc
  cases h with
  | agg vs cs hl G hv => exact ⟨hl, fun j x O => ⟨G j x O, hv j x O⟩⟩
 | tup l => simp [Ei] at hc
 | fn f fs cs =>
  simp only [Ei, Option.some.injEq] at hc
  subst hc
  have G : v.oneCell' = true := by cases h; rfl
  rw [Tq G]
  exact .one G h
 | eptr l =>
  simp only [Ei, Option.some.injEq] at hc
  subst hc
  obtain ⟨b, o, rfl⟩ := h.eptr_ptr
  exact .one rfl h
theorem AR.all1 {H : GH} {arr : Array Value} {l : List T} (h : AR H arr l) : ∀ v, v ∈ arr.toList → v.oneCell' = true := by
 intro v hv
 obtain ⟨j, hj, Y⟩ := List.getElem_of_mem hv
 have G : j < arr.size := by simpa using hj
 have O : j < l.length := by rw [← h.1]; exact G
 have := (h.2 j l[j] (gq O)).1
 have Z : arr.getD j undef = v := by
  rw [Array.getD_eq_getD_getElem?, Array.getElem?_eq_getElem G]
  simpa using Y
 rwa [Z] at this
def Fo : List T → Nat → List T → List T
 | [], _, _ => []
 | e, 0, [] => e
 | _ :: e, 0, c :: cs => c :: Fo e 0 cs
 | x :: e, j + 1, cs => x :: Fo e j cs
theorem F0 : ∀ (l : List T) (j : Nat) (cs : List T), (Fo l j cs).length = l.length
 | [], _, _ => rfl
 | _ :: _, 0, [] => rfl
 | _ :: e, 0, _ :: cs => by simp [Fo, F0 e 0 cs]
 | _ :: e, j + 1, cs => by simp [Fo, F0 e j cs]
theorem L7 : ∀ (l : List T) (j : Nat) (cs : List T) (i : Nat) (x : T), (Fo l j cs)[i]? = some x →
  (j ≤ i ∧ i < j + cs.length ∧ cs[i - j]? = some x) ∨ ((i < j ∨ j + cs.length ≤ i) ∧ l[i]? = some x)
 | [], _, _, i, x, h => by simp [Fo] at h
 | y :: e, 0, [], i, x, h => .inr ⟨by simp, h⟩
 | y :: e, 0, c :: cs, i, x, h => by
  simp only [Fo] at h
  cases i with
  | zero => left; simp at h; exact ⟨by omega, by simp, by simp [h]⟩
  | succ i =>
   simp only [List.getElem?_cons_succ] at h
   rcases L7 e 0 cs i x h with ⟨O, G, Y⟩ | ⟨O, G⟩
   ·left; exact ⟨by omega, by simp; omega, by simpa using Y⟩
   ·right; refine ⟨by simp; omega, by simpa using G⟩
 | y :: e, j + 1, cs, i, x, h => by
  simp only [Fo] at h
  cases i with
  | zero => right; simp at h; exact ⟨by omega, by simp [h]⟩
  | succ i =>
   simp only [List.getElem?_cons_succ] at h
   rcases L7 e j cs i x h with ⟨O, G, Y⟩ | ⟨O, G⟩
   ·left; exact ⟨by omega, by omega, by rw [show i + 1 - (j + 1) = i - j by omega]; exact Y⟩
   ·right; exact ⟨by omega, by simpa using G⟩
section
variable {E : Env} {n : Nat} {C : Ctx} {σ : St} {dst : Option Tmp} {ty : TypeId} {pos : String} {aft : Array Edge} {g : Option (Nat × Bool)}
theorem UsR.lt {H : GH} {w : World} {v : Value} {ty sz : Nat} {es : List (List T)} (h : UsR H w v ty sz es) : ∀ b, b ∈ F5 v → b < w.heap.size := by
 intro b G
 rcases h with ⟨rfl, _⟩ | ⟨Z, c, Y, rfl, _, _, cs, O, _⟩
 ·simp [F5] at G
 ·simp [F5] at G; subst G; exact (Array.getElem?_eq_some_iff.1 O).1
theorem Rb : ∀ {vs : List Value} {L : List (Option (List (List T)))} {b : Nat}, b ∈ Dw vs L → ∃ (i : Nat) (v : Value) (es : List (List T)), vs[i]? = some v ∧ L[i]? = some (some es) ∧ b ∈ F5 v
 | v :: vs, some es :: L, b, h => by
  simp only [Dw, List.mem_append] at h
  rcases h with h | h
  ·exact ⟨0, v, es, rfl, rfl, h⟩
  ·obtain ⟨i, v, es, G, O, Y⟩ := Rb h
   exact ⟨i + 1, v, es, by simpa using G, by simpa using O, Y⟩
 | v :: vs, none :: L, b, h => by
  simp only [Dw] at h
  obtain ⟨i, v, es, G, O, Y⟩ := Rb h
  exact ⟨i + 1, v, es, by simpa using G, by simpa using O, Y⟩
 | [], _, b, h => by simp [Dw] at h
 | _ :: _, [], b, h => by simp [Dw] at h
theorem OR.lt {H : GH} {w : World} {o : Ob} (h : OR H w o) : ∀ b, b ∈ o.fp → b < w.heap.size := by
 intro b G
 cases o with
 | arr b' ty sz cap O => simp only [Ob.fp, List.mem_singleton] at G; subst G; obtain ⟨cs, Y, _⟩ := h; exact (Array.getElem?_eq_some_iff.1 Y).1
 | us v ty sz O => exact UsR.lt h b G
 | uss v ty tyi szi vs L =>
  obtain ⟨_, Z, h2⟩ := h
  simp only [Ob.fp, List.mem_append] at G
  rcases G with G | G
  ·exact Z.lt b G
  ·obtain ⟨i, x, O, q1, q2, q3⟩ := Rb G
   exact (h2 i x O q1 q2).lt b q3
 | raw b' o => simp only [Ob.fp, List.mem_singleton] at G; subst G; exact (Array.getElem?_eq_some_iff.1 h).1
theorem Mc {α : Type} : ∀ {l : List α} {k : Nat} {x : α}, l[k]? = some x → ∃ G O, l = G ++ x :: O ∧ G.length = k ∧ (∀ y, l.set k y = G ++ y :: O) ∧ l.eraseIdx k = G ++ O
 | [], k, x, h => by simp at h
 | a :: l, 0, x, h => by simp at h; subst h; exact ⟨[], l, rfl, rfl, fun _ => rfl, rfl⟩
 | a :: l, k + 1, x, h => by
  obtain ⟨G, O, Y, Z, h3, h4⟩ := Mc (l := l) (k := k) (by simpa using h)
  exact ⟨a :: G, O, by rw [Y]; rfl, by simp [Z], fun y => by simp [h3 y], by simp [h4]⟩
theorem S3 {α : Type} {f : α → List Nat} {l : List α} (O : (l.flatMap f).Nodup) {k i : Nat} {p q : α} (Z : l[k]? = some p) (hi : l[i]? = some q) (aa : k ≠ i) : ∀ b, b ∈ f p → b ∉ f q := by
 obtain ⟨l1, l2, rfl, h2, _, _⟩ := Mc Z
 intro b G Y
 rw [List.flatMap_append, List.flatMap_cons, List.nodup_append, List.nodup_append] at O
 obtain ⟨_, ⟨_, _, n2⟩, n3⟩ := O
 rcases Nat.lt_or_ge i k with h | h
 ·rw [List.getElem?_append_left (by omega)] at hi
  exact n3 b (List.mem_flatMap.2 ⟨q, mg hi, Y⟩) b (by simp [G]) rfl
 ·rw [List.getElem?_append_right (by omega), show i - l1.length = (i - k - 1) + 1 by omega, List.getElem?_cons_succ] at hi
  exact n2 b G b (List.mem_flatMap.2 ⟨q, mg hi, Y⟩) rfl
theorem X4 {α : Type} {f : α → List Nat} {l : List α} (hn : (l.flatMap f).Nodup) {k : Nat} {p q : α} (hk : l[k]? = some p) (hq : (f q).Nodup) (hd : ∀ b, b ∈ f q → b ∈ f p ∨ ∀ x, x ∈ l → b ∉ f x) : ((l.set k q).flatMap f).Nodup := by
 obtain ⟨l1, l2, rfl, h2, h3, _⟩ := Mc hk
 rw [h3]
 rw [List.flatMap_append, List.flatMap_cons, List.nodup_append, List.nodup_append] at hn ⊢
 obtain ⟨n0, ⟨n1, n1', n2⟩, n3⟩ := hn
 refine ⟨n0, ⟨hq, n1', ?_⟩, ?_⟩
 ·intro b Z c G O
  subst O
  rcases hd b Z with h | h
  ·exact n2 b h b G rfl
  ·obtain ⟨x, hx, Y⟩ := List.mem_flatMap.1 G
   exact h x (by simp [hx]) Y
 ·intro b Z c G O
  subst O
  rcases List.mem_append.1 G with G | G
  ·rcases hd b G with h | h
   ·exact n3 b Z b (by simp [h]) rfl
   ·obtain ⟨x, hx, Y⟩ := List.mem_flatMap.1 Z
    exact h x (by simp [hx]) Y
  ·exact n3 b Z b (by rw [List.mem_append]; exact .inr G) rfl
theorem Gam.H_lt {H : GH} {a : Act} {w : World} (G : Gam n C σ H a w) {b : Nat} (hb : w.heap.size ≤ b) : H b = none := by
 cases h : H b with
 | none => rfl
 | some o => have := (Array.getElem?_eq_some_iff.1 (G.held b o h)).1; omega
theorem Gam.world {H : GH} {a : Act} {w w' : World} (G : Gam n C σ H a w) {objs : List Ob} (row : Nat → Prop) (ab : w'.os = w.os ∧ w'.tape = w.tape ∧ w'.output = w.output) (hsz : w.heap.size ≤ w'.heap.size)
  (hk : ∀ k, k < w.heap.size → ¬ row k → w'.heap[k]? = w.heap[k]?) (ac : ∀ k, row k → k < w.heap.size → ∃ o, o ∈ σ.objs ∧ k ∈ o.fp)
  (ho : ∀ p, p ∈ objs → (p ∈ σ.objs ∧ ∀ b, b ∈ p.fp → ¬ row b) ∨ (OR H w' p ∧ ∀ b, b ∈ p.fp → w.heap.size ≤ b ∨ ∃ o, o ∈ σ.objs ∧ b ∈ o.fp))
  (hn : (objs.flatMap Ob.fp).Nodup) : Gam n C ⟨σ.slots, objs⟩ H a w' := by
 have Z : ∀ k o, o ∈ σ.objs → k ∈ o.fp → H k = none ∧ (C.w0.heap.size ≤ k ∨ k ∈ C.fp) := fun k o h hk => ⟨G.free _ h k hk, G.new _ h k hk⟩
 refine ⟨G.defers, G.size, G.slots, ?_, ?_, ?_, hn, ?_, G.grow, Nat.le_trans G.heap hsz, ?_, ⟨ab.1.trans G.env.1, ab.2.1.trans G.env.2.1, ab.2.2.trans G.env.2.2⟩⟩
 ·intro p hp
  rcases ho p hp with ⟨h1, O⟩ | ⟨h1, _⟩
  ·have := G.objs p h1
   exact this.mono (fun _ _ h => h) (fun b Y => hk _ (this.lt b Y) (O b Y))
  ·exact h1
 ·intro p hp b Y
  rcases ho p hp with ⟨h1, _⟩ | ⟨_, O⟩
  ·exact G.free p h1 b Y
  ·rcases O b Y with O | ⟨o, O, h3⟩
   ·exact G.H_lt O
   ·exact (Z _ _ O h3).1
 ·intro p hp b Y
  rcases ho p hp with ⟨h1, _⟩ | ⟨_, O⟩
  ·exact G.new p h1 b Y
  ·rcases O b Y with O | ⟨o, O, h3⟩
   ·exact .inl (Nat.le_trans G.heap O)
   ·exact (Z _ _ O h3).2
 ·intro b o Y
  have aa := (Array.getElem?_eq_some_iff.1 (G.held b o Y)).1
  have : ¬ row b := fun hr => by
   obtain ⟨o', h, h'⟩ := ac b hr aa
   rw [(Z _ _ h h').1] at Y; cases Y
  rw [hk b aa this]; exact G.held b o Y
 ·intro b Y hf
  have aa := Nat.lt_of_lt_of_le Y G.heap
  have : ¬ row b := fun hr => by
   obtain ⟨o', h, h'⟩ := ac b hr aa
   rcases (Z _ _ h h').2 with O | O
   ·omega
   ·exact hf O
  rw [hk b aa this]; exact G.frame b Y hf
theorem Gam.more {H : GH} {a : Act} {w w' : World} (Y : Gam n C σ H a w) {ob : Ob} (G : w'.os = w.os ∧ w'.tape = w.tape ∧ w'.output = w.output) (hsz : w.heap.size ≤ w'.heap.size)
  (hk : ∀ k, k < w.heap.size → w'.heap[k]? = w.heap[k]?) (h : OR H w' ob) (hf : ∀ b, b ∈ ob.fp → w.heap.size ≤ b) (ab : ob.fp.Nodup) : Gam n C ⟨σ.slots, σ.objs ++ [ob]⟩ H a w' := by
 refine Y.world (fun _ => False) G hsz (fun k aa _ => hk k aa) (fun _ h => h.elim) ?_ ?_
 ·intro p hp
  rcases List.mem_append.1 hp with O | O
  ·exact .inl ⟨O, fun _ _ h => h⟩
  ·simp only [List.mem_singleton] at O; subst O; exact .inr ⟨h, fun b hb => .inl (hf b hb)⟩
 ·rw [List.flatMap_append, List.nodup_append]
  refine ⟨Y.nodup, by simpa using ab, ?_⟩
  intro x hx y hy hxy
  subst hxy
  simp only [List.flatMap_cons, List.flatMap_nil, List.append_nil] at hy
  obtain ⟨p, hp, Z⟩ := List.mem_flatMap.1 hx
  have := (Y.objs p hp).lt x Z
  have := hf x hy
  omega
theorem Gam.alloc {H : GH} {a : Act} {w : World} (G : Gam n C σ H a w) {o : Obj} {ob : Ob} (h : OR H (w.alloc o) ob) (hf : ob.fp = [w.heap.size]) : Gam n C ⟨σ.slots, σ.objs ++ [ob]⟩ H a (w.alloc o) :=
 G.more ⟨rfl, rfl, rfl⟩ (by show w.heap.size ≤ (w.heap.push o).size; simp) (fun k O => heap_alloc_old w o O) h (by rw [hf]; simp) (by rw [hf]; simp)
theorem OR.box {H : GH} {w : World} {t : TypeId} {arr : Array Value} {l : List T} {b : Nat} (h : w.heap[b]? = some (.cells arr t (0, 0))) (O : AR H arr l) : OR H w (.arr b t l.length 1 [l]) := by
 refine ⟨arr, h, by rw [O.1]; omega, by simp, by simp [Hf], ?_, ?_⟩
 ·intro i e G
  cases i with
  | zero => simp at G; subst G; rfl
  | succ i => simp at G
 ·intro i e G j x Y
  cases i with
  | zero => simp at G; subst G; simpa using O.2 j x Y
  | succ i => simp at G
theorem AX.value {md : List Nat} {o : Oper} {R : St → Prop}
  (h : ∀ H a w, Gam n C σ H a w → ∃ v w' s' H', (execOp a.eval o).run E.P w = .ok (.value v) w' ∧ R s' ∧ Gam n C s' H' (a.put o.dst v) w' ∧ (∀ b o, H b = some o → H' b = some o) ∧
   ∀ i p, σ.objs[i]? = some p → md.contains i = false → s'.objs[i]? = some p ∧ ∀ b, b ∈ p.fp → w'.heap[b]? = w.heap[b]?) : AX E n C md o σ R := by
 intro H a w G
 obtain ⟨v, w', s', H', O, Y, Z, h4, h5⟩ := h H a w G
 simp only [Oper.wp, O, Oper.upon]
 exact ⟨s', H', v, Y, Z, rfl, h4, h5⟩
theorem AX.skip {md : List Nat} {o : Oper} {R : St → Prop}
  (h : ∀ H a w, Gam n C σ H a w → ∃ w' s' H', (execOp a.eval o).run E.P w = .ok .skip w' ∧ R s' ∧ Gam n C s' H' (a.put o.dst undef) w' ∧ (∀ b o, H b = some o → H' b = some o) ∧
   ∀ i p, σ.objs[i]? = some p → md.contains i = false → s'.objs[i]? = some p ∧ ∀ b, b ∈ p.fp → w'.heap[b]? = w.heap[b]?) : AX E n C md o σ R := by
 intro H a w G
 obtain ⟨w', s', H', O, Y, Z, h4, h5⟩ := h H a w G
 simp only [Oper.wp, O, Oper.upon]
 exact ⟨s', H', undef, Y, Z, rfl, h4, h5⟩
theorem Fj {objs : List Ob} {x : Ob} {i : Nat} {p : Ob} (h : objs[i]? = some p) : (objs ++ [x])[i]? = some p := by
 rw [List.getElem?_append_left (gs h).1]; exact h
theorem AX.alloc {t : TypeId} {ti : TI} {z : Value} {cs : List T} {R : St → Prop} (ht : E.tab t = some ti) (hz : ti.zero = some z) (hc : z.cells.toList.map T.v = cs) (h1 : z.cells.toList.all (·.oneCell') = true) {m : Nat} (hm : cs.length = m)
  (hd : ∀ d, dst = some d → d < n) (k : ∀ b, R ⟨Fb σ.slots dst (.v (.pointer (some ⟨b, 0, none⟩))), σ.objs ++ [(.arr b t m 1 [cs])]⟩) :
  AX E n C [] ⟨dst, .alloc t, ty, pos, aft, g⟩ σ R := by
 refine AX.value fun H a w Z => ?_
 have O : AR H z.cells cs := by
  subst hc
  refine ⟨by simp, fun j x hx => ?_⟩
  simp only [List.getElem?_map, Option.map_eq_some_iff] at hx
  obtain ⟨v, hv, rfl⟩ := hx
  have Y : z.cells.getD j undef = v := by
   rw [Array.getD_eq_getD_getElem?, ← Array.getElem?_toList, hv]; rfl
  rw [Y]
  exact ⟨List.all_eq_true.1 h1 v (mg hv), .v v⟩
 have G : OR H (w.alloc (.cells z.cells t)) (.arr w.heap.size t cs.length 1 [cs]) := OR.box (heap_alloc_new w _) O
 rw [hm] at G
 refine ⟨.pointer (some ⟨w.heap.size, 0, none⟩), w.alloc (.cells z.cells t), _, H, ?_, k w.heap.size, ?_, fun _ _ h => h, ?_⟩
 ·simp [execOp, Instr.alloc, Ex (E.ok _ _ ht) w hz, newVar, newRow]
 ·have := (Z.alloc G rfl).put (dst := dst) (.v (.pointer (some ⟨w.heap.size, 0, none⟩))) hd
  cases dst <;> exact this
 ·intro i p hp _
  exact ⟨Fj hp, fun b hb => heap_alloc_old w _ ((Z.objs p (mg hp)).lt b hb)⟩
theorem AX.box {t : TypeId} {x : Operand} {y : T} {cs : List T} {R : St → Prop} (hx : Bg σ.slots x = some y) (hc : Ei y = some cs) {m : Nat} (hm : cs.length = m)
  (hd : ∀ d, dst = some d → d < n) (k : ∀ b, R ⟨Fb σ.slots dst (.v (.pointer (some ⟨b, 0, none⟩))), σ.objs ++ [(.arr b t m 1 [cs])]⟩) :
  AX E n C [] ⟨dst, .box t x, ty, pos, aft, g⟩ σ R := by
 refine AX.value fun H a w O => ?_
 have Y := I9 (O.sr.eval hx) hc
 have G : OR H (w.alloc (.cells (a.eval x).cells t)) (.arr w.heap.size t cs.length 1 [cs]) := OR.box (heap_alloc_new w _) Y
 rw [hm] at G
 refine ⟨.pointer (some ⟨w.heap.size, 0, none⟩), w.alloc (.cells (a.eval x).cells t), _, H, ?_, k w.heap.size, ?_, fun _ _ h => h, ?_⟩
 ·simp [execOp, Instr.box, newVar, newRow]
 ·have := (O.alloc G rfl).put (dst := dst) (.v (.pointer (some ⟨w.heap.size, 0, none⟩))) hd
  cases dst <;> exact this
 ·intro i p Z _
  exact ⟨Fj Z, fun b hb => heap_alloc_old w _ ((O.objs p (mg Z)).lt b hb)⟩
theorem Jm {objs : List Ob} {k i : Nat} {x p : Ob} (h : objs[i]? = some p) (hi : k ≠ i) : (objs.set k x)[i]? = some p := by
 rw [List.getElem?_set_ne hi]; exact h
theorem Gam.set {H : GH} {a : Act} {w w' : World} (gm : Gam n C σ H a w) {k : Nat} {o o' : Ob} (hk : σ.objs[k]? = some o) (Z : w'.os = w.os ∧ w'.tape = w.tape ∧ w'.output = w.output) (hsz : w.heap.size ≤ w'.heap.size)
  (hot : ∀ i, i < w.heap.size → i ∉ o.fp → w'.heap[i]? = w.heap[i]?) (hor : OR H w' o') (aa : ∀ b, b ∈ o'.fp → w.heap.size ≤ b ∨ b ∈ o.fp) (hnd : o'.fp.Nodup) : Gam n C ⟨σ.slots, σ.objs.set k o'⟩ H a w' := by
 have hm := mg hk
 refine gm.world (fun i => i ∈ o.fp) Z hsz hot (fun i hi _ => ⟨o, hm, hi⟩) ?_ ?_
 ·intro p hp
  obtain ⟨i, hi, he⟩ := List.getElem_of_mem hp
  have G : (σ.objs.set k o')[i]? = some p := by rw [gq hi, he]
  by_cases O : k = i
  ·subst O
   rw [List.getElem?_set_self (gs hk).1] at G
   cases G
   exact .inr ⟨hor, fun b Y => (aa b Y).imp id (fun h => ⟨o, hm, h⟩)⟩
  ·rw [List.getElem?_set_ne O] at G
   exact .inl ⟨mg G, fun b Y hb' => S3 gm.nodup hk G O b hb' Y⟩
 ·refine X4 gm.nodup hk hnd (fun b Y => ?_)
  rcases aa b Y with h | h
  ·exact .inr fun x hx hbx => by have := (gm.objs x hx).lt b hbx; omega
  ·exact .inl h
theorem Gam.apart {H : GH} {a : Act} {w : World} (O : Gam n C σ H a w) {k i : Nat} {p q : Ob} (Y : σ.objs[k]? = some p) (hi : σ.objs[i]? = some q) (G : k ≠ i) : ∀ b, b ∈ q.fp → b ∉ p.fp :=
 fun b hq Z => S3 O.nodup Y hi G b Z hq
theorem Ox (w : World) (g : Nat) (cs : Array Value) : (w.setRow g cs).heap.size = w.heap.size := by simp [World.setRow]
theorem Rv {G : Array Value} {vs : List Value} {o i : Nat} (hl : o + vs.length ≤ G.size) :
  ((G.toList.take o ++ vs ++ G.toList.drop (o + vs.length)).toArray).getD i undef = if o ≤ i ∧ i < o + vs.length then vs.getD (i - o) undef else G.getD i undef := by
 simp only [Array.getD_eq_getD_getElem?, List.getElem?_toArray, List.getElem?_append, List.length_append, List.length_take, Array.length_toList, List.getElem?_drop, List.getElem?_take, Array.getElem?_toList, List.getD]
 by_cases O : i < o
 ·have : min o G.size = o := by omega
  simp [this, O, show i < o + vs.length by omega, show ¬ o ≤ i by omega]
 ·have : min o G.size = o := by omega
  by_cases Y : i < o + vs.length
  ·simp [this, O, Y, show o ≤ i by omega]
  ·simp [this, O, Y, show o + vs.length + (i - (o + vs.length)) = i by omega]
theorem La {H : GH} {a : Act} {w : World} {s : Az} (r : SR n s H a) {t : TypeId} {x y : Operand} {ti : TI} {c : T} {cs : List T} {b off tt sz cap : Nat} {es : List (List T)} (i j : Nat) {e : List T}
  (ht : E.tab t = some ti) (hx : Bg s x = some (.v (.pointer (some ⟨b, off, none⟩)))) (hor : ArrR H w b tt sz cap es) (he : es[i]? = some e) (ho : off = i * sz + j)
  (hy : Bg s y = some c) (hc : Ei c = some cs) (hsz : ti.size = cs.length) (hj : j + cs.length ≤ e.length) :
  ∃ w', (execOp a.eval ⟨none, .store t x y, ty, pos, aft, g⟩).run E.P w = .ok .skip w' ∧ ArrR H w' b tt sz cap (es.set i (Fo e j cs)) ∧ (w'.os = w.os ∧ w'.tape = w.tape ∧ w'.output = w.output) ∧ w'.heap.size = w.heap.size ∧
   ∀ i, i ≠ b → w'.heap[i]? = w.heap[i]? := by
 obtain ⟨Y, a1, a2, a3, a4, a5, a6⟩ := hor
 have Z := I9 (r.eval hy) hc
 have hil := (gs he).1
 have hel := a5 i e he
 have hmul : (i + 1) * sz ≤ cap * sz := Nat.mul_le_mul_right _ (by omega)
 rw [Nat.succ_mul] at hmul
 have O : (a.eval y).cells.toList.length = cs.length := by simpa using Z.1
 have ab := run_storeCells_at (P := E.P) b off tt (a.eval y).cells.toList 0 Y w a1 (by rw [O]; omega) Z.all1
 simp only [Nat.add_zero] at ab
 refine ⟨w.setRow b (Y.toList.take off ++ (a.eval y).cells.toList ++ Y.toList.drop (off + (a.eval y).cells.toList.length)).toArray, ?_, ?_, ⟨rfl, rfl, rfl⟩, Ox _ _ _, fun i hi => setRow_other w b i _ hi⟩
 ·simp [execOp, Instr.storeAt, Instr.sureAddr, r.evalv hx, storeVar, Cy (E.ok _ _ ht), hsz, show (a.eval y).cells.size = cs.length from Z.1] at ab ⊢
  simp [ab]
 ·refine ⟨_, setRow_heap w b Y _ tt _ a1, ?_, by simpa using a3, by simpa using a4, ?_, ?_⟩
  ·simp only [List.size_toArray, List.length_append, List.length_take, List.length_drop, Array.length_toList, O]
   omega
  ·intro i' e' G
   rw [List.getElem?_set] at G
   split at G
   ·simp only [hil, if_true, Option.some.injEq] at G
    subst G; rw [F0]; exact hel
   ·exact a5 i' e' G
  ·intro i' e' G j' x' ac
   rw [Rv (by rw [O]; omega)]
   rw [List.getElem?_set] at G
   split at G
   ·rename_i aa
    subst aa
    simp only [hil, if_true, Option.some.injEq] at G
    subst G
    rcases L7 e j cs j' x' ac with ⟨q1, q2, q3⟩ | ⟨q1, q2⟩
    ·rw [if_pos (by rw [O]; omega)]
     have := Z.2 _ _ q3
     rw [show i * sz + j' - off = j' - j by omega]
     rw [Array.getD_eq_getD_getElem?, ← Array.getElem?_toList] at this
     simpa [List.getD] using this
    ·rw [if_neg (by rw [O]; omega)]
     exact a6 i e he j' x' q2
   ·rename_i aa
    have hj'l := (gs ac).1
    have hel' := a5 i' e' G
    rw [if_neg ?_]
    ·exact a6 i' e' G j' x' ac
    ·rw [O]
     rintro ⟨q1, q2⟩
     rcases Nat.lt_or_gt_of_ne aa with h | h
     ·have : (i + 1) * sz ≤ i' * sz := Nat.mul_le_mul_right _ h
      rw [Nat.succ_mul] at this; omega
     ·have : (i' + 1) * sz ≤ i * sz := Nat.mul_le_mul_right _ h
      rw [Nat.succ_mul] at this; omega
theorem AX.store (k : Nat) {t : TypeId} {x y : Operand} {ti : TI} {c : T} {cs : List T} {b off tt sz cap : Nat} {es es' : List (List T)} (i j : Nat) {e : List T} {R : St → Prop}
  (ht : E.tab t = some ti) (hx : Bg σ.slots x = some (.v (.pointer (some ⟨b, off, none⟩)))) (hk : σ.objs[k]? = some (.arr b tt sz cap es)) (he : es[i]? = some e) (ho : off = i * sz + j)
  (hy : Bg σ.slots y = some c) (hc : Ei c = some cs) (hsz : ti.size = cs.length) (hj : j + cs.length ≤ e.length) (hd : dst = none) (Z : es.set i (Fo e j cs) = es')
  (kk : R ⟨σ.slots, σ.objs.set k (.arr b tt sz cap es')⟩) :
  AX E n C [k] ⟨dst, .store t x y, ty, pos, aft, g⟩ σ R := by
 subst hd
 subst Z
 refine AX.skip fun H a w O => ?_
 obtain ⟨w', h1, h2, h3, h4, h5⟩ := La (ty := ty) (pos := pos) (aft := aft) (g := g) O.sr i j ht hx (O.objs _ (mg hk)) he ho hy hc hsz hj
 refine ⟨w', _, H, h1, kk, ?_, fun _ _ h => h, fun i' p hp hm => ?_⟩
 ·exact O.set hk h3 (by omega) (fun i _ hi => h5 i (by simpa [Ob.fp] using hi)) h2 (fun b hb => .inr hb) (by simp [Ob.fp])
 ·have G : k ≠ i' := fun h => by subst h; simp at hm
  exact ⟨Jm hp G, fun b' Y => h5 b' (fun h => O.apart hk hp G b' Y (by simp [Ob.fp, h]))⟩
def uN := @AX.store
theorem Ym {H : GH} {w : World} {v : Value} {G sz : Nat} {es es' : List (List T)} {c cap : Nat} (hv : v = .slice (some ⟨G2 v, 0, none⟩) es.length c) (h1 : es.length ≤ c) (h2 : c ≤ cap) (hl : es'.length = es.length)
  (h : ArrR H w (G2 v) G sz cap es') : UsR H w v G sz es' :=
 .inr ⟨G2 v, c, cap, by rw [hl]; exact hv, by omega, h2, h⟩
theorem Ci (k : Nat) {t : TypeId} {x y : Operand} {ti : TI} {c : T} {cs : List T} {v : Value} {off tt sz : Nat} {es es' : List (List T)} (i j : Nat) {e : List T} {R : St → Prop}
  (ht : E.tab t = some ti) (hx : Bg σ.slots x = some (.v (.pointer (some ⟨G2 v, off, none⟩)))) (hk : σ.objs[k]? = some (.us v tt sz es)) (he : es[i]? = some e) (ho : off = i * sz + j)
  (hy : Bg σ.slots y = some c) (hc : Ei c = some cs) (hsz : ti.size = cs.length) (hj : j + cs.length ≤ e.length) (hd : dst = none) (Z : es.set i (Fo e j cs) = es')
  (kk : R ⟨σ.slots, σ.objs.set k (.us v tt sz es')⟩) :
  AX E n C [k] ⟨dst, .store t x y, ty, pos, aft, g⟩ σ R := by
 subst hd
 subst Z
 refine AX.skip fun H a w O => ?_
 have hor : UsR H w v tt sz es := O.objs _ (mg hk)
 obtain ⟨c', cap, hv, q1, q2, q3, q4⟩ := hor.arr he
 obtain ⟨w', h1, h2, h3, h4, h5⟩ := La (ty := ty) (pos := pos) (aft := aft) (g := g) O.sr i j ht hx q3 he ho hy hc hsz hj
 refine ⟨w', _, H, h1, kk, ?_, fun _ _ h => h, fun i' p hp hm => ?_⟩
 ·exact O.set hk h3 (by omega) (fun i _ hi => h5 i (by simpa [Ob.fp, q4] using hi)) (Ym hv q1 q2 (by simp) h2) (fun b hb => .inr hb) (by simp [Ob.fp, q4])
 ·have G : k ≠ i' := fun h => by subst h; simp at hm
  exact ⟨Jm hp G, fun b' Y => h5 b' (fun h => O.apart hk hp G b' Y (by simp [Ob.fp, q4, h]))⟩
end
end Go.Aw
