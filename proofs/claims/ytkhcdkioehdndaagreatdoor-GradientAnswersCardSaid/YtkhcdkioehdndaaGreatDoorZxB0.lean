/- A program logic over the model. No condition. -/
import Derived.OrdersHeld
import Derived.Laws.Cells
import Derived.WalkKit
import Derived.RangeFuncLeaves
import Derived.RangeFuncRecord
import Derived.RangeFuncCalls
import Derived.OrdersIn
import Derived.Scope
import Derived.Laws.MakeOwn
import Derived.Laws.CopyRow
import Derived.Laws.AppendOwn
import Derived.Laws.AppendOwnNone
set_option maxRecDepth 100000
namespace Go.Aw
abbrev Li := List Int
theorem gs {α : Type _} {l : List α} {i : Nat} {a : α} (h : l[i]? = some a) : ∃ w : i < l.length, l[i] = a := List.getElem?_eq_some_iff.1 h
theorem gq {α : Type _} {l : List α} {i : Nat} (h : i < l.length) : l[i]? = some l[i] := List.getElem?_eq_getElem h
theorem mg {α : Type _} {l : List α} {i : Nat} {a : α} (h : l[i]? = some a) : a ∈ l := List.mem_of_getElem? h
theorem nq {a b : Nat} (h : Nat.beq a b = true) : a = b := Nat.eq_of_beq_eq_true h
set_option linter.unusedVariables false
set_option linter.defProp false
set_option linter.unusedSimpArgs false
def Ei : Option Nat → Fence
 | none => Fence.wide
 | some l => Fence.wide.inRound l
def Kh : Op → Bool
 | .defer _ => false
 | _ => true
def nd : Code → Bool
 | .region _ ops _ => ops.toList.all fun o => Kh o.op
 | .seq a b => nd a && nd b
 | .cond _ a b => nd a && nd b
 | .block _ c => nd c
 | .loop c => nd c
 | .scope _ => false
 | .rangeFunc .. => false
 | _ => true
theorem K8 (ro : Option Nat) (f : FuncId) : (Ei ro).fn f := by cases ro <;> trivial
theorem Jz (ro : Option Nat) : (Ei ro).depth = none := by cases ro <;> rfl
theorem Hu {ro : Option Nat} {m : Nat} {P : Program} {f : FuncId} {args : Array Value} {w : World} {R : Ending → World → Prop} (h : Calls P f args w R) : CallsIn (Ei ro) m P f args w R := by
 have D : CallsIn Fence.wide m P f args w R := callsIn_wide.2 h
 cases ro with
 | none => exact D
 | some l => exact D
theorem In {ro : Option Nat} {m : Nat} {P : Program} {row : String} {args : Array Value} {w : World} {R : Value → World → Prop} (h : Rows P row args w R) : RowsIn (Ei ro) m P row args w R := by
 intro c D _
 obtain ⟨v, G, r, s⟩ := h c D
 refine ⟨v, G, r, ?_⟩
 have := (stepsIn_wide (P := P)).2 s
 cases ro with
 | none => exact this
 | some l => exact this
theorem cP {ro : Option Nat} {m : Nat} {P : Program} {o : Oper} {a : Act} {w : World} {K : Act → World → Prop} {Q : Exit → Act → World → Prop} (G : Kh o.op = true) (h : o.wp P a w K Q) : o.wpIn (Ei ro) m P a w K Q := by
 refine ⟨fun f _ => K8 ro f, ?_⟩
 have e : Oper.semAt (Ei ro).round a.eval o = execOp a.eval o := Oper.semAt_eq _ _ _ (fun c M => by rw [M] at G; simp [Kh] at G)
 rw [e]
 unfold Oper.wp at h
 generalize (execOp a.eval o).run P w = r at h
 cases r with
 | ok x w' =>
  cases x <;> simp only [Oper.upon, Oper.uponIn] at h ⊢ <;>
   first
    | exact h
    | exact h.elim
    | exact ⟨fun D => (by rw [Jz] at D; cases D), Hu h⟩
    | exact ⟨fun D => (by rw [Jz] at D; cases D), In h⟩
 | halt x w' => cases x <;> simp only [Oper.upon, Oper.uponIn] at h ⊢ <;> first | exact h | exact h.elim
theorem Pb {m : Nat} {P : Program} {o : Oper} {a : Act} {w : World} {K : Act → World → Prop} {Q : Exit → Act → World → Prop} (h : o.wp P a w K Q) : o.wpIn (Ei none) m P a w K Q := by
 refine ⟨fun f _ => trivial, ?_⟩
 change o.uponIn (Ei none) m P a K Q ((execOp a.eval o).run P w)
 unfold Oper.wp at h
 generalize (execOp a.eval o).run P w = r at h
 cases r with
 | ok x w' =>
  cases x <;> simp only [Oper.upon, Oper.uponIn] at h ⊢ <;>
   first
    | exact h
    | exact h.elim
    | exact ⟨fun D => (by cases D), Hu h⟩
    | exact ⟨fun D => (by cases D), In h⟩
 | halt x w' => cases x <;> simp only [Oper.upon, Oper.uponIn] at h ⊢ <;> first | exact h | exact h.elim
theorem Vr {l : Nat} {m : Nat} {P : Program} {o : Oper} {a : Act} {w : World} {K : Act → World → Prop} {Q : Exit → Act → World → Prop} (D : Kh o.op = true) (h : o.wpIn Fence.wide m P a w K Q) : o.wpIn (Ei (some l)) m P a w K Q := by
 refine ⟨fun f _ => trivial, ?_⟩
 have e : Oper.semAt (Ei (some l)).round a.eval o = Oper.semAt Fence.wide.round a.eval o := (Oper.semAt_eq _ _ _ (fun c G => by rw [G] at D; simp [Kh] at D)).trans (Oper.semAt_eq _ _ _ (fun c G => by rw [G] at D; simp [Kh] at D)).symm
 rw [e]
 exact h.2
theorem Ha {F : Fence} {m : Nat} {P : Program} {o : Oper} {a : Act} {w : World} {K K' : Act → World → Prop} {Q Q' : Exit → Act → World → Prop}
  (h : ∀ a w, K a w → K' a w) (M : ∀ e a w, Q e a w → Q' e a w) (D : o.wpIn F m P a w K Q) : o.wpIn F m P a w K' Q' := by
 refine ⟨D.1, ?_⟩
 have D := D.2
 generalize (o.semAt F.round a.eval).run P w = r at *
 have Y : LetsOut Q → LetsOut Q' := fun ⟨a, w, h⟩ => ⟨a, w, M _ _ _ h⟩
 cases r with
 | ok x w' =>
  cases x <;> simp only [Oper.uponIn] at D ⊢ <;>
   first
    | exact h _ _ D
    | exact ⟨D.1, CallsIn.mono D.2 (fun e O G => by cases e <;> first | exact h _ _ G | exact M _ _ _ G | exact Y G)⟩
    | exact ⟨D.1, RowsIn.mono D.2 (fun _ _ G => h _ _ G)⟩
    | exact ⟨D.1, RoundIn.mono D.2 (fun e O G => by cases e <;> first | exact h _ _ G | exact M _ _ _ G | exact Y G)⟩
    | exact D.elim
 | halt x w' => cases x <;> simp only [Oper.uponIn] at D ⊢ <;> first | exact M _ _ _ D | exact D.elim
theorem eR {D : Array Oper} (G : D.toList.all (fun o => Kh o.op) = true) {i : Nat} {o : Oper} (M : D[i]? = some o) : Kh o.op = true :=
 List.all_eq_true.1 G o (Array.mem_toList_iff.2 (Array.mem_of_getElem? M))
theorem bZ {ro : Option Nat} {m : Nat} {P : Program} {D : Array Oper} {Q : Exit → Act → World → Prop} (O : D.toList.all (fun o => Kh o.op) = true) (M : ¬ LetsOut Q) {i : Nat} {K : Act → World → Prop} {a : Act} {w : World}
  (h : wpOp P D Q i K a w) : wpOpIn (Ei ro) m P D Q i K a w := by
 unfold wpOp at h
 unfold wpOpIn
 cases ho : D[i]? with
 | none => rw [ho] at h; exact h
 | some o =>
  rw [ho] at h
  have Y := eR O ho
  simp only [] at h ⊢
  split at h
  ·rename_i G
   rw [if_pos G]
   rcases h with h | ⟨_, h⟩
   ·exact cP Y h
   ·exact absurd h M
  ·rename_i G
   rw [if_neg G]
   exact ⟨fun f _ => K8 ro f, h⟩
theorem fD {ro : Option Nat} {m : Nat} {P : Program} {md : Region.Mode} {G : Array Oper} {Q : Exit → Act → World → Prop} (O : G.toList.all (fun o => Kh o.op) = true) (M : ¬ LetsOut Q) : ∀ (fuel : Nat) (D : Array Bool) (a : Act) (w : World),
  wpAny P md G Q fuel D a w → wpAnyIn (Ei ro) m P md G Q fuel D a w := by
 intro fuel
 induction fuel with
 | zero => intro D a w h; exact h
 | succ fuel ih =>
  intro D a w h
  exact ⟨h.1, fun i hi => wpOpIn_mono (fun a w h => ih _ a w h) (bZ O M (h.2 i hi))⟩
theorem Om {ro : Option Nat} {m : Nat} {P : Program} {id : Nat} {D : Array Oper} {Q : Exit → Act → World → Prop} {a : Act} {w : World} (O : P.follows .mixedOrders = true) (M : D.toList.all (fun o => Kh o.op) = true) (G : ¬ LetsOut Q)
  (h : wpAny P .any D Q D.size (Array.replicate D.size false) a { w with drawn := w.drawn + 1 }) : (Code.region id D true).wpIn (Ei ro) m P Q a w :=
 wpIn_region_any O (fD M G _ _ _ _ h)
def cw (c : Code) (P : Program) (Q : Exit → Act → World → Prop) (a : Act) (w : World) : Prop := ∀ ro : Option Nat, (ro.isSome = true → nd c = true) → c.wpIn (Ei ro) 0 P Q a w
section
variable {P : Program} {Q : Exit → Act → World → Prop} {a : Act} {w : World}
theorem cw.wp {c : Code} (h : cw c P Q a w) : c.wp P Q a w := wpIn_wide.1 (h none (fun h => by cases h))
theorem Hx {c : Code} {Q' : Exit → Act → World → Prop} (h : cw c P Q a w) (G : ∀ e a w, Q e a w → Q' e a w) : cw c P Q' a w := fun ro D => wpIn_mono (h ro D) G
theorem cZ (h : Q .normal a w) : cw .skip P Q a w := fun _ _ => wpIn_skip h
theorem dB {id : Nat} (h : Q (.exit id) a w) : cw (.exit id) P Q a w := fun _ _ => wpIn_exit h
theorem eZ (h : Q .ret a w) : cw .ret P Q a w := fun _ _ => wpIn_ret h
theorem eY {x y : Code} (h : cw x P (Exit.then (cw y P Q) Q) a w) : cw (.seq x y) P Q a w := fun ro G =>
 wpIn_seq (wpIn_mono (h ro (fun D => (Bool.and_eq_true_iff.1 (G D)).1)) fun e a w q => by
  cases e with
  | normal => exact q ro (fun D => (Bool.and_eq_true_iff.1 (G D)).2)
  | _ => exact q)
theorem Ou {c : Operand} {x y : Code} {t : Bool} (hc : a.eval c = .bool t) (M : t = true → cw x P Q a w) (hf : t = false → cw y P Q a w) : cw (.cond c x y) P Q a w := fun ro G =>
 wpIn_cond_split hc (fun h => M h ro (fun D => (Bool.and_eq_true_iff.1 (G D)).1)) (fun h => hf h ro (fun D => (Bool.and_eq_true_iff.1 (G D)).2))
theorem aA {id : Nat} {c : Code} (h : cw c P (Exit.inBlock id Q) a w) : cw (.block id c) P Q a w := fun ro D => wpIn_block (h ro D)
theorem dA {c : Code} (I : Act → World → Prop) (μ : Act → World → Nat) (M : I a w)
  (D : ∀ a w, I a w → cw c P (Exit.then (fun a' w' => I a' w' ∧ μ a' w' < μ a w) Q) a w) : cw (.loop c) P Q a w := fun ro G =>
 wpIn_loop I μ M fun a w hi => D a w hi ro G
theorem Kf {c : Code} (h : cw c P (Exit.noGoto Q) a w) : cw (.scope c) P Q a w := fun ro D => by
 cases ro with
 | none => exact wpIn_wide.2 (wp_scope_straight h.wp)
 | some l => exact absurd (D rfl) (by simp [nd])
end
inductive T where
 | v (x : Value)
 | list (sz : Nat) (es : List (List T))
 | agg (cs : List T)
 | tup (cs : List T)
 | eptr (cs : List T)
 | fn (f : FuncId) (first caps : List T)
 deriving Inhabited
abbrev GH := Nat → Option Obj
def Gx : Nat := 140737488355328
inductive VR (H : GH) : Value → T → Prop
 | v (x : Value) : VR H x (.v x)
 | empty (a : Option Addr) (cap sz : Nat) : VR H (.slice a 0 cap) (.list sz [])
 | list (b off cap sz : Nat) (es : List (List T)) (cs : Array Value) (ty : TypeId) (fr : Nat × Nat)
   (hb : H b = some (.cells cs ty fr)) (hcap : es.length ≤ cap) (hmax : es.length ≤ Gx) (hsz : off + es.length * sz ≤ cs.size)
   (hel : ∀ (i : Nat) (e : List T), es[i]? = some e → e.length = sz)
   (h1 : ∀ (i : Nat) (e : List T), es[i]? = some e → ∀ (j : Nat) (x : T), e[j]? = some x → (cs.getD (off + i * sz + j) undef).oneCell' = true)
   (hv : ∀ (i : Nat) (e : List T), es[i]? = some e → ∀ (j : Nat) (x : T), e[j]? = some x → VR H (cs.getD (off + i * sz + j) undef) x) :
   VR H (.slice (some ⟨b, off, none⟩) es.length cap) (.list sz es)
 | agg (vs : Array Value) (cs : List T) (hl : vs.size = cs.length)
   (h1 : ∀ (j : Nat) (x : T), cs[j]? = some x → (vs.getD j undef).oneCell' = true)
   (hv : ∀ (j : Nat) (x : T), cs[j]? = some x → VR H (vs.getD j undef) x) : VR H (.agg vs) (.agg cs)
 | tup (vs : Array Value) (cs : List T) (hl : vs.size = cs.length)
   (hv : ∀ (j : Nat) (x : T), cs[j]? = some x → VR H (vs.getD j undef) x) : VR H (.tuple vs) (.tup cs)
 | eptr (b off : Nat) (l : List T) (cs : Array Value) (ty : TypeId) (fr : Nat × Nat)
   (hb : H b = some (.cells cs ty fr)) (hsz : off + l.length ≤ cs.size)
   (h1 : ∀ (j : Nat) (x : T), l[j]? = some x → (cs.getD (off + j) undef).oneCell' = true)
   (hv : ∀ (j : Nat) (x : T), l[j]? = some x → VR H (cs.getD (off + j) undef) x) : VR H (.pointer (some ⟨b, off, none⟩)) (.eptr l)
 | fn (f : FuncId) (vf vc : Array Value) (fs cs : List T) (hf : vf.size = fs.length) (hc : vc.size = cs.length)
   (h1 : ∀ (j : Nat) (x : T), fs[j]? = some x → VR H (vf.getD j undef) x) (h2 : ∀ (j : Nat) (x : T), cs[j]? = some x → VR H (vc.getD j undef) x) :
   VR H (.func (.func f) vf vc) (.fn f fs cs)
theorem VR.monoC {H H' : GH} (D : ∀ b cs ty fr, H b = some (.cells cs ty fr) → H' b = some (.cells cs ty fr)) {v : Value} {x : T} (h : VR H v x) : VR H' v x := by
 induction h with
 | v x => exact .v x
 | empty a cap sz => exact .empty a cap sz
 | list b off cap sz es cs ty fr hb hcap hmax hsz hel h1 hv ih => exact .list b off cap sz es cs ty fr (D _ _ _ _ hb) hcap hmax hsz hel h1 ih
 | agg vs cs hl h1 hv ih => exact .agg vs cs hl h1 ih
 | tup vs cs hl hv ih => exact .tup vs cs hl ih
 | eptr b off l cs ty fr hb hsz h1 hv ih => exact .eptr b off l cs ty fr (D _ _ _ _ hb) hsz h1 ih
 | fn f vf vc fs cs hf hc h1 h2 ih1 ih2 => exact .fn f vf vc fs cs hf hc ih1 ih2
theorem VR.mono {H H' : GH} (D : ∀ b o, H b = some o → H' b = some o) {v : Value} {x : T} (h : VR H v x) : VR H' v x := h.monoC fun _ _ _ _ => D _ _
theorem VR.v_eq {H : GH} {v x : Value} (h : VR H v (.v x)) : v = x := by cases h; rfl
def Gn : Value → List Nat
 | .slice (some a) _ _ => [a.block]
 | _ => []
def Gp : Value → Nat
 | .slice (some a) _ _ => a.block
 | _ => 0
inductive Ob where
 | arr (b : Nat) (ty : TypeId) (sz cap : Nat) (es : List (List T))
 | us (v : Value) (ty : TypeId) (sz : Nat) (es : List (List T))
 | uss (v : Value) (ty tyi : TypeId) (szi : Nat) (vs : List Value) (L : List (Option (List (List T))))
 | raw (b : Nat) (o : Obj)
def Ee : List Value → List (Option (List (List T))) → List Nat
 | v :: vs, some _ :: L => Gn v ++ Ee vs L
 | _ :: vs, none :: L => Ee vs L
 | _, _ => []
def Ob.fp : Ob → List Nat
 | .arr b .. => [b]
 | .us v .. => Gn v
 | .uss v _ _ _ vs L => Gn v ++ Ee vs L
 | .raw b _ => [b]
def CR (H : GH) (v : Value) (x : T) : Prop := v.oneCell' = true ∧ VR H v x
def ArrR (H : GH) (w : World) (b : Nat) (ty : TypeId) (sz cap : Nat) (es : List (List T)) : Prop :=
 ∃ D : Array Value, w.heap[b]? = some (.cells D ty (0, 0)) ∧ D.size = cap * sz ∧ es.length ≤ cap ∧ es.length ≤ Gx ∧
   (∀ (i : Nat) (e : List T), es[i]? = some e → e.length = sz) ∧
   (∀ (i : Nat) (e : List T), es[i]? = some e → ∀ (j : Nat) (x : T), e[j]? = some x → CR H (D.getD (i * sz + j) undef) x)
def UsR (H : GH) (w : World) (v : Value) (ty : TypeId) (sz : Nat) (es : List (List T)) : Prop :=
 (v = .slice none 0 0 ∧ es = []) ∨ ∃ b c D, v = .slice (some ⟨b, 0, none⟩) es.length c ∧ es.length ≤ c ∧ c ≤ D ∧ ArrR H w b ty sz D es
def OR (H : GH) (w : World) : Ob → Prop
 | .arr b ty sz cap D => ArrR H w b ty sz cap D
 | .us v ty sz D => UsR H w v ty sz D
 | .uss v ty tyi szi vs L => vs.length = L.length ∧ UsR H w v ty 1 (vs.map fun x => [T.v x]) ∧ ∀ (i : Nat) (x : Value) (D : List (List T)), vs[i]? = some x → L[i]? = some (some D) → UsR H w x tyi szi D
 | .raw b o => w.heap[b]? = some o
theorem ArrR.monoC {H H' : GH} (hh : ∀ b cs ty fr, H b = some (.cells cs ty fr) → H' b = some (.cells cs ty fr)) {w w' : World} {b : Nat} (hw : w'.heap[b]? = w.heap[b]?) {ty : TypeId} {sz cap : Nat} {es : List (List T)} (h : ArrR H w b ty sz cap es) : ArrR H' w' b ty sz cap es := by
 obtain ⟨cs, O, Y, Z, a4, a5, D⟩ := h
 exact ⟨cs, by rw [hw]; exact O, Y, Z, a4, a5, fun i e G j x M => ⟨(D i e G j x M).1, (D i e G j x M).2.monoC hh⟩⟩
theorem UsR.monoC {H H' : GH} (Y : ∀ b cs ty fr, H b = some (.cells cs ty fr) → H' b = some (.cells cs ty fr)) {w w' : World} {v : Value} (Z : ∀ b, b ∈ Gn v → w'.heap[b]? = w.heap[b]?) {ty : TypeId} {sz : Nat} {es : List (List T)} (h : UsR H w v ty sz es) : UsR H' w' v ty sz es := by
 rcases h with h | ⟨b, c, D, rfl, G, M, O⟩
 ·exact .inl h
 ·exact .inr ⟨b, c, D, rfl, G, M, O.monoC Y (Z b (by simp [Gn]))⟩
theorem H6 : ∀ {vs : List Value} {L : List (Option (List (List T)))} {i : Nat} {v : Value} {es : List (List T)}, vs[i]? = some v → L[i]? = some (some es) → ∀ b, b ∈ Gn v → b ∈ Ee vs L
 | v' :: vs, some _ :: L, 0, v, es, h1, h2, b, hb => by simp at h1; subst h1; simp [Ee, hb]
 | v' :: vs, some _ :: L, i + 1, v, es, h1, h2, b, hb => by simp [Ee]; exact .inr (H6 (by simpa using h1) (by simpa using h2) b hb)
 | v' :: vs, none :: L, 0, v, es, h1, h2, b, hb => by simp at h2
 | v' :: vs, none :: L, i + 1, v, es, h1, h2, b, hb => by simp [Ee]; exact H6 (by simpa using h1) (by simpa using h2) b hb
 | [], _, i, v, es, h1, h2, b, hb => by simp at h1
 | _ :: _, [], i, v, es, h1, h2, b, hb => by simp at h2
theorem OR.monoC {H H' : GH} (G : ∀ b cs ty fr, H b = some (.cells cs ty fr) → H' b = some (.cells cs ty fr)) {w w' : World} {o : Ob} (D : ∀ b, b ∈ o.fp → w'.heap[b]? = w.heap[b]?) (h : OR H w o) : OR H' w' o := by
 cases o with
 | arr b ty sz cap M => exact ArrR.monoC G (D b (by simp [Ob.fp])) h
 | us v ty sz M => exact UsR.monoC G D h
 | uss v ty tyi szi vs L =>
  obtain ⟨h0, h1, h2⟩ := h
  exact ⟨h0, h1.monoC G (fun b O => D b (by simp [Ob.fp, O])), fun i x M Z Y => (h2 i x M Z Y).monoC G (fun b O => D b (by simp [Ob.fp, H6 Z Y b O]))⟩
 | raw b o => exact (D b (by simp [Ob.fp])).trans h
theorem ArrR.mono {H H' : GH} (D : ∀ b o, H b = some o → H' b = some o) {w w' : World} {b : Nat} (G : w'.heap[b]? = w.heap[b]?) {ty : TypeId} {sz cap : Nat} {es : List (List T)} (h : ArrR H w b ty sz cap es) : ArrR H' w' b ty sz cap es := h.monoC (fun _ _ _ _ => D _ _) G
theorem UsR.mono {H H' : GH} (D : ∀ b o, H b = some o → H' b = some o) {w w' : World} {v : Value} (G : ∀ b, b ∈ Gn v → w'.heap[b]? = w.heap[b]?) {ty : TypeId} {sz : Nat} {es : List (List T)} (h : UsR H w v ty sz es) : UsR H' w' v ty sz es := h.monoC (fun _ _ _ _ => D _ _) G
theorem OR.mono {H H' : GH} (D : ∀ b o, H b = some o → H' b = some o) {w w' : World} {o : Ob} (G : ∀ b, b ∈ o.fp → w'.heap[b]? = w.heap[b]?) (h : OR H w o) : OR H' w' o := h.monoC (fun _ _ _ _ => D _ _) G
abbrev Am := List (Nat × T)
def get : Am → Nat → Option T
 | [], _ => none
 | (k, x) :: l, i => bif Nat.beq k i then some x else get l i
structure St where
 slots : Am
 objs : List Ob
def St.put (σ : St) (dst : Option Tmp) (x : T) : St :=
 match dst with
 | none => σ
 | some d => ⟨(d, x) :: σ.slots, σ.objs⟩
def gl : List (Nat × List T) := [(0, [400, 1200, 0, 2000, 0, 5000, 1, 2000].map fun n => .v (.int .i64 n))]
def Vg (H : GH) : Prop := ∀ b l, (b, l) ∈ gl → VR H (.pointer (some ⟨b, 0, none⟩)) (.eptr l)
structure Ctx where
 w0 : World
 H0 : GH
 fp : List Nat
 hg : Vg H0
def Marks (m : Nat) (H : GH) (l : List Deferred) : Prop := l.Nodup ∧ ∀ d, d ∈ l → ∃ b, d = { target := .collected b, args := #[] } ∧ H b = some (.deferred (some [])) ∧ m ≤ b
theorem Marks.mono {m : Nat} {H H' : GH} {l : List Deferred} (G : ∀ b o, H b = some o → H' b = some o) (h : Marks m H l) : Marks m H' l := ⟨h.1, fun d D => let ⟨b, h1, h2, h3⟩ := h.2 d D; ⟨b, h1, G _ _ h2, h3⟩⟩
theorem Marks.nil {m : Nat} {H : GH} : Marks m H [] := ⟨List.nodup_nil, fun d h => by cases h⟩
structure Gam (n : Nat) (C : Ctx) (σ : St) (H : GH) (a : Act) (w : World) : Prop where
 defers : Marks C.w0.heap.size H a.defers
 size : a.tmps.size = n
 slots : ∀ i x, get σ.slots i = some x → VR H (a.tmps.getD i undef) x
 objs : ∀ p, p ∈ σ.objs → OR H w p
 free : ∀ p, p ∈ σ.objs → ∀ b, b ∈ p.fp → H b = none
 new : ∀ p, p ∈ σ.objs → ∀ b, b ∈ p.fp → C.w0.heap.size ≤ b ∨ b ∈ C.fp
 nodup : (σ.objs.flatMap Ob.fp).Nodup
 held : ∀ b o, H b = some o → w.heap[b]? = some o
 grow : ∀ b o, C.H0 b = some o → H b = some o
 heap : C.w0.heap.size ≤ w.heap.size
 frame : ∀ b, b < C.w0.heap.size → b ∉ C.fp → w.heap[b]? = C.w0.heap[b]? ∧ H b = C.H0 b
 env : w.os = C.w0.os ∧ w.tape = C.w0.tape ∧ w.output = C.w0.output
inductive K where
 | slice (e : Nat) | array (n e : Nat) | struct (fs : List (Nat × Nat)) | string | int (k : IntKind) | bool | map (k e : Nat) | other
 deriving DecidableEq, Repr
structure TI where
 kind : K
 size : Nat
 bytes : Nat
 zero : Option Value
def TI.isAgg (i : TI) : Bool :=
 match i.kind with
 | .array .. | .struct .. => true
 | _ => false
def Ki : TypeDesc → K
 | .slice e => .slice e
 | .array n e => .array n e
 | .struct fs => .struct (fs.toList.map fun f => (f.offset, f.type))
 | .string => .string
 | .int k => .int k
 | .bool => .bool
 | .map k e => .map k e
 | _ => .other
def Hd (P : Program) (t : TypeId) : Option TI :=
 match P.info? t, P.underlying t with
 | some i, some d => some { kind := Ki d, size := i.size, bytes := i.bytes, zero := i.zero }
 | _, _ => none
structure Env where
 P : Program
 tab : Nat → Option TI
 ok : ∀ t i, tab t = some i → Hd P t = some i
 mixed : P.follows .mixedOrders = true
theorem Gu {P : Program} {t : TypeId} {i : TI} (h : Hd P t = some i) :
  ∃ D d, P.info? t = some D ∧ P.underlying t = some d ∧ Ki d = i.kind ∧ D.size = i.size ∧ D.bytes = i.bytes ∧ D.zero = i.zero := by
 unfold Hd at h
 split at h
 ·rename_i D d G M
  simp only [Option.some.injEq] at h
  subst h
  exact ⟨D, d, G, M, rfl, rfl, rfl, rfl⟩
 ·simp at h
section types
variable {P : Program} {t : TypeId} {i : TI} (h : Hd P t = some i) (w : World)
include h
theorem Bu : (sizeOf t).run P w = .ok i.size w := by
 obtain ⟨M, d, D, O, Y, G, Z, h6⟩ := Gu h
 simp [sizeOf, typeInfo, D, G]
theorem G9 : ∃ inf, (typeInfo t).run P w = .ok inf w ∧ inf.size = i.size ∧ inf.bytes = i.bytes ∧ inf.zero = i.zero ∧ P.info? t = some inf := by
 obtain ⟨inf, d, D, Y, Z, G, M, O⟩ := Gu h
 exact ⟨inf, by simp [typeInfo, D], G, M, O, D⟩
theorem D7 {z : Value} (M : i.zero = some z) : (zeroValue t).run P w = .ok z w := by
 obtain ⟨O, d, G, Y, Z, h4, h5, D⟩ := Gu h
 rw [M] at D
 simp [zeroValue, typeInfo, G, D]
theorem Fl : (isAgg t).run P w = .ok i.isAgg w := by
 obtain ⟨M, d, O, D, G, Y, Z, h6⟩ := Gu h
 unfold TI.isAgg
 rw [← G]
 cases d <;> simp [isAgg, underlying, D, Ki]
theorem Gi : ∃ d, P.underlying t = some d ∧ Ki d = i.kind := by
 obtain ⟨M, d, O, D, G, Y, Z, h6⟩ := Gu h
 exact ⟨d, D, G⟩
end types
theorem D3 {P : Program} {t : TypeId} {i : TI} (h : Hd P t = some i) {e : Nat} (M : i.kind = .slice e) : P.underlying t = some (.slice e) := by
 obtain ⟨d, G, D⟩ := Gi h
 rw [M] at D
 cases d <;> simp [Ki] at D
 subst D; exact G
theorem F6 {P : Program} {t : TypeId} {i : TI} (h : Hd P t = some i) {fs : List (Nat × Nat)} (O : i.kind = .struct fs) :
  ∃ G : Array Field, P.underlying t = some (.struct G) ∧ G.toList.map (fun f => (f.offset, f.type)) = fs := by
 obtain ⟨d, M, D⟩ := Gi h
 rw [O] at D
 cases d <;> simp [Ki] at D
 exact ⟨_, M, D⟩
def AW (E : Env) (n : Nat) (C : Ctx) (c : Code) (σ : St) (Q : Exit → St → Prop) : Prop :=
 ∀ H a w, Gam n C σ H a w → cw c E.P (fun e D G => ∃ σ' H', Q e σ' ∧ Gam n C σ' H' D G) a w
def T1 (P : Program) (D : Array Oper) (Q : Exit → Act → World → Prop) : List Oper → Act → World → Prop
 | [], a, w => Q .normal a w
 | o :: r, a, w =>
  if Region.wanted o (yielded D a.tmps) then o.wpIn Fence.wide 0 P a w (T1 P D Q r) Q else T1 P D Q r (a.put o.dst undef) w
def AO (E : Env) (n : Nat) (C : Ctx) (D : Array Oper) (l : List Oper) (σ : St) (R : St → Prop) : Prop :=
 ∀ H a w, Gam n C σ H a w → T1 E.P D (fun e G M => e = .normal ∧ ∃ σ' H', R σ' ∧ Gam n C σ' H' G M) l a w
def AX (E : Env) (n : Nat) (C : Ctx) (md : List Nat) (o : Oper) (σ : St) (R : St → Prop) : Prop :=
 ∀ H a w, Gam n C σ H a w → o.wp E.P a w (fun D G => ∃ σ' H' v, R σ' ∧ Gam n C σ' H' D G ∧ D = a.put o.dst v ∧ (∀ b o, H b = some o → H' b = some o) ∧
  ∀ i p, σ.objs[i]? = some p → md.contains i = false → σ'.objs[i]? = some p ∧ ∀ b, b ∈ p.fp → G.heap[b]? = w.heap[b]?) (fun _ _ _ => False)
theorem Df {P : Program} {o : Oper} {a : Act} {w : World} {K K' : Act → World → Prop} {Q Q' : Exit → Act → World → Prop}
  (h : ∀ a w, K a w → K' a w) (M : ∀ e a w, Q e a w → Q' e a w) (G : o.wp P a w K Q) : o.wp P a w K' Q' := by
 unfold Oper.wp at *
 generalize (execOp a.eval o).run P w = r at *
 cases r with
 | ok n w' =>
  cases n <;> simp only [Oper.upon] at G ⊢ <;>
   first
    | exact h _ _ G
    | exact Calls.mono G (fun e O D => by
      cases e with
      | returned v => exact h _ _ D
      | panicked c => exact M _ _ _ D
      | outgrown => obtain ⟨a, w, D⟩ := D; exact ⟨a, w, M _ _ _ D⟩)
    | exact Rows.mono G (fun _ _ D => h _ _ D)
 | halt x w' => cases x <;> simp only [Oper.upon] at G ⊢ <;> exact M _ _ _ G
theorem cA {P : Program} {D : Array Oper} {Q : Exit → Act → World → Prop} {ro : Option Nat} : ∀ (l : List Oper) (k : Nat) (a : Act) (w : World),
  (∀ j, j < l.length → D[k + j]? = l[j]?) → (ro.isSome = true → l.all (fun o => Kh o.op) = true) → T1 P D Q l a w → wpOpsIn (Ei ro) 0 P D Q (List.range' k l.length) a w := by
 intro l
 induction l with
 | nil => intro k a w _ _ h; exact h
 | cons o r ih =>
  intro k a w Y Z h
  have h0 : D[k]? = some o := by simpa using Y 0 (by simp)
  have hr : ∀ j, j < r.length → D[k + 1 + j]? = r[j]? := fun j hj => by
   have := Y (j + 1) (by simp; omega)
   rw [show k + 1 + j = k + (j + 1) by omega, this]; simp
  simp only [List.length_cons, List.range'_succ]
  simp only [wpOpsIn, h0]
  simp only [T1] at h
  have G : ro.isSome = true → r.all (fun o => Kh o.op) = true := fun hs => by
   have := Z hs; simp only [List.all_cons, Bool.and_eq_true] at this; exact this.2
  split
  ·rename_i O
   simp only [O, if_true] at h
   have M := Ha (fun a' w' M => ih (k + 1) a' w' hr G M) (fun _ _ _ h => h) h
   cases ro with
   | none => exact M
   | some q =>
    have := Z rfl
    simp only [List.all_cons, Bool.and_eq_true] at this
    exact Vr this.1 M
  ·rename_i O
   simp only [O] at h
   exact ⟨fun f _ => K8 ro f, ih (k + 1) _ _ hr G h⟩
theorem Ot {P : Program} {id : Nat} {D : Array Oper} {Q : Exit → Act → World → Prop} {a : Act} {w : World}
  (h : T1 P D Q D.toList a w) : cw (Code.region id D false) P Q a w := by
 intro ro G
 refine wpIn_region ?_
 have := cA (ro := ro) D.toList 0 a w (fun j _ => by simp) (fun M => G M) h
 simpa [List.range_eq_range'] using this
theorem Jk {P : Program} {D : Array Oper} {Q Q' : Exit → Act → World → Prop} (G : ∀ e a w, Q e a w → Q' e a w) :
  ∀ (l : List Oper) (a : Act) (w : World), T1 P D Q l a w → T1 P D Q' l a w
 | [], a, w, h => G _ _ _ h
 | o :: r, a, w, h => by
  simp only [T1] at *
  split
  ·rename_i M
   simp only [M, if_true] at h
   exact Ha (fun O Z Y => Jk G r O Z Y) G h
  ·rename_i M
   simp only [M] at h
   exact Jk G r _ _ h
section rules
variable {E : Env} {n : Nat} {C : Ctx} {σ : St} {Q : Exit → St → Prop}
theorem AW.mono {c : Code} {Q' : Exit → St → Prop} (h : AW E n C c σ Q) (G : ∀ e σ, Q e σ → Q' e σ) : AW E n C c σ Q' :=
 fun H a w g => Hx (h H a w g) fun e M O ⟨σ', H', q, D⟩ => ⟨σ', H', G e σ' q, D⟩
theorem AW.skip (h : Q .normal σ) : AW E n C .skip σ Q := fun H _ _ g => cZ ⟨σ, H, h, g⟩
def gS := @AW.skip
theorem AW.exit {id : Nat} (h : Q (.exit id) σ) : AW E n C (.exit id) σ Q := fun H _ _ g => dB ⟨σ, H, h, g⟩
def gW := @AW.exit
theorem AW.ret (h : Q .ret σ) : AW E n C .ret σ Q := fun H _ _ g => eZ ⟨σ, H, h, g⟩
def gT := @AW.ret
def Ic (next : St → Prop) (Q : Exit → St → Prop) : Exit → St → Prop
 | .normal, σ => next σ
 | e, σ => Q e σ
theorem AW.seq {x y : Code} (h : AW E n C x σ (Ic (fun σ' => AW E n C y σ' Q) Q)) : AW E n C (.seq x y) σ Q :=
 fun H a w g => eY (Hx (h H a w g) fun e G M ⟨σ', H', q, D⟩ => by
  cases e with
  | normal => exact q H' G M D
  | _ => exact ⟨σ', H', q, D⟩)
def gR := @AW.seq
theorem Zs {x y : Code} (M : St → Prop) (h : AW E n C x σ (Ic M Q)) (k : ∀ σ', M σ' → AW E n C y σ' Q) : AW E n C (.seq x y) σ Q :=
 AW.seq (AW.mono h fun e σ' q => by
  cases e with
  | normal => exact k σ' q
  | _ => exact q)
def Rd (id : Nat) (Q : Exit → St → Prop) : Exit → St → Prop
 | .exit id', σ => bif Nat.beq id' id then Q .normal σ else Q (.exit id') σ
 | e, σ => Q e σ
theorem AW.block {id : Nat} {c : Code} (h : AW E n C c σ (Rd id Q)) : AW E n C (.block id c) σ Q :=
 fun H a w g => aA (Hx (h H a w g) fun e O Y ⟨σ', H', q, G⟩ => by
  cases e with
  | exit id' =>
   by_cases D : id' = id
   ·subst D
    simp only [Rd, Nat.beq_refl, cond_true] at q
    simp only [Exit.inBlock, if_true]
    exact ⟨σ', H', q, G⟩
   ·have M : Nat.beq id' id = false := by
     cases M : Nat.beq id' id with
     | false => rfl
     | true => exact absurd (nq M) D
    simp only [Rd, M, cond_false] at q
    simp only [Exit.inBlock, D, if_false]
    exact ⟨σ', H', q, G⟩
  | _ => exact ⟨σ', H', q, G⟩)
def gQ := @AW.block
theorem AW.loop {c : Code} (I : Nat → St → Prop) {m : Nat} (h₀ : I m σ)
  (D : ∀ m σ, I m σ → AW E n C c σ (Ic (fun σ' => ∃ m', m' < m ∧ I m' σ') Q)) : AW E n C (.loop c) σ Q := by
 intro H a w g
 have O : ∀ (p : Nat → Prop), (∃ m, p m) → ∃ m, p m ∧ ∀ k, k < m → ¬ p k := by
  intro p ⟨m, hm⟩
  induction m using Nat.strongRecOn with
  | _ m ih =>
   by_cases Z : ∃ k, k < m ∧ p k
   ·obtain ⟨k, Z, hp⟩ := Z; exact ih k Z hp
   ·exact ⟨m, hm, fun k hkm hp => Z ⟨k, hkm, hp⟩⟩
 let J : Act → World → Nat → Prop := fun a w m => ∃ σ H, I m σ ∧ Gam n C σ H a w
 have Y : ∀ a w, ∃ m, (∃ k, J a w k) → J a w m ∧ ∀ k, k < m → ¬ J a w k := by
  intro a w
  by_cases h : ∃ k, J a w k
  ·obtain ⟨m, h1, h2⟩ := O _ h; exact ⟨m, fun _ => ⟨h1, h2⟩⟩
  ·exact ⟨0, fun h' => absurd h' h⟩
 let μ : Act → World → Nat := fun a w => Classical.choose (Y a w)
 have hμ : ∀ a w, (∃ k, J a w k) → J a w (μ a w) ∧ ∀ k, k < μ a w → ¬ J a w k := fun a w => Classical.choose_spec (Y a w)
 refine dA (fun a w => ∃ k, J a w k) μ ⟨m, σ, H, h₀, g⟩ ?_
 intro a w hJ
 obtain ⟨⟨σ₁, H₁, hI, g₁⟩, _⟩ := hμ a w hJ
 refine Hx (D _ σ₁ hI H₁ a w g₁) ?_
 rintro e a' w' ⟨σ', H', q, g'⟩
 cases e with
 | normal =>
  obtain ⟨m', hm', G⟩ := q
  have M : ∃ k, J a' w' k := ⟨m', σ', H', G, g'⟩
  refine ⟨M, ?_⟩
  have h2 := (hμ a' w' M).2
  have hJm : J a' w' m' := ⟨σ', H', G, g'⟩
  exact Nat.lt_of_le_of_lt (Nat.le_of_not_lt fun hlt => h2 m' hlt hJm) hm'
 | _ => exact ⟨σ', H', q, g'⟩
theorem AO.nil {D : Array Oper} {R : St → Prop} (h : R σ) : AO E n C D [] σ R := fun H _ _ g => ⟨rfl, σ, H, h, g⟩
def gO := @AO.nil
theorem AO.mono {D : Array Oper} {l : List Oper} {R R' : St → Prop} (h : AO E n C D l σ R) (O : ∀ σ, R σ → R' σ) : AO E n C D l σ R' :=
 fun H a w g => Jk (fun _ _ _ ⟨M, σ', H', r, G⟩ => ⟨M, σ', H', O _ r, G⟩) l a w (h H a w g)
theorem AO.act {D : Array Oper} {o : Oper} {l : List Oper} {R : St → Prop} (md : List Nat) (hg : o.guard = none)
  (h : AX E n C md o σ (fun σ' => AO E n C D l σ' R)) : AO E n C D (o :: l) σ R := by
 intro H a w g
 simp only [T1]
 rw [if_pos (by simp [Region.wanted, hg])]
 exact Pb (Df (fun G O ⟨σ', H', v, r, M, _⟩ => r H' G O M) (fun _ _ _ h => h.elim) (h H a w g))
def gP := @AO.act
theorem Gam.put {H : GH} {a : Act} {w : World} (g : Gam n C σ H a w) {dst : Option Tmp} {v : Value} {x : T} (hv : VR H v x)
  (O : ∀ d, dst = some d → d < n) : Gam n C (σ.put dst x) H (a.put dst v) w := by
 cases dst with
 | none => exact g
 | some d =>
  have M := O d rfl
  refine { g with defers := g.defers, size := by simp [Act.put, g.size], slots := ?_ }
  intro i y D
  simp only [St.put, get] at D
  simp only [Act.put]
  by_cases hi : d = i
  ·subst hi
   simp only [Nat.beq_refl, cond_true, Option.some.injEq] at D
   subst D
   have : d < a.tmps.size := by rw [g.size]; exact M
   simpa [Array.getD, this] using hv
  ·have G : Nat.beq d i = false := by
    cases G : Nat.beq d i with
    | false => rfl
    | true => exact absurd (nq G) hi
   simp only [G, cond_false] at D
   have := g.slots i y D
   have Y : (a.tmps.setIfInBounds d v).getD i undef = a.tmps.getD i undef := by
    simp [Array.getD_eq_getD_getElem?, Array.getElem?_setIfInBounds_ne hi]
   rw [Y]; exact this
theorem AW.region {id : Nat} {D : Array Oper} (h : AO E n C D D.toList σ (fun σ' => Q .normal σ')) : AW E n C (.region id D false) σ Q :=
 fun H a w g => Ot (Jk (fun _ _ _ ⟨M, σ', H', r, G⟩ => ⟨σ', H', by subst M; exact r, G⟩) _ _ _ (h H a w g))
def gN := @AW.region
theorem AW.cond {c : Operand} {x y : Code} {t : Nat} {b : Bool} (hc : c = .tmp t) (G : get σ.slots t = some (.v (.bool b)))
  (h1 : b = true → AW E n C x σ Q) (h2 : b = false → AW E n C y σ Q) : AW E n C (.cond c x y) σ Q := by
 intro H a w g
 subst hc
 have M : a.eval (.tmp t) = .bool b := (g.slots t _ G).v_eq
 exact Ou M (fun D => h1 D H a w g) (fun D => h2 D H a w g)
def Sub : Am → Am → Prop
 | [], _ => True
 | (i, x) :: l, s => get s i = some x ∧ Sub l s
theorem Sub.get : ∀ {l s : Am}, Sub l s → ∀ i x, Aw.get l i = some x → Aw.get s i = some x
 | [], _, _, i, x, h => by simp [Aw.get] at h
 | (k, y) :: l, s, hs, i, x, h => by
  obtain ⟨D, G⟩ := hs
  simp only [Aw.get] at h
  cases hb : Nat.beq k i with
  | true =>
   have := nq hb
   subst this
   simp only [hb, cond_true, Option.some.injEq] at h
   subst h; exact D
  | false =>
   simp only [hb, cond_false] at h
   exact Sub.get G i x h
theorem C9 {α β : Type} {f : α → List β} : ∀ {l m : List α}, l.Sublist m → (l.flatMap f).Sublist (m.flatMap f)
 | _, _, .slnil => .slnil
 | _, _, .cons a h => by simp only [List.flatMap_cons]; exact (C9 h).trans (List.sublist_append_right _ _)
 | _, _, .cons_cons a h => by simp only [List.flatMap_cons]; exact (List.Sublist.refl _).append (C9 h)
theorem Gam.weaken {H : GH} {a : Act} {w : World} (g : Gam n C σ H a w) {s : Am} {ob : List Ob} (M : Sub s σ.slots) (G : ob.Sublist σ.objs) :
  Gam n C ⟨s, ob⟩ H a w :=
 { g with
  slots := fun i x h => g.slots i x (M.get i x h)
  objs := fun p D => g.objs p (G.subset D)
  free := fun p D => g.free p (G.subset D)
  new := fun p D => g.new p (G.subset D)
  nodup := (C9 G).nodup g.nodup }
theorem AW.weaken {c : Code} {s : Am} {ob : List Ob} (G : Sub s σ.slots) (D : ob.Sublist σ.objs) (h : AW E n C c ⟨s, ob⟩ Q) : AW E n C c σ Q :=
 fun H a w g => h H a w (g.weaken G D)
theorem AO.weaken {D : Array Oper} {l : List Oper} {R : St → Prop} {s : Am} {ob : List Ob} (M : Sub s σ.slots) (G : ob.Sublist σ.objs) (h : AO E n C D l ⟨s, ob⟩ R) :
  AO E n C D l σ R :=
 fun H a w g => h H a w (g.weaken M G)
end rules
def Au (s : Am) : Operand → Option T
 | .tmp t => get s t
 | .const v => some (.v v)
 | .global g => some (.v (.pointer (some ⟨g, 0, none⟩)))
 | .func f => some (.v (.func (.func f) #[] #[]))
structure SR (n : Nat) (s : Am) (H : GH) (a : Act) : Prop where
 size : a.tmps.size = n
 slots : ∀ i x, get s i = some x → VR H (a.tmps.getD i undef) x
theorem SR.eval {n : Nat} {s : Am} {H : GH} {a : Act} (g : SR n s H a) {x : Operand} {y : T} (h : Au s x = some y) : VR H (a.eval x) y := by
 cases x with
 | tmp t => exact g.slots t y h
 | const v => simp only [Au, Option.some.injEq] at h; subst h; exact .v v
 | global g => simp only [Au, Option.some.injEq] at h; subst h; exact .v _
 | func f => simp only [Au, Option.some.injEq] at h; subst h; exact .v _
theorem SR.evalv {n : Nat} {s : Am} {H : GH} {a : Act} (g : SR n s H a) {x : Operand} {y : Value} (h : Au s x = some (.v y)) : a.eval x = y := (g.eval h).v_eq
def Yp (P : Program) (n : Nat) (s : Am) (o : Oper) (x : T) : Prop :=
 ∀ H a, SR n s H a → ∃ v, VR H v x ∧ ∀ w, (execOp a.eval o).run P w = .ok (.value v) w
def Ij (H : GH) (objs : List Ob) (w w' : World) : Prop :=
 (∀ b o, H b = some o → w'.heap[b]? = some o) ∧ ∀ p, p ∈ objs → ∀ b, b ∈ p.fp → w'.heap[b]? = w.heap[b]?
structure WR (objs : List Ob) (H : GH) (w : World) : Prop where
 objs : ∀ p, p ∈ objs → OR H w p
 held : ∀ b o, H b = some o → w.heap[b]? = some o
def Yd (P : Program) (n : Nat) (s : Am) (objs : List Ob) (o : Oper) (x : T) : Prop :=
 ∀ H a w, SR n s H a → WR objs H w → ∃ v, VR H v x ∧ ∀ D, Ij H objs w D → (execOp a.eval o).run P D = .ok (.value v) D
theorem Yp.yd {P : Program} {n : Nat} {s : Am} {objs : List Ob} {o : Oper} {x : T} (h : Yp P n s o x) : Yd P n s objs o x :=
 fun H a _ g _ => let ⟨v, hv, hr⟩ := h H a g; ⟨v, hv, fun D _ => hr D⟩
def Ef (D : TI) (cs : List T) (off : Nat) : Option T :=
 bif D.isAgg then
  (bif Nat.beq off 0 && Nat.beq D.size cs.length then some (.agg cs)
   else bif Nat.ble (off + D.size) cs.length then some (.agg ((cs.drop off).take D.size)) else none)
 else cs[off]?
theorem De (b off n : Nat) : Addr.add ⟨b, off, none⟩ n = ⟨b, off + n, none⟩ := by
 unfold Addr.add
 split
 ·rename_i h; subst h; rfl
 ·rfl
section
variable {E : Env} {n : Nat} {s : Am} {dst : Option Tmp} {ty : TypeId} {pos : String} {aft : Array Edge} {g : Option (Nat × Bool)}
theorem Yp.move {x : Operand} {y : T} (h : Au s x = some y) : Yp E.P n s ⟨dst, .move x, ty, pos, aft, g⟩ y :=
 fun H a r => ⟨a.eval x, r.eval h, fun w => by simp [execOp]⟩
theorem Yp.assign {x : Operand} {y : T} (h : Au s x = some y) : Yp E.P n s ⟨dst, .assign x, ty, pos, aft, g⟩ y :=
 fun H a r => ⟨a.eval x, r.eval h, fun w => by simp [execOp]⟩
theorem aK {c x y : Operand} {z : T} (hc : Au s c = some (.v (.bool true))) (h : Au s x = some z) : Yp E.P n s ⟨dst, .pick c x y, ty, pos, aft, g⟩ z :=
 fun H a r => ⟨a.eval x, r.eval h, fun w => by simp [execOp, r.evalv hc, asBool]⟩
theorem aL {c x y : Operand} {z : T} (hc : Au s c = some (.v (.bool false))) (h : Au s y = some z) : Yp E.P n s ⟨dst, .pick c x y, ty, pos, aft, g⟩ z :=
 fun H a r => ⟨a.eval y, r.eval h, fun w => by simp [execOp, r.evalv hc, asBool]⟩
theorem D2 {D : BinOp} {t O : TypeId} {x y : Operand} {k : IntKind} {a b c : Int} (G : Au s x = some (.v (.int k a))) (M : Au s y = some (.v (.int k b)))
  (hc : match D with | .add => k.wrap (a + b) = c | .sub => k.wrap (a - b) = c | .mul => k.wrap (a * b) = c | .quo => b ≠ 0 ∧ k.wrap (a.tdiv b) = c | .rem => b ≠ 0 ∧ a.tmod b = c | _ => False) :
  Yp E.P n s ⟨dst, .binOp D t x y O, ty, pos, aft, g⟩ (.v (.int k c)) := by
 refine fun H A r => ⟨_, .v _, fun w => ?_⟩
 cases D <;> simp only at hc <;> simp [execOp, r.evalv G, r.evalv M, eqGuard, binOp, Op.intArith, Op.intDiv, hc]
def cmpI : BinOp → Int → Int → Option Bool
 | .eql, a, b => some (a == b)
 | .neq, a, b => some (a != b)
 | .lss, a, b => some (decide (a < b))
 | .leq, a, b => some (decide (a ≤ b))
 | .gtr, a, b => some (decide (a > b))
 | .geq, a, b => some (decide (a ≥ b))
 | _, _, _ => none
theorem Yp.cmpI {D : BinOp} {t O : TypeId} {x y : Operand} {k : IntKind} {a b : Int} {c : Bool} (G : Au s x = some (.v (.int k a))) (M : Au s y = some (.v (.int k b)))
  (hc : Aw.cmpI D a b = some c) : Yp E.P n s ⟨dst, .binOp D t x y O, ty, pos, aft, g⟩ (.v (.bool c)) := by
 refine fun H A r => ⟨_, .v _, fun w => ?_⟩
 cases D <;> simp only [Aw.cmpI, Option.some.injEq, reduceCtorEq] at hc <;> subst hc <;> simp [execOp, r.evalv G, r.evalv M, eqGuard, binOp, Op.intCmp]
def hE := @Yp.cmpI
def cmpS : BinOp → ByteArray → ByteArray → Option Bool
 | .eql, a, b => some (a.toList == b.toList)
 | .neq, a, b => some (!(a.toList == b.toList))
 | .lss, a, b => some (Op.bytesLess a.toList b.toList)
 | .gtr, a, b => some (!(Op.bytesLess a.toList b.toList || a.toList == b.toList))
 | .leq, a, b => some (Op.bytesLess a.toList b.toList || a.toList == b.toList)
 | .geq, a, b => some (!Op.bytesLess a.toList b.toList)
 | _, _, _ => none
theorem Yp.cmpS {D : BinOp} {t O : TypeId} {x y : Operand} {a b : ByteArray} {c : Bool} (G : Au s x = some (.v (.string a))) (M : Au s y = some (.v (.string b)))
  (hc : Aw.cmpS D a b = some c) : Yp E.P n s ⟨dst, .binOp D t x y O, ty, pos, aft, g⟩ (.v (.bool c)) := by
 refine fun H A r => ⟨_, .v _, fun w => ?_⟩
 cases D <;> simp only [Aw.cmpS, Option.some.injEq, reduceCtorEq] at hc <;> subst hc <;> simp [execOp, r.evalv G, r.evalv M, eqGuard, binOp, Op.stringOp]
theorem dH {t M : TypeId} {x y : Operand} {a b : ByteArray} (D : Au s x = some (.v (.string a))) (G : Au s y = some (.v (.string b)))
  (hc : a.size + b.size < 9223372036854775807) : Yp E.P n s ⟨dst, .binOp .add t x y M, ty, pos, aft, g⟩ (.v (.string (a ++ b))) := by
 refine fun H A r => ⟨_, .v _, fun w => ?_⟩
 have : ¬ (((a.size + b.size : Nat) : Int) > IntKind.i64.max) := by
  have : IntKind.i64.max = 9223372036854775807 := by decide
  rw [this]; omega
 simp only [execOp, r.evalv D, r.evalv G, eqGuard, binOp, Op.stringOp, if_neg this]
 simp
theorem Yp.not {t : TypeId} {x : Operand} {b : Bool} (D : Au s x = some (.v (.bool b))) : Yp E.P n s ⟨dst, .unOp .not t x, ty, pos, aft, g⟩ (.v (.bool (!b))) :=
 fun H A r => ⟨_, .v _, fun w => by simp [execOp, r.evalv D, Op.unary]⟩
theorem Yp.neg {t : TypeId} {x : Operand} {k : IntKind} {a c : Int} (D : Au s x = some (.v (.int k a))) (hc : k.wrap (0 - a) = c) :
  Yp E.P n s ⟨dst, .unOp .neg t x, ty, pos, aft, g⟩ (.v (.int k c)) :=
 fun H A r => ⟨_, .v _, fun w => by subst hc; simp [execOp, r.evalv D, Op.unary, Op.intArith]⟩
theorem Yp.extract {x : Operand} {i : Nat} {l : List T} {y : T} (M : Au s x = some (.tup l)) (hi : l[i]? = some y) : Yp E.P n s ⟨dst, .extract x i, ty, pos, aft, g⟩ y := by
 intro H A r
 have h := r.eval M
 generalize G : A.eval x = v at h
 cases h with
 | tup vs cs hl hvs =>
  refine ⟨vs.getD i undef, hvs i y hi, fun w => ?_⟩
  have D : i < vs.size := by
   rw [hl]; exact (gs hi).1
  simp [execOp, G, Instr.extract, Array.getElem?_eq_getElem D, Array.getD, D]
theorem Nv {t Z : TypeId} {x : Operand} {k Y : IntKind} {a c : Int} {ti D : TI} (ht : E.tab t = some ti) (O : E.tab Z = some D) (M : D.kind = .int Y)
  (hx : Au s x = some (.v (.int k a))) (hc : Y.wrap a = c) : Yp E.P n s ⟨dst, .convert t Z x, ty, pos, aft, g⟩ (.v (.int Y c)) := by
 refine fun H A r => ⟨_, .v _, fun w => ?_⟩
 obtain ⟨d, h1, G⟩ := Gi (E.ok _ _ O)
 obtain ⟨d0, h3, h4⟩ := Gi (E.ok _ _ ht)
 rw [M] at G
 cases d <;> simp [Ki] at G
 subst G
 subst hc
 cases d0 <;> simp [execOp, r.evalv hx, convert, run_underlying h1, run_underlying h3, Conv.intToInt]
theorem VR.part {H : GH} {vs : Array Value} {cs : List T} (h : VR H (.agg vs) (.agg cs)) {off size : Nat} (Z : off + size ≤ cs.length) :
  VR H (.agg (vs.extract off (off + size))) (.agg ((cs.drop off).take size)) := by
 cases h with
 | agg vs cs hl h1 hv =>
  have G : ∀ j x, ((cs.drop off).take size)[j]? = some x → cs[off + j]? = some x ∧ (vs.extract off (off + size)).getD j undef = vs.getD (off + j) undef := by
   intro j x D
   have Y : j < size := by
    have := (gs D).1
    simp at this; omega
   rw [List.getElem?_take_of_lt Y, List.getElem?_drop] at D
   refine ⟨D, ?_⟩
   simp [Array.getD_eq_getD_getElem?, Array.getElem?_extract]
   rw [if_pos (by omega)]
  exact .agg _ _ (by simp; omega) (fun j x D => by obtain ⟨M, O⟩ := G j x D; rw [O]; exact h1 _ _ M)
   (fun j x D => by obtain ⟨M, O⟩ := G j x D; rw [O]; exact hv _ _ M)
theorem G4 {P : Program} {H : GH} {vs : Array Value} {cs : List T} (h : VR H (.agg vs) (.agg cs)) {t : TypeId} {G : TI} (ht : Hd P t = some G) {off : Nat} {y : T}
  (D : Ef G cs off = some y) : ∃ v, VR H v y ∧ ∀ w, (part t vs off).run P w = .ok v w := by
 unfold Ef at D
 cases ha : G.isAgg with
 | true =>
  simp only [ha, cond_true] at D
  have Y : ∀ w, (part t vs off).run P w = .ok (.agg (vs.extract off (off + G.size))) w := fun w => by
   simp [part, Fl ht, ha, Bu ht]
  refine ⟨_, ?_, Y⟩
  cases hb : (Nat.beq off 0 && Nat.beq G.size cs.length) with
  | true =>
   simp only [hb, cond_true, Option.some.injEq] at D
   subst D
   simp only [Bool.and_eq_true] at hb
   obtain ⟨Z, M⟩ := hb
   have Z := nq Z
   have M := nq M
   subst Z
   have := h.part (off := 0) (size := G.size) (by omega)
   simpa [M] using this
  | false =>
   simp only [hb, cond_false] at D
   cases hc : Nat.ble (off + G.size) cs.length with
   | false => simp [hc] at D
   | true =>
    simp only [hc, cond_true, Option.some.injEq] at D
    subst D
    exact h.part (Nat.le_of_ble_eq_true hc)
 | false =>
  simp only [ha, cond_false] at D
  cases h with
  | agg vs cs hl h1 hv =>
   refine ⟨_, hv _ _ D, fun w => ?_⟩
   have O : off < vs.size := by rw [hl]; exact (gs D).1
   simp [part, Fl ht, ha, Array.getElem?_eq_getElem O, Array.getD, O]
theorem Sx {t : TypeId} {x : Operand} {f : Nat} {b o : Nat} {ti G : TI} {fs : List (Nat × Nat)} {off ft : Nat}
  (ht : E.tab t = some ti) (hk : ti.kind = .struct fs) (hf : fs[f]? = some (off, ft)) (O : E.tab ft = some G) (hz : Nat.beq G.size 0 = false)
  (hx : Au s x = some (.v (.pointer (some ⟨b, o, none⟩)))) : Yp E.P n s ⟨dst, .fieldAddr t x f, ty, pos, aft, g⟩ (.v (.pointer (some ⟨b, o + off, none⟩))) := by
 intro H A r
 obtain ⟨ff, h1, h2⟩ := F6 (E.ok _ _ ht) hk
 have M : ∃ D, ff[f]? = some D ∧ D.offset = off ∧ D.type = ft := by
  rw [← h2] at hf
  simp only [List.getElem?_map, Option.map_eq_some_iff] at hf
  obtain ⟨D, Z, q2⟩ := hf
  refine ⟨D, by simpa using Z, ?_, ?_⟩ <;> simp_all
 obtain ⟨D, Z, rfl, rfl⟩ := M
 have Y : ¬ G.size = 0 := by intro h; rw [h] at hz; simp at hz
 exact ⟨_, .v _, fun w => by
  simp [execOp, r.evalv hx, Instr.fieldAt, run_underlying h1, Z, Instr.sureAddr, fieldPlace, Bu (E.ok _ _ O), Y, De]⟩
theorem VR.eptr_drop {H : GH} {b o : Nat} {l : List T} (h : VR H (.pointer (some ⟨b, o, none⟩)) (.eptr l)) {off : Nat} (G : off ≤ l.length) :
  VR H (.pointer (some ⟨b, o + off, none⟩)) (.eptr (l.drop off)) := by
 cases h with
 | eptr b off' l cs ty fr hb hsz h1 hv =>
  refine .eptr b (o + off) (l.drop off) cs ty fr hb (by simp; omega) (fun j x D => ?_) (fun j x D => ?_)
  ·rw [List.getElem?_drop] at D; rw [show o + off + j = o + (off + j) by omega]; exact h1 _ _ D
  ·rw [List.getElem?_drop] at D; rw [show o + off + j = o + (off + j) by omega]; exact hv _ _ D
theorem VR.eptr_ptr {H : GH} {v : Value} {l : List T} (h : VR H v (.eptr l)) : ∃ b o, v = .pointer (some ⟨b, o, none⟩) := by
 cases h; exact ⟨_, _, rfl⟩
theorem V8 {t : TypeId} {x : Operand} {f : Nat} {cs : List T} {ti G : TI} {fs : List (Nat × Nat)} {off ft : Nat}
  (ht : E.tab t = some ti) (hk : ti.kind = .struct fs) (hf : fs[f]? = some (off, ft)) (O : E.tab ft = some G) (hz : Nat.beq G.size 0 = false)
  (hx : Au s x = some (.eptr cs)) (Y : Nat.ble off cs.length = true) : Yp E.P n s ⟨dst, .fieldAddr t x f, ty, pos, aft, g⟩ (.eptr (cs.drop off)) := by
 intro H A r
 obtain ⟨ff, h1, h2⟩ := F6 (E.ok _ _ ht) hk
 have M : ∃ D, ff[f]? = some D ∧ D.offset = off ∧ D.type = ft := by
  rw [← h2] at hf
  simp only [List.getElem?_map, Option.map_eq_some_iff] at hf
  obtain ⟨D, q1, q2⟩ := hf
  refine ⟨D, by simpa using q1, ?_, ?_⟩ <;> simp_all
 obtain ⟨D, q1, rfl, rfl⟩ := M
 have Z : ¬ G.size = 0 := by intro h; rw [h] at hz; simp at hz
 have h := r.eval hx
 obtain ⟨b, o, hv⟩ := h.eptr_ptr
 rw [hv] at h
 exact ⟨_, h.eptr_drop (Nat.le_of_ble_eq_true Y), fun w => by
  simp [execOp, hv, Instr.fieldAt, run_underlying h1, q1, Instr.sureAddr, fieldPlace, Bu (E.ok _ _ O), Z, De]⟩
theorem Rh {x : Operand} {b : Addr} (D : Au s x = some (.v (.pointer (some b)))) : Yp E.P n s ⟨dst, .nilCheck x, ty, pos, aft, g⟩ (.v (.pointer (some b))) :=
 fun H A r => ⟨_, .v _, fun w => by simp [execOp, r.evalv D]⟩
theorem Ri {x : Operand} {cs : List T} (G : Au s x = some (.eptr cs)) : Yp E.P n s ⟨dst, .nilCheck x, ty, pos, aft, g⟩ (.eptr cs) := by
 intro H A r
 have h := r.eval G
 obtain ⟨b, o, D⟩ := h.eptr_ptr
 exact ⟨_, h, fun w => by simp [execOp, D]⟩
theorem VR.list_slice {H : GH} {v : Value} {sz : Nat} {es : List (List T)} (h : VR H v (.list sz es)) : ∃ a cap, v = .slice a es.length cap := by
 cases h with
 | empty a cap sz => exact ⟨a, cap, rfl⟩
 | list b off cap sz es cs ty fr hb hcap hmax hsz hel h1 hv => exact ⟨_, _, rfl⟩
theorem VR.list_max {H : GH} {v : Value} {sz : Nat} {es : List (List T)} (h : VR H v (.list sz es)) : es.length ≤ Gx := by
 cases h with
 | empty a cap sz => simp [Gx]
 | list b off cap sz es cs ty fr hb hcap hmax hsz hel h1 hv => exact hmax
theorem Ts {x : Operand} {t : TypeId} {sz : Nat} {es : List (List T)} {ti : TI} {e : Nat} (M : E.tab t = some ti) (G : ti.kind = .slice e) (Y : Au s x = some (.list sz es)) :
  Yp E.P n s ⟨dst, .call { callee := .builtin .len, args := #[x], argTypes := #[t] }, ty, pos, aft, g⟩ (.v (.int .i64 es.length)) := by
 refine fun H A r => ⟨_, .v _, fun w => ?_⟩
 obtain ⟨a, D, O⟩ := (r.eval Y).list_slice
 simp [execOp, resolve, invoke, builtin, Builtin.len_, O, run_underlying (D3 (E.ok _ _ M) G), goInt]
theorem Fc {x : Operand} {t : TypeId} {a : Option Addr} {len cap : Nat} {ti : TI} {e : Nat} (G : E.tab t = some ti) (D : ti.kind = .slice e) (M : Au s x = some (.v (.slice a len cap))) :
  Yp E.P n s ⟨dst, .call { callee := .builtin .len, args := #[x], argTypes := #[t] }, ty, pos, aft, g⟩ (.v (.int .i64 len)) :=
 fun H A r => ⟨_, .v _, fun w => by simp [execOp, resolve, invoke, builtin, Builtin.len_, r.evalv M, run_underlying (D3 (E.ok _ _ G) D), goInt]⟩
theorem F7 {P : Program} {t : TypeId} {i : TI} (h : Hd P t = some i) (M : i.kind = .string) : P.underlying t = some .string := by
 obtain ⟨d, G, D⟩ := Gi h
 rw [M] at D
 cases d <;> simp [Ki] at D
 exact G
theorem Rj {x : Operand} {t : TypeId} {b : ByteArray} {ti : TI} (G : E.tab t = some ti) (D : ti.kind = .string) (M : Au s x = some (.v (.string b))) :
  Yp E.P n s ⟨dst, .call { callee := .builtin .len, args := #[x], argTypes := #[t] }, ty, pos, aft, g⟩ (.v (.int .i64 b.size)) :=
 fun H A r => ⟨_, .v _, fun w => by simp [execOp, resolve, invoke, builtin, Builtin.len_, r.evalv M, run_underlying (F7 (E.ok _ _ G) D), goInt]⟩
theorem dG {x y : Operand} {M : Array TypeId} {k : IntKind} {a b : Int} (D : Au s x = some (.v (.int k a))) (G : Au s y = some (.v (.int k b))) :
  Yp E.P n s ⟨dst, .call { callee := .builtin .max, args := #[x, y], argTypes := M }, ty, pos, aft, g⟩ (.v (.int k (max a b))) := by
 refine fun H A r => ⟨_, .v _, fun w => ?_⟩
 have : (if b > a then b else a) = max a b := by split <;> omega
 simp [execOp, resolve, invoke, builtin, Builtin.max_, Builtin.max2, r.evalv D, r.evalv G]
 omega
theorem dF {x y : Operand} {M : Array TypeId} {k : IntKind} {a b : Int} (D : Au s x = some (.v (.int k a))) (G : Au s y = some (.v (.int k b))) :
  Yp E.P n s ⟨dst, .call { callee := .builtin .min, args := #[x, y], argTypes := M }, ty, pos, aft, g⟩ (.v (.int k (min a b))) := by
 refine fun H A r => ⟨_, .v _, fun w => ?_⟩
 simp [execOp, resolve, invoke, builtin, Builtin.min_, Builtin.min2, r.evalv D, r.evalv G]
 omega
theorem V7 {t : TypeId} {x y : Operand} {k : IntKind} {i : Int} {m : Nat} {sz : Nat} {es : List (List T)} {e : List T} {ti M : TI} {G : Nat}
  (Z : E.tab t = some ti) (Y : ti.kind = .slice G) (hel : E.tab G = some M) (hsz : M.size = sz)
  (D : Au s x = some (.list sz es)) (hy : Au s y = some (.v (.int k i))) (hi : i = (m : Int)) (he : es[m]? = some e) :
  Yp E.P n s ⟨dst, .indexAddr t x y, ty, pos, aft, g⟩ (.eptr e) := by
 intro H A r
 have h := r.eval D
 have O : m < es.length := (gs he).1
 generalize hv : A.eval x = v at h
 cases h with
 | empty a cap sz => simp at he
 | list b off cap sz es cs ty fr hb hcap hmax hsz' hel' h1 hvs =>
  refine ⟨.pointer (some ⟨b, off + m * sz, none⟩), .eptr b (off + m * sz) e cs ty fr hb ?_ (fun j x D => h1 m e he j x D) (fun j x D => hvs m e he j x D), fun w => ?_⟩
  ·rw [hel' m e he]
   have : (m + 1) * sz ≤ es.length * sz := Nat.mul_le_mul_right _ O
   rw [Nat.succ_mul] at this; omega
  ·subst hi
   simp [execOp, hv, r.evalv hy, Instr.indexAt, asIntOf, run_underlying (D3 (E.ok _ _ Z) Y), Bu (E.ok _ _ hel), hsz, O, De]
theorem Lb {t : TypeId} {x y : Operand} {k : IntKind} {i : Int} {m : Nat} {b off len cap : Nat} {ti G : TI} {D : Nat}
  (Y : E.tab t = some ti) (M : ti.kind = .slice D) (hel : E.tab D = some G)
  (Z : Au s x = some (.v (.slice (some ⟨b, off, none⟩) len cap))) (hy : Au s y = some (.v (.int k i))) (hi : i = (m : Int)) (O : m < len) :
  Yp E.P n s ⟨dst, .indexAddr t x y, ty, pos, aft, g⟩ (.v (.pointer (some ⟨b, off + m * G.size, none⟩))) := by
 refine fun H A r => ⟨_, .v _, fun w => ?_⟩
 subst hi
 simp [execOp, r.evalv Z, r.evalv hy, Instr.indexAt, asIntOf, run_underlying (D3 (E.ok _ _ Y) M), Bu (E.ok _ _ hel), O, De]
theorem K4 {P : Program} {t : TypeId} {i : TI} (h : Hd P t = some i) {m e : Nat} (M : i.kind = .array m e) : P.underlying t = some (.array m e) := by
 obtain ⟨d, G, D⟩ := Gi h
 rw [M] at D
 cases d <;> simp [Ki] at D
 obtain ⟨rfl, rfl⟩ := D; exact G
theorem Cy {t : TypeId} {x y : Operand} {k : IntKind} {i : Int} {m : Nat} {b off len : Nat} {ti G : TI} {D : Nat}
  (Y : E.tab t = some ti) (M : ti.kind = .array len D) (hel : E.tab D = some G)
  (Z : Au s x = some (.v (.pointer (some ⟨b, off, none⟩)))) (hy : Au s y = some (.v (.int k i))) (hi : i = (m : Int)) (O : m < len) :
  Yp E.P n s ⟨dst, .indexAddr t x y, ty, pos, aft, g⟩ (.v (.pointer (some ⟨b, off + m * G.size, none⟩))) := by
 refine fun H A r => ⟨_, .v _, fun w => ?_⟩
 subst hi
 simp [execOp, r.evalv Z, r.evalv hy, Instr.indexAt, Instr.sureAddr, asIntOf, run_underlying (K4 (E.ok _ _ Y) M), Bu (E.ok _ _ hel), O, De]
def S4 (s : Am) (x : Option Operand) (d m : Nat) : Prop :=
 match x with
 | none => m = d
 | some x => ∃ k i, Au s x = some (.v (.int k i)) ∧ i = (m : Int)
theorem Ct {P : Program} {w : World} {k : IntKind} {m y : Nat} {D : BoundsCode} (h : m ≤ y) : (Instr.sliceBound (.int k (m : Int)) y D).run P w = .ok m w := by
 simp [Instr.sliceBound, asIntOf, h]
theorem G8 {P : Program} {w : World} {a : Act} {H : GH} (r : SR n s H a) {isS : Bool} {len cap l h m : Nat} {lo hi mx : Option Operand} (h1 : S4 s lo 0 l) (h2 : S4 s hi len h) (D : S4 s mx cap m)
  (Z : hi = none → mx = none) (M : l ≤ h) (G : h ≤ m) (Y : m ≤ cap) :
  (Instr.sliceBounds isS len cap (lo.map a.eval) (hi.map a.eval) (mx.map a.eval)).run P w = .ok (l, h, m) w := by
 unfold Instr.sliceBounds
 cases lo with
 | none =>
  simp only [S4] at h1
  subst h1
  cases hi with
  | none =>
   have := Z rfl; subst this
   simp only [S4] at h2 D
   subst h2 D
   simp
  | some hi =>
   obtain ⟨k2, i2, O, rfl⟩ := h2
   cases mx with
   | none => simp only [S4] at D; subst D; simp [r.evalv O, Ct G]
   | some mx => obtain ⟨k3, i3, e3, rfl⟩ := D; simp [r.evalv O, r.evalv e3, Ct Y, Ct G]
 | some lo =>
  obtain ⟨k1, i1, e1, rfl⟩ := h1
  cases hi with
  | none =>
   have := Z rfl; subst this
   simp only [S4] at h2 D
   subst h2 D
   simp [r.evalv e1, Ct M]
  | some hi =>
   obtain ⟨k2, i2, O, rfl⟩ := h2
   cases mx with
   | none => simp only [S4] at D; subst D; simp [r.evalv e1, r.evalv O, Ct G, Ct M]
   | some mx => obtain ⟨k3, i3, e3, rfl⟩ := D; simp [r.evalv e1, r.evalv O, r.evalv e3, Ct Y, Ct G, Ct M]
theorem VR.sub {H : GH} {b off cap sz : Nat} {es : List (List T)} (h : VR H (.slice (some ⟨b, off, none⟩) es.length cap) (.list sz es)) {l k c : Nat} (O : l + k ≤ es.length) (hc : k ≤ c) :
  VR H (.slice (some ⟨b, off + l * sz, none⟩) k c) (.list sz ((es.drop l).take k)) := by
 generalize hv : Value.slice (some ⟨b, off, none⟩) es.length cap = v at h
 cases h with
 | empty a cap sz =>
  have hk : k = 0 := by simp at O; omega
  subst hk
  simpa using VR.empty (H := H) (some ⟨b, off + l * sz, none⟩) c sz
 | list b' off' cap' sz es cs ty fr hb hcap hmax hsz hel h1 hvs =>
  simp only [Value.slice.injEq, Option.some.injEq, Addr.mk.injEq, and_true] at hv
  obtain ⟨⟨rfl, rfl⟩, _, _⟩ := hv
  have D : ((es.drop l).take k).length = k := by simp; omega
  have M : ∀ (i : Nat) (e : List T), ((es.drop l).take k)[i]? = some e → es[l + i]? = some e := by
   intro i e G
   have hi : i < k := by have := (gs G).1; omega
   rwa [List.getElem?_take_of_lt hi, List.getElem?_drop] at G
  have Y : (l + k) * sz ≤ es.length * sz := Nat.mul_le_mul_right _ O
  rw [Nat.add_mul] at Y
  have := VR.list (H := H) b (off + l * sz) c sz ((es.drop l).take k) cs ty fr hb (by rw [D]; exact hc) (by rw [D]; exact Nat.le_trans (by omega) hmax) (by rw [D]; omega) (fun i e G => hel _ _ (M i e G))
   (fun i e G j x Z => by have := h1 _ _ (M i e G) j x Z; rwa [Nat.add_mul, ← Nat.add_assoc] at this)
   (fun i e G j x Z => by have := hvs _ _ (M i e G) j x Z; rwa [Nat.add_mul, ← Nat.add_assoc] at this)
  rwa [D] at this
theorem V6 {t : TypeId} {x : Operand} {lo hi mx : Option Operand} {sz : Nat} {es : List (List T)} {ti Y : TI} {e : Nat} (l h m : Nat)
  (ht : E.tab t = some ti) (hk : ti.kind = .slice e) (he : E.tab e = some Y) (hsz : Y.size = sz) (hx : Au s x = some (.list sz es))
  (h1 : S4 s lo 0 l) (h2 : S4 s hi es.length h) (h3 : ∀ cap, es.length ≤ cap → ∃ D, S4 s mx cap D ∧ h ≤ D ∧ D ≤ cap) (O : hi = none → mx = none) (M : l ≤ h) (hh : h ≤ es.length) :
  Yp E.P n s ⟨dst, .slice t x lo hi mx, ty, pos, aft, g⟩ (.list sz ((es.drop l).take (h - l))) := by
 intro H A r
 have hv := r.eval hx
 have hu := D3 (E.ok _ _ ht) hk
 generalize aa : A.eval x = v at hv
 have G : ∀ w, (execOp A.eval ⟨dst, .slice t x lo hi mx, ty, pos, aft, g⟩).run E.P w = ((Instr.sliceAt t v (lo.map A.eval) (hi.map A.eval) (mx.map A.eval)).run E.P w).andThen fun a w => .ok (.value a) w := by
  intro w
  simp only [execOp, aa, Sem.run_bind]
  rfl
 cases hv with
 | empty a cap sz =>
  simp only [List.length_nil, Nat.le_zero] at hh
  subst hh
  simp only [List.length_nil] at h2
  have : l = 0 := by omega
  subst this
  obtain ⟨D, q1, q2, q3⟩ := h3 cap (by simp)
  refine ⟨.slice (if D = 0 then a else a.map (·.add (0 * Y.size))) (0 - 0) (D - 0), by simpa using VR.empty _ _ _, fun w => ?_⟩
  rw [G]
  simp only [Instr.sliceAt, Instr.slice, Sem.run_bind, run_underlying hu, Result.andThen_ok, G8 r h1 h2 q1 O M q2 q3, Bu (E.ok _ _ he), Sem.run_pure]
 | list b off cap sz es cs ty fr hb hcap hmax hsz' hel hh1 hvs =>
  obtain ⟨D, q1, q2, q3⟩ := h3 cap hcap
  refine ⟨.slice (if D = l then some ⟨b, off, none⟩ else (some (⟨b, off, none⟩ : Addr)).map (·.add (l * Y.size))) (h - l) (D - l), ?_, fun w => ?_⟩
  ·by_cases Z : D = l
   ·have : h - l = 0 := by omega
    rw [this]; simpa using VR.empty (H := H) _ _ _
   ·rw [if_neg Z]
    simp only [Option.map_some, De, hsz]
    exact VR.sub (.list b off cap sz es cs ty fr hb hcap hmax hsz' hel hh1 hvs) (by omega) (by omega)
  ·rw [G]
   simp only [Instr.sliceAt, Instr.slice, Sem.run_bind, run_underlying hu, Result.andThen_ok, G8 r h1 h2 q1 O M q2 q3, Bu (E.ok _ _ he), Sem.run_pure]
theorem Sv {t : TypeId} {x y : Operand} {b : ByteArray} {k : IntKind} {i : Int} {m : Nat} {ti : TI} (O : E.tab t = some ti) (M : ti.kind = .string) (Z : Au s x = some (.v (.string b)))
  (hy : Au s y = some (.v (.int k i))) (hi : i = (m : Int)) (G : m < b.size) : Yp E.P n s ⟨dst, .index t x y, ty, pos, aft, g⟩ (.v (.int .u8 ((b.data.getD m 0).toNat : Int))) := by
 refine fun H A r => ⟨_, .v _, fun w => ?_⟩
 subst hi
 have Y := F7 (E.ok _ _ O) M
 have D : m < b.data.size := G
 have : b[m]? = some (b.data.getD m 0) := by
  simp [getElem?_def, G, Array.getD, D]
  rfl
 simp [execOp, r.evalv Z, r.evalv hy, Instr.index, asIntOf, run_underlying Y, this]
end
section
variable {E : Env} {n : Nat} {C : Ctx} {σ : St} {dst : Option Tmp} {ty : TypeId} {pos : String} {aft : Array Edge} {g : Option (Nat × Bool)}
theorem Gam.sr {H : GH} {a : Act} {w : World} (h : Gam n C σ H a w) : SR n σ.slots H a := ⟨h.size, h.slots⟩
theorem Gam.wr {H : GH} {a : Act} {w : World} (h : Gam n C σ H a w) : WR σ.objs H w := ⟨h.objs, h.held⟩
theorem Fb {H : GH} {cs : Array Value} {D : Nat} {e : List T} {G : TI} {j : Nat} {y : T} (hsz : D + e.length ≤ cs.size)
  (h1 : ∀ (j : Nat) (x : T), e[j]? = some x → (cs.getD (D + j) undef).oneCell' = true) (hv : ∀ (j : Nat) (x : T), e[j]? = some x → VR H (cs.getD (D + j) undef) x)
  (M : Ef G e j = some y) :
  (G.isAgg = true → j + G.size ≤ e.length ∧ VR H (.agg ((List.range G.size).map fun i => cs.getD (D + j + i) undef).toArray) y) ∧
  (G.isAgg = false → j < e.length ∧ VR H (cs.getD (D + j) undef) y) := by
 unfold Ef at M
 refine ⟨fun Y => ?_, fun Y => ?_⟩
 ·simp only [Y, cond_true] at M
  have Z : j + G.size ≤ e.length ∧ y = .agg ((e.drop j).take G.size) := by
   cases hb : (Nat.beq j 0 && Nat.beq G.size e.length) with
   | true =>
    simp only [hb, cond_true, Option.some.injEq] at M
    simp only [Bool.and_eq_true] at hb
    have h0 := nq hb.1
    have h2 := nq hb.2
    subst h0
    exact ⟨by omega, by rw [← M, h2]; simp⟩
   | false =>
    simp only [hb, cond_false] at M
    cases hc : Nat.ble (j + G.size) e.length with
    | false => simp [hc] at M
    | true =>
     simp only [hc, cond_true, Option.some.injEq] at M
     exact ⟨Nat.le_of_ble_eq_true hc, M.symm⟩
  obtain ⟨k1, rfl⟩ := Z
  refine ⟨k1, .agg _ _ (by simp; omega) ?_ ?_⟩
  all_goals
   intro i x O
   have hi : i < G.size := by
    have := (gs O).1
    simp at this; omega
   rw [List.getElem?_take_of_lt hi, List.getElem?_drop] at O
   have he : (((List.range G.size).map fun i => cs.getD (D + j + i) undef).toArray).getD i undef = cs.getD (D + (j + i)) undef := by
    simp [Array.getD_eq_getD_getElem?, hi, Nat.add_assoc]
   rw [he]
   first | exact h1 _ _ O | exact hv _ _ O
 ·simp only [Y, cond_false] at M
  exact ⟨(gs M).1, hv _ _ M⟩
def Dr (D : TI) (cs : Array Value) (o : Nat) : Value :=
 if D.isAgg then .agg ((List.range D.size).map fun i => cs.getD (o + i) undef).toArray else cs.getD o undef
theorem Sc {w : World} {b o : Nat} {cs : Array Value} {ty : TypeId} {fr : Nat × Nat} (h : w.heap[b]? = some (.cells cs ty fr)) (D : o < cs.size) :
  w.cell? ⟨b, o, none⟩ = some (cs.getD o undef) := by
 simp [World.cell?, h, Array.getD, D]
theorem D8 {P : Program} {H : GH} {w : World} {t : TypeId} {G : TI} (M : Hd P t = some G) {b D j : Nat} {cs : Array Value} {ty : TypeId} {fr : Nat × Nat} {e : List T} {y : T}
  (hb : w.heap[b]? = some (.cells cs ty fr)) (hsz : D + e.length ≤ cs.size)
  (h1 : ∀ (j : Nat) (x : T), e[j]? = some x → (cs.getD (D + j) undef).oneCell' = true) (hv : ∀ (j : Nat) (x : T), e[j]? = some x → VR H (cs.getD (D + j) undef) x)
  (Y : Ef G e j = some y) : (loadVar t ⟨b, D + j, none⟩).run P w = .ok (Dr G cs (D + j)) w := by
 unfold Dr
 obtain ⟨p1, p2⟩ := Fb hsz h1 hv Y
 cases ha : G.isAgg with
 | true =>
  obtain ⟨Z, _⟩ := p1 ha
  have O := run_loadCells (P := P) w ⟨b, D + j, none⟩ G.size (fun i => cs.getD (D + j + i) undef) (fun i hi => by
   rw [De]; exact Sc hb (by omega))
  simp [loadVar, Fl M, ha, Bu M, O]
 | false =>
  obtain ⟨Z, _⟩ := p2 ha
  simp [loadVar, Fl M, ha, Sc hb (show D + j < cs.size by omega)]
theorem aN {t : TypeId} {x : Operand} {cs : List T} {D : TI} {y : T} {objs : List Ob} {s : Am} (O : E.tab t = some D) (Z : Au s x = some (.eptr cs)) (G : Ef D cs 0 = some y) :
  Yd E.P n s objs ⟨dst, .load t x, ty, pos, aft, g⟩ y := by
 intro H a w r wr
 have h := r.eval Z
 generalize Y : a.eval x = v at h
 cases h with
 | eptr b off l cs' ty' fr hb hsz h1 hvs =>
  obtain ⟨p1, p2⟩ := Fb hsz h1 hvs G
  refine ⟨Dr D cs' off, ?_, fun w' M => ?_⟩
  rotate_left
  ·have := D8 (j := 0) (E.ok _ _ O) (M.1 _ _ hb) hsz h1 hvs G
   simp only [execOp, Y, Instr.loadAt, Instr.sureAddr, Sem.run_bind, Sem.run_pure, Result.andThen_ok]
   simp only [Nat.add_zero] at this
   rw [this]
   first | done | rfl
  ·cases ha : D.isAgg with
   | true => simpa [Dr, ha] using (p1 ha).2
   | false => simpa [Dr, ha] using (p2 ha).2
theorem OR.cells {H : GH} {w : World} {b O sz cap : Nat} {es : List (List T)} (h : OR H w (.arr b O sz cap es)) {i : Nat} {e : List T} (he : es[i]? = some e) :
  ∃ cs, w.heap[b]? = some (.cells cs O (0, 0)) ∧ i * sz + e.length ≤ cs.size ∧ e.length = sz ∧
   (∀ (j : Nat) (x : T), e[j]? = some x → (cs.getD (i * sz + j) undef).oneCell' = true) ∧ (∀ (j : Nat) (x : T), e[j]? = some x → VR H (cs.getD (i * sz + j) undef) x) := by
 obtain ⟨cs, Y, Z, a3, a4, G, M⟩ := h
 refine ⟨cs, Y, ?_, G i e he, fun j x D => (M i e he j x D).1, fun j x D => (M i e he j x D).2⟩
 have hi : i < es.length := (gs he).1
 have : (i + 1) * sz ≤ cap * sz := Nat.mul_le_mul_right _ (by omega)
 rw [Nat.succ_mul] at this
 rw [G i e he, Z]; exact this
theorem Gt (k : Nat) {t : TypeId} {x : Operand} {G : TI} {y : T} {objs : List Ob} {s : Am} {b off tt sz cap : Nat} {es : List (List T)} (i j : Nat) {e : List T}
  (ht : E.tab t = some G) (hx : Au s x = some (.v (.pointer (some ⟨b, off, none⟩))))
  (Z : objs[k]? = some (.arr b tt sz cap es)) (he : es[i]? = some e) (ho : off = i * sz + j) (hp : Ef G e j = some y) :
  Yd E.P n s objs ⟨dst, .load t x, ty, pos, aft, g⟩ y := by
 intro H a w r wr
 have hv := r.evalv hx
 have M := wr.objs _ (mg Z)
 obtain ⟨cs, a1, O, a3, Y, D⟩ := OR.cells M he
 obtain ⟨p1, p2⟩ := Fb O Y D hp
 subst ho
 refine ⟨Dr G cs (i * sz + j), ?_, fun w' ag => ?_⟩
 rotate_left
 ·have hb := ag.2 _ (mg Z)
  have := D8 (j := j) (E.ok _ _ ht) ((hb b (by simp [Ob.fp])).trans a1) O Y D hp
  simp only [execOp, hv, Instr.loadAt, Instr.sureAddr, Sem.run_bind, Sem.run_pure, Result.andThen_ok, this]
  first | done | rfl
 ·cases ha : G.isAgg with
  | true => simpa [Dr, ha] using (p1 ha).2
  | false => simpa [Dr, ha] using (p2 ha).2
theorem UsR.arr {H : GH} {w : World} {v : Value} {D sz : Nat} {es : List (List T)} (h : UsR H w v D sz es) {i : Nat} {e : List T} (he : es[i]? = some e) :
  ∃ c cap, v = .slice (some ⟨Gp v, 0, none⟩) es.length c ∧ es.length ≤ c ∧ c ≤ cap ∧ ArrR H w (Gp v) D sz cap es ∧ Gn v = [Gp v] := by
 rcases h with ⟨_, h⟩ | ⟨b, c, cap, rfl, G, M, O⟩
 ·subst h; simp at he
 ·exact ⟨c, cap, rfl, G, M, O, rfl⟩
theorem Bx (k : Nat) {t : TypeId} {x : Operand} {Z : TI} {y : T} {objs : List Ob} {s : Am} {v : Value} {off O sz : Nat} {es : List (List T)} (i j : Nat) {e : List T}
  (ht : E.tab t = some Z) (hx : Au s x = some (.v (.pointer (some ⟨Gp v, off, none⟩))))
  (hk : objs[k]? = some (.us v O sz es)) (he : es[i]? = some e) (ho : off = i * sz + j) (D : Ef Z e j = some y) :
  Yd E.P n s objs ⟨dst, .load t x, ty, pos, aft, g⟩ y := by
 intro H a w r wr
 have M : UsR H w v O sz es := wr.objs _ (mg hk)
 obtain ⟨c, G, hv, h1, h2, h3, h4⟩ := M.arr he
 obtain ⟨z, hz, hr⟩ := Gt (E := E) (n := n) (dst := dst) (ty := ty) (pos := pos) (aft := aft) (g := g) (objs := [.arr (Gp v) O sz G es]) 0 i j ht hx rfl he ho D H a w r ⟨fun p D => by simp at D; subst D; exact h3, wr.held⟩
 refine ⟨z, hz, fun w' Y => hr w' ⟨Y.1, fun p D b hb => ?_⟩⟩
 simp only [List.mem_singleton] at D
 subst D
 exact Y.2 _ (mg hk) b (by simp only [Ob.fp, h4] at *; exact hb)
theorem dI (k : Nat) {x : Operand} {t : TypeId} {objs : List Ob} {s : Am} {v : Value} {Z sz : Nat} {es : List (List T)} {ti : TI} {e : Nat} (G : E.tab t = some ti) (D : ti.kind = .slice e) (M : Au s x = some (.v v))
  (ho : objs[k]? = some (.us v Z sz es)) : Yd E.P n s objs ⟨dst, .call { callee := .builtin .len, args := #[x], argTypes := #[t] }, ty, pos, aft, g⟩ (.v (.int .i64 es.length)) := by
 intro H a w r wr
 have O : UsR H w v Z sz es := wr.objs _ (mg ho)
 rcases O with ⟨rfl, rfl⟩ | ⟨b, c, aa, rfl, h1, h2, h3⟩
 ·exact ⟨_, .v _, fun Y _ => (Fc (E := E) (n := n) G D M H a r).choose_spec.2 Y |> fun h => by rw [h]; have := (Fc (E := E) (n := n) (dst := dst) (ty := ty) (pos := pos) (aft := aft) (g := g) G D M H a r).choose_spec.1.v_eq; rw [this]; rfl⟩
 ·exact ⟨_, .v _, fun Y _ => (Fc (E := E) (n := n) G D M H a r).choose_spec.2 Y |> fun h => by rw [h]; have := (Fc (E := E) (n := n) (dst := dst) (ty := ty) (pos := pos) (aft := aft) (g := g) G D M H a r).choose_spec.1.v_eq; rw [this]⟩
theorem Co (k : Nat) {t : TypeId} {x y : Operand} {kk : IntKind} {i : Int} {m : Nat} {objs : List Ob} {s : Am} {v : Value} {tt sz : Nat} {es : List (List T)} {e : List T} {ti Y : TI} {O : Nat}
  (ht : E.tab t = some ti) (Z : ti.kind = .slice O) (hel : E.tab O = some Y) (hsz : Y.size = sz)
  (hx : Au s x = some (.v v)) (ho : objs[k]? = some (.us v tt sz es)) (hy : Au s y = some (.v (.int kk i))) (hi : i = (m : Int)) (G : es[m]? = some e) :
  Yd E.P n s objs ⟨dst, .indexAddr t x y, ty, pos, aft, g⟩ (.v (.pointer (some ⟨Gp v, m * sz, none⟩))) := by
 intro H a w r wr
 have M : UsR H w v tt sz es := wr.objs _ (mg ho)
 obtain ⟨c, cap, hv, h1, h2, h3, h4⟩ := M.arr G
 have D : Au s x = some (.v (.slice (some ⟨Gp v, 0, none⟩) es.length c)) := by rw [← hv]; exact hx
 have := Lb (E := E) (n := n) (dst := dst) (ty := ty) (pos := pos) (aft := aft) (g := g) ht Z hel D hy hi (gs G).1 H a r
 rw [hsz, Nat.zero_add] at this
 exact (Yp.yd (fun H A r => Lb (E := E) (n := n) (dst := dst) (ty := ty) (pos := pos) (aft := aft) (g := g) ht Z hel D hy hi (gs G).1 H A r) (objs := objs) H a w r wr) |> fun h => by rw [hsz, Nat.zero_add] at h; exact h
theorem AO.still {D : Array Oper} {o : Oper} {l : List Oper} {R : St → Prop} {x : T} (Z : Yd E.P n σ.slots σ.objs o x) (hg : o.guard = none) (M : ∀ d, o.dst = some d → d < n)
  (k : AO E n C D l (σ.put o.dst x) R) : AO E n C D (o :: l) σ R := by
 intro H a w G
 obtain ⟨v, Y, O⟩ := Z H a w G.sr G.wr
 simp only [T1]
 rw [if_pos (by simp [Region.wanted, hg])]
 refine Pb ?_
 simp only [Oper.wp, O w ⟨G.held, fun _ _ _ _ => rfl⟩, Oper.upon]
 exact k H _ w (G.put Y M)
theorem Cj {n d : Nat} (h : Nat.blt d n = true) : ∀ D, some d = some D → D < n := fun D he => by
 cases he; exact Nat.le_of_ble_eq_true h
theorem E0 {H : GH} {a : Act} {s : Am} (r : SR n s H a) {D : Array Oper} {j : Nat} {t : Tmp} {b : Bool} (Y : (D[j]?).bind (·.dst) = some t) (Z : get s t = some (.v (.bool b))) :
  yielded D a.tmps j = some b := by
 have G := (r.slots t _ Z).v_eq
 have M : t < a.tmps.size := by
  apply Classical.byContradiction
  intro O
  rw [Array.getD_eq_getD_getElem?, Array.getElem?_eq_none (Nat.le_of_not_lt O)] at G
  simp [undef] at G
 have : a.tmps[t]? = some (.bool b) := by
  rw [Array.getD_eq_getD_getElem?, Array.getElem?_eq_getElem M] at G
  rw [Array.getElem?_eq_getElem M]; simpa using G
 simp [yielded, Y, this]
theorem AO.guard {D : Array Oper} {Z : Op} {l : List Oper} {R : St → Prop} {j : Nat} {want b : Bool} {t : Tmp}
  (hj : (D[j]?).bind (·.dst) = some t) (hs : get σ.slots t = some (.v (.bool b))) (hd : ∀ d, dst = some d → d < n)
  (h1 : b = want → AO E n C D (⟨dst, Z, ty, pos, aft, none⟩ :: l) σ R)
  (h2 : b = !want → AO E n C D l (σ.put dst (.v undef)) R) : AO E n C D (⟨dst, Z, ty, pos, aft, some (j, want)⟩ :: l) σ R := by
 intro H a w G
 have Y := E0 G.sr hj hs
 simp only [T1]
 by_cases M : b = want
 ·rw [if_pos (by simp [Region.wanted, Y, M])]
  have := h1 M H a w G
  simp only [T1] at this
  rw [if_pos (by simp [Region.wanted])] at this
  exact this
 ·rw [if_neg (by simp [Region.wanted, Y, M])]
  have O : b = !want := by cases b <;> cases want <;> simp_all
  exact h2 O H _ w (G.put (.v _) hd)
def dQ (X : List Nat) (D : Array Bool) : Bool := X.all fun x => !(D.getD x true)
def Fe (P : Program) (D : Array Oper) (Q : Exit → Act → World → Prop) (S : World → Prop) (X : List Nat) : Nat → Array Bool → Act → World → Prop
 | 0, listed, a, w => Region.ready .any D listed = [] ∧ Q .normal a w
 | fuel + 1, listed, a, w =>
  (Region.ready .any D listed = [] → Q .normal a w) ∧
  ∀ i ∈ Region.ready .any D listed, wpOp P D Q i (fun M G => (dQ X (listed.setIfInBounds i true) = true → S G) ∧ Fe P D Q S X fuel (listed.setIfInBounds i true) M G) a w
theorem Ny {P : Program} {G : Array Oper} {Q : Exit → Act → World → Prop} {S : World → Prop} {X : List Nat} : ∀ (fuel : Nat) (D : Array Bool) (a : Act) (w : World), Fe P G Q S X fuel D a w → wpAny P .any G Q fuel D a w
 | 0, _, _, _, h => h
 | fuel + 1, _, _, _, h => ⟨h.1, fun i hi => wpOp_mono (fun M Y O => Ny fuel _ M Y O.2) (h.2 i hi)⟩
theorem Ln {P : Program} {G : Array Oper} {Q : Exit → Act → World → Prop} {S : World → Prop} {X : List Nat} {D : Array Bool} {a : Act} {w : World} (M : Region.ready .any G D = []) (h : Q .normal a w) :
  ∀ fuel, Fe P G Q S X fuel D a w
 | 0 => ⟨M, h⟩
 | _ + 1 => ⟨fun _ => h, by rw [M]; simp⟩
theorem Dt {P : Program} {G : Array Oper} {Q : Exit → Act → World → Prop} {S : World → Prop} {X O : List Nat} {fuel : Nat} {D : Array Bool} {a : Act} {w : World} (Y : Region.ready .any G D = O) (M : O ≠ [])
  (h : ∀ i ∈ O, wpOp P G Q i (fun a' w' => (dQ X (D.setIfInBounds i true) = true → S w') ∧ Fe P G Q S X fuel (D.setIfInBounds i true) a' w') a w) : Fe P G Q S X (fuel + 1) D a w :=
 ⟨fun Z => absurd (Y ▸ Z) M, Y ▸ h⟩
def Blk (G : Array Oper) (D : Array Bool) (U : List Nat) (i : Nat) : Prop :=
 ∀ u, u ∈ U → D.getD u true = false ∧ (u = i ∨ ∃ o e, G[u]? = some o ∧ e ∈ o.after ∧ Region.binds .any e = true ∧ e.on ∈ U)
theorem Blk.not_ready {O : Array Oper} {D : Array Bool} {U : List Nat} {i j : Nat} (hb : Blk O D U i) (hj : j ∈ Region.ready .any O D) (ab : j ≠ i) : j ∉ U := by
 intro hU
 obtain ⟨_, h⟩ := hb j hU
 rcases h with h | ⟨o, e, ho, he, aa, ac⟩
 ·exact ab h
 ·obtain ⟨_, o', M, G⟩ := mem_ready.1 hj
  rw [ho] at M
  cases M
  have Y := G e he aa
  have h0 := (hb e.on ac).1
  rcases Nat.lt_or_ge e.on D.size with Z | Z
  ·simp [Z] at h0 Y; rw [h0] at Y; cases Y
  ·simp [Array.getElem?_eq_none Z] at Y
theorem Jv {P : Program} {G : Array Oper} {Q : Exit → Act → World → Prop} {S : World → Prop} {X U : List Nat} {i : Nat} {oi : Oper} {v : Value} (hi : G[i]? = some oi) (ac : ∀ (j : Nat) (o : Oper) cs b, G[j]? = some o → o.op ≠ .select cs b)
  (hQ : ∀ c a w, Q (.panic c) (a.put oi.dst v) w → Q (.panic c) a w) (hX : ∀ x, x ∈ X → x ∈ U ∧ x ≠ i) :
  ∀ (fuel : Nat) (D : Array Bool) (a : Act) (w : World),
   (∀ j oj, G[j]? = some oj → j ≠ i → D.getD j true = false → (∀ e ∈ oj.after, Region.binds .any e = true → e.on ≠ i) → oi.apart G oj = true) → Blk G D U i →
   i ∈ Region.ready .any G D → YieldsIf P G S oi v a → S w →
   Fe P G Q S X fuel (D.setIfInBounds i true) (a.put oi.dst v) w → Fe P G Q S X (fuel + 1) D a w := by
 intro fuel
 induction fuel with
 | zero =>
  intro D a w _ _ hr hy hS H
  refine ⟨fun h => (by rw [h] at hr; cases hr), fun j hj => ?_⟩
  by_cases M : j = i
  ·subst M; exact hy.wpOp hi hS ⟨fun _ => hS, H⟩
  ·have := ready_mono hj M
   rw [H.1] at this
   cases this
 | succ fuel ih =>
  intro D a w Y O hr hy hS H
  refine ⟨fun h => (by rw [h] at hr; cases hr), fun j hj => ?_⟩
  by_cases M : j = i
  ·subst M; exact hy.wpOp hi hS ⟨fun _ => hS, H⟩
  ·have h1 := H.2 j (ready_mono hj M)
   have hjU := O.not_ready hj M
   obtain ⟨ab, oj, hoj, hall⟩ := mem_ready.1 hj
   have hnot : ∀ e ∈ oj.after, Region.binds .any e = true → e.on ≠ i := fun e he hb heq => by
    have h1 := hall e he hb
    have h0 := (mem_ready.1 hr).1
    rw [heq] at h1
    rcases Nat.lt_or_ge i D.size with h' | h'
    ·simp [h'] at h0 h1; rw [h0] at h1; cases h1
    ·simp [Array.getElem?_eq_none h'] at h1
   have aa : dQ X ((D.setIfInBounds i true).setIfInBounds j true) = true := by
    refine List.all_eq_true.2 fun x hx => ?_
    obtain ⟨hxU, hxi⟩ := hX x hx
    rw [getD_set_ne true (show j ≠ x from fun h => hjU (h ▸ hxU)), getD_set_ne true (Ne.symm hxi), (O x hxU).1]; rfl
   have h2 := wpOp_putIf hoj (Y j oj hoj M ab hnot) (fun cs b => ac i oi cs b hi) (fun cs b => ac j oj cs b hoj) hQ hy h1
   have Z : ∀ k ok, G[k]? = some ok → k ≠ i → (D.setIfInBounds j true).getD k true = false →
     (∀ e ∈ ok.after, Region.binds .any e = true → e.on ≠ i) → oi.apart G ok = true := fun k ok hk hki hun aa => by
    refine Y k ok hk hki ?_ aa
    by_cases hjk : j = k
    ·subst hjk; exact ab
    ·rw [getD_set_ne true hjk] at hun; exact hun
   have hblk' : Blk G (D.setIfInBounds j true) U i := fun u hu => ⟨by rw [getD_set_ne true (show j ≠ u from fun h => hjU (h ▸ hu))]; exact (O u hu).1, (O u hu).2⟩
   refine wpOp_mono (fun a' w' h3 => ⟨fun _ => h3.2.1 aa, ih (D.setIfInBounds j true) a' w' Z hblk' (ready_mono hr (Ne.symm M)) h3.1 (h3.2.1 aa) ?_⟩) h2
   rw [Array.setIfInBounds_comm _ _ M]
   exact h3.2.2
def eJ (G : Array Oper) (D : Array Bool) (i : Nat) : List Nat :=
 (List.range G.size).foldl (fun U u => bif !(D.getD u true) && !(Nat.beq u i) && (match G[u]? with | some o => o.after.any (fun e => Region.binds .any e && U.contains e.on) | none => false) then u :: U else U) [i]
def fO (G : Array Oper) (D : Array Bool) (X U : List Nat) (i : Nat) : Bool :=
 X.isEmpty || (U.all (fun u => !(D.getD u true) && (Nat.beq u i || (match G[u]? with | some o => o.after.any (fun e => Region.binds .any e && U.contains e.on) | none => false))) && X.all (fun x => U.contains x && !(Nat.beq x i)))
theorem Sp {P : Program} {D : Array Oper} {Q : Exit → Act → World → Prop} {S : World → Prop} {X U : List Nat} {i : Nat} {oi : Oper} {v : Value} {fuel : Nat} {listed : Array Bool} {a : Act} {w : World} (hi : D[i]? = some oi)
  (hs : Region.noSelect D = true) (hf : Region.free .any D listed i = true) (hr : (Region.ready .any D listed).contains i = true) (hb : fO D listed X U i = true)
  (Z : ∀ c a w, Q (.panic c) (a.put oi.dst v) w → Q (.panic c) a w) (hy : YieldsIf P D S oi v a) (hS : S w)
  (h : Fe P D Q S X fuel (listed.setIfInBounds i true) (a.put oi.dst v) w) : Fe P D Q S X (fuel + 1) listed a w := by
 have M : i ∈ Region.ready .any D listed := by simpa using hr
 rcases Bool.or_eq_true _ _ |>.mp hb with hb | hb
 ·have : X = [] := by simpa using hb
  subst this
  exact Jv (U := [i]) hi (Region.noSelect_spec hs) Z (by simp) fuel listed a w (Region.free_spec hi hf) (fun u O => by simp at O; subst O; exact ⟨(mem_ready.1 M).1, .inl rfl⟩) M hy hS h
 ·simp only [Bool.and_eq_true] at hb
  obtain ⟨h1, h2⟩ := hb
  refine Jv (U := U) hi (Region.noSelect_spec hs) Z (fun x hx => ?_) fuel listed a w (Region.free_spec hi hf) (fun u O => ?_) M hy hS h
  ·have := List.all_eq_true.1 h2 x hx
   simp only [Bool.and_eq_true, Bool.not_eq_true'] at this
   refine ⟨by simpa using this.1, fun Y => ?_⟩
   rw [Y] at this
   simp at this
  ·have := List.all_eq_true.1 h1 u O
   simp only [Bool.and_eq_true, Bool.not_eq_true', Bool.or_eq_true] at this
   refine ⟨this.1, ?_⟩
   rcases this.2 with h | h
   ·exact .inl (nq h)
   ·split at h
    ·rename_i o ho
     rw [Array.any_eq_true'] at h
     obtain ⟨e, Y, G⟩ := h
     simp only [Bool.and_eq_true] at G
     exact .inr ⟨o, e, ho, Y, G.1, by simpa using G.2⟩
    ·cases h
inductive PL where
 | nil
 | still (i : Nat) (r : PL)
 | act (i : Nat) (r : PL)
 | two (i j : Nat) (r1 r2 : PL)
 | three (i j k : Nat) (r1 r2 r3 : PL)
 | four (i j k l : Nat) (r1 r2 r3 r4 : PL)
 | five (i j k l m : Nat) (r1 r2 r3 r4 r5 : PL)
 | par (A : List (Nat × List Nat)) (r : PL)
 | drop (i : Nat) (r : PL)
def Ow (G : Array Oper) (A : List (Nat × List Nat)) (k : Array Bool → Bool) : Nat → List Nat → Array Bool → Bool
 | 0, _, _ => false
 | f + 1, D, listed => bif A.all (fun p => D.contains p.1) then k listed else
  match Region.ready .any G listed with
  | [] => false
  | i :: l => (i :: l).all fun j => !D.contains j && A.any (fun p => Nat.beq p.1 j && p.2.all D.contains) && Ow G A k f (j :: D) (listed.setIfInBounds j true)
def PL.actsOnly : PL → Bool
 | .nil => true
 | .act _ r => r.actsOnly
 | .drop _ r => r.actsOnly
 | _ => false
def PL.drops : PL → List Nat
 | .nil => []
 | .still _ r => r.drops
 | .act _ r => r.drops
 | .two _ _ r1 r2 => r1.drops ++ r2.drops
 | .three _ _ _ r1 r2 r3 => r1.drops ++ (r2.drops ++ r3.drops)
 | .four _ _ _ _ r1 r2 r3 r4 => r1.drops ++ (r2.drops ++ (r3.drops ++ r4.drops))
 | .five _ _ _ _ _ r1 r2 r3 r4 r5 => r1.drops ++ (r2.drops ++ (r3.drops ++ (r4.drops ++ r5.drops)))
 | .par _ r => r.drops
 | .drop i r => i :: r.drops
def Ck (D : Array Oper) (X : List Nat) : PL → Array Bool → Bool
 | .nil, listed => (Region.ready .any D listed).isEmpty
 | .still i r, listed => Region.free .any D listed i && (Region.ready .any D listed).contains i && fO D listed X (bif X.isEmpty then [] else eJ D listed i) i && Ck D X r (listed.setIfInBounds i true)
 | .act i r, listed => Region.ready .any D listed == [i] && Ck D X r (listed.setIfInBounds i true)
 | .two i j r1 r2, listed => Region.ready .any D listed == [i, j] && Ck D X r1 (listed.setIfInBounds i true) && Ck D X r2 (listed.setIfInBounds j true)
 | .three i j k r1 r2 r3, listed => Region.ready .any D listed == [i, j, k] && Ck D X r1 (listed.setIfInBounds i true) && Ck D X r2 (listed.setIfInBounds j true) && Ck D X r3 (listed.setIfInBounds k true)
 | .four i j k l r1 r2 r3 r4, listed => Region.ready .any D listed == [i, j, k, l] && Ck D X r1 (listed.setIfInBounds i true) && Ck D X r2 (listed.setIfInBounds j true) && Ck D X r3 (listed.setIfInBounds k true) && Ck D X r4 (listed.setIfInBounds l true)
 | .five i j k l m r1 r2 r3 r4 r5, listed => Region.ready .any D listed == [i, j, k, l, m] && Ck D X r1 (listed.setIfInBounds i true) && Ck D X r2 (listed.setIfInBounds j true) && Ck D X r3 (listed.setIfInBounds k true) && Ck D X r4 (listed.setIfInBounds l true) && Ck D X r5 (listed.setIfInBounds m true)
 | .par A r, listed => Ow D A (Ck D X r) (A.length + 1) [] listed
 | .drop i r, listed => Region.ready .any D listed == [i] && X.contains i && r.actsOnly && Ck D X r (listed.setIfInBounds i true)
def PL.depth : PL → Nat
 | .nil => 0
 | .still _ r => r.depth + 1
 | .act _ r => r.depth + 1
 | .two _ _ r1 r2 => max r1.depth r2.depth + 1
 | .three _ _ _ r1 r2 r3 => max r1.depth (max r2.depth r3.depth) + 1
 | .four _ _ _ _ r1 r2 r3 r4 => max r1.depth (max r2.depth (max r3.depth r4.depth)) + 1
 | .five _ _ _ _ _ r1 r2 r3 r4 r5 => max r1.depth (max r2.depth (max r3.depth (max r4.depth r5.depth))) + 1
 | .par A r => r.depth + A.length
 | .drop _ r => r.depth + 1
def Ov (D : Array Oper) (pl : PL) : Bool :=
 Region.noSelect D && Nat.ble pl.depth D.size && Ck D pl.drops pl (Array.replicate D.size false)
def Cw (P : Program) (G : Array Oper) (Q : Exit → Act → World → Prop) : (World → Prop) → PL → Act → World → Prop
 | _, .nil, a, w => Q .normal a w
 | S, .still i r, a, w => ∃ o v, G[i]? = some o ∧ YieldsIf P G S o v a ∧ S w ∧ Cw P G Q S r (a.put o.dst v) w
 | S, .act i r, a, w => wpOp P G Q i (fun O M => S M ∧ Cw P G Q S r O M) a w
 | S, .two i j r1 r2, a, w => wpOp P G Q i (fun O M => S M ∧ Cw P G Q S r1 O M) a w ∧ wpOp P G Q j (fun O M => S M ∧ Cw P G Q S r2 O M) a w
 | S, .three i j k r1 r2 r3, a, w => wpOp P G Q i (fun O M => S M ∧ Cw P G Q S r1 O M) a w ∧ wpOp P G Q j (fun O M => S M ∧ Cw P G Q S r2 O M) a w ∧ wpOp P G Q k (fun O M => S M ∧ Cw P G Q S r3 O M) a w
 | S, .four i j k l r1 r2 r3 r4, a, w => wpOp P G Q i (fun O M => S M ∧ Cw P G Q S r1 O M) a w ∧ wpOp P G Q j (fun O M => S M ∧ Cw P G Q S r2 O M) a w ∧ wpOp P G Q k (fun O M => S M ∧ Cw P G Q S r3 O M) a w ∧ wpOp P G Q l (fun O M => S M ∧ Cw P G Q S r4 O M) a w
 | S, .five i j k l m r1 r2 r3 r4 r5, a, w => wpOp P G Q i (fun O M => S M ∧ Cw P G Q S r1 O M) a w ∧ wpOp P G Q j (fun O M => S M ∧ Cw P G Q S r2 O M) a w ∧ wpOp P G Q k (fun O M => S M ∧ Cw P G Q S r3 O M) a w ∧ wpOp P G Q l (fun O M => S M ∧ Cw P G Q S r4 O M) a w ∧ wpOp P G Q m (fun O M => S M ∧ Cw P G Q S r5 O M) a w
 | S, .par A r, a, w => ∃ J : List Nat → Act → World → Prop, J [] a w ∧
   (∀ (D : List Nat) (j : Nat) (Y : List Nat) a w, (j, Y) ∈ A → (∀ d, d ∈ Y → d ∈ D) → j ∉ D → J D a w → wpOp P G Q j (fun O M => S M ∧ J (j :: D) O M) a w) ∧
   (∀ (D : List Nat) a w, (∀ p, p ∈ A → p.1 ∈ D) → J D a w → Cw P G Q S r a w)
 | _, .drop i r, a, w => wpOp P G Q i (fun O M => Cw P G Q (fun _ => True) r O M) a w
theorem Lm {P : Program} {D : Array Oper} {Q : Exit → Act → World → Prop} : ∀ (r : PL) (S : World → Prop) (a : Act) (w : World), r.actsOnly = true → Cw P D Q S r a w → Cw P D Q (fun _ => True) r a w
 | .nil, _, _, _, _, h => h
 | .act _ r, S, _, _, hr, h => wpOp_mono (fun G O M => ⟨trivial, Lm r S G O hr M.2⟩) h
 | .drop _ _, _, _, _, _, h => h
theorem L2 {X : List Nat} {D : Array Bool} {i : Nat} (h : dQ X D = false) : dQ X (D.setIfInBounds i true) = false := by
 unfold dQ at *
 obtain ⟨x, Y, O⟩ := List.all_eq_false.1 h
 refine List.all_eq_false.2 ⟨x, Y, ?_⟩
 simp only [Bool.not_eq_true', Bool.not_eq_false] at *
 by_cases G : i = x
 ·subst G
  by_cases M : i < D.size
  ·simp [M]
  ·simp [M]
 ·rw [getD_set_ne true G]; exact O
theorem Ul {X : List Nat} {D : Array Bool} {i : Nat} (h : X.contains i = true) : dQ X (D.setIfInBounds i true) = false := by
 refine List.all_eq_false.2 ⟨i, by simpa using h, ?_⟩
 by_cases G : i < D.size
 ·simp [G]
 ·simp [G]
theorem Hq {P : Program} {G : Array Oper} {Q : Exit → Act → World → Prop} {S : World → Prop} {X : List Nat} :
  ∀ (pl : PL) (fuel : Nat) (D : Array Bool) (a : Act) (w : World), pl.actsOnly = true → dQ X D = false → pl.depth ≤ fuel → Ck G X pl D = true → Cw P G Q (fun _ => True) pl a w → Fe P G Q S X fuel D a w
 | .nil, fuel, D, a, w, _, _, _, hp, h => Ln (by simpa [Ck] using hp) h fuel
 | .act i r, 0, _, _, _, _, _, hl, _, _ => by simp [PL.depth] at hl
 | .act i r, fuel + 1, D, a, w, ha, hn, hl, hp, h => by
  simp only [Ck, Bool.and_eq_true, beq_iff_eq] at hp
  refine Dt hp.1 (by simp) (fun j M => ?_)
  simp only [List.mem_singleton] at M
  subst M
  exact wpOp_mono (fun Z w' O => ⟨fun Y => absurd Y (by rw [L2 hn]; simp), Hq r fuel _ _ _ ha (L2 hn) (by simp [PL.depth] at hl; omega) hp.2 O.2⟩) h
 | .drop i r, 0, _, _, _, _, _, hl, _, _ => by simp [PL.depth] at hl
 | .drop i r, fuel + 1, D, a, w, ha, hn, hl, hp, h => by
  simp only [Ck, Bool.and_eq_true, beq_iff_eq] at hp
  refine Dt hp.1.1.1 (by simp) (fun j M => ?_)
  simp only [List.mem_singleton] at M
  subst M
  exact wpOp_mono (fun Z w' O => ⟨fun Y => absurd Y (by rw [L2 hn]; simp), Hq r fuel _ _ _ ha (L2 hn) (by simp [PL.depth] at hl; omega) hp.2 O⟩) h
theorem Sq {P : Program} {ops : Array Oper} {Q : Exit → Act → World → Prop} {S : World → Prop} {X : List Nat} (hsel : Region.noSelect ops = true) (hQ : ∀ c a w, ¬ Q (.panic c) a w) :
  ∀ (pl : PL) (fuel : Nat) (G : Array Bool) (a : Act) (w : World), pl.depth ≤ fuel → Ck ops X pl G = true → Cw P ops Q S pl a w → Fe P ops Q S X fuel G a w := by
 intro pl
 induction pl with
 | nil =>
  intro fuel G a w _ O h
  exact Ln (by simpa [Ck] using O) h fuel
 | still i r ih =>
  intro fuel G a w Z O h
  cases fuel with
  | zero => simp [PL.depth] at Z
  | succ fuel =>
   simp only [Ck, Bool.and_eq_true] at O
   obtain ⟨⟨⟨hf, hr⟩, hb⟩, hp'⟩ := O
   obtain ⟨o, v, ho, hy, hS, hrest⟩ := h
   exact Sp ho hsel hf hr hb (fun c a w hq => absurd hq (hQ _ _ _)) hy hS (ih fuel _ _ _ (by simp [PL.depth] at Z; omega) hp' hrest)
 | act i r ih =>
  intro fuel G a w Z O h
  cases fuel with
  | zero => simp [PL.depth] at Z
  | succ fuel =>
   simp only [Ck, Bool.and_eq_true, beq_iff_eq] at O
   obtain ⟨hr, hp'⟩ := O
   refine Dt hr (by simp) (fun j hj => ?_)
   simp only [List.mem_singleton] at hj
   subst hj
   exact wpOp_mono (fun a' w' M => ⟨fun _ => M.1, ih fuel _ _ _ (by simp [PL.depth] at Z; omega) hp' M.2⟩) h
 | two i j r1 r2 ih1 ih2 =>
  intro fuel G a w Z O h
  cases fuel with
  | zero => simp [PL.depth] at Z
  | succ fuel =>
   simp only [Ck, Bool.and_eq_true, beq_iff_eq] at O
   obtain ⟨⟨hr, hp1⟩, hp2⟩ := O
   simp only [PL.depth] at Z
   refine Dt hr (by simp) (fun k Y => ?_)
   simp only [List.mem_cons, List.not_mem_nil, or_false] at Y
   rcases Y with rfl | rfl
   ·exact wpOp_mono (fun a' w' M => ⟨fun _ => M.1, ih1 fuel _ _ _ (by omega) hp1 M.2⟩) h.1
   ·exact wpOp_mono (fun a' w' M => ⟨fun _ => M.1, ih2 fuel _ _ _ (by omega) hp2 M.2⟩) h.2
 | three i j k r1 r2 r3 ih1 ih2 ih3 =>
  intro fuel G a w Z O h
  cases fuel with
  | zero => simp [PL.depth] at Z
  | succ fuel =>
   simp only [Ck, Bool.and_eq_true, beq_iff_eq] at O
   obtain ⟨⟨⟨hr, hp1⟩, hp2⟩, hp3⟩ := O
   simp only [PL.depth] at Z
   obtain ⟨hw1, hw2, hw3⟩ := h
   refine Dt hr (by simp) (fun kk Y => ?_)
   simp only [List.mem_cons, List.not_mem_nil, or_false] at Y
   rcases Y with rfl | rfl | rfl
   ·exact wpOp_mono (fun a' w' M => ⟨fun _ => M.1, ih1 fuel _ _ _ (by omega) hp1 M.2⟩) hw1
   ·exact wpOp_mono (fun a' w' M => ⟨fun _ => M.1, ih2 fuel _ _ _ (by omega) hp2 M.2⟩) hw2
   ·exact wpOp_mono (fun a' w' M => ⟨fun _ => M.1, ih3 fuel _ _ _ (by omega) hp3 M.2⟩) hw3
 | four i j k l r1 r2 r3 r4 ih1 ih2 ih3 ih4 =>
  intro fuel G a w Z O h
  cases fuel with
  | zero => simp [PL.depth] at Z
  | succ fuel =>
   simp only [Ck, Bool.and_eq_true, beq_iff_eq] at O
   obtain ⟨⟨⟨⟨hr, hp1⟩, hp2⟩, hp3⟩, hp4⟩ := O
   simp only [PL.depth] at Z
   obtain ⟨hw1, hw2, hw3, hw4⟩ := h
   refine Dt hr (by simp) (fun kk Y => ?_)
   simp only [List.mem_cons, List.not_mem_nil, or_false] at Y
   rcases Y with rfl | rfl | rfl | rfl
   ·exact wpOp_mono (fun a' w' M => ⟨fun _ => M.1, ih1 fuel _ _ _ (by omega) hp1 M.2⟩) hw1
   ·exact wpOp_mono (fun a' w' M => ⟨fun _ => M.1, ih2 fuel _ _ _ (by omega) hp2 M.2⟩) hw2
   ·exact wpOp_mono (fun a' w' M => ⟨fun _ => M.1, ih3 fuel _ _ _ (by omega) hp3 M.2⟩) hw3
   ·exact wpOp_mono (fun a' w' M => ⟨fun _ => M.1, ih4 fuel _ _ _ (by omega) hp4 M.2⟩) hw4
 | five i j k l m r1 r2 r3 r4 r5 ih1 ih2 ih3 ih4 ih5 =>
  intro fuel G a w Z O h
  cases fuel with
  | zero => simp [PL.depth] at Z
  | succ fuel =>
   simp only [Ck, Bool.and_eq_true, beq_iff_eq] at O
   obtain ⟨⟨⟨⟨⟨hr, hp1⟩, hp2⟩, hp3⟩, hp4⟩, hp5⟩ := O
   simp only [PL.depth] at Z
   obtain ⟨hw1, hw2, hw3, hw4, hw5⟩ := h
   refine Dt hr (by simp) (fun kk Y => ?_)
   simp only [List.mem_cons, List.not_mem_nil, or_false] at Y
   rcases Y with rfl | rfl | rfl | rfl | rfl
   ·exact wpOp_mono (fun a' w' M => ⟨fun _ => M.1, ih1 fuel _ _ _ (by omega) hp1 M.2⟩) hw1
   ·exact wpOp_mono (fun a' w' M => ⟨fun _ => M.1, ih2 fuel _ _ _ (by omega) hp2 M.2⟩) hw2
   ·exact wpOp_mono (fun a' w' M => ⟨fun _ => M.1, ih3 fuel _ _ _ (by omega) hp3 M.2⟩) hw3
   ·exact wpOp_mono (fun a' w' M => ⟨fun _ => M.1, ih4 fuel _ _ _ (by omega) hp4 M.2⟩) hw4
   ·exact wpOp_mono (fun a' w' M => ⟨fun _ => M.1, ih5 fuel _ _ _ (by omega) hp5 M.2⟩) hw5
 | drop i r ih =>
  intro fuel G a w Z O h
  cases fuel with
  | zero => simp [PL.depth] at Z
  | succ fuel =>
   simp only [Ck, Bool.and_eq_true, beq_iff_eq] at O
   obtain ⟨⟨⟨hr, hx⟩, ha⟩, hp'⟩ := O
   refine Dt hr (by simp) (fun j hj => ?_)
   simp only [List.mem_singleton] at hj
   subst hj
   exact wpOp_mono (fun a' w' M => ⟨fun hn => absurd hn (by rw [Ul hx]; simp), Hq r fuel _ _ _ ha (Ul hx) (by simp [PL.depth] at Z; omega) hp' M⟩) h
 | par A r ih =>
  intro fuel G a w Z O h
  obtain ⟨J, h0, hstep, hend⟩ := h
  simp only [PL.depth] at Z
  have main : ∀ (f : Nat) (D : List Nat) (G : Array Bool) (a : Act) (w : World) (fuel : Nat), f + r.depth ≤ fuel + 1 → Ow ops A (Ck ops X r) f D G = true → J D a w → Fe P ops Q S X fuel G a w := by
   intro f
   induction f with
   | zero => intro D G a w fuel _ Y; simp [Ow] at Y
   | succ f ihf =>
    intro D G a w fuel hf Y hJ
    simp only [Ow] at Y
    cases hall : A.all (fun p => D.contains p.1) with
    | true =>
     rw [hall, cond_true] at Y
     exact ih fuel G a w (by omega) Y (hend D a w (fun p O => by simpa using List.all_eq_true.1 hall p O) hJ)
    | false =>
     rw [hall, cond_false] at Y
     cases hr : Region.ready .any ops G with
     | nil => rw [hr] at Y; simp at Y
     | cons i l =>
      rw [hr] at Y
      simp only [] at Y
      cases fuel with
      | zero =>
       have hi := List.all_eq_true.1 Y i (by simp)
       simp only [Bool.and_eq_true] at hi
       have : f = 0 := by omega
       subst this
       simp [Ow] at hi
      | succ fuel =>
       refine Dt hr (by simp) (fun j hj => ?_)
       have hi := List.all_eq_true.1 Y j hj
       simp only [Bool.and_eq_true, Bool.not_eq_true', List.any_eq_true] at hi
       obtain ⟨⟨hD, ⟨j', ds⟩, hm, hb, hds⟩, hrec⟩ := hi
       have := nq hb
       dsimp only at this
       subst this
       exact wpOp_mono (fun a' w' M => ⟨fun _ => M.1, ihf _ _ _ _ fuel (by omega) hrec M.2⟩)
        (hstep D _ ds a w hm (fun d hd => by simpa using List.all_eq_true.1 hds d hd) (by simpa using hD) hJ)
  exact main (A.length + 1) [] G a w fuel (by omega) O h0
theorem Og {P : Program} {id : Nat} {D : Array Oper} {Q : Exit → Act → World → Prop} {S : World → Prop} {a : Act} {w : World} (O : P.follows .mixedOrders = true) (pl : PL)
  (M : Ov D pl = true) (hQ : ∀ c a w, ¬ Q (.panic c) a w) (hL : ¬ LetsOut Q) (h : Cw P D Q S pl a w.drew) : cw (Code.region id D true) P Q a w := by
 simp only [Ov, Bool.and_eq_true] at M
 obtain ⟨⟨Y, Z⟩, h3⟩ := M
 have G := Ny _ _ _ _ (Sq Y hQ pl D.size _ a _ (Nat.le_of_ble_eq_true Z) h3 h)
 intro ro hn
 cases ro with
 | none => exact wpIn_wide.2 (wp_region_any O G)
 | some q => exact Om O (hn rfl) hL G
def gF (s : Am) : Option Tmp → Am
 | none => s
 | some d => s.filter fun p => !Nat.beq p.1 d
theorem Gm {d i : Nat} : ∀ {s : Am} {x : T}, get (s.filter fun p => !Nat.beq p.1 d) i = some x → i ≠ d ∧ get s i = some x
 | [], x, h => by simp [get] at h
 | (k, y) :: l, x, h => by
  cases hk : Nat.beq k d with
  | true =>
   simp only [List.filter, hk, Bool.not_true] at h
   obtain ⟨G, M⟩ := Gm h
   have : k = d := nq hk
   refine ⟨G, ?_⟩
   have D : Nat.beq k i = false := by
    cases hb : Nat.beq k i with
    | false => rfl
    | true => exact absurd (by rw [← this, nq hb]) G
   simp [get, D, M]
  | false =>
   simp only [List.filter, hk, Bool.not_false, get] at h
   cases hb : Nat.beq k i with
   | true =>
    simp only [hb, cond_true] at h
    have D := nq hb
    refine ⟨fun O => ?_, by simp [get, hb, h]⟩
    rw [← O, ← D] at hk
    simp at hk
   | false =>
    simp only [hb, cond_false] at h
    obtain ⟨G, M⟩ := Gm h
    exact ⟨G, by simp [get, hb, M]⟩
def free (s : Am) : Option Tmp → Bool
 | none => true
 | some d => s.all fun p => !Nat.beq p.1 d
theorem N2 {d i : Nat} : ∀ {s : Am} {x : T}, (s.all fun p => !Nat.beq p.1 d) = true → get s i = some x → i ≠ d
 | [], x, _, h => by simp [get] at h
 | (k, y) :: l, x, ha, h => by
  simp only [List.all_cons, Bool.and_eq_true, Bool.not_eq_true'] at ha
  simp only [get] at h
  cases hb : Nat.beq k i with
  | true =>
   have D := nq hb
   rintro rfl
   rw [hb] at ha; simp at ha
  | false =>
   simp only [hb, cond_false] at h
   exact N2 ha.2 h
theorem SR.free {s : Am} {H : GH} {a : Act} (r : SR n s H a) (dst : Option Tmp) (v : Value) (hf : free s dst = true) : SR n s H (a.put dst v) := by
 cases dst with
 | none => exact r
 | some d =>
  refine ⟨by simp [Act.put, r.size], fun i x h => ?_⟩
  have D := N2 hf h
  have G : (a.tmps.setIfInBounds d v).getD i undef = a.tmps.getD i undef := by
   simp [Array.getD_eq_getD_getElem?, Array.getElem?_setIfInBounds_ne (Ne.symm D)]
  simp only [Act.put]
  rw [G]; exact r.slots i x h
def El (s : Am) (dst : Option Tmp) (x : T) : Am :=
 match dst with
 | none => s
 | some d => (d, x) :: s
theorem SR.put {s : Am} {H : GH} {a : Act} (r : SR n s H a) {dst : Option Tmp} {v : Value} {x : T} (hv : VR H v x) (G : ∀ d, dst = some d → d < n) : SR n (El s dst x) H (a.put dst v) := by
 cases dst with
 | none => exact r
 | some d =>
  refine ⟨by simp [Act.put, r.size], fun i y h => ?_⟩
  simp only [El, get] at h
  simp only [Act.put]
  cases hb : Nat.beq d i with
  | true =>
   have := nq hb
   subst this
   simp only [hb, cond_true, Option.some.injEq] at h
   subst h
   have : d < a.tmps.size := by rw [r.size]; exact G d rfl
   simpa [Array.getD, this] using hv
  | false =>
   simp only [hb, cond_false] at h
   have D : d ≠ i := fun h => by rw [h] at hb; simp at hb
   have M : (a.tmps.setIfInBounds d v).getD i undef = a.tmps.getD i undef := by
    simp [Array.getD_eq_getD_getElem?, Array.getElem?_setIfInBounds_ne D]
   rw [M]; exact r.slots i y h
def AP (E : Env) (n : Nat) (C : Ctx) (M : Array Oper) (G : List Nat) (D : List Ob) (pl : PL) (Z : Am) (σ : St) (R : St → Prop) : Prop :=
 ∀ Hs O H a w, SR n Z Hs a → WR D Hs O → Ij Hs D O w → (∀ b o, Hs b = some o → H b = some o) →
  (∀ p, p ∈ D → ∃ i, G.contains i = true ∧ σ.objs[i]? = some p) → Gam n C σ H a w →
  Cw E.P M (fun e Y w' => e = .normal ∧ ∃ σ' H', R σ' ∧ Gam n C σ' H' Y w') (Ij Hs D O) pl a w
theorem AP.nil {M : Array Oper} {G : List Nat} {D : List Ob} {Y : Am} {R : St → Prop} (h : R σ) : AP E n C M G D .nil Y σ R :=
 fun _ _ H _ _ _ _ _ _ _ O => ⟨rfl, σ, H, h, O⟩
theorem Tg {M : Array Oper} {G : List Nat} {D : List Ob} {Y : Am} {R : St → Prop} {i : Nat} {r : PL} {o : Oper} {x : T} (ho : M[i]? = some o)
  (hy : Yd E.P n Y D o x) (hg : o.guard = none) (hd : ∀ d, o.dst = some d → d < n) (k : AP E n C M G D r (El Y o.dst x) (σ.put o.dst x) R) :
  AP E n C M G D (.still i r) Y σ R := by
 intro Hs ws H a w sr wr Z hH hp gm
 obtain ⟨v, hv, O⟩ := hy Hs a ws sr wr
 refine ⟨o, v, ho, .inl ⟨by simp [Region.wanted, hg], O⟩, Z, ?_⟩
 exact k Hs ws H _ w (sr.put hv hd) wr Z hH (by cases h : o.dst <;> simpa [St.put, h] using hp) (gm.put (hv.mono hH) hd)
theorem AP.new {M : Array Oper} {G : List Nat} {D : List Ob} {Y : Am} {R : St → Prop} {i : Nat} {r : PL} {o : Oper} {x : T} (ho : M[i]? = some o)
  (hy : Yp E.P n σ.slots o x) (hg : o.guard = none) (hd : ∀ d, o.dst = some d → d < n) (k : AP E n C M G D r Y (σ.put o.dst x) R) (hf : free Y o.dst = true := by rfl) :
  AP E n C M G D (.still i r) Y σ R := by
 intro Hs ws H a w sr wr Z hH hp gm
 obtain ⟨v, hv, O⟩ := hy H a gm.sr
 refine ⟨o, v, ho, .inl ⟨by simp [Region.wanted, hg], fun w' _ => O w'⟩, Z, ?_⟩
 exact k Hs ws H _ w (sr.free _ _ hf) wr Z hH (by cases h : o.dst <;> simpa [St.put, h] using hp) (gm.put hv hd)
theorem AP.act {Y : Array Oper} {G : List Nat} {D : List Ob} {so : Am} {R : St → Prop} {i : Nat} {r : PL} {o : Oper} (md : List Nat) (ho : Y[i]? = some o)
  (hg : o.guard = none) (hm : (G.all fun i => !md.contains i) = true) (h : AX E n C md o σ (fun σ' => AP E n C Y G D r so σ' R)) (hf : free so o.dst = true := by rfl) :
  AP E n C Y G D (.act i r) so σ R := by
 intro Hs ws H a w sr wr ag hH hp gm
 have ad : ∀ i, G.contains i = true → md.contains i = false := fun i hi => by
  have := (List.all_eq_true.1 hm) i (by simpa using hi)
  simpa using this
 simp only [Cw, wpOp, ho]
 rw [if_pos (by simp [Region.wanted, hg])]
 refine .inl (Df ?_ (fun _ _ _ h => h.elim) (h H a w gm))
 rintro a' w' ⟨σ', H', v, hr, aa, ae, ab, ac⟩
 have Z : Ij Hs D ws w' := by
  refine ⟨fun b o hb => aa.held _ _ (ab _ _ (hH _ _ hb)), fun p M b hb => ?_⟩
  obtain ⟨i, hi, O⟩ := hp p M
  exact ((ac i p O (ad i hi)).2 b hb).trans (ag.2 p M b hb)
 refine ⟨Z, hr Hs ws H' a' w' (by rw [ae]; exact sr.free _ _ hf) wr Z (fun b o hb => ab _ _ (hH _ _ hb)) (fun p M => ?_) aa⟩
 obtain ⟨i, hi, O⟩ := hp p M
 exact ⟨i, hi, (ac i p O (ad i hi)).1⟩
def gV := @AP.act
theorem AP.drop {G : Array Oper} {O : List Nat} {M : List Ob} {so : Am} {R : St → Prop} {i : Nat} {r : PL} {o : Oper} (md : List Nat) (hr : r.actsOnly = true) (ho : G[i]? = some o)
  (hg : o.guard = none) (h : AX E n C md o σ (fun σ' => AP E n C G [] [] r [] σ' R)) :
  AP E n C G O M (.drop i r) so σ R := by
 intro Hs ws H a w sr wr ag hH hp gm
 simp only [Cw, wpOp, ho]
 rw [if_pos (by simp [Region.wanted, hg])]
 refine .inl (Df ?_ (fun _ _ _ h => h.elim) (h H a w gm))
 rintro a' Z ⟨σ', H', v, Y, D, ha', hHH, hfr⟩
 exact Lm r _ a' Z hr (Y H' Z H' a' Z ⟨D.size, fun i x h => by simp [get] at h⟩ ⟨by simp, D.held⟩ ⟨D.held, by simp⟩ (fun _ _ h => h) (by simp) D)
theorem AP.skip {D : Array Oper} {O : List Nat} {G : List Ob} {Y : Am} {R : St → Prop} {i : Nat} {r : PL} {o : Oper} {j : Nat} {M b : Bool} {t : Tmp} (ho : D[i]? = some o)
  (hg : o.guard = some (j, M)) (hj : (D[j]?).bind (·.dst) = some t) (hs : get σ.slots t = some (.v (.bool b))) (hb : b = !M) (hd : ∀ d, o.dst = some d → d < n)
  (k : AP E n C D O G r Y (σ.put o.dst (.v undef)) R) (hf : free Y o.dst = true := by rfl) : AP E n C D O G (.still i r) Y σ R := by
 intro Hs ws H a w sr wr Z hH hp gm
 have hy := E0 gm.sr hj hs
 have hw : Region.wanted o (yielded D a.tmps) = false := by subst hb; cases M <;> simp [Region.wanted, hg, hy]
 have hk := k Hs ws H _ w (sr.free o.dst undef hf) wr Z hH (by cases h : o.dst <;> simpa [St.put, h] using hp) (gm.put (.v undef) hd)
 exact ⟨o, undef, ho, .inr ⟨hw, rfl⟩, Z, hk⟩
theorem bQ {D : Array Oper} {O : List Nat} {G : List Ob} {Y : Am} {R : St → Prop} {i : Nat} {r : PL} {o : Oper} {j : Nat} {M b : Bool} {t : Tmp} (ho : D[i]? = some o)
  (hg : o.guard = some (j, M)) (hj : (D[j]?).bind (·.dst) = some t) (hs : get σ.slots t = some (.v (.bool b))) (hb : b = !M) (hd : ∀ d, o.dst = some d → d < n)
  (k : AP E n C D O G r Y (σ.put o.dst (.v undef)) R) (hf : free Y o.dst = true := by rfl) : AP E n C D O G (.act i r) Y σ R := by
 intro Hs ws H a w sr wr Z hH hp gm
 have hy := E0 gm.sr hj hs
 have hw : Region.wanted o (yielded D a.tmps) = false := by subst hb; cases M <;> simp [Region.wanted, hg, hy]
 have hk := k Hs ws H _ w (sr.free o.dst undef hf) wr Z hH (by cases h : o.dst <;> simpa [St.put, h] using hp) (gm.put (.v undef) hd)
 simp only [Cw, wpOp, ho]
 rw [if_neg (by simp [hw])]
 exact ⟨Z, hk⟩
theorem AP.two {M : Array Oper} {G : List Nat} {D : List Ob} {O : Am} {R : St → Prop} {i j : Nat} {r1 r2 : PL} (h1 : AP E n C M G D (.act i r1) O σ R) (h2 : AP E n C M G D (.act j r2) O σ R) :
  AP E n C M G D (.two i j r1 r2) O σ R :=
 fun Hs ws H a w sr wr Y hH hp Z => ⟨h1 Hs ws H a w sr wr Y hH hp Z, h2 Hs ws H a w sr wr Y hH hp Z⟩
theorem AP.three {M : Array Oper} {G : List Nat} {D : List Ob} {O : Am} {R : St → Prop} {i j k : Nat} {r1 r2 r3 : PL} (h1 : AP E n C M G D (.act i r1) O σ R) (h2 : AP E n C M G D (.act j r2) O σ R) (h3 : AP E n C M G D (.act k r3) O σ R) :
  AP E n C M G D (.three i j k r1 r2 r3) O σ R :=
 fun Hs ws H a w sr wr Y hH hp Z => ⟨h1 Hs ws H a w sr wr Y hH hp Z, h2 Hs ws H a w sr wr Y hH hp Z, h3 Hs ws H a w sr wr Y hH hp Z⟩
theorem AP.four {M : Array Oper} {G : List Nat} {D : List Ob} {O : Am} {R : St → Prop} {i j k l : Nat} {r1 r2 r3 r4 : PL} (h1 : AP E n C M G D (.act i r1) O σ R) (h2 : AP E n C M G D (.act j r2) O σ R) (h3 : AP E n C M G D (.act k r3) O σ R) (h4 : AP E n C M G D (.act l r4) O σ R) :
  AP E n C M G D (.four i j k l r1 r2 r3 r4) O σ R :=
 fun Hs ws H a w sr wr Y hH hp Z => ⟨h1 Hs ws H a w sr wr Y hH hp Z, h2 Hs ws H a w sr wr Y hH hp Z, h3 Hs ws H a w sr wr Y hH hp Z, h4 Hs ws H a w sr wr Y hH hp Z⟩
theorem AP.five {M : Array Oper} {G : List Nat} {D : List Ob} {O : Am} {R : St → Prop} {i j k l m : Nat} {r1 r2 r3 r4 r5 : PL} (h1 : AP E n C M G D (.act i r1) O σ R) (h2 : AP E n C M G D (.act j r2) O σ R) (h3 : AP E n C M G D (.act k r3) O σ R) (h4 : AP E n C M G D (.act l r4) O σ R) (h5 : AP E n C M G D (.act m r5) O σ R) :
  AP E n C M G D (.five i j k l m r1 r2 r3 r4 r5) O σ R :=
 fun Hs ws H a w sr wr Y hH hp Z => ⟨h1 Hs ws H a w sr wr Y hH hp Z, h2 Hs ws H a w sr wr Y hH hp Z, h3 Hs ws H a w sr wr Y hH hp Z, h4 Hs ws H a w sr wr Y hH hp Z, h5 Hs ws H a w sr wr Y hH hp Z⟩
theorem AP.weaken {D : Array Oper} {pl : PL} {G : Am} {R : St → Prop} {s : Am} {ob : List Ob} (hs : Sub s σ.slots) (Z : ob.Sublist σ.objs) (h : AP E n C D [] [] pl G ⟨s, ob⟩ R) :
  AP E n C D [] [] pl G σ R :=
 fun Hs ws H a w sr wr M Y _ O => h Hs ws H a w sr wr M Y (by simp) (O.weaken hs Z)
theorem H5 {G : Array Oper} {M : List Nat} {D : List Ob} {so : Am} {R : St → Prop} {i : Nat} {r : PL} {op : Op} {x : T} {j : Nat} {O b : Bool} {t : Tmp}
  (ho : G[i]? = some ⟨dst, op, ty, pos, aft, some (j, O)⟩)
  (hj : (G[j]?).bind (·.dst) = some t) (hs : get σ.slots t = some (.v (.bool b))) (hb : b = O)
  (hy : Yd E.P n so D ⟨dst, op, ty, pos, aft, none⟩ x) (hd : ∀ d, dst = some d → d < n) (k : AP E n C G M D r (El so dst x) (σ.put dst x) R) :
  AP E n C G M D (.still i r) so σ R := by
 intro Hs ws H a w sr wr ag hH hp gm
 obtain ⟨v, hv, Y⟩ := hy Hs a ws sr wr
 have Z := E0 gm.sr hj hs
 refine ⟨_, v, ho, .inl ⟨by simp [Region.wanted, Z, hb], Y⟩, ag, ?_⟩
 exact k Hs ws H _ w (sr.put hv hd) wr ag hH (by cases dst <;> simpa [St.put] using hp) (gm.put (hv.mono hH) hd)
theorem dO {G : Array Oper} {M : List Nat} {D : List Ob} {so : Am} {R : St → Prop} {i : Nat} {r : PL} {op : Op} {x : T} {j : Nat} {O b : Bool} {t : Tmp}
  (ho : G[i]? = some ⟨dst, op, ty, pos, aft, some (j, O)⟩)
  (hj : (G[j]?).bind (·.dst) = some t) (hs : get σ.slots t = some (.v (.bool b))) (hb : b = O)
  (hy : Yp E.P n σ.slots ⟨dst, op, ty, pos, aft, none⟩ x) (hd : ∀ d, dst = some d → d < n) (k : AP E n C G M D r so (σ.put dst x) R) (hf : free so dst = true := by rfl) :
  AP E n C G M D (.still i r) so σ R := by
 intro Hs ws H a w sr wr ag hH hp Z
 obtain ⟨v, hv, Y⟩ := hy H a Z.sr
 have aa := E0 Z.sr hj hs
 refine ⟨_, v, ho, .inl ⟨by simp [Region.wanted, aa, hb], fun w' _ => Y w'⟩, ag, ?_⟩
 exact k Hs ws H _ w (sr.free _ _ hf) wr ag hH (by cases dst <;> simpa [St.put] using hp) (Z.put hv hd)
theorem dP {Y : Array Oper} {G : List Nat} {D : List Ob} {so : Am} {R : St → Prop} {i : Nat} {r : PL} {op : Op} {j : Nat} {M b : Bool} {t : Tmp} (md : List Nat)
  (ho : Y[i]? = some ⟨dst, op, ty, pos, aft, some (j, M)⟩)
  (hj : (Y[j]?).bind (·.dst) = some t) (hs : get σ.slots t = some (.v (.bool b))) (hb : b = M) (hm : (G.all fun i => !md.contains i) = true)
  (h : AX E n C md ⟨dst, op, ty, pos, aft, none⟩ σ (fun σ' => AP E n C Y G D r so σ' R)) (hf : free so dst = true := by rfl) :
  AP E n C Y G D (.act i r) so σ R := by
 intro Hs ws H a w sr wr ag hH hp gm
 have ae : ∀ i, G.contains i = true → md.contains i = false := fun i hi => by
  have := (List.all_eq_true.1 hm) i (by simpa using hi)
  simpa using this
 have ah := E0 gm.sr hj hs
 simp only [Cw, wpOp, ho]
 rw [if_pos (by simp [Region.wanted, ah, hb])]
 have e : ∀ K Q, Oper.wp E.P ⟨dst, op, ty, pos, aft, some (j, M)⟩ a w K Q = Oper.wp E.P ⟨dst, op, ty, pos, aft, none⟩ a w K Q := fun _ _ => rfl
 rw [e]
 refine .inl (Df ?_ (fun _ _ _ h => h.elim) (h H a w gm))
 rintro a' w' ⟨σ', H', v, hr, ab, af, ac, ad⟩
 have aa : Ij Hs D ws w' := by
  refine ⟨fun b o hb => ab.held _ _ (ac _ _ (hH _ _ hb)), fun p O b hb => ?_⟩
  obtain ⟨i, hi, Z⟩ := hp p O
  exact ((ad i p Z (ae i hi)).2 b hb).trans (ag.2 p O b hb)
 refine ⟨aa, hr Hs ws H' a' w' (by rw [af]; exact sr.free _ _ hf) wr aa (fun b o hb => ac _ _ (hH _ _ hb)) (fun p O => ?_) ab⟩
 obtain ⟨i, hi, Z⟩ := hp p O
 exact ⟨i, hi, (ad i p Z (ae i hi)).1⟩
theorem Gam.drew {H : GH} {a : Act} {w : World} (D : Gam n C σ H a w) : Gam n C σ H a w.drew :=
 { D with
  objs := fun p G => OR.mono (fun _ _ h => h) (fun _ _ => rfl) (D.objs p G)
  held := D.held, heap := D.heap, frame := D.frame }
theorem Jb {id : Nat} {O : Array Oper} {Q : Exit → St → Prop} (pl : PL) (G : List Nat) (D : List Ob) (hB : Ov O pl = true)
  (hp : G.map (fun i => σ.objs[i]?) = D.map some)
  (h : AP E n C O G D pl σ.slots σ (fun σ' => Q .normal σ')) : AW E n C (.region id O true) σ Q := by
 intro H a w gm
 have Z : ∀ p, p ∈ D → ∃ i, G.contains i = true ∧ σ.objs[i]? = some p := by
  intro p M
  have : some p ∈ G.map (fun i => σ.objs[i]?) := by rw [hp]; exact List.mem_map_of_mem M
  obtain ⟨i, hi, he⟩ := List.mem_map.1 this
  exact ⟨i, by simpa using hi, he⟩
 refine Hx (Og (S := Ij H D w.drew) E.mixed pl hB (Q := fun e a' w' => e = .normal ∧ ∃ σ' H', Q .normal σ' ∧ Gam n C σ' H' a' w') ?_ ?_ ?_) ?_
 ·rintro c a w ⟨h, _⟩; cases h
 ·rintro ⟨a, w, h, _⟩; cases h
 ·have Y := gm.drew
  exact h H w.drew H a w.drew Y.sr ⟨fun p M => by obtain ⟨i, _, he⟩ := Z p M; exact Y.objs p (mg he), Y.held⟩ ⟨Y.held, fun _ _ _ _ => rfl⟩ (fun _ _ h => h) Z Y
 ·rintro e a' w' ⟨rfl, σ', H', q, g'⟩
  exact ⟨σ', H', q, g'⟩
end
def Dw : T → Option (List T)
 | .agg cs => some cs
 | .v x => bif x.oneCell' then some [.v x] else none
 | .list sz es => some [.list sz es]
 | .eptr l => some [.eptr l]
 | .tup _ => none
 | .fn f fs cs => some [.fn f fs cs]
def AR (H : GH) (arr : Array Value) (l : List T) : Prop := arr.size = l.length ∧ ∀ (j : Nat) (x : T), l[j]? = some x → CR H (arr.getD j undef) x
theorem Ph {v : Value} (h : v.oneCell' = true) : v.cells = #[v] := by cases v <;> simp_all [Value.cells, Value.oneCell']
theorem AR.one {H : GH} {v : Value} {x : T} (h1 : v.oneCell' = true) (h : VR H v x) : AR H #[v] [x] := by
 refine ⟨rfl, fun j y D => ?_⟩
 cases j with
 | zero => simp at D; subst D; exact ⟨h1, h⟩
 | succ j => simp at D
theorem Hr {H : GH} {v : Value} {y : T} {cs : List T} (h : VR H v y) (hc : Dw y = some cs) : AR H v.cells cs := by
 cases y with
 | v x =>
  have := h.v_eq
  subst this
  simp only [Dw] at hc
  cases ho : v.oneCell' with
  | false => simp [ho] at hc
  | true =>
   simp only [ho, cond_true, Option.some.injEq] at hc
   subst hc
   rw [Ph ho]
   exact .one ho h
 | list sz es =>
  simp only [Dw, Option.some.injEq] at hc
  subst hc
  obtain ⟨a, M, rfl⟩ := h.list_slice
  exact .one rfl h
 | agg l =>
  simp only [Dw, Option.some.injEq] at hc
  subst hc
  cases h with
  | agg vs cs hl D hv => exact ⟨hl, fun j x G => ⟨D j x G, hv j x G⟩⟩
 | tup l => simp [Dw] at hc
 | fn f fs cs =>
  simp only [Dw, Option.some.injEq] at hc
  subst hc
  have D : v.oneCell' = true := by cases h; rfl
  rw [Ph D]
  exact .one D h
 | eptr l =>
  simp only [Dw, Option.some.injEq] at hc
  subst hc
  obtain ⟨b, o, rfl⟩ := h.eptr_ptr
  exact .one rfl h
theorem AR.all1 {H : GH} {arr : Array Value} {l : List T} (h : AR H arr l) : ∀ v, v ∈ arr.toList → v.oneCell' = true := by
 intro v Z
 obtain ⟨j, Y, M⟩ := List.getElem_of_mem Z
 have D : j < arr.size := by simpa using Y
 have G : j < l.length := by rw [← h.1]; exact D
 have := (h.2 j l[j] (gq G)).1
 have O : arr.getD j undef = v := by
  rw [Array.getD_eq_getD_getElem?, Array.getElem?_eq_getElem D]
  simpa using M
 rwa [O] at this
def Hc : List T → Nat → List T → List T
 | [], _, _ => []
 | e, 0, [] => e
 | _ :: e, 0, c :: cs => c :: Hc e 0 cs
 | x :: e, j + 1, cs => x :: Hc e j cs
theorem E9 : ∀ (l : List T) (j : Nat) (cs : List T), (Hc l j cs).length = l.length
 | [], _, _ => rfl
 | _ :: _, 0, [] => rfl
 | _ :: e, 0, _ :: cs => by simp [Hc, E9 e 0 cs]
 | _ :: e, j + 1, cs => by simp [Hc, E9 e j cs]
theorem Jn : ∀ (l : List T) (j : Nat) (cs : List T) (i : Nat) (x : T), (Hc l j cs)[i]? = some x →
  (j ≤ i ∧ i < j + cs.length ∧ cs[i - j]? = some x) ∨ ((i < j ∨ j + cs.length ≤ i) ∧ l[i]? = some x)
 | [], _, _, i, x, h => by simp [Hc] at h
 | y :: e, 0, [], i, x, h => .inr ⟨by simp, h⟩
 | y :: e, 0, c :: cs, i, x, h => by
  simp only [Hc] at h
  cases i with
  | zero => left; simp at h; exact ⟨by omega, by simp, by simp [h]⟩
  | succ i =>
   simp only [List.getElem?_cons_succ] at h
   rcases Jn e 0 cs i x h with ⟨G, D, M⟩ | ⟨G, D⟩
   ·left; exact ⟨by omega, by simp; omega, by simpa using M⟩
   ·right; refine ⟨by simp; omega, by simpa using D⟩
 | y :: e, j + 1, cs, i, x, h => by
  simp only [Hc] at h
  cases i with
  | zero => right; simp at h; exact ⟨by omega, by simp [h]⟩
  | succ i =>
   simp only [List.getElem?_cons_succ] at h
   rcases Jn e j cs i x h with ⟨G, D, M⟩ | ⟨G, D⟩
   ·left; exact ⟨by omega, by omega, by rw [show i + 1 - (j + 1) = i - j by omega]; exact M⟩
   ·right; exact ⟨by omega, by simpa using D⟩
section
variable {E : Env} {n : Nat} {C : Ctx} {σ : St} {dst : Option Tmp} {ty : TypeId} {pos : String} {aft : Array Edge} {g : Option (Nat × Bool)}
theorem UsR.lt {H : GH} {w : World} {v : Value} {ty sz : Nat} {es : List (List T)} (h : UsR H w v ty sz es) : ∀ b, b ∈ Gn v → b < w.heap.size := by
 intro b D
 rcases h with ⟨rfl, _⟩ | ⟨O, c, M, rfl, _, _, Y, G, _⟩
 ·simp [Gn] at D
 ·simp [Gn] at D; subst D; exact (Array.getElem?_eq_some_iff.1 G).1
theorem Nb : ∀ {vs : List Value} {L : List (Option (List (List T)))} {b : Nat}, b ∈ Ee vs L → ∃ (i : Nat) (v : Value) (es : List (List T)), vs[i]? = some v ∧ L[i]? = some (some es) ∧ b ∈ Gn v
 | v :: vs, some es :: L, b, h => by
  simp only [Ee, List.mem_append] at h
  rcases h with h | h
  ·exact ⟨0, v, es, rfl, rfl, h⟩
  ·obtain ⟨i, v, es, D, G, M⟩ := Nb h
   exact ⟨i + 1, v, es, by simpa using D, by simpa using G, M⟩
 | v :: vs, none :: L, b, h => by
  simp only [Ee] at h
  obtain ⟨i, v, es, D, G, M⟩ := Nb h
  exact ⟨i + 1, v, es, by simpa using D, by simpa using G, M⟩
 | [], _, b, h => by simp [Ee] at h
 | _ :: _, [], b, h => by simp [Ee] at h
theorem OR.lt {H : GH} {w : World} {o : Ob} (h : OR H w o) : ∀ b, b ∈ o.fp → b < w.heap.size := by
 intro b D
 cases o with
 | arr b' ty sz cap G => simp only [Ob.fp, List.mem_singleton] at D; subst D; obtain ⟨cs, M, _⟩ := h; exact (Array.getElem?_eq_some_iff.1 M).1
 | us v ty sz G => exact UsR.lt h b D
 | uss v ty tyi szi vs L =>
  obtain ⟨_, O, Y⟩ := h
  simp only [Ob.fp, List.mem_append] at D
  rcases D with D | D
  ·exact O.lt b D
  ·obtain ⟨i, x, G, Z, q2, q3⟩ := Nb D
   exact (Y i x G Z q2).lt b q3
 | raw b' o => simp only [Ob.fp, List.mem_singleton] at D; subst D; exact (Array.getElem?_eq_some_iff.1 h).1
theorem Jt {α : Type} : ∀ {l : List α} {k : Nat} {x : α}, l[k]? = some x → ∃ D G, l = D ++ x :: G ∧ D.length = k ∧ (∀ y, l.set k y = D ++ y :: G) ∧ l.eraseIdx k = D ++ G
 | [], k, x, h => by simp at h
 | a :: l, 0, x, h => by simp at h; subst h; exact ⟨[], l, rfl, rfl, fun _ => rfl, rfl⟩
 | a :: l, k + 1, x, h => by
  obtain ⟨D, G, M, O, Y, Z⟩ := Jt (l := l) (k := k) (by simpa using h)
  exact ⟨a :: D, G, by rw [M]; rfl, by simp [O], fun y => by simp [Y y], by simp [Z]⟩
theorem Ox {α : Type} {f : α → List Nat} {l : List α} (G : (l.flatMap f).Nodup) {k i : Nat} {p q : α} (O : l[k]? = some p) (hi : l[i]? = some q) (Y : k ≠ i) : ∀ b, b ∈ f p → b ∉ f q := by
 obtain ⟨Z, l2, rfl, h2, _, _⟩ := Jt O
 intro b D M
 rw [List.flatMap_append, List.flatMap_cons, List.nodup_append, List.nodup_append] at G
 obtain ⟨_, ⟨_, _, n2⟩, n3⟩ := G
 rcases Nat.lt_or_ge i k with h | h
 ·rw [List.getElem?_append_left (by omega)] at hi
  exact n3 b (List.mem_flatMap.2 ⟨q, mg hi, M⟩) b (by simp [D]) rfl
 ·rw [List.getElem?_append_right (by omega), show i - Z.length = (i - k - 1) + 1 by omega, List.getElem?_cons_succ] at hi
  exact n2 b D b (List.mem_flatMap.2 ⟨q, mg hi, M⟩) rfl
theorem R3 {α : Type} {f : α → List Nat} {l : List α} (hn : (l.flatMap f).Nodup) {k : Nat} {p q : α} (hk : l[k]? = some p) (hq : (f q).Nodup) (hd : ∀ b, b ∈ f q → b ∈ f p ∨ ∀ x, x ∈ l → b ∉ f x) : ((l.set k q).flatMap f).Nodup := by
 obtain ⟨l1, l2, rfl, h2, h3, _⟩ := Jt hk
 rw [h3]
 rw [List.flatMap_append, List.flatMap_cons, List.nodup_append, List.nodup_append] at hn ⊢
 obtain ⟨n0, ⟨n1, Z, n2⟩, n3⟩ := hn
 refine ⟨n0, ⟨hq, Z, ?_⟩, ?_⟩
 ·intro b O c D G
  subst G
  rcases hd b O with h | h
  ·exact n2 b h b D rfl
  ·obtain ⟨x, Y, M⟩ := List.mem_flatMap.1 D
   exact h x (by simp [Y]) M
 ·intro b O c D G
  subst G
  rcases List.mem_append.1 D with D | D
  ·rcases hd b D with h | h
   ·exact n3 b O b (by simp [h]) rfl
   ·obtain ⟨x, Y, M⟩ := List.mem_flatMap.1 O
    exact h x (by simp [Y]) M
  ·exact n3 b O b (by rw [List.mem_append]; exact .inr D) rfl
theorem Gam.H_lt {H : GH} {a : Act} {w : World} (D : Gam n C σ H a w) {b : Nat} (hb : w.heap.size ≤ b) : H b = none := by
 cases h : H b with
 | none => rfl
 | some o => have := (Array.getElem?_eq_some_iff.1 (D.held b o h)).1; omega
theorem Gam.world {H : GH} {a : Act} {w w' : World} (D : Gam n C σ H a w) {objs : List Ob} (row : Nat → Prop) (Z : w'.os = w.os ∧ w'.tape = w.tape ∧ w'.output = w.output) (hsz : w.heap.size ≤ w'.heap.size)
  (hk : ∀ k, k < w.heap.size → ¬ row k → w'.heap[k]? = w.heap[k]?) (aa : ∀ k, row k → k < w.heap.size → ∃ o, o ∈ σ.objs ∧ k ∈ o.fp)
  (ho : ∀ p, p ∈ objs → (p ∈ σ.objs ∧ ∀ b, b ∈ p.fp → ¬ row b) ∨ (OR H w' p ∧ ∀ b, b ∈ p.fp → w.heap.size ≤ b ∨ ∃ o, o ∈ σ.objs ∧ b ∈ o.fp))
  (hn : (objs.flatMap Ob.fp).Nodup) : Gam n C ⟨σ.slots, objs⟩ H a w' := by
 have O : ∀ k o, o ∈ σ.objs → k ∈ o.fp → H k = none ∧ (C.w0.heap.size ≤ k ∨ k ∈ C.fp) := fun k o h hk => ⟨D.free _ h k hk, D.new _ h k hk⟩
 refine ⟨D.defers, D.size, D.slots, ?_, ?_, ?_, hn, ?_, D.grow, Nat.le_trans D.heap hsz, ?_, ⟨Z.1.trans D.env.1, Z.2.1.trans D.env.2.1, Z.2.2.trans D.env.2.2⟩⟩
 ·intro p hp
  rcases ho p hp with ⟨h1, G⟩ | ⟨h1, _⟩
  ·have := D.objs p h1
   exact this.mono (fun _ _ h => h) (fun b M => hk _ (this.lt b M) (G b M))
  ·exact h1
 ·intro p hp b M
  rcases ho p hp with ⟨h1, _⟩ | ⟨_, G⟩
  ·exact D.free p h1 b M
  ·rcases G b M with G | ⟨o, G, h3⟩
   ·exact D.H_lt G
   ·exact (O _ _ G h3).1
 ·intro p hp b M
  rcases ho p hp with ⟨h1, _⟩ | ⟨_, G⟩
  ·exact D.new p h1 b M
  ·rcases G b M with G | ⟨o, G, h3⟩
   ·exact .inl (Nat.le_trans D.heap G)
   ·exact (O _ _ G h3).2
 ·intro b o M
  have Y := (Array.getElem?_eq_some_iff.1 (D.held b o M)).1
  have : ¬ row b := fun hr => by
   obtain ⟨o', h, h'⟩ := aa b hr Y
   rw [(O _ _ h h').1] at M; cases M
  rw [hk b Y this]; exact D.held b o M
 ·intro b M hf
  have Y := Nat.lt_of_lt_of_le M D.heap
  have : ¬ row b := fun hr => by
   obtain ⟨o', h, h'⟩ := aa b hr Y
   rcases (O _ _ h h').2 with G | G
   ·omega
   ·exact hf G
  rw [hk b Y this]; exact D.frame b M hf
theorem Gam.more {H : GH} {a : Act} {w w' : World} (M : Gam n C σ H a w) {ob : Ob} (D : w'.os = w.os ∧ w'.tape = w.tape ∧ w'.output = w.output) (hsz : w.heap.size ≤ w'.heap.size)
  (hk : ∀ k, k < w.heap.size → w'.heap[k]? = w.heap[k]?) (h : OR H w' ob) (hf : ∀ b, b ∈ ob.fp → w.heap.size ≤ b) (Z : ob.fp.Nodup) : Gam n C ⟨σ.slots, σ.objs ++ [ob]⟩ H a w' := by
 refine M.world (fun _ => False) D hsz (fun k Y _ => hk k Y) (fun _ h => h.elim) ?_ ?_
 ·intro p hp
  rcases List.mem_append.1 hp with G | G
  ·exact .inl ⟨G, fun _ _ h => h⟩
  ·simp only [List.mem_singleton] at G; subst G; exact .inr ⟨h, fun b hb => .inl (hf b hb)⟩
 ·rw [List.flatMap_append, List.nodup_append]
  refine ⟨M.nodup, by simpa using Z, ?_⟩
  intro x hx y hy hxy
  subst hxy
  simp only [List.flatMap_cons, List.flatMap_nil, List.append_nil] at hy
  obtain ⟨p, hp, O⟩ := List.mem_flatMap.1 hx
  have := (M.objs p hp).lt x O
  have := hf x hy
  omega
theorem Gam.alloc {H : GH} {a : Act} {w : World} (D : Gam n C σ H a w) {o : Obj} {ob : Ob} (h : OR H (w.alloc o) ob) (hf : ob.fp = [w.heap.size]) : Gam n C ⟨σ.slots, σ.objs ++ [ob]⟩ H a (w.alloc o) :=
 D.more ⟨rfl, rfl, rfl⟩ (by show w.heap.size ≤ (w.heap.push o).size; simp) (fun k G => heap_alloc_old w o G) h (by rw [hf]; simp) (by rw [hf]; simp)
theorem OR.box {H : GH} {w : World} {t : TypeId} {arr : Array Value} {l : List T} {b : Nat} (h : w.heap[b]? = some (.cells arr t (0, 0))) (G : AR H arr l) : OR H w (.arr b t l.length 1 [l]) := by
 refine ⟨arr, h, by rw [G.1]; omega, by simp, by simp [Gx], ?_, ?_⟩
 ·intro i e D
  cases i with
  | zero => simp at D; subst D; rfl
  | succ i => simp at D
 ·intro i e D j x M
  cases i with
  | zero => simp at D; subst D; simpa using G.2 j x M
  | succ i => simp at D
theorem AX.value {md : List Nat} {o : Oper} {R : St → Prop}
  (h : ∀ H a w, Gam n C σ H a w → ∃ v w' s' H', (execOp a.eval o).run E.P w = .ok (.value v) w' ∧ R s' ∧ Gam n C s' H' (a.put o.dst v) w' ∧ (∀ b o, H b = some o → H' b = some o) ∧
   ∀ i p, σ.objs[i]? = some p → md.contains i = false → s'.objs[i]? = some p ∧ ∀ b, b ∈ p.fp → w'.heap[b]? = w.heap[b]?) : AX E n C md o σ R := by
 intro H a w D
 obtain ⟨v, w', s', H', G, M, O, Y, Z⟩ := h H a w D
 simp only [Oper.wp, G, Oper.upon]
 exact ⟨s', H', v, M, O, rfl, Y, Z⟩
theorem AX.skip {md : List Nat} {o : Oper} {R : St → Prop}
  (h : ∀ H a w, Gam n C σ H a w → ∃ w' s' H', (execOp a.eval o).run E.P w = .ok .skip w' ∧ R s' ∧ Gam n C s' H' (a.put o.dst undef) w' ∧ (∀ b o, H b = some o → H' b = some o) ∧
   ∀ i p, σ.objs[i]? = some p → md.contains i = false → s'.objs[i]? = some p ∧ ∀ b, b ∈ p.fp → w'.heap[b]? = w.heap[b]?) : AX E n C md o σ R := by
 intro H a w D
 obtain ⟨w', s', H', G, M, O, Y, Z⟩ := h H a w D
 simp only [Oper.wp, G, Oper.upon]
 exact ⟨s', H', undef, M, O, rfl, Y, Z⟩
theorem Et {objs : List Ob} {x : Ob} {i : Nat} {p : Ob} (h : objs[i]? = some p) : (objs ++ [x])[i]? = some p := by
 rw [List.getElem?_append_left (gs h).1]; exact h
theorem AX.alloc {t : TypeId} {ti : TI} {z : Value} {cs : List T} {R : St → Prop} (ht : E.tab t = some ti) (hz : ti.zero = some z) (hc : z.cells.toList.map T.v = cs) (h1 : z.cells.toList.all (·.oneCell') = true) {m : Nat} (hm : cs.length = m)
  (hd : ∀ d, dst = some d → d < n) (k : ∀ b, R ⟨El σ.slots dst (.v (.pointer (some ⟨b, 0, none⟩))), σ.objs ++ [(.arr b t m 1 [cs])]⟩) :
  AX E n C [] ⟨dst, .alloc t, ty, pos, aft, g⟩ σ R := by
 refine AX.value fun H a w O => ?_
 have G : AR H z.cells cs := by
  subst hc
  refine ⟨by simp, fun j x hx => ?_⟩
  simp only [List.getElem?_map, Option.map_eq_some_iff] at hx
  obtain ⟨v, Z, rfl⟩ := hx
  have M : z.cells.getD j undef = v := by
   rw [Array.getD_eq_getD_getElem?, ← Array.getElem?_toList, Z]; rfl
  rw [M]
  exact ⟨List.all_eq_true.1 h1 v (mg Z), .v v⟩
 have D : OR H (w.alloc (.cells z.cells t)) (.arr w.heap.size t cs.length 1 [cs]) := OR.box (heap_alloc_new w _) G
 rw [hm] at D
 refine ⟨.pointer (some ⟨w.heap.size, 0, none⟩), w.alloc (.cells z.cells t), _, H, ?_, k w.heap.size, ?_, fun _ _ h => h, ?_⟩
 ·simp [execOp, Instr.alloc, D7 (E.ok _ _ ht) w hz, newVar, newRow]
 ·have := (O.alloc D rfl).put (dst := dst) (.v (.pointer (some ⟨w.heap.size, 0, none⟩))) hd
  cases dst <;> exact this
 ·intro i p Y _
  exact ⟨Et Y, fun b hb => heap_alloc_old w _ ((O.objs p (mg Y)).lt b hb)⟩
theorem AX.box {t : TypeId} {x : Operand} {y : T} {cs : List T} {R : St → Prop} (hx : Au σ.slots x = some y) (hc : Dw y = some cs) {m : Nat} (hm : cs.length = m)
  (Z : ∀ d, dst = some d → d < n) (k : ∀ b, R ⟨El σ.slots dst (.v (.pointer (some ⟨b, 0, none⟩))), σ.objs ++ [(.arr b t m 1 [cs])]⟩) :
  AX E n C [] ⟨dst, .box t x, ty, pos, aft, g⟩ σ R := by
 refine AX.value fun H a w G => ?_
 have M := Hr (G.sr.eval hx) hc
 have D : OR H (w.alloc (.cells (a.eval x).cells t)) (.arr w.heap.size t cs.length 1 [cs]) := OR.box (heap_alloc_new w _) M
 rw [hm] at D
 refine ⟨.pointer (some ⟨w.heap.size, 0, none⟩), w.alloc (.cells (a.eval x).cells t), _, H, ?_, k w.heap.size, ?_, fun _ _ h => h, ?_⟩
 ·simp [execOp, Instr.box, newVar, newRow]
 ·have := (G.alloc D rfl).put (dst := dst) (.v (.pointer (some ⟨w.heap.size, 0, none⟩))) Z
  cases dst <;> exact this
 ·intro i p O _
  exact ⟨Et O, fun b Y => heap_alloc_old w _ ((G.objs p (mg O)).lt b Y)⟩
theorem K5 {objs : List Ob} {k i : Nat} {x p : Ob} (h : objs[i]? = some p) (hi : k ≠ i) : (objs.set k x)[i]? = some p := by
 rw [List.getElem?_set_ne hi]; exact h
theorem Gam.set {H : GH} {a : Act} {w w' : World} (Z : Gam n C σ H a w) {k : Nat} {o o' : Ob} (hk : σ.objs[k]? = some o) (O : w'.os = w.os ∧ w'.tape = w.tape ∧ w'.output = w.output) (hsz : w.heap.size ≤ w'.heap.size)
  (hot : ∀ i, i < w.heap.size → i ∉ o.fp → w'.heap[i]? = w.heap[i]?) (hor : OR H w' o') (Y : ∀ b, b ∈ o'.fp → w.heap.size ≤ b ∨ b ∈ o.fp) (hnd : o'.fp.Nodup) : Gam n C ⟨σ.slots, σ.objs.set k o'⟩ H a w' := by
 have hm := mg hk
 refine Z.world (fun i => i ∈ o.fp) O hsz hot (fun i hi _ => ⟨o, hm, hi⟩) ?_ ?_
 ·intro p hp
  obtain ⟨i, hi, he⟩ := List.getElem_of_mem hp
  have D : (σ.objs.set k o')[i]? = some p := by rw [gq hi, he]
  by_cases G : k = i
  ·subst G
   rw [List.getElem?_set_self (gs hk).1] at D
   cases D
   exact .inr ⟨hor, fun b M => (Y b M).imp id (fun h => ⟨o, hm, h⟩)⟩
  ·rw [List.getElem?_set_ne G] at D
   exact .inl ⟨mg D, fun b M hb' => Ox Z.nodup hk D G b hb' M⟩
 ·refine R3 Z.nodup hk hnd (fun b M => ?_)
  rcases Y b M with h | h
  ·exact .inr fun x hx hbx => by have := (Z.objs x hx).lt b hbx; omega
  ·exact .inl h
theorem Gam.apart {H : GH} {a : Act} {w : World} (G : Gam n C σ H a w) {k i : Nat} {p q : Ob} (M : σ.objs[k]? = some p) (hi : σ.objs[i]? = some q) (D : k ≠ i) : ∀ b, b ∈ q.fp → b ∉ p.fp :=
 fun b Y O => Ox G.nodup M hi D b O Y
theorem Lo (w : World) (g : Nat) (cs : Array Value) : (w.setRow g cs).heap.size = w.heap.size := by simp [World.setRow]
theorem Ns {D : Array Value} {vs : List Value} {o i : Nat} (hl : o + vs.length ≤ D.size) :
  ((D.toList.take o ++ vs ++ D.toList.drop (o + vs.length)).toArray).getD i undef = if o ≤ i ∧ i < o + vs.length then vs.getD (i - o) undef else D.getD i undef := by
 simp only [Array.getD_eq_getD_getElem?, List.getElem?_toArray, List.getElem?_append, List.length_append, List.length_take, Array.length_toList, List.getElem?_drop, List.getElem?_take, Array.getElem?_toList, List.getD]
 by_cases G : i < o
 ·have : min o D.size = o := by omega
  simp [this, G, show i < o + vs.length by omega, show ¬ o ≤ i by omega]
 ·have : min o D.size = o := by omega
  by_cases M : i < o + vs.length
  ·simp [this, G, M, show o ≤ i by omega]
  ·simp [this, G, M, show o + vs.length + (i - (o + vs.length)) = i by omega]
theorem N0 {H : GH} {a : Act} {w : World} {s : Am} (r : SR n s H a) {t : TypeId} {x y : Operand} {ti : TI} {c : T} {cs : List T} {b off tt sz cap : Nat} {es : List (List T)} (i j : Nat) {e : List T}
  (ht : E.tab t = some ti) (hx : Au s x = some (.v (.pointer (some ⟨b, off, none⟩)))) (hor : ArrR H w b tt sz cap es) (he : es[i]? = some e) (ho : off = i * sz + j)
  (hy : Au s y = some c) (hc : Dw c = some cs) (hsz : ti.size = cs.length) (hj : j + cs.length ≤ e.length) :
  ∃ w', (execOp a.eval ⟨none, .store t x y, ty, pos, aft, g⟩).run E.P w = .ok .skip w' ∧ ArrR H w' b tt sz cap (es.set i (Hc e j cs)) ∧ (w'.os = w.os ∧ w'.tape = w.tape ∧ w'.output = w.output) ∧ w'.heap.size = w.heap.size ∧
   ∀ i, i ≠ b → w'.heap[i]? = w.heap[i]? := by
 obtain ⟨M, a1, a2, a3, a4, a5, a6⟩ := hor
 have O := Hr (r.eval hy) hc
 have hil := (gs he).1
 have hel := a5 i e he
 have hmul : (i + 1) * sz ≤ cap * sz := Nat.mul_le_mul_right _ (by omega)
 rw [Nat.succ_mul] at hmul
 have G : (a.eval y).cells.toList.length = cs.length := by simpa using O.1
 have Z := run_storeCells_at (P := E.P) b off tt (a.eval y).cells.toList 0 M w a1 (by rw [G]; omega) O.all1
 simp only [Nat.add_zero] at Z
 refine ⟨w.setRow b (M.toList.take off ++ (a.eval y).cells.toList ++ M.toList.drop (off + (a.eval y).cells.toList.length)).toArray, ?_, ?_, ⟨rfl, rfl, rfl⟩, Lo _ _ _, fun i hi => setRow_other w b i _ hi⟩
 ·simp [execOp, Instr.storeAt, Instr.sureAddr, r.evalv hx, storeVar, Bu (E.ok _ _ ht), hsz, show (a.eval y).cells.size = cs.length from O.1] at Z ⊢
  simp [Z]
 ·refine ⟨_, setRow_heap w b M _ tt _ a1, ?_, by simpa using a3, by simpa using a4, ?_, ?_⟩
  ·simp only [List.size_toArray, List.length_append, List.length_take, List.length_drop, Array.length_toList, G]
   omega
  ·intro i' e' D
   rw [List.getElem?_set] at D
   split at D
   ·simp only [hil, if_true, Option.some.injEq] at D
    subst D; rw [E9]; exact hel
   ·exact a5 i' e' D
  ·intro i' e' D j' x' aa
   rw [Ns (by rw [G]; omega)]
   rw [List.getElem?_set] at D
   split at D
   ·rename_i Y
    subst Y
    simp only [hil, if_true, Option.some.injEq] at D
    subst D
    rcases Jn e j cs j' x' aa with ⟨q1, q2, q3⟩ | ⟨q1, q2⟩
    ·rw [if_pos (by rw [G]; omega)]
     have := O.2 _ _ q3
     rw [show i * sz + j' - off = j' - j by omega]
     rw [Array.getD_eq_getD_getElem?, ← Array.getElem?_toList] at this
     simpa [List.getD] using this
    ·rw [if_neg (by rw [G]; omega)]
     exact a6 i e he j' x' q2
   ·rename_i Y
    have hj'l := (gs aa).1
    have hel' := a5 i' e' D
    rw [if_neg ?_]
    ·exact a6 i' e' D j' x' aa
    ·rw [G]
     rintro ⟨q1, q2⟩
     rcases Nat.lt_or_gt_of_ne Y with h | h
     ·have : (i + 1) * sz ≤ i' * sz := Nat.mul_le_mul_right _ h
      rw [Nat.succ_mul] at this; omega
     ·have : (i' + 1) * sz ≤ i * sz := Nat.mul_le_mul_right _ h
      rw [Nat.succ_mul] at this; omega
theorem AX.store (k : Nat) {t : TypeId} {x y : Operand} {ti : TI} {c : T} {cs : List T} {b off tt sz cap : Nat} {es es' : List (List T)} (i j : Nat) {e : List T} {R : St → Prop}
  (ht : E.tab t = some ti) (hx : Au σ.slots x = some (.v (.pointer (some ⟨b, off, none⟩)))) (Y : σ.objs[k]? = some (.arr b tt sz cap es)) (he : es[i]? = some e) (ho : off = i * sz + j)
  (hy : Au σ.slots y = some c) (hc : Dw c = some cs) (hsz : ti.size = cs.length) (hj : j + cs.length ≤ e.length) (hd : dst = none) (O : es.set i (Hc e j cs) = es')
  (kk : R ⟨σ.slots, σ.objs.set k (.arr b tt sz cap es')⟩) :
  AX E n C [k] ⟨dst, .store t x y, ty, pos, aft, g⟩ σ R := by
 subst hd
 subst O
 refine AX.skip fun H a w G => ?_
 obtain ⟨w', h1, h2, h3, h4, h5⟩ := N0 (ty := ty) (pos := pos) (aft := aft) (g := g) G.sr i j ht hx (G.objs _ (mg Y)) he ho hy hc hsz hj
 refine ⟨w', _, H, h1, kk, ?_, fun _ _ h => h, fun i' p hp hm => ?_⟩
 ·exact G.set Y h3 (by omega) (fun i _ hi => h5 i (by simpa [Ob.fp] using hi)) h2 (fun b hb => .inr hb) (by simp [Ob.fp])
 ·have D : k ≠ i' := fun h => by subst h; simp at hm
  exact ⟨K5 hp D, fun Z M => h5 Z (fun h => G.apart Y hp D Z M (by simp [Ob.fp, h]))⟩
def hM := @AX.store
theorem aO {H : GH} {w : World} {v : Value} {D sz : Nat} {es es' : List (List T)} {c cap : Nat} (hv : v = .slice (some ⟨Gp v, 0, none⟩) es.length c) (h1 : es.length ≤ c) (h2 : c ≤ cap) (hl : es'.length = es.length)
  (h : ArrR H w (Gp v) D sz cap es') : UsR H w v D sz es' :=
 .inr ⟨Gp v, c, cap, by rw [hl]; exact hv, by omega, h2, h⟩
theorem Cb (k : Nat) {t : TypeId} {x y : Operand} {ti : TI} {c : T} {cs : List T} {v : Value} {off tt sz : Nat} {es es' : List (List T)} (i j : Nat) {e : List T} {R : St → Prop}
  (ht : E.tab t = some ti) (hx : Au σ.slots x = some (.v (.pointer (some ⟨Gp v, off, none⟩)))) (Y : σ.objs[k]? = some (.us v tt sz es)) (he : es[i]? = some e) (ho : off = i * sz + j)
  (hy : Au σ.slots y = some c) (hc : Dw c = some cs) (hsz : ti.size = cs.length) (hj : j + cs.length ≤ e.length) (hd : dst = none) (O : es.set i (Hc e j cs) = es')
  (kk : R ⟨σ.slots, σ.objs.set k (.us v tt sz es')⟩) :
  AX E n C [k] ⟨dst, .store t x y, ty, pos, aft, g⟩ σ R := by
 subst hd
 subst O
 refine AX.skip fun H a w G => ?_
 have Z : UsR H w v tt sz es := G.objs _ (mg Y)
 obtain ⟨c', cap, hv, q1, q2, q3, q4⟩ := Z.arr he
 obtain ⟨w', h1, h2, h3, h4, h5⟩ := N0 (ty := ty) (pos := pos) (aft := aft) (g := g) G.sr i j ht hx q3 he ho hy hc hsz hj
 refine ⟨w', _, H, h1, kk, ?_, fun _ _ h => h, fun i' p hp hm => ?_⟩
 ·exact G.set Y h3 (by omega) (fun i _ hi => h5 i (by simpa [Ob.fp, q4] using hi)) (aO hv q1 q2 (by simp) h2) (fun b hb => .inr hb) (by simp [Ob.fp, q4])
 ·have D : k ≠ i' := fun h => by subst h; simp at hm
  exact ⟨K5 hp D, fun b' M => h5 b' (fun h => G.apart Y hp D b' M (by simp [Ob.fp, q4, h]))⟩
end
end Go.Aw
