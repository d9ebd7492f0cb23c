/- A program logic over the model. No condition. -/
import Derived.OrdersHeld
import Derived.Laws.Cells
import Derived.WalkKit
import Derived.RangeFuncLeaves
import Derived.RangeFuncRecord
import Derived.RangeFuncCalls
import Derived.OrdersIn
import Derived.Scope
import Derived.Laws.MakeOwn
import Derived.Laws.CopyRow
import Derived.Laws.AppendOwn
import Derived.Laws.AppendOwnNone
set_option maxRecDepth 100000
namespace Go.Aw
abbrev Li := List Int
theorem gs {α : Type _} {l : List α} {i : Nat} {a : α} (h : l[i]? = some a) : ∃ w : i < l.length, l[i] = a := List.getElem?_eq_some_iff.1 h
theorem gq {α : Type _} {l : List α} {i : Nat} (h : i < l.length) : l[i]? = some l[i] := List.getElem?_eq_getElem h
theorem mg {α : Type _} {l : List α} {i : Nat} {a : α} (h : l[i]? = some a) : a ∈ l := List.mem_of_getElem? h
theorem nq {a b : Nat} (h : Nat.beq a b = true) : a = b := Nat.eq_of_beq_eq_true h
set_option linter.unusedVariables false
set_option linter.defProp false
set_option linter.unusedSimpArgs false
def Fc : Option Nat → Fence
 | none => Fence.wide
 | some l => Fence.wide.inRound l
def Nj : Op → Bool
 | .defer _ => false
 | _ => true
def nd : Code → Bool
 | .region _ ops _ => ops.toList.all fun o => Nj o.op
 | .seq a b => nd a && nd b
 | .cond _ a b => nd a && nd b
 | .block _ c => nd c
 | .loop c => nd c
 | .scope _ => false
 | .rangeFunc .. => false
 | _ => true
theorem On (ro : Option Nat) (f : FuncId) : (Fc ro).fn f := by cases ro <;> trivial
theorem M7 (ro : Option Nat) : (Fc ro).depth = none := by cases ro <;> rfl
theorem Kh {ro : Option Nat} {m : Nat} {P : Program} {f : FuncId} {args : Array Value} {w : World} {R : Ending → World → Prop} (h : Calls P f args w R) : CallsIn (Fc ro) m P f args w R := by
 have G : CallsIn Fence.wide m P f args w R := callsIn_wide.2 h
 cases ro with
 | none => exact G
 | some l => exact G
theorem Lg {ro : Option Nat} {m : Nat} {P : Program} {G : String} {args : Array Value} {w : World} {R : Value → World → Prop} (h : Rows P G args w R) : RowsIn (Fc ro) m P G args w R := by
 intro c M _
 obtain ⟨v, O, r, s⟩ := h c M
 refine ⟨v, O, r, ?_⟩
 have := (stepsIn_wide (P := P)).2 s
 cases ro with
 | none => exact this
 | some l => exact this
theorem pH {ro : Option Nat} {m : Nat} {P : Program} {o : Oper} {a : Act} {w : World} {K : Act → World → Prop} {Q : Exit → Act → World → Prop} (M : Nj o.op = true) (h : o.wp P a w K Q) : o.wpIn (Fc ro) m P a w K Q := by
 refine ⟨fun f _ => On ro f, ?_⟩
 have e : Oper.semAt (Fc ro).round a.eval o = execOp a.eval o := Oper.semAt_eq _ _ _ (fun c O => by rw [O] at M; simp [Nj] at M)
 rw [e]
 unfold Oper.wp at h
 generalize (execOp a.eval o).run P w = r at h
 cases r with
 | ok x w' =>
  cases x <;> simp only [Oper.upon, Oper.uponIn] at h ⊢ <;>
   first
    | exact h
    | exact h.elim
    | exact ⟨fun G => (by rw [M7] at G; cases G), Kh h⟩
    | exact ⟨fun G => (by rw [M7] at G; cases G), Lg h⟩
 | halt x w' => cases x <;> simp only [Oper.upon, Oper.uponIn] at h ⊢ <;> first | exact h | exact h.elim
theorem Uf {m : Nat} {P : Program} {o : Oper} {a : Act} {w : World} {K : Act → World → Prop} {Q : Exit → Act → World → Prop} (h : o.wp P a w K Q) : o.wpIn (Fc none) m P a w K Q := by
 refine ⟨fun f _ => trivial, ?_⟩
 change o.uponIn (Fc none) m P a K Q ((execOp a.eval o).run P w)
 unfold Oper.wp at h
 generalize (execOp a.eval o).run P w = r at h
 cases r with
 | ok x w' =>
  cases x <;> simp only [Oper.upon, Oper.uponIn] at h ⊢ <;>
   first
    | exact h
    | exact h.elim
    | exact ⟨fun G => (by cases G), Kh h⟩
    | exact ⟨fun G => (by cases G), Lg h⟩
 | halt x w' => cases x <;> simp only [Oper.upon, Oper.uponIn] at h ⊢ <;> first | exact h | exact h.elim
theorem eI {l : Nat} {m : Nat} {P : Program} {o : Oper} {a : Act} {w : World} {K : Act → World → Prop} {Q : Exit → Act → World → Prop} (G : Nj o.op = true) (h : o.wpIn Fence.wide m P a w K Q) : o.wpIn (Fc (some l)) m P a w K Q := by
 refine ⟨fun f _ => trivial, ?_⟩
 have e : Oper.semAt (Fc (some l)).round a.eval o = Oper.semAt Fence.wide.round a.eval o := (Oper.semAt_eq _ _ _ (fun c M => by rw [M] at G; simp [Nj] at G)).trans (Oper.semAt_eq _ _ _ (fun c M => by rw [M] at G; simp [Nj] at G)).symm
 rw [e]
 exact h.2
theorem Jc {F : Fence} {m : Nat} {P : Program} {o : Oper} {a : Act} {w : World} {K K' : Act → World → Prop} {Q Q' : Exit → Act → World → Prop}
  (h : ∀ a w, K a w → K' a w) (O : ∀ e a w, Q e a w → Q' e a w) (G : o.wpIn F m P a w K Q) : o.wpIn F m P a w K' Q' := by
 refine ⟨G.1, ?_⟩
 have G := G.2
 generalize (o.semAt F.round a.eval).run P w = r at *
 have Y : LetsOut Q → LetsOut Q' := fun ⟨a, w, h⟩ => ⟨a, w, O _ _ _ h⟩
 cases r with
 | ok x w' =>
  cases x <;> simp only [Oper.uponIn] at G ⊢ <;>
   first
    | exact h _ _ G
    | exact ⟨G.1, CallsIn.mono G.2 (fun e W M => by cases e <;> first | exact h _ _ M | exact O _ _ _ M | exact Y M)⟩
    | exact ⟨G.1, RowsIn.mono G.2 (fun _ _ M => h _ _ M)⟩
    | exact ⟨G.1, RoundIn.mono G.2 (fun e W M => by cases e <;> first | exact h _ _ M | exact O _ _ _ M | exact Y M)⟩
    | exact G.elim
 | halt x w' => cases x <;> simp only [Oper.uponIn] at G ⊢ <;> first | exact O _ _ _ G | exact G.elim
theorem sF {G : Array Oper} (M : G.toList.all (fun o => Nj o.op) = true) {i : Nat} {o : Oper} (O : G[i]? = some o) : Nj o.op = true :=
 List.all_eq_true.1 M o (Array.mem_toList_iff.2 (Array.mem_of_getElem? O))
theorem oT {ro : Option Nat} {m : Nat} {P : Program} {G : Array Oper} {Q : Exit → Act → World → Prop} (W : G.toList.all (fun o => Nj o.op) = true) (O : ¬ LetsOut Q) {i : Nat} {K : Act → World → Prop} {a : Act} {w : World}
  (h : wpOp P G Q i K a w) : wpOpIn (Fc ro) m P G Q i K a w := by
 unfold wpOp at h
 unfold wpOpIn
 cases ho : G[i]? with
 | none => rw [ho] at h; exact h
 | some o =>
  rw [ho] at h
  have Y := sF W ho
  simp only [] at h ⊢
  split at h
  ·rename_i M
   rw [if_pos M]
   rcases h with h | ⟨_, h⟩
   ·exact pH Y h
   ·exact absurd h O
  ·rename_i M
   rw [if_neg M]
   exact ⟨fun f _ => On ro f, h⟩
theorem sO {ro : Option Nat} {m : Nat} {P : Program} {md : Region.Mode} {O : Array Oper} {Q : Exit → Act → World → Prop} (Y : O.toList.all (fun o => Nj o.op) = true) (W : ¬ LetsOut Q) : ∀ (M : Nat) (G : Array Bool) (a : Act) (w : World),
  wpAny P md O Q M G a w → wpAnyIn (Fc ro) m P md O Q M G a w := by
 intro M
 induction M with
 | zero => intro G a w h; exact h
 | succ M ih =>
  intro G a w h
  exact ⟨h.1, fun i Z => wpOpIn_mono (fun a w h => ih _ a w h) (oT Y W (h.2 i Z))⟩
theorem Tw {ro : Option Nat} {m : Nat} {P : Program} {id : Nat} {G : Array Oper} {Q : Exit → Act → World → Prop} {a : Act} {w : World} (W : P.follows .mixedOrders = true) (O : G.toList.all (fun o => Nj o.op) = true) (M : ¬ LetsOut Q)
  (h : wpAny P .any G Q G.size (Array.replicate G.size false) a { w with drawn := w.drawn + 1 }) : (Code.region id G true).wpIn (Fc ro) m P Q a w :=
 wpIn_region_any W (sO O M _ _ _ _ h)
def cw (c : Code) (P : Program) (Q : Exit → Act → World → Prop) (a : Act) (w : World) : Prop := ∀ ro : Option Nat, (ro.isSome = true → nd c = true) → c.wpIn (Fc ro) 0 P Q a w
section
variable {P : Program} {Q : Exit → Act → World → Prop} {a : Act} {w : World}
theorem cw.wp {c : Code} (h : cw c P Q a w) : c.wp P Q a w := wpIn_wide.1 (h none (fun h => by cases h))
theorem Iv {c : Code} {Q' : Exit → Act → World → Prop} (h : cw c P Q a w) (M : ∀ e a w, Q e a w → Q' e a w) : cw c P Q' a w := fun ro G => wpIn_mono (h ro G) M
theorem pR (h : Q .normal a w) : cw .skip P Q a w := fun _ _ => wpIn_skip h
theorem mN {l : Nat} (h : Q .normal a w) : cw (.label l) P Q a w := fun _ _ => wpIn_label h
theorem pT {id : Nat} (h : Q (.exit id) a w) : cw (.exit id) P Q a w := fun _ _ => wpIn_exit h
theorem sM (h : Q .ret a w) : cw .ret P Q a w := fun _ _ => wpIn_ret h
theorem sL {x y : Code} (h : cw x P (Exit.then (cw y P Q) Q) a w) : cw (.seq x y) P Q a w := fun ro M =>
 wpIn_seq (wpIn_mono (h ro (fun G => (Bool.and_eq_true_iff.1 (M G)).1)) fun e a w q => by
  cases e with
  | normal => exact q ro (fun G => (Bool.and_eq_true_iff.1 (M G)).2)
  | _ => exact q)
theorem T1 {c : Operand} {x y : Code} {t : Bool} (hc : a.eval c = .bool t) (O : t = true → cw x P Q a w) (hf : t = false → cw y P Q a w) : cw (.cond c x y) P Q a w := fun ro M =>
 wpIn_cond_split hc (fun h => O h ro (fun G => (Bool.and_eq_true_iff.1 (M G)).1)) (fun h => hf h ro (fun G => (Bool.and_eq_true_iff.1 (M G)).2))
theorem mO {id : Nat} {c : Code} (h : cw c P (Exit.inBlock id Q) a w) : cw (.block id c) P Q a w := fun ro G => wpIn_block (h ro G)
theorem pS {c : Code} (I : Act → World → Prop) (μ : Act → World → Nat) (h₀ : I a w)
  (G : ∀ a w, I a w → cw c P (Exit.then (fun a' w' => I a' w' ∧ μ a' w' < μ a w) Q) a w) : cw (.loop c) P Q a w := fun ro M =>
 wpIn_loop I μ h₀ fun a w hi => G a w hi ro M
theorem Ni {c : Code} (h : cw c P (Exit.noGoto Q) a w) : cw (.scope c) P Q a w := fun ro G => by
 cases ro with
 | none => exact wpIn_wide.2 (wp_scope_straight h.wp)
 | some l => exact absurd (G rfl) (by simp [nd])
end
inductive T where
 | v (x : Value)
 | list (sz : Nat) (es : List (List T))
 | agg (cs : List T)
 | tup (cs : List T)
 | eptr (cs : List T)
 | fn (f : FuncId) (first caps : List T)
 deriving Inhabited
abbrev GH := Nat → Option Obj
def Ky : Nat := 140737488355328
inductive VR (H : GH) : Value → T → Prop
 | v (x : Value) : VR H x (.v x)
 | empty (a : Option Addr) (cap sz : Nat) : VR H (.slice a 0 cap) (.list sz [])
 | list (b off cap sz : Nat) (es : List (List T)) (cs : Array Value) (ty : TypeId) (fr : Nat × Nat)
   (hb : H b = some (.cells cs ty fr)) (hcap : es.length ≤ cap) (hmax : es.length ≤ Ky) (hsz : off + es.length * sz ≤ cs.size)
   (hel : ∀ (i : Nat) (e : List T), es[i]? = some e → e.length = sz)
   (h1 : ∀ (i : Nat) (e : List T), es[i]? = some e → ∀ (j : Nat) (x : T), e[j]? = some x → (cs.getD (off + i * sz + j) undef).oneCell' = true)
   (hv : ∀ (i : Nat) (e : List T), es[i]? = some e → ∀ (j : Nat) (x : T), e[j]? = some x → VR H (cs.getD (off + i * sz + j) undef) x) :
   VR H (.slice (some ⟨b, off, none⟩) es.length cap) (.list sz es)
 | agg (vs : Array Value) (cs : List T) (hl : vs.size = cs.length)
   (h1 : ∀ (j : Nat) (x : T), cs[j]? = some x → (vs.getD j undef).oneCell' = true)
   (hv : ∀ (j : Nat) (x : T), cs[j]? = some x → VR H (vs.getD j undef) x) : VR H (.agg vs) (.agg cs)
 | tup (vs : Array Value) (cs : List T) (hl : vs.size = cs.length)
   (hv : ∀ (j : Nat) (x : T), cs[j]? = some x → VR H (vs.getD j undef) x) : VR H (.tuple vs) (.tup cs)
 | eptr (b off : Nat) (l : List T) (cs : Array Value) (ty : TypeId) (fr : Nat × Nat)
   (hb : H b = some (.cells cs ty fr)) (hsz : off + l.length ≤ cs.size)
   (h1 : ∀ (j : Nat) (x : T), l[j]? = some x → (cs.getD (off + j) undef).oneCell' = true)
   (hv : ∀ (j : Nat) (x : T), l[j]? = some x → VR H (cs.getD (off + j) undef) x) : VR H (.pointer (some ⟨b, off, none⟩)) (.eptr l)
 | fn (f : FuncId) (vf vc : Array Value) (fs cs : List T) (hf : vf.size = fs.length) (hc : vc.size = cs.length)
   (h1 : ∀ (j : Nat) (x : T), fs[j]? = some x → VR H (vf.getD j undef) x) (h2 : ∀ (j : Nat) (x : T), cs[j]? = some x → VR H (vc.getD j undef) x) :
   VR H (.func (.func f) vf vc) (.fn f fs cs)
theorem VR.monoC {H H' : GH} (G : ∀ b cs ty fr, H b = some (.cells cs ty fr) → H' b = some (.cells cs ty fr)) {v : Value} {x : T} (h : VR H v x) : VR H' v x := by
 induction h with
 | v x => exact .v x
 | empty a cap sz => exact .empty a cap sz
 | list b off cap sz es cs ty fr hb hcap hmax hsz hel h1 hv ih => exact .list b off cap sz es cs ty fr (G _ _ _ _ hb) hcap hmax hsz hel h1 ih
 | agg vs cs hl h1 hv ih => exact .agg vs cs hl h1 ih
 | tup vs cs hl hv ih => exact .tup vs cs hl ih
 | eptr b off l cs ty fr hb hsz h1 hv ih => exact .eptr b off l cs ty fr (G _ _ _ _ hb) hsz h1 ih
 | fn f vf vc fs cs hf hc h1 h2 ih1 ih2 => exact .fn f vf vc fs cs hf hc ih1 ih2
theorem VR.mono {H H' : GH} (G : ∀ b o, H b = some o → H' b = some o) {v : Value} {x : T} (h : VR H v x) : VR H' v x := h.monoC fun _ _ _ _ => G _ _
theorem VR.v_eq {H : GH} {v x : Value} (h : VR H v (.v x)) : v = x := by cases h; rfl
def Hj : Value → List Nat
 | .slice (some a) _ _ => [a.block]
 | _ => []
def T4 : Value → Nat
 | .slice (some a) _ _ => a.block
 | _ => 0
inductive Ob where
 | arr (b : Nat) (ty : TypeId) (sz cap : Nat) (es : List (List T))
 | us (v : Value) (ty : TypeId) (sz : Nat) (es : List (List T))
 | uss (v : Value) (ty tyi : TypeId) (szi : Nat) (vs : List Value) (L : List (Option (List (List T))))
 | raw (b : Nat) (o : Obj)
def D6 : List Value → List (Option (List (List T))) → List Nat
 | v :: vs, some _ :: L => Hj v ++ D6 vs L
 | _ :: vs, none :: L => D6 vs L
 | _, _ => []
def Ob.fp : Ob → List Nat
 | .arr b .. => [b]
 | .us v .. => Hj v
 | .uss v _ _ _ vs L => Hj v ++ D6 vs L
 | .raw b _ => [b]
def CR (H : GH) (v : Value) (x : T) : Prop := v.oneCell' = true ∧ VR H v x
def ArrR (H : GH) (w : World) (b : Nat) (ty : TypeId) (sz cap : Nat) (es : List (List T)) : Prop :=
 ∃ G : Array Value, w.heap[b]? = some (.cells G ty (0, 0)) ∧ G.size = cap * sz ∧ es.length ≤ cap ∧ es.length ≤ Ky ∧
   (∀ (i : Nat) (e : List T), es[i]? = some e → e.length = sz) ∧
   (∀ (i : Nat) (e : List T), es[i]? = some e → ∀ (j : Nat) (x : T), e[j]? = some x → CR H (G.getD (i * sz + j) undef) x)
def UsR (H : GH) (w : World) (v : Value) (ty : TypeId) (sz : Nat) (es : List (List T)) : Prop :=
 (v = .slice none 0 0 ∧ es = []) ∨ ∃ b c G, v = .slice (some ⟨b, 0, none⟩) es.length c ∧ es.length ≤ c ∧ c ≤ G ∧ ArrR H w b ty sz G es
def OR (H : GH) (w : World) : Ob → Prop
 | .arr b ty sz cap G => ArrR H w b ty sz cap G
 | .us v ty sz G => UsR H w v ty sz G
 | .uss v ty tyi szi vs L => vs.length = L.length ∧ UsR H w v ty 1 (vs.map fun x => [T.v x]) ∧ ∀ (i : Nat) (x : Value) (G : List (List T)), vs[i]? = some x → L[i]? = some (some G) → UsR H w x tyi szi G
 | .raw b o => w.heap[b]? = some o
theorem ArrR.monoC {H H' : GH} (hh : ∀ b cs ty fr, H b = some (.cells cs ty fr) → H' b = some (.cells cs ty fr)) {w w' : World} {b : Nat} (hw : w'.heap[b]? = w.heap[b]?) {ty : TypeId} {sz cap : Nat} {es : List (List T)} (h : ArrR H w b ty sz cap es) : ArrR H' w' b ty sz cap es := by
 obtain ⟨cs, W, Y, Z, a4, a5, G⟩ := h
 exact ⟨cs, by rw [hw]; exact W, Y, Z, a4, a5, fun i e M j x O => ⟨(G i e M j x O).1, (G i e M j x O).2.monoC hh⟩⟩
theorem UsR.monoC {H H' : GH} (Y : ∀ b cs ty fr, H b = some (.cells cs ty fr) → H' b = some (.cells cs ty fr)) {w w' : World} {v : Value} (Z : ∀ b, b ∈ Hj v → w'.heap[b]? = w.heap[b]?) {ty : TypeId} {sz : Nat} {es : List (List T)} (h : UsR H w v ty sz es) : UsR H' w' v ty sz es := by
 rcases h with h | ⟨b, c, G, rfl, M, O, W⟩
 ·exact .inl h
 ·exact .inr ⟨b, c, G, rfl, M, O, W.monoC Y (Z b (by simp [Hj]))⟩
theorem H8 : ∀ {vs : List Value} {L : List (Option (List (List T)))} {i : Nat} {v : Value} {es : List (List T)}, vs[i]? = some v → L[i]? = some (some es) → ∀ b, b ∈ Hj v → b ∈ D6 vs L
 | v' :: vs, some _ :: L, 0, v, es, h1, h2, b, hb => by simp at h1; subst h1; simp [D6, hb]
 | v' :: vs, some _ :: L, i + 1, v, es, h1, h2, b, hb => by simp [D6]; exact .inr (H8 (by simpa using h1) (by simpa using h2) b hb)
 | v' :: vs, none :: L, 0, v, es, h1, h2, b, hb => by simp at h2
 | v' :: vs, none :: L, i + 1, v, es, h1, h2, b, hb => by simp [D6]; exact H8 (by simpa using h1) (by simpa using h2) b hb
 | [], _, i, v, es, h1, h2, b, hb => by simp at h1
 | _ :: _, [], i, v, es, h1, h2, b, hb => by simp at h2
theorem OR.monoC {H H' : GH} (M : ∀ b cs ty fr, H b = some (.cells cs ty fr) → H' b = some (.cells cs ty fr)) {w w' : World} {o : Ob} (G : ∀ b, b ∈ o.fp → w'.heap[b]? = w.heap[b]?) (h : OR H w o) : OR H' w' o := by
 cases o with
 | arr b ty sz cap O => exact ArrR.monoC M (G b (by simp [Ob.fp])) h
 | us v ty sz O => exact UsR.monoC M G h
 | uss v ty tyi szi vs L =>
  obtain ⟨h0, h1, h2⟩ := h
  exact ⟨h0, h1.monoC M (fun b W => G b (by simp [Ob.fp, W])), fun i x O Z Y => (h2 i x O Z Y).monoC M (fun b W => G b (by simp [Ob.fp, H8 Z Y b W]))⟩
 | raw b o => exact (G b (by simp [Ob.fp])).trans h
theorem UsR.mono {H H' : GH} (G : ∀ b o, H b = some o → H' b = some o) {w w' : World} {v : Value} (M : ∀ b, b ∈ Hj v → w'.heap[b]? = w.heap[b]?) {ty : TypeId} {sz : Nat} {es : List (List T)} (h : UsR H w v ty sz es) : UsR H' w' v ty sz es := h.monoC (fun _ _ _ _ => G _ _) M
theorem OR.mono {H H' : GH} (G : ∀ b o, H b = some o → H' b = some o) {w w' : World} {o : Ob} (M : ∀ b, b ∈ o.fp → w'.heap[b]? = w.heap[b]?) (h : OR H w o) : OR H' w' o := h.monoC (fun _ _ _ _ => G _ _) M
abbrev Au := List (Nat × T)
def get : Au → Nat → Option T
 | [], _ => none
 | (k, x) :: l, i => bif Nat.beq k i then some x else get l i
structure St where
 slots : Au
 objs : List Ob
def St.put (σ : St) (dst : Option Tmp) (x : T) : St :=
 match dst with
 | none => σ
 | some d => ⟨(d, x) :: σ.slots, σ.objs⟩
def gl : List (Nat × List T) := []
def jZ (H : GH) : Prop := ∀ b l, (b, l) ∈ gl → VR H (.pointer (some ⟨b, 0, none⟩)) (.eptr l)
structure Ctx where
 w0 : World
 H0 : GH
 fp : List Nat
 hg : jZ H0
def Marks (m : Nat) (H : GH) (l : List Deferred) : Prop := l.Nodup ∧ ∀ d, d ∈ l → ∃ b, d = { target := .collected b, args := #[] } ∧ H b = some (.deferred (some [])) ∧ m ≤ b
theorem Marks.mono {m : Nat} {H H' : GH} {l : List Deferred} (M : ∀ b o, H b = some o → H' b = some o) (h : Marks m H l) : Marks m H' l := ⟨h.1, fun d G => let ⟨b, h1, h2, h3⟩ := h.2 d G; ⟨b, h1, M _ _ h2, h3⟩⟩
theorem Marks.nil {m : Nat} {H : GH} : Marks m H [] := ⟨List.nodup_nil, fun d h => by cases h⟩
structure Gam (n : Nat) (C : Ctx) (σ : St) (H : GH) (a : Act) (w : World) : Prop where
 defers : Marks C.w0.heap.size H a.defers
 size : a.tmps.size = n
 slots : ∀ i x, get σ.slots i = some x → VR H (a.tmps.getD i undef) x
 objs : ∀ p, p ∈ σ.objs → OR H w p
 free : ∀ p, p ∈ σ.objs → ∀ b, b ∈ p.fp → H b = none
 new : ∀ p, p ∈ σ.objs → ∀ b, b ∈ p.fp → C.w0.heap.size ≤ b ∨ b ∈ C.fp
 nodup : (σ.objs.flatMap Ob.fp).Nodup
 held : ∀ b o, H b = some o → w.heap[b]? = some o
 grow : ∀ b o, C.H0 b = some o → H b = some o
 heap : C.w0.heap.size ≤ w.heap.size
 frame : ∀ b, b < C.w0.heap.size → b ∉ C.fp → w.heap[b]? = C.w0.heap[b]? ∧ H b = C.H0 b
 env : w.os = C.w0.os ∧ w.tape = C.w0.tape ∧ w.output = C.w0.output
inductive K where
 | slice (e : Nat) | array (n e : Nat) | struct (fs : List (Nat × Nat)) | string | int (k : IntKind) | bool | map (k e : Nat) | other
 deriving DecidableEq, Repr
structure TI where
 kind : K
 size : Nat
 bytes : Nat
 zero : Option Value
def TI.isAgg (i : TI) : Bool :=
 match i.kind with
 | .array .. | .struct .. => true
 | _ => false
def K0 : TypeDesc → K
 | .slice e => .slice e
 | .array n e => .array n e
 | .struct fs => .struct (fs.toList.map fun f => (f.offset, f.type))
 | .string => .string
 | .int k => .int k
 | .bool => .bool
 | .map k e => .map k e
 | _ => .other
def Je (P : Program) (t : TypeId) : Option TI :=
 match P.info? t, P.underlying t with
 | some i, some d => some { kind := K0 d, size := i.size, bytes := i.bytes, zero := i.zero }
 | _, _ => none
structure Env where
 P : Program
 tab : Nat → Option TI
 ok : ∀ t i, tab t = some i → Je P t = some i
 mixed : P.follows .mixedOrders = true
theorem H9 {P : Program} {t : TypeId} {i : TI} (h : Je P t = some i) :
  ∃ G d, P.info? t = some G ∧ P.underlying t = some d ∧ K0 d = i.kind ∧ G.size = i.size ∧ G.bytes = i.bytes ∧ G.zero = i.zero := by
 unfold Je at h
 split at h
 ·rename_i G d M O
  simp only [Option.some.injEq] at h
  subst h
  exact ⟨G, d, M, O, rfl, rfl, rfl, rfl⟩
 ·simp at h
section types
variable {P : Program} {t : TypeId} {i : TI} (h : Je P t = some i) (w : World)
include h
theorem Ch : (sizeOf t).run P w = .ok i.size w := by
 obtain ⟨O, d, G, W, Y, M, Z, h6⟩ := H9 h
 simp [sizeOf, typeInfo, G, M]
theorem Jb : ∃ inf, (typeInfo t).run P w = .ok inf w ∧ inf.size = i.size ∧ inf.bytes = i.bytes ∧ inf.zero = i.zero ∧ P.info? t = some inf := by
 obtain ⟨inf, d, G, Y, Z, M, O, W⟩ := H9 h
 exact ⟨inf, by simp [typeInfo, G], M, O, W, G⟩
theorem F5 {z : Value} (O : i.zero = some z) : (zeroValue t).run P w = .ok z w := by
 obtain ⟨W, d, M, Y, Z, h4, h5, G⟩ := H9 h
 rw [O] at G
 simp [zeroValue, typeInfo, M, G]
theorem Fr : (isAgg t).run P w = .ok i.isAgg w := by
 obtain ⟨O, d, W, G, M, Y, Z, h6⟩ := H9 h
 unfold TI.isAgg
 rw [← M]
 cases d <;> simp [isAgg, underlying, G, K0]
theorem Fw : ∃ d, P.underlying t = some d ∧ K0 d = i.kind := by
 obtain ⟨O, d, W, G, M, Y, Z, h6⟩ := H9 h
 exact ⟨d, G, M⟩
end types
theorem Ep {P : Program} {t : TypeId} {i : TI} (h : Je P t = some i) {e : Nat} (O : i.kind = .slice e) : P.underlying t = some (.slice e) := by
 obtain ⟨d, M, G⟩ := Fw h
 rw [O] at G
 cases d <;> simp [K0] at G
 subst G; exact M
theorem G8 {P : Program} {t : TypeId} {i : TI} (h : Je P t = some i) {fs : List (Nat × Nat)} (W : i.kind = .struct fs) :
  ∃ M : Array Field, P.underlying t = some (.struct M) ∧ M.toList.map (fun f => (f.offset, f.type)) = fs := by
 obtain ⟨d, O, G⟩ := Fw h
 rw [W] at G
 cases d <;> simp [K0] at G
 exact ⟨_, O, G⟩
def AW (E : Env) (n : Nat) (C : Ctx) (c : Code) (σ : St) (Q : Exit → St → Prop) : Prop :=
 ∀ H a w, Gam n C σ H a w → cw c E.P (fun e G M => ∃ σ' H', Q e σ' ∧ Gam n C σ' H' G M) a w
def Z2 (P : Program) (G : Array Oper) (Q : Exit → Act → World → Prop) : List Oper → Act → World → Prop
 | [], a, w => Q .normal a w
 | o :: r, a, w =>
  if Region.wanted o (yielded G a.tmps) then o.wpIn Fence.wide 0 P a w (Z2 P G Q r) Q else Z2 P G Q r (a.put o.dst undef) w
def AO (E : Env) (n : Nat) (C : Ctx) (G : Array Oper) (l : List Oper) (σ : St) (R : St → Prop) : Prop :=
 ∀ H a w, Gam n C σ H a w → Z2 E.P G (fun e M O => e = .normal ∧ ∃ σ' H', R σ' ∧ Gam n C σ' H' M O) l a w
def AX (E : Env) (n : Nat) (C : Ctx) (md : List Nat) (o : Oper) (σ : St) (R : St → Prop) : Prop :=
 ∀ H a w, Gam n C σ H a w → o.wp E.P a w (fun G M => ∃ σ' H' v, R σ' ∧ Gam n C σ' H' G M ∧ G = a.put o.dst v ∧ (∀ b o, H b = some o → H' b = some o) ∧
  ∀ i p, σ.objs[i]? = some p → md.contains i = false → σ'.objs[i]? = some p ∧ ∀ b, b ∈ p.fp → M.heap[b]? = w.heap[b]?) (fun _ _ _ => False)
theorem Dh {P : Program} {o : Oper} {a : Act} {w : World} {K K' : Act → World → Prop} {Q Q' : Exit → Act → World → Prop}
  (h : ∀ a w, K a w → K' a w) (O : ∀ e a w, Q e a w → Q' e a w) (M : o.wp P a w K Q) : o.wp P a w K' Q' := by
 unfold Oper.wp at *
 generalize (execOp a.eval o).run P w = r at *
 cases r with
 | ok n w' =>
  cases n <;> simp only [Oper.upon] at M ⊢ <;>
   first
    | exact h _ _ M
    | exact Calls.mono M (fun e W G => by
      cases e with
      | returned v => exact h _ _ G
      | panicked c => exact O _ _ _ G
      | outgrown => obtain ⟨a, w, G⟩ := G; exact ⟨a, w, O _ _ _ G⟩)
    | exact Rows.mono M (fun _ _ G => h _ _ G)
 | halt x w' => cases x <;> simp only [Oper.upon] at M ⊢ <;> exact O _ _ _ M
theorem oU {P : Program} {G : Array Oper} {Q : Exit → Act → World → Prop} {ro : Option Nat} : ∀ (l : List Oper) (k : Nat) (a : Act) (w : World),
  (∀ j, j < l.length → G[k + j]? = l[j]?) → (ro.isSome = true → l.all (fun o => Nj o.op) = true) → Z2 P G Q l a w → wpOpsIn (Fc ro) 0 P G Q (List.range' k l.length) a w := by
 intro l
 induction l with
 | nil => intro k a w _ _ h; exact h
 | cons o r ih =>
  intro k a w Y Z h
  have h0 : G[k]? = some o := by simpa using Y 0 (by simp)
  have hr : ∀ j, j < r.length → G[k + 1 + j]? = r[j]? := fun j hj => by
   have := Y (j + 1) (by simp; omega)
   rw [show k + 1 + j = k + (j + 1) by omega, this]; simp
  simp only [List.length_cons, List.range'_succ]
  simp only [wpOpsIn, h0]
  simp only [Z2] at h
  have M : ro.isSome = true → r.all (fun o => Nj o.op) = true := fun hs => by
   have := Z hs; simp only [List.all_cons, Bool.and_eq_true] at this; exact this.2
  split
  ·rename_i W
   simp only [W, if_true] at h
   have O := Jc (fun a' w' O => ih (k + 1) a' w' hr M O) (fun _ _ _ h => h) h
   cases ro with
   | none => exact O
   | some q =>
    have := Z rfl
    simp only [List.all_cons, Bool.and_eq_true] at this
    exact eI this.1 O
  ·rename_i W
   simp only [W] at h
   exact ⟨fun f _ => On ro f, ih (k + 1) _ _ hr M h⟩
theorem T0 {P : Program} {id : Nat} {G : Array Oper} {Q : Exit → Act → World → Prop} {a : Act} {w : World}
  (h : Z2 P G Q G.toList a w) : cw (Code.region id G false) P Q a w := by
 intro ro M
 refine wpIn_region ?_
 have := oU (ro := ro) G.toList 0 a w (fun j _ => by simp) (fun O => M O) h
 simpa [List.range_eq_range'] using this
theorem Sb {P : Program} {G : Array Oper} {Q Q' : Exit → Act → World → Prop} (M : ∀ e a w, Q e a w → Q' e a w) :
  ∀ (l : List Oper) (a : Act) (w : World), Z2 P G Q l a w → Z2 P G Q' l a w
 | [], a, w, h => M _ _ _ h
 | o :: r, a, w, h => by
  simp only [Z2] at *
  split
  ·rename_i O
   simp only [O, if_true] at h
   exact Jc (fun W Z Y => Sb M r W Z Y) M h
  ·rename_i O
   simp only [O] at h
   exact Sb M r _ _ h
section rules
variable {E : Env} {n : Nat} {C : Ctx} {σ : St} {Q : Exit → St → Prop}
theorem AW.mono {c : Code} {Q' : Exit → St → Prop} (h : AW E n C c σ Q) (M : ∀ e σ, Q e σ → Q' e σ) : AW E n C c σ Q' :=
 fun H a w g => Iv (h H a w g) fun e O W ⟨σ', H', q, G⟩ => ⟨σ', H', M e σ' q, G⟩
theorem AW.skip (h : Q .normal σ) : AW E n C .skip σ Q := fun H _ _ g => pR ⟨σ, H, h, g⟩
def uA := @AW.skip
theorem AW.label {l : Nat} (h : Q .normal σ) : AW E n C (.label l) σ Q := fun H _ _ g => mN ⟨σ, H, h, g⟩
theorem AW.exit {id : Nat} (h : Q (.exit id) σ) : AW E n C (.exit id) σ Q := fun H _ _ g => pT ⟨σ, H, h, g⟩
def uG := @AW.exit
theorem AW.ret (h : Q .ret σ) : AW E n C .ret σ Q := fun H _ _ g => sM ⟨σ, H, h, g⟩
def uE := @AW.ret
def Kz (next : St → Prop) (Q : Exit → St → Prop) : Exit → St → Prop
 | .normal, σ => next σ
 | e, σ => Q e σ
theorem AW.seq {x y : Code} (h : AW E n C x σ (Kz (fun σ' => AW E n C y σ' Q) Q)) : AW E n C (.seq x y) σ Q :=
 fun H a w g => sL (Iv (h H a w g) fun e M O ⟨σ', H', q, G⟩ => by
  cases e with
  | normal => exact q H' M O G
  | _ => exact ⟨σ', H', q, G⟩)
def uD := @AW.seq
theorem lJ {x y : Code} (M : St → Prop) (h : AW E n C x σ (Kz M Q)) (k : ∀ σ', M σ' → AW E n C y σ' Q) : AW E n C (.seq x y) σ Q :=
 AW.seq (AW.mono h fun e σ' q => by
  cases e with
  | normal => exact k σ' q
  | _ => exact q)
def Xr (id : Nat) (Q : Exit → St → Prop) : Exit → St → Prop
 | .exit id', σ => bif Nat.beq id' id then Q .normal σ else Q (.exit id') σ
 | e, σ => Q e σ
theorem AW.block {id : Nat} {c : Code} (h : AW E n C c σ (Xr id Q)) : AW E n C (.block id c) σ Q :=
 fun H a w g => mO (Iv (h H a w g) fun e W Y ⟨σ', H', q, M⟩ => by
  cases e with
  | exit id' =>
   by_cases G : id' = id
   ·subst G
    simp only [Xr, Nat.beq_refl, cond_true] at q
    simp only [Exit.inBlock, if_true]
    exact ⟨σ', H', q, M⟩
   ·have O : Nat.beq id' id = false := by
     cases O : Nat.beq id' id with
     | false => rfl
     | true => exact absurd (nq O) G
    simp only [Xr, O, cond_false] at q
    simp only [Exit.inBlock, G, if_false]
    exact ⟨σ', H', q, M⟩
  | _ => exact ⟨σ', H', q, M⟩)
def uB := @AW.block
theorem AW.loop {c : Code} (I : Nat → St → Prop) {m : Nat} (h₀ : I m σ)
  (G : ∀ m σ, I m σ → AW E n C c σ (Kz (fun σ' => ∃ m', m' < m ∧ I m' σ') Q)) : AW E n C (.loop c) σ Q := by
 intro H a w g
 have W : ∀ (p : Nat → Prop), (∃ m, p m) → ∃ m, p m ∧ ∀ k, k < m → ¬ p k := by
  intro p ⟨m, hm⟩
  induction m using Nat.strongRecOn with
  | _ m ih =>
   by_cases Z : ∃ k, k < m ∧ p k
   ·obtain ⟨k, Z, hp⟩ := Z; exact ih k Z hp
   ·exact ⟨m, hm, fun k hkm hp => Z ⟨k, hkm, hp⟩⟩
 let J : Act → World → Nat → Prop := fun a w m => ∃ σ H, I m σ ∧ Gam n C σ H a w
 have Y : ∀ a w, ∃ m, (∃ k, J a w k) → J a w m ∧ ∀ k, k < m → ¬ J a w k := by
  intro a w
  by_cases h : ∃ k, J a w k
  ·obtain ⟨m, h1, h2⟩ := W _ h; exact ⟨m, fun _ => ⟨h1, h2⟩⟩
  ·exact ⟨0, fun h' => absurd h' h⟩
 let μ : Act → World → Nat := fun a w => Classical.choose (Y a w)
 have hμ : ∀ a w, (∃ k, J a w k) → J a w (μ a w) ∧ ∀ k, k < μ a w → ¬ J a w k := fun a w => Classical.choose_spec (Y a w)
 refine pS (fun a w => ∃ k, J a w k) μ ⟨m, σ, H, h₀, g⟩ ?_
 intro a w hJ
 obtain ⟨⟨σ₁, H₁, hI, g₁⟩, _⟩ := hμ a w hJ
 refine Iv (G _ σ₁ hI H₁ a w g₁) ?_
 rintro e a' w' ⟨σ', H', q, g'⟩
 cases e with
 | normal =>
  obtain ⟨m', hm', M⟩ := q
  have O : ∃ k, J a' w' k := ⟨m', σ', H', M, g'⟩
  refine ⟨O, ?_⟩
  have h2 := (hμ a' w' O).2
  have hJm : J a' w' m' := ⟨σ', H', M, g'⟩
  exact Nat.lt_of_le_of_lt (Nat.le_of_not_lt fun hlt => h2 m' hlt hJm) hm'
 | _ => exact ⟨σ', H', q, g'⟩
theorem AO.nil {G : Array Oper} {R : St → Prop} (h : R σ) : AO E n C G [] σ R := fun H _ _ g => ⟨rfl, σ, H, h, g⟩
def tY := @AO.nil
theorem AO.act {G : Array Oper} {o : Oper} {l : List Oper} {R : St → Prop} (md : List Nat) (hg : o.guard = none)
  (h : AX E n C md o σ (fun σ' => AO E n C G l σ' R)) : AO E n C G (o :: l) σ R := by
 intro H a w g
 simp only [Z2]
 rw [if_pos (by simp [Region.wanted, hg])]
 exact Uf (Dh (fun M W ⟨σ', H', v, r, O, _⟩ => r H' M W O) (fun _ _ _ h => h.elim) (h H a w g))
def tZ := @AO.act
theorem Gam.put {H : GH} {a : Act} {w : World} (g : Gam n C σ H a w) {dst : Option Tmp} {v : Value} {x : T} (hv : VR H v x)
  (Y : ∀ d, dst = some d → d < n) : Gam n C (σ.put dst x) H (a.put dst v) w := by
 cases dst with
 | none => exact g
 | some d =>
  have O := Y d rfl
  refine { g with defers := g.defers, size := by simp [Act.put, g.size], slots := ?_ }
  intro i y G
  simp only [St.put, get] at G
  simp only [Act.put]
  by_cases W : d = i
  ·subst W
   simp only [Nat.beq_refl, cond_true, Option.some.injEq] at G
   subst G
   have : d < a.tmps.size := by rw [g.size]; exact O
   simpa [Array.getD, this] using hv
  ·have M : Nat.beq d i = false := by
    cases M : Nat.beq d i with
    | false => rfl
    | true => exact absurd (nq M) W
   simp only [M, cond_false] at G
   have := g.slots i y G
   have Z : (a.tmps.setIfInBounds d v).getD i undef = a.tmps.getD i undef := by
    simp [Array.getD_eq_getD_getElem?, Array.getElem?_setIfInBounds_ne W]
   rw [Z]; exact this
theorem AW.region {id : Nat} {G : Array Oper} (h : AO E n C G G.toList σ (fun σ' => Q .normal σ')) : AW E n C (.region id G false) σ Q :=
 fun H a w g => T0 (Sb (fun _ _ _ ⟨O, σ', H', r, M⟩ => ⟨σ', H', by subst O; exact r, M⟩) _ _ _ (h H a w g))
def tX := @AW.region
theorem AW.cond {c : Operand} {x y : Code} {t : Nat} {b : Bool} (hc : c = .tmp t) (M : get σ.slots t = some (.v (.bool b)))
  (h1 : b = true → AW E n C x σ Q) (h2 : b = false → AW E n C y σ Q) : AW E n C (.cond c x y) σ Q := by
 intro H a w g
 subst hc
 have O : a.eval (.tmp t) = .bool b := (g.slots t _ M).v_eq
 exact T1 O (fun G => h1 G H a w g) (fun G => h2 G H a w g)
def Sub : Au → Au → Prop
 | [], _ => True
 | (i, x) :: l, s => get s i = some x ∧ Sub l s
theorem Sub.get : ∀ {l s : Au}, Sub l s → ∀ i x, Aw.get l i = some x → Aw.get s i = some x
 | [], _, _, i, x, h => by simp [Aw.get] at h
 | (k, y) :: l, s, hs, i, x, h => by
  obtain ⟨G, M⟩ := hs
  simp only [Aw.get] at h
  cases hb : Nat.beq k i with
  | true =>
   have := nq hb
   subst this
   simp only [hb, cond_true, Option.some.injEq] at h
   subst h; exact G
  | false =>
   simp only [hb, cond_false] at h
   exact Sub.get M i x h
theorem Di {α β : Type} {f : α → List β} : ∀ {l m : List α}, l.Sublist m → (l.flatMap f).Sublist (m.flatMap f)
 | _, _, .slnil => .slnil
 | _, _, .cons a h => by simp only [List.flatMap_cons]; exact (Di h).trans (List.sublist_append_right _ _)
 | _, _, .cons_cons a h => by simp only [List.flatMap_cons]; exact (List.Sublist.refl _).append (Di h)
theorem Gam.weaken {H : GH} {a : Act} {w : World} (g : Gam n C σ H a w) {s : Au} {ob : List Ob} (O : Sub s σ.slots) (M : ob.Sublist σ.objs) :
  Gam n C ⟨s, ob⟩ H a w :=
 { g with
  slots := fun i x h => g.slots i x (O.get i x h)
  objs := fun p G => g.objs p (M.subset G)
  free := fun p G => g.free p (M.subset G)
  new := fun p G => g.new p (M.subset G)
  nodup := (Di M).nodup g.nodup }
end rules
def A7 (s : Au) : Operand → Option T
 | .tmp t => get s t
 | .const v => some (.v v)
 | .global g => some (.v (.pointer (some ⟨g, 0, none⟩)))
 | .func f => some (.v (.func (.func f) #[] #[]))
structure SR (n : Nat) (s : Au) (H : GH) (a : Act) : Prop where
 size : a.tmps.size = n
 slots : ∀ i x, get s i = some x → VR H (a.tmps.getD i undef) x
theorem SR.eval {n : Nat} {s : Au} {H : GH} {a : Act} (g : SR n s H a) {x : Operand} {y : T} (h : A7 s x = some y) : VR H (a.eval x) y := by
 cases x with
 | tmp t => exact g.slots t y h
 | const v => simp only [A7, Option.some.injEq] at h; subst h; exact .v v
 | global g => simp only [A7, Option.some.injEq] at h; subst h; exact .v _
 | func f => simp only [A7, Option.some.injEq] at h; subst h; exact .v _
theorem SR.evalv {n : Nat} {s : Au} {H : GH} {a : Act} (g : SR n s H a) {x : Operand} {y : Value} (h : A7 s x = some (.v y)) : a.eval x = y := (g.eval h).v_eq
def Yp (P : Program) (n : Nat) (s : Au) (o : Oper) (x : T) : Prop :=
 ∀ H a, SR n s H a → ∃ v, VR H v x ∧ ∀ w, (execOp a.eval o).run P w = .ok (.value v) w
def Jg (H : GH) (objs : List Ob) (w w' : World) : Prop :=
 (∀ b o, H b = some o → w'.heap[b]? = some o) ∧ ∀ p, p ∈ objs → ∀ b, b ∈ p.fp → w'.heap[b]? = w.heap[b]?
structure WR (objs : List Ob) (H : GH) (w : World) : Prop where
 objs : ∀ p, p ∈ objs → OR H w p
 held : ∀ b o, H b = some o → w.heap[b]? = some o
def Yd (P : Program) (n : Nat) (s : Au) (objs : List Ob) (o : Oper) (x : T) : Prop :=
 ∀ H a w, SR n s H a → WR objs H w → ∃ v, VR H v x ∧ ∀ G, Jg H objs w G → (execOp a.eval o).run P G = .ok (.value v) G
theorem Yp.yd {P : Program} {n : Nat} {s : Au} {objs : List Ob} {o : Oper} {x : T} (h : Yp P n s o x) : Yd P n s objs o x :=
 fun H a _ g _ => let ⟨v, hv, hr⟩ := h H a g; ⟨v, hv, fun G _ => hr G⟩
def uS := @Yp.yd
def Er (G : TI) (cs : List T) (off : Nat) : Option T :=
 bif G.isAgg then
  (bif Nat.beq off 0 && Nat.beq G.size cs.length then some (.agg cs)
   else bif Nat.ble (off + G.size) cs.length then some (.agg ((cs.drop off).take G.size)) else none)
 else cs[off]?
theorem Du (b off n : Nat) : Addr.add ⟨b, off, none⟩ n = ⟨b, off + n, none⟩ := by
 unfold Addr.add
 split
 ·rename_i h; subst h; rfl
 ·rfl
section
variable {E : Env} {n : Nat} {s : Au} {dst : Option Tmp} {ty : TypeId} {pos : String} {aft : Array Edge} {g : Option (Nat × Bool)}
theorem Yp.move {x : Operand} {y : T} (h : A7 s x = some y) : Yp E.P n s ⟨dst, .move x, ty, pos, aft, g⟩ y :=
 fun H a r => ⟨a.eval x, r.eval h, fun w => by simp [execOp]⟩
theorem Yp.assign {x : Operand} {y : T} (h : A7 s x = some y) : Yp E.P n s ⟨dst, .assign x, ty, pos, aft, g⟩ y :=
 fun H a r => ⟨a.eval x, r.eval h, fun w => by simp [execOp]⟩
theorem mV {c x y : Operand} {z : T} (hc : A7 s c = some (.v (.bool true))) (h : A7 s x = some z) : Yp E.P n s ⟨dst, .pick c x y, ty, pos, aft, g⟩ z :=
 fun H a r => ⟨a.eval x, r.eval h, fun w => by simp [execOp, r.evalv hc, asBool]⟩
theorem mW {c x y : Operand} {z : T} (hc : A7 s c = some (.v (.bool false))) (h : A7 s y = some z) : Yp E.P n s ⟨dst, .pick c x y, ty, pos, aft, g⟩ z :=
 fun H a r => ⟨a.eval y, r.eval h, fun w => by simp [execOp, r.evalv hc, asBool]⟩
theorem Ga {G : BinOp} {t W : TypeId} {x y : Operand} {k : IntKind} {a b c : Int} (M : A7 s x = some (.v (.int k a))) (O : A7 s y = some (.v (.int k b)))
  (hc : match G with | .add => k.wrap (a + b) = c | .sub => k.wrap (a - b) = c | .mul => k.wrap (a * b) = c | .quo => b ≠ 0 ∧ k.wrap (a.tdiv b) = c | .rem => b ≠ 0 ∧ a.tmod b = c | _ => False) :
  Yp E.P n s ⟨dst, .binOp G t x y W, ty, pos, aft, g⟩ (.v (.int k c)) := by
 refine fun H A r => ⟨_, .v _, fun w => ?_⟩
 cases G <;> simp only at hc <;> simp [execOp, r.evalv M, r.evalv O, eqGuard, binOp, Op.intArith, Op.intDiv, hc]
def cmpI : BinOp → Int → Int → Option Bool
 | .eql, a, b => some (a == b)
 | .neq, a, b => some (a != b)
 | .lss, a, b => some (decide (a < b))
 | .leq, a, b => some (decide (a ≤ b))
 | .gtr, a, b => some (decide (a > b))
 | .geq, a, b => some (decide (a ≥ b))
 | _, _, _ => none
theorem Yp.cmpI {G : BinOp} {t W : TypeId} {x y : Operand} {k : IntKind} {a b : Int} {c : Bool} (M : A7 s x = some (.v (.int k a))) (O : A7 s y = some (.v (.int k b)))
  (hc : Aw.cmpI G a b = some c) : Yp E.P n s ⟨dst, .binOp G t x y W, ty, pos, aft, g⟩ (.v (.bool c)) := by
 refine fun H A r => ⟨_, .v _, fun w => ?_⟩
 cases G <;> simp only [Aw.cmpI, Option.some.injEq, reduceCtorEq] at hc <;> subst hc <;> simp [execOp, r.evalv M, r.evalv O, eqGuard, binOp, Op.intCmp]
def uT := @Yp.cmpI
theorem aL {t t' : TypeId} {x y : Operand} {p q : Bool} {tb : TI} (W : E.tab t = some tb) (O : tb.kind = .bool)
  (Y : A7 s x = some (.v (.bool p))) (Z : A7 s y = some (.v (.bool q))) :
  Yp E.P n s ⟨dst, .binOp .eql t x y t', ty, pos, aft, g⟩ (.v (.bool (p == q))) := by
 refine fun H A r => ⟨_, .v _, fun w => ?_⟩
 obtain ⟨d, M, G⟩ := Fw (E.ok _ _ W)
 rw [O] at G
 cases d <;> simp [K0] at G
 simp [execOp, r.evalv Y, r.evalv Z, eqGuard, run_eql_bool w t p q M]
theorem Xp {t t' : TypeId} {x y : Operand} {p q : Bool} {tb : TI} (Z : E.tab t = some tb) (Y : tb.kind = .bool)
  (hx : A7 s x = some (.v (.bool p))) (hy : A7 s y = some (.v (.bool q))) :
  Yp E.P n s ⟨dst, .binOp .neq t x y t', ty, pos, aft, g⟩ (.v (.bool (p != q))) := by
 refine fun H A r => ⟨_, .v _, fun w => ?_⟩
 obtain ⟨d, M, G⟩ := Fw (E.ok _ _ Z)
 rw [Y] at G
 cases d <;> simp [K0] at G
 have O := run_neq_bool w t p q M
 have W : (!(p == q)) = (p != q) := rfl
 simp only [execOp, r.evalv hx, r.evalv hy, eqGuard]
 simp [O, W]
def cmpS : BinOp → ByteArray → ByteArray → Option Bool
 | .eql, a, b => some (a.toList == b.toList)
 | .neq, a, b => some (!(a.toList == b.toList))
 | .lss, a, b => some (Op.bytesLess a.toList b.toList)
 | .gtr, a, b => some (!(Op.bytesLess a.toList b.toList || a.toList == b.toList))
 | .leq, a, b => some (Op.bytesLess a.toList b.toList || a.toList == b.toList)
 | .geq, a, b => some (!Op.bytesLess a.toList b.toList)
 | _, _, _ => none
theorem Yp.cmpS {G : BinOp} {t W : TypeId} {x y : Operand} {a b : ByteArray} {c : Bool} (M : A7 s x = some (.v (.string a))) (O : A7 s y = some (.v (.string b)))
  (hc : Aw.cmpS G a b = some c) : Yp E.P n s ⟨dst, .binOp G t x y W, ty, pos, aft, g⟩ (.v (.bool c)) := by
 refine fun H A r => ⟨_, .v _, fun w => ?_⟩
 cases G <;> simp only [Aw.cmpS, Option.some.injEq, reduceCtorEq] at hc <;> subst hc <;> simp [execOp, r.evalv M, r.evalv O, eqGuard, binOp, Op.stringOp]
theorem qB {t O : TypeId} {x y : Operand} {a b : ByteArray} (G : A7 s x = some (.v (.string a))) (M : A7 s y = some (.v (.string b)))
  (hc : a.size + b.size < 9223372036854775807) : Yp E.P n s ⟨dst, .binOp .add t x y O, ty, pos, aft, g⟩ (.v (.string (a ++ b))) := by
 refine fun H A r => ⟨_, .v _, fun w => ?_⟩
 have : ¬ (((a.size + b.size : Nat) : Int) > IntKind.i64.max) := by
  have : IntKind.i64.max = 9223372036854775807 := by decide
  rw [this]; omega
 simp only [execOp, r.evalv G, r.evalv M, eqGuard, binOp, Op.stringOp, if_neg this]
 simp
theorem Yp.not {t : TypeId} {x : Operand} {b : Bool} (G : A7 s x = some (.v (.bool b))) : Yp E.P n s ⟨dst, .unOp .not t x, ty, pos, aft, g⟩ (.v (.bool (!b))) :=
 fun H A r => ⟨_, .v _, fun w => by simp [execOp, r.evalv G, Op.unary]⟩
theorem Yp.neg {t : TypeId} {x : Operand} {k : IntKind} {a c : Int} (G : A7 s x = some (.v (.int k a))) (hc : k.wrap (0 - a) = c) :
  Yp E.P n s ⟨dst, .unOp .neg t x, ty, pos, aft, g⟩ (.v (.int k c)) :=
 fun H A r => ⟨_, .v _, fun w => by subst hc; simp [execOp, r.evalv G, Op.unary, Op.intArith]⟩
theorem Yp.extract {x : Operand} {i : Nat} {l : List T} {y : T} (O : A7 s x = some (.tup l)) (hi : l[i]? = some y) : Yp E.P n s ⟨dst, .extract x i, ty, pos, aft, g⟩ y := by
 intro H A r
 have h := r.eval O
 generalize M : A.eval x = v at h
 cases h with
 | tup vs cs hl hvs =>
  refine ⟨vs.getD i undef, hvs i y hi, fun w => ?_⟩
  have G : i < vs.size := by
   rw [hl]; exact (gs hi).1
  simp [execOp, M, Instr.extract, Array.getElem?_eq_getElem G, Array.getD, G]
theorem mY {t Z : TypeId} {x : Operand} {k Y : IntKind} {a c : Int} {ti G : TI} (ht : E.tab t = some ti) (W : E.tab Z = some G) (O : G.kind = .int Y)
  (hx : A7 s x = some (.v (.int k a))) (hc : Y.wrap a = c) : Yp E.P n s ⟨dst, .convert t Z x, ty, pos, aft, g⟩ (.v (.int Y c)) := by
 refine fun H A r => ⟨_, .v _, fun w => ?_⟩
 obtain ⟨d, h1, M⟩ := Fw (E.ok _ _ W)
 obtain ⟨d0, h3, h4⟩ := Fw (E.ok _ _ ht)
 rw [O] at M
 cases d <;> simp [K0] at M
 subst M
 subst hc
 cases d0 <;> simp [execOp, r.evalv hx, convert, run_underlying h1, run_underlying h3, Conv.intToInt]
theorem VR.part {H : GH} {vs : Array Value} {cs : List T} (h : VR H (.agg vs) (.agg cs)) {off size : Nat} (Z : off + size ≤ cs.length) :
  VR H (.agg (vs.extract off (off + size))) (.agg ((cs.drop off).take size)) := by
 cases h with
 | agg vs cs hl h1 hv =>
  have M : ∀ j x, ((cs.drop off).take size)[j]? = some x → cs[off + j]? = some x ∧ (vs.extract off (off + size)).getD j undef = vs.getD (off + j) undef := by
   intro j x G
   have Y : j < size := by
    have := (gs G).1
    simp at this; omega
   rw [List.getElem?_take_of_lt Y, List.getElem?_drop] at G
   refine ⟨G, ?_⟩
   simp [Array.getD_eq_getD_getElem?, Array.getElem?_extract]
   rw [if_pos (by omega)]
  exact .agg _ _ (by simp; omega) (fun j x G => by obtain ⟨O, W⟩ := M j x G; rw [W]; exact h1 _ _ O)
   (fun j x G => by obtain ⟨O, W⟩ := M j x G; rw [W]; exact hv _ _ O)
theorem L3 {P : Program} {H : GH} {vs : Array Value} {cs : List T} (h : VR H (.agg vs) (.agg cs)) {t : TypeId} {M : TI} (ht : Je P t = some M) {off : Nat} {y : T}
  (G : Er M cs off = some y) : ∃ v, VR H v y ∧ ∀ w, (part t vs off).run P w = .ok v w := by
 unfold Er at G
 cases ha : M.isAgg with
 | true =>
  simp only [ha, cond_true] at G
  have Y : ∀ w, (part t vs off).run P w = .ok (.agg (vs.extract off (off + M.size))) w := fun w => by
   simp [part, Fr ht, ha, Ch ht]
  refine ⟨_, ?_, Y⟩
  cases hb : (Nat.beq off 0 && Nat.beq M.size cs.length) with
  | true =>
   simp only [hb, cond_true, Option.some.injEq] at G
   subst G
   simp only [Bool.and_eq_true] at hb
   obtain ⟨Z, O⟩ := hb
   have Z := nq Z
   have O := nq O
   subst Z
   have := h.part (off := 0) (size := M.size) (by omega)
   simpa [O] using this
  | false =>
   simp only [hb, cond_false] at G
   cases hc : Nat.ble (off + M.size) cs.length with
   | false => simp [hc] at G
   | true =>
    simp only [hc, cond_true, Option.some.injEq] at G
    subst G
    exact h.part (Nat.le_of_ble_eq_true hc)
 | false =>
  simp only [ha, cond_false] at G
  cases h with
  | agg vs cs hl h1 hv =>
   refine ⟨_, hv _ _ G, fun w => ?_⟩
   have W : off < vs.size := by rw [hl]; exact (gs G).1
   simp [part, Fr ht, ha, Array.getElem?_eq_getElem W, Array.getD, W]
theorem Yp.field {t : TypeId} {x : Operand} {f : Nat} {cs : List T} {ti fi : TI} {fs : List (Nat × Nat)} {off ft : Nat} {y : T}
  (ht : E.tab t = some ti) (hk : ti.kind = .struct fs) (hf : fs[f]? = some (off, ft)) (O : E.tab ft = some fi)
  (hx : A7 s x = some (.agg cs)) (hp : Er fi cs off = some y) : Yp E.P n s ⟨dst, .field t x f, ty, pos, aft, g⟩ y := by
 intro H A r
 obtain ⟨ff, h1, h2⟩ := G8 (E.ok _ _ ht) hk
 have h := r.eval hx
 generalize hv : A.eval x = v at h
 have M : ∃ G, ff[f]? = some G ∧ G.offset = off ∧ G.type = ft := by
  rw [← h2] at hf
  simp only [List.getElem?_map, Option.map_eq_some_iff] at hf
  obtain ⟨G, Z, q2⟩ := hf
  refine ⟨G, by simpa using Z, ?_, ?_⟩ <;> simp_all
 obtain ⟨G, Z, rfl, rfl⟩ := M
 cases h with
 | agg vs cs hl hc hvs =>
  obtain ⟨v, W, Y⟩ := L3 (VR.agg vs cs hl hc hvs) (E.ok _ _ O) hp
  exact ⟨v, W, fun w => by simp [execOp, hv, Instr.field, run_underlying h1, Z, asAgg, Y]⟩
theorem D7 {t : TypeId} {x : Operand} {f : Nat} {b o : Nat} {ti M : TI} {fs : List (Nat × Nat)} {off ft : Nat}
  (ht : E.tab t = some ti) (hk : ti.kind = .struct fs) (hf : fs[f]? = some (off, ft)) (W : E.tab ft = some M) (hz : Nat.beq M.size 0 = false)
  (hx : A7 s x = some (.v (.pointer (some ⟨b, o, none⟩)))) : Yp E.P n s ⟨dst, .fieldAddr t x f, ty, pos, aft, g⟩ (.v (.pointer (some ⟨b, o + off, none⟩))) := by
 intro H A r
 obtain ⟨ff, h1, h2⟩ := G8 (E.ok _ _ ht) hk
 have O : ∃ G, ff[f]? = some G ∧ G.offset = off ∧ G.type = ft := by
  rw [← h2] at hf
  simp only [List.getElem?_map, Option.map_eq_some_iff] at hf
  obtain ⟨G, Z, q2⟩ := hf
  refine ⟨G, by simpa using Z, ?_, ?_⟩ <;> simp_all
 obtain ⟨G, Z, rfl, rfl⟩ := O
 have Y : ¬ M.size = 0 := by intro h; rw [h] at hz; simp at hz
 exact ⟨_, .v _, fun w => by
  simp [execOp, r.evalv hx, Instr.fieldAt, run_underlying h1, Z, Instr.sureAddr, fieldPlace, Ch (E.ok _ _ W), Y, Du]⟩
theorem VR.eptr_drop {H : GH} {b o : Nat} {l : List T} (h : VR H (.pointer (some ⟨b, o, none⟩)) (.eptr l)) {off : Nat} (M : off ≤ l.length) :
  VR H (.pointer (some ⟨b, o + off, none⟩)) (.eptr (l.drop off)) := by
 cases h with
 | eptr b off' l cs ty fr hb hsz h1 hv =>
  refine .eptr b (o + off) (l.drop off) cs ty fr hb (by simp; omega) (fun j x G => ?_) (fun j x G => ?_)
  ·rw [List.getElem?_drop] at G; rw [show o + off + j = o + (off + j) by omega]; exact h1 _ _ G
  ·rw [List.getElem?_drop] at G; rw [show o + off + j = o + (off + j) by omega]; exact hv _ _ G
theorem VR.eptr_ptr {H : GH} {v : Value} {l : List T} (h : VR H v (.eptr l)) : ∃ b o, v = .pointer (some ⟨b, o, none⟩) := by
 cases h; exact ⟨_, _, rfl⟩
theorem eZ {t : TypeId} {x : Operand} {f : Nat} {cs : List T} {ti M : TI} {fs : List (Nat × Nat)} {off ft : Nat}
  (ht : E.tab t = some ti) (hk : ti.kind = .struct fs) (hf : fs[f]? = some (off, ft)) (W : E.tab ft = some M) (hz : Nat.beq M.size 0 = false)
  (hx : A7 s x = some (.eptr cs)) (Y : Nat.ble off cs.length = true) : Yp E.P n s ⟨dst, .fieldAddr t x f, ty, pos, aft, g⟩ (.eptr (cs.drop off)) := by
 intro H A r
 obtain ⟨ff, h1, h2⟩ := G8 (E.ok _ _ ht) hk
 have O : ∃ G, ff[f]? = some G ∧ G.offset = off ∧ G.type = ft := by
  rw [← h2] at hf
  simp only [List.getElem?_map, Option.map_eq_some_iff] at hf
  obtain ⟨G, q1, q2⟩ := hf
  refine ⟨G, by simpa using q1, ?_, ?_⟩ <;> simp_all
 obtain ⟨G, q1, rfl, rfl⟩ := O
 have Z : ¬ M.size = 0 := by intro h; rw [h] at hz; simp at hz
 have h := r.eval hx
 obtain ⟨b, o, hv⟩ := h.eptr_ptr
 rw [hv] at h
 exact ⟨_, h.eptr_drop (Nat.le_of_ble_eq_true Y), fun w => by
  simp [execOp, hv, Instr.fieldAt, run_underlying h1, q1, Instr.sureAddr, fieldPlace, Ch (E.ok _ _ W), Z, Du]⟩
theorem Ee {x : Operand} {b : Addr} (G : A7 s x = some (.v (.pointer (some b)))) : Yp E.P n s ⟨dst, .nilCheck x, ty, pos, aft, g⟩ (.v (.pointer (some b))) :=
 fun H A r => ⟨_, .v _, fun w => by simp [execOp, r.evalv G]⟩
theorem Xx {x : Operand} {cs : List T} (M : A7 s x = some (.eptr cs)) : Yp E.P n s ⟨dst, .nilCheck x, ty, pos, aft, g⟩ (.eptr cs) := by
 intro H A r
 have h := r.eval M
 obtain ⟨b, o, G⟩ := h.eptr_ptr
 exact ⟨_, h, fun w => by simp [execOp, G]⟩
theorem VR.list_slice {H : GH} {v : Value} {sz : Nat} {es : List (List T)} (h : VR H v (.list sz es)) : ∃ a cap, v = .slice a es.length cap := by
 cases h with
 | empty a cap sz => exact ⟨a, cap, rfl⟩
 | list b off cap sz es cs ty fr hb hcap hmax hsz hel h1 hv => exact ⟨_, _, rfl⟩
theorem VR.list_max {H : GH} {v : Value} {sz : Nat} {es : List (List T)} (h : VR H v (.list sz es)) : es.length ≤ Ky := by
 cases h with
 | empty a cap sz => simp [Ky]
 | list b off cap sz es cs ty fr hb hcap hmax hsz hel h1 hv => exact hmax
theorem Tm {x : Operand} {t : TypeId} {sz : Nat} {es : List (List T)} {ti : TI} {e : Nat} (O : E.tab t = some ti) (M : ti.kind = .slice e) (Y : A7 s x = some (.list sz es)) :
  Yp E.P n s ⟨dst, .call { callee := .builtin .len, args := #[x], argTypes := #[t] }, ty, pos, aft, g⟩ (.v (.int .i64 es.length)) := by
 refine fun H A r => ⟨_, .v _, fun w => ?_⟩
 obtain ⟨a, G, W⟩ := (r.eval Y).list_slice
 simp [execOp, resolve, invoke, builtin, Builtin.len_, W, run_underlying (Ep (E.ok _ _ O) M), goInt]
theorem Gm {x : Operand} {t : TypeId} {a : Option Addr} {len cap : Nat} {ti : TI} {e : Nat} (M : E.tab t = some ti) (G : ti.kind = .slice e) (O : A7 s x = some (.v (.slice a len cap))) :
  Yp E.P n s ⟨dst, .call { callee := .builtin .len, args := #[x], argTypes := #[t] }, ty, pos, aft, g⟩ (.v (.int .i64 len)) :=
 fun H A r => ⟨_, .v _, fun w => by simp [execOp, resolve, invoke, builtin, Builtin.len_, r.evalv O, run_underlying (Ep (E.ok _ _ M) G), goInt]⟩
theorem G9 {P : Program} {t : TypeId} {i : TI} (h : Je P t = some i) (O : i.kind = .string) : P.underlying t = some .string := by
 obtain ⟨d, M, G⟩ := Fw h
 rw [O] at G
 cases d <;> simp [K0] at G
 exact M
theorem Xy {x : Operand} {t : TypeId} {b : ByteArray} {ti : TI} (M : E.tab t = some ti) (G : ti.kind = .string) (O : A7 s x = some (.v (.string b))) :
  Yp E.P n s ⟨dst, .call { callee := .builtin .len, args := #[x], argTypes := #[t] }, ty, pos, aft, g⟩ (.v (.int .i64 b.size)) :=
 fun H A r => ⟨_, .v _, fun w => by simp [execOp, resolve, invoke, builtin, Builtin.len_, r.evalv O, run_underlying (G9 (E.ok _ _ M) G), goInt]⟩
theorem qA {x y : Operand} {O : Array TypeId} {k : IntKind} {a b : Int} (G : A7 s x = some (.v (.int k a))) (M : A7 s y = some (.v (.int k b))) :
  Yp E.P n s ⟨dst, .call { callee := .builtin .max, args := #[x, y], argTypes := O }, ty, pos, aft, g⟩ (.v (.int k (max a b))) := by
 refine fun H A r => ⟨_, .v _, fun w => ?_⟩
 have : (if b > a then b else a) = max a b := by split <;> omega
 simp [execOp, resolve, invoke, builtin, Builtin.max_, Builtin.max2, r.evalv G, r.evalv M]
 omega
theorem pZ {x y : Operand} {O : Array TypeId} {k : IntKind} {a b : Int} (G : A7 s x = some (.v (.int k a))) (M : A7 s y = some (.v (.int k b))) :
  Yp E.P n s ⟨dst, .call { callee := .builtin .min, args := #[x, y], argTypes := O }, ty, pos, aft, g⟩ (.v (.int k (min a b))) := by
 refine fun H A r => ⟨_, .v _, fun w => ?_⟩
 simp [execOp, resolve, invoke, builtin, Builtin.min_, Builtin.min2, r.evalv G, r.evalv M]
 omega
theorem Ie {t : TypeId} {x y : Operand} {k : IntKind} {i : Int} {m : Nat} {sz : Nat} {es : List (List T)} {e : List T} {ti O : TI} {M : Nat}
  (Z : E.tab t = some ti) (Y : ti.kind = .slice M) (hel : E.tab M = some O) (hsz : O.size = sz)
  (G : A7 s x = some (.list sz es)) (hy : A7 s y = some (.v (.int k i))) (hi : i = (m : Int)) (he : es[m]? = some e) :
  Yp E.P n s ⟨dst, .indexAddr t x y, ty, pos, aft, g⟩ (.eptr e) := by
 intro H A r
 have h := r.eval G
 have W : m < es.length := (gs he).1
 generalize hv : A.eval x = v at h
 cases h with
 | empty a cap sz => simp at he
 | list b off cap sz es cs ty fr hb hcap hmax hsz' hel' h1 hvs =>
  refine ⟨.pointer (some ⟨b, off + m * sz, none⟩), .eptr b (off + m * sz) e cs ty fr hb ?_ (fun j x G => h1 m e he j x G) (fun j x G => hvs m e he j x G), fun w => ?_⟩
  ·rw [hel' m e he]
   have : (m + 1) * sz ≤ es.length * sz := Nat.mul_le_mul_right _ W
   rw [Nat.succ_mul] at this; omega
  ·subst hi
   simp [execOp, hv, r.evalv hy, Instr.indexAt, asIntOf, run_underlying (Ep (E.ok _ _ Z) Y), Ch (E.ok _ _ hel), hsz, W, Du]
theorem Ot {t : TypeId} {x y : Operand} {k : IntKind} {i : Int} {m : Nat} {b off len cap : Nat} {ti M : TI} {G : Nat}
  (Y : E.tab t = some ti) (O : ti.kind = .slice G) (hel : E.tab G = some M)
  (Z : A7 s x = some (.v (.slice (some ⟨b, off, none⟩) len cap))) (hy : A7 s y = some (.v (.int k i))) (hi : i = (m : Int)) (W : m < len) :
  Yp E.P n s ⟨dst, .indexAddr t x y, ty, pos, aft, g⟩ (.v (.pointer (some ⟨b, off + m * M.size, none⟩))) := by
 refine fun H A r => ⟨_, .v _, fun w => ?_⟩
 subst hi
 simp [execOp, r.evalv Z, r.evalv hy, Instr.indexAt, asIntOf, run_underlying (Ep (E.ok _ _ Y) O), Ch (E.ok _ _ hel), W, Du]
theorem Og {P : Program} {t : TypeId} {i : TI} (h : Je P t = some i) {m e : Nat} (O : i.kind = .array m e) : P.underlying t = some (.array m e) := by
 obtain ⟨d, M, G⟩ := Fw h
 rw [O] at G
 cases d <;> simp [K0] at G
 obtain ⟨rfl, rfl⟩ := G; exact M
theorem Dw {t : TypeId} {x y : Operand} {k : IntKind} {i : Int} {m : Nat} {b off len : Nat} {ti M : TI} {G : Nat}
  (Y : E.tab t = some ti) (O : ti.kind = .array len G) (hel : E.tab G = some M)
  (Z : A7 s x = some (.v (.pointer (some ⟨b, off, none⟩)))) (hy : A7 s y = some (.v (.int k i))) (hi : i = (m : Int)) (W : m < len) :
  Yp E.P n s ⟨dst, .indexAddr t x y, ty, pos, aft, g⟩ (.v (.pointer (some ⟨b, off + m * M.size, none⟩))) := by
 refine fun H A r => ⟨_, .v _, fun w => ?_⟩
 subst hi
 simp [execOp, r.evalv Z, r.evalv hy, Instr.indexAt, Instr.sureAddr, asIntOf, run_underlying (Og (E.ok _ _ Y) O), Ch (E.ok _ _ hel), W, Du]
def Z3 (s : Au) (x : Option Operand) (d m : Nat) : Prop :=
 match x with
 | none => m = d
 | some x => ∃ k i, A7 s x = some (.v (.int k i)) ∧ i = (m : Int)
theorem Dr {P : Program} {w : World} {k : IntKind} {m y : Nat} {G : BoundsCode} (h : m ≤ y) : (Instr.sliceBound (.int k (m : Int)) y G).run P w = .ok m w := by
 simp [Instr.sliceBound, asIntOf, h]
theorem Ey {P : Program} {w : World} {a : Act} {H : GH} (r : SR n s H a) {isS : Bool} {len cap l h m : Nat} {lo hi mx : Option Operand} (h1 : Z3 s lo 0 l) (h2 : Z3 s hi len h) (G : Z3 s mx cap m)
  (Z : hi = none → mx = none) (O : l ≤ h) (M : h ≤ m) (Y : m ≤ cap) :
  (Instr.sliceBounds isS len cap (lo.map a.eval) (hi.map a.eval) (mx.map a.eval)).run P w = .ok (l, h, m) w := by
 unfold Instr.sliceBounds
 cases lo with
 | none =>
  simp only [Z3] at h1
  subst h1
  cases hi with
  | none =>
   have := Z rfl; subst this
   simp only [Z3] at h2 G
   subst h2 G
   simp
  | some hi =>
   obtain ⟨k2, i2, W, rfl⟩ := h2
   cases mx with
   | none => simp only [Z3] at G; subst G; simp [r.evalv W, Dr M]
   | some mx => obtain ⟨k3, i3, e3, rfl⟩ := G; simp [r.evalv W, r.evalv e3, Dr Y, Dr M]
 | some lo =>
  obtain ⟨k1, i1, e1, rfl⟩ := h1
  cases hi with
  | none =>
   have := Z rfl; subst this
   simp only [Z3] at h2 G
   subst h2 G
   simp [r.evalv e1, Dr O]
  | some hi =>
   obtain ⟨k2, i2, W, rfl⟩ := h2
   cases mx with
   | none => simp only [Z3] at G; subst G; simp [r.evalv e1, r.evalv W, Dr M, Dr O]
   | some mx => obtain ⟨k3, i3, e3, rfl⟩ := G; simp [r.evalv e1, r.evalv W, r.evalv e3, Dr Y, Dr M, Dr O]
theorem VR.sub {H : GH} {b off cap sz : Nat} {es : List (List T)} (h : VR H (.slice (some ⟨b, off, none⟩) es.length cap) (.list sz es)) {l k c : Nat} (W : l + k ≤ es.length) (hc : k ≤ c) :
  VR H (.slice (some ⟨b, off + l * sz, none⟩) k c) (.list sz ((es.drop l).take k)) := by
 generalize hv : Value.slice (some ⟨b, off, none⟩) es.length cap = v at h
 cases h with
 | empty a cap sz =>
  have hk : k = 0 := by simp at W; omega
  subst hk
  simpa using VR.empty (H := H) (some ⟨b, off + l * sz, none⟩) c sz
 | list b' off' cap' sz es cs ty fr hb hcap hmax hsz hel h1 hvs =>
  simp only [Value.slice.injEq, Option.some.injEq, Addr.mk.injEq, and_true] at hv
  obtain ⟨⟨rfl, rfl⟩, _, _⟩ := hv
  have G : ((es.drop l).take k).length = k := by simp; omega
  have O : ∀ (i : Nat) (e : List T), ((es.drop l).take k)[i]? = some e → es[l + i]? = some e := by
   intro i e M
   have hi : i < k := by have := (gs M).1; omega
   rwa [List.getElem?_take_of_lt hi, List.getElem?_drop] at M
  have Y : (l + k) * sz ≤ es.length * sz := Nat.mul_le_mul_right _ W
  rw [Nat.add_mul] at Y
  have := VR.list (H := H) b (off + l * sz) c sz ((es.drop l).take k) cs ty fr hb (by rw [G]; exact hc) (by rw [G]; exact Nat.le_trans (by omega) hmax) (by rw [G]; omega) (fun i e M => hel _ _ (O i e M))
   (fun i e M j x Z => by have := h1 _ _ (O i e M) j x Z; rwa [Nat.add_mul, ← Nat.add_assoc] at this)
   (fun i e M j x Z => by have := hvs _ _ (O i e M) j x Z; rwa [Nat.add_mul, ← Nat.add_assoc] at this)
  rwa [G] at this
theorem eX {t : TypeId} {x : Operand} {lo hi mx : Option Operand} {sz : Nat} {es : List (List T)} {ti Y : TI} {e : Nat} (l h m : Nat)
  (ht : E.tab t = some ti) (hk : ti.kind = .slice e) (he : E.tab e = some Y) (hsz : Y.size = sz) (hx : A7 s x = some (.list sz es))
  (h1 : Z3 s lo 0 l) (h2 : Z3 s hi es.length h) (h3 : ∀ cap, es.length ≤ cap → ∃ G, Z3 s mx cap G ∧ h ≤ G ∧ G ≤ cap) (W : hi = none → mx = none) (O : l ≤ h) (hh : h ≤ es.length) :
  Yp E.P n s ⟨dst, .slice t x lo hi mx, ty, pos, aft, g⟩ (.list sz ((es.drop l).take (h - l))) := by
 intro H A r
 have hv := r.eval hx
 have hu := Ep (E.ok _ _ ht) hk
 generalize aa : A.eval x = v at hv
 have M : ∀ w, (execOp A.eval ⟨dst, .slice t x lo hi mx, ty, pos, aft, g⟩).run E.P w = ((Instr.sliceAt t v (lo.map A.eval) (hi.map A.eval) (mx.map A.eval)).run E.P w).andThen fun a w => .ok (.value a) w := by
  intro w
  simp only [execOp, aa, Sem.run_bind]
  rfl
 cases hv with
 | empty a cap sz =>
  simp only [List.length_nil, Nat.le_zero] at hh
  subst hh
  simp only [List.length_nil] at h2
  have : l = 0 := by omega
  subst this
  obtain ⟨G, q1, q2, q3⟩ := h3 cap (by simp)
  refine ⟨.slice (if G = 0 then a else a.map (·.add (0 * Y.size))) (0 - 0) (G - 0), by simpa using VR.empty _ _ _, fun w => ?_⟩
  rw [M]
  simp only [Instr.sliceAt, Instr.slice, Sem.run_bind, run_underlying hu, Result.andThen_ok, Ey r h1 h2 q1 W O q2 q3, Ch (E.ok _ _ he), Sem.run_pure]
 | list b off cap sz es cs ty fr hb hcap hmax hsz' hel hh1 hvs =>
  obtain ⟨G, q1, q2, q3⟩ := h3 cap hcap
  refine ⟨.slice (if G = l then some ⟨b, off, none⟩ else (some (⟨b, off, none⟩ : Addr)).map (·.add (l * Y.size))) (h - l) (G - l), ?_, fun w => ?_⟩
  ·by_cases Z : G = l
   ·have : h - l = 0 := by omega
    rw [this]; simpa using VR.empty (H := H) _ _ _
   ·rw [if_neg Z]
    simp only [Option.map_some, Du, hsz]
    exact VR.sub (.list b off cap sz es cs ty fr hb hcap hmax hsz' hel hh1 hvs) (by omega) (by omega)
  ·rw [M]
   simp only [Instr.sliceAt, Instr.slice, Sem.run_bind, run_underlying hu, Result.andThen_ok, Ey r h1 h2 q1 W O q2 q3, Ch (E.ok _ _ he), Sem.run_pure]
theorem Zq {t : TypeId} {x y : Operand} {b : ByteArray} {k : IntKind} {i : Int} {m : Nat} {ti : TI} (W : E.tab t = some ti) (O : ti.kind = .string) (Z : A7 s x = some (.v (.string b)))
  (hy : A7 s y = some (.v (.int k i))) (hi : i = (m : Int)) (M : m < b.size) : Yp E.P n s ⟨dst, .index t x y, ty, pos, aft, g⟩ (.v (.int .u8 ((b.data.getD m 0).toNat : Int))) := by
 refine fun H A r => ⟨_, .v _, fun w => ?_⟩
 subst hi
 have Y := G9 (E.ok _ _ W) O
 have G : m < b.data.size := M
 have : b[m]? = some (b.data.getD m 0) := by
  simp [getElem?_def, M, Array.getD, G]
  rfl
 simp [execOp, r.evalv Z, r.evalv hy, Instr.index, asIntOf, run_underlying Y, this]
end
section
variable {E : Env} {n : Nat} {C : Ctx} {σ : St} {dst : Option Tmp} {ty : TypeId} {pos : String} {aft : Array Edge} {g : Option (Nat × Bool)}
theorem Gam.sr {H : GH} {a : Act} {w : World} (h : Gam n C σ H a w) : SR n σ.slots H a := ⟨h.size, h.slots⟩
theorem Gam.wr {H : GH} {a : Act} {w : World} (h : Gam n C σ H a w) : WR σ.objs H w := ⟨h.objs, h.held⟩
theorem Hd {H : GH} {cs : Array Value} {G : Nat} {e : List T} {M : TI} {j : Nat} {y : T} (hsz : G + e.length ≤ cs.size)
  (h1 : ∀ (j : Nat) (x : T), e[j]? = some x → (cs.getD (G + j) undef).oneCell' = true) (hv : ∀ (j : Nat) (x : T), e[j]? = some x → VR H (cs.getD (G + j) undef) x)
  (O : Er M e j = some y) :
  (M.isAgg = true → j + M.size ≤ e.length ∧ VR H (.agg ((List.range M.size).map fun i => cs.getD (G + j + i) undef).toArray) y) ∧
  (M.isAgg = false → j < e.length ∧ VR H (cs.getD (G + j) undef) y) := by
 unfold Er at O
 refine ⟨fun Y => ?_, fun Y => ?_⟩
 ·simp only [Y, cond_true] at O
  have Z : j + M.size ≤ e.length ∧ y = .agg ((e.drop j).take M.size) := by
   cases hb : (Nat.beq j 0 && Nat.beq M.size e.length) with
   | true =>
    simp only [hb, cond_true, Option.some.injEq] at O
    simp only [Bool.and_eq_true] at hb
    have h0 := nq hb.1
    have h2 := nq hb.2
    subst h0
    exact ⟨by omega, by rw [← O, h2]; simp⟩
   | false =>
    simp only [hb, cond_false] at O
    cases hc : Nat.ble (j + M.size) e.length with
    | false => simp [hc] at O
    | true =>
     simp only [hc, cond_true, Option.some.injEq] at O
     exact ⟨Nat.le_of_ble_eq_true hc, O.symm⟩
  obtain ⟨k1, rfl⟩ := Z
  refine ⟨k1, .agg _ _ (by simp; omega) ?_ ?_⟩
  all_goals
   intro i x W
   have hi : i < M.size := by
    have := (gs W).1
    simp at this; omega
   rw [List.getElem?_take_of_lt hi, List.getElem?_drop] at W
   have he : (((List.range M.size).map fun i => cs.getD (G + j + i) undef).toArray).getD i undef = cs.getD (G + (j + i)) undef := by
    simp [Array.getD_eq_getD_getElem?, hi, Nat.add_assoc]
   rw [he]
   first | exact h1 _ _ W | exact hv _ _ W
 ·simp only [Y, cond_false] at O
  exact ⟨(gs O).1, hv _ _ O⟩
def Fo (G : TI) (cs : Array Value) (o : Nat) : Value :=
 if G.isAgg then .agg ((List.range G.size).map fun i => cs.getD (o + i) undef).toArray else cs.getD o undef
theorem Ka {w : World} {b o : Nat} {cs : Array Value} {ty : TypeId} {fr : Nat × Nat} (h : w.heap[b]? = some (.cells cs ty fr)) (G : o < cs.size) :
  w.cell? ⟨b, o, none⟩ = some (cs.getD o undef) := by
 simp [World.cell?, h, Array.getD, G]
theorem F6 {P : Program} {H : GH} {w : World} {t : TypeId} {M : TI} (O : Je P t = some M) {b G j : Nat} {cs : Array Value} {ty : TypeId} {fr : Nat × Nat} {e : List T} {y : T}
  (hb : w.heap[b]? = some (.cells cs ty fr)) (hsz : G + e.length ≤ cs.size)
  (h1 : ∀ (j : Nat) (x : T), e[j]? = some x → (cs.getD (G + j) undef).oneCell' = true) (hv : ∀ (j : Nat) (x : T), e[j]? = some x → VR H (cs.getD (G + j) undef) x)
  (Y : Er M e j = some y) : (loadVar t ⟨b, G + j, none⟩).run P w = .ok (Fo M cs (G + j)) w := by
 unfold Fo
 obtain ⟨p1, p2⟩ := Hd hsz h1 hv Y
 cases ha : M.isAgg with
 | true =>
  obtain ⟨Z, _⟩ := p1 ha
  have W := run_loadCells (P := P) w ⟨b, G + j, none⟩ M.size (fun i => cs.getD (G + j + i) undef) (fun i hi => by
   rw [Du]; exact Ka hb (by omega))
  simp [loadVar, Fr O, ha, Ch O, W]
 | false =>
  obtain ⟨Z, _⟩ := p2 ha
  simp [loadVar, Fr O, ha, Ka hb (show G + j < cs.size by omega)]
theorem mZ {t : TypeId} {x : Operand} {cs : List T} {G : TI} {y : T} {objs : List Ob} {s : Au} (W : E.tab t = some G) (Z : A7 s x = some (.eptr cs)) (M : Er G cs 0 = some y) :
  Yd E.P n s objs ⟨dst, .load t x, ty, pos, aft, g⟩ y := by
 intro H a w r wr
 have h := r.eval Z
 generalize Y : a.eval x = v at h
 cases h with
 | eptr b off l cs' ty' fr hb hsz h1 hvs =>
  obtain ⟨p1, p2⟩ := Hd hsz h1 hvs M
  refine ⟨Fo G cs' off, ?_, fun w' O => ?_⟩
  rotate_left
  ·have := F6 (j := 0) (E.ok _ _ W) (O.1 _ _ hb) hsz h1 hvs M
   simp only [execOp, Y, Instr.loadAt, Instr.sureAddr, Sem.run_bind, Sem.run_pure, Result.andThen_ok]
   simp only [Nat.add_zero] at this
   rw [this]
   first | done | rfl
  ·cases ha : G.isAgg with
   | true => simpa [Fo, ha] using (p1 ha).2
   | false => simpa [Fo, ha] using (p2 ha).2
theorem OR.cells {H : GH} {w : World} {b tt sz cap : Nat} {es : List (List T)} (h : OR H w (.arr b tt sz cap es)) {i : Nat} {e : List T} (he : es[i]? = some e) :
  ∃ cs, w.heap[b]? = some (.cells cs tt (0, 0)) ∧ i * sz + e.length ≤ cs.size ∧ e.length = sz ∧
   (∀ (j : Nat) (x : T), e[j]? = some x → (cs.getD (i * sz + j) undef).oneCell' = true) ∧ (∀ (j : Nat) (x : T), e[j]? = some x → VR H (cs.getD (i * sz + j) undef) x) := by
 obtain ⟨cs, W, Y, Z, a4, M, O⟩ := h
 refine ⟨cs, W, ?_, M i e he, fun j x G => (O i e he j x G).1, fun j x G => (O i e he j x G).2⟩
 have hi : i < es.length := (gs he).1
 have : (i + 1) * sz ≤ cap * sz := Nat.mul_le_mul_right _ (by omega)
 rw [Nat.succ_mul] at this
 rw [M i e he, Y]; exact this
theorem Cq (k : Nat) {t : TypeId} {x : Operand} {M : TI} {y : T} {objs : List Ob} {s : Au} {b off tt sz cap : Nat} {es : List (List T)} (i j : Nat) {e : List T}
  (ht : E.tab t = some M) (hx : A7 s x = some (.v (.pointer (some ⟨b, off, none⟩))))
  (Z : objs[k]? = some (.arr b tt sz cap es)) (he : es[i]? = some e) (ho : off = i * sz + j) (hp : Er M e j = some y) :
  Yd E.P n s objs ⟨dst, .load t x, ty, pos, aft, g⟩ y := by
 intro H a w r wr
 have hv := r.evalv hx
 have O := wr.objs _ (mg Z)
 obtain ⟨cs, a1, W, a3, Y, G⟩ := OR.cells O he
 obtain ⟨p1, p2⟩ := Hd W Y G hp
 subst ho
 refine ⟨Fo M cs (i * sz + j), ?_, fun w' ag => ?_⟩
 rotate_left
 ·have hb := ag.2 _ (mg Z)
  have := F6 (j := j) (E.ok _ _ ht) ((hb b (by simp [Ob.fp])).trans a1) W Y G hp
  simp only [execOp, hv, Instr.loadAt, Instr.sureAddr, Sem.run_bind, Sem.run_pure, Result.andThen_ok, this]
  first | done | rfl
 ·cases ha : M.isAgg with
  | true => simpa [Fo, ha] using (p1 ha).2
  | false => simpa [Fo, ha] using (p2 ha).2
theorem UsR.arr {H : GH} {w : World} {v : Value} {tt sz : Nat} {es : List (List T)} (h : UsR H w v tt sz es) {i : Nat} {e : List T} (he : es[i]? = some e) :
  ∃ c cap, v = .slice (some ⟨T4 v, 0, none⟩) es.length c ∧ es.length ≤ c ∧ c ≤ cap ∧ ArrR H w (T4 v) tt sz cap es ∧ Hj v = [T4 v] := by
 rcases h with ⟨_, h⟩ | ⟨b, c, cap, rfl, G, M, O⟩
 ·subst h; simp at he
 ·exact ⟨c, cap, rfl, G, M, O, rfl⟩
theorem Ay (k : Nat) {t : TypeId} {x : Operand} {Y : TI} {y : T} {objs : List Ob} {s : Au} {v : Value} {off tt sz : Nat} {es : List (List T)} (i j : Nat) {e : List T}
  (ht : E.tab t = some Y) (hx : A7 s x = some (.v (.pointer (some ⟨T4 v, off, none⟩))))
  (Z : objs[k]? = some (.us v tt sz es)) (he : es[i]? = some e) (ho : off = i * sz + j) (G : Er Y e j = some y) :
  Yd E.P n s objs ⟨dst, .load t x, ty, pos, aft, g⟩ y := by
 intro H a w r wr
 have O : UsR H w v tt sz es := wr.objs _ (mg Z)
 obtain ⟨c, M, hv, h1, h2, h3, h4⟩ := O.arr he
 obtain ⟨z, hz, hr⟩ := Cq (E := E) (n := n) (dst := dst) (ty := ty) (pos := pos) (aft := aft) (g := g) (objs := [.arr (T4 v) tt sz M es]) 0 i j ht hx rfl he ho G H a w r ⟨fun p G => by simp at G; subst G; exact h3, wr.held⟩
 refine ⟨z, hz, fun w' W => hr w' ⟨W.1, fun p G b hb => ?_⟩⟩
 simp only [List.mem_singleton] at G
 subst G
 exact W.2 _ (mg Z) b (by simp only [Ob.fp, h4] at *; exact hb)
theorem dO (k : Nat) {x : Operand} {t : TypeId} {objs : List Ob} {s : Au} {v : Value} {tt sz : Nat} {es : List (List T)} {ti : TI} {e : Nat} (M : E.tab t = some ti) (G : ti.kind = .slice e) (O : A7 s x = some (.v v))
  (ho : objs[k]? = some (.us v tt sz es)) : Yd E.P n s objs ⟨dst, .call { callee := .builtin .len, args := #[x], argTypes := #[t] }, ty, pos, aft, g⟩ (.v (.int .i64 es.length)) := by
 intro H a w r wr
 have W : UsR H w v tt sz es := wr.objs _ (mg ho)
 rcases W with ⟨rfl, rfl⟩ | ⟨b, c, Z, rfl, h1, h2, h3⟩
 ·exact ⟨_, .v _, fun Y _ => (Gm (E := E) (n := n) M G O H a r).choose_spec.2 Y |> fun h => by rw [h]; have := (Gm (E := E) (n := n) (dst := dst) (ty := ty) (pos := pos) (aft := aft) (g := g) M G O H a r).choose_spec.1.v_eq; rw [this]; rfl⟩
 ·exact ⟨_, .v _, fun Y _ => (Gm (E := E) (n := n) M G O H a r).choose_spec.2 Y |> fun h => by rw [h]; have := (Gm (E := E) (n := n) (dst := dst) (ty := ty) (pos := pos) (aft := aft) (g := g) M G O H a r).choose_spec.1.v_eq; rw [this]⟩
theorem Bc (k : Nat) {t : TypeId} {x y : Operand} {kk : IntKind} {i : Int} {m : Nat} {objs : List Ob} {s : Au} {v : Value} {tt sz : Nat} {es : List (List T)} {e : List T} {ti Y : TI} {W : Nat}
  (ht : E.tab t = some ti) (Z : ti.kind = .slice W) (hel : E.tab W = some Y) (hsz : Y.size = sz)
  (hx : A7 s x = some (.v v)) (ho : objs[k]? = some (.us v tt sz es)) (hy : A7 s y = some (.v (.int kk i))) (hi : i = (m : Int)) (M : es[m]? = some e) :
  Yd E.P n s objs ⟨dst, .indexAddr t x y, ty, pos, aft, g⟩ (.v (.pointer (some ⟨T4 v, m * sz, none⟩))) := by
 intro H a w r wr
 have O : UsR H w v tt sz es := wr.objs _ (mg ho)
 obtain ⟨c, cap, hv, h1, h2, h3, h4⟩ := O.arr M
 have G : A7 s x = some (.v (.slice (some ⟨T4 v, 0, none⟩) es.length c)) := by rw [← hv]; exact hx
 have := Ot (E := E) (n := n) (dst := dst) (ty := ty) (pos := pos) (aft := aft) (g := g) ht Z hel G hy hi (gs M).1 H a r
 rw [hsz, Nat.zero_add] at this
 exact (Yp.yd (fun H A r => Ot (E := E) (n := n) (dst := dst) (ty := ty) (pos := pos) (aft := aft) (g := g) ht Z hel G hy hi (gs M).1 H A r) (objs := objs) H a w r wr) |> fun h => by rw [hsz, Nat.zero_add] at h; exact h
theorem AO.still {G : Array Oper} {o : Oper} {l : List Oper} {R : St → Prop} {x : T} (Z : Yd E.P n σ.slots σ.objs o x) (hg : o.guard = none) (O : ∀ d, o.dst = some d → d < n)
  (k : AO E n C G l (σ.put o.dst x) R) : AO E n C G (o :: l) σ R := by
 intro H a w M
 obtain ⟨v, Y, W⟩ := Z H a w M.sr M.wr
 simp only [Z2]
 rw [if_pos (by simp [Region.wanted, hg])]
 refine Uf ?_
 simp only [Oper.wp, W w ⟨M.held, fun _ _ _ _ => rfl⟩, Oper.upon]
 exact k H _ w (M.put Y O)
theorem By {n d : Nat} (h : Nat.blt d n = true) : ∀ G, some d = some G → G < n := fun G he => by
 cases he; exact Nat.le_of_ble_eq_true h
theorem F2 {H : GH} {a : Act} {s : Au} (r : SR n s H a) {G : Array Oper} {j : Nat} {t : Tmp} {b : Bool} (Y : (G[j]?).bind (·.dst) = some t) (Z : get s t = some (.v (.bool b))) :
  yielded G a.tmps j = some b := by
 have M := (r.slots t _ Z).v_eq
 have O : t < a.tmps.size := by
  apply Classical.byContradiction
  intro W
  rw [Array.getD_eq_getD_getElem?, Array.getElem?_eq_none (Nat.le_of_not_lt W)] at M
  simp [undef] at M
 have : a.tmps[t]? = some (.bool b) := by
  rw [Array.getD_eq_getD_getElem?, Array.getElem?_eq_getElem O] at M
  rw [Array.getElem?_eq_getElem O]; simpa using M
 simp [yielded, Y, this]
theorem AO.guard {G : Array Oper} {Z : Op} {l : List Oper} {R : St → Prop} {j : Nat} {want b : Bool} {t : Tmp}
  (hj : (G[j]?).bind (·.dst) = some t) (hs : get σ.slots t = some (.v (.bool b))) (hd : ∀ d, dst = some d → d < n)
  (h1 : b = want → AO E n C G (⟨dst, Z, ty, pos, aft, none⟩ :: l) σ R)
  (h2 : b = !want → AO E n C G l (σ.put dst (.v undef)) R) : AO E n C G (⟨dst, Z, ty, pos, aft, some (j, want)⟩ :: l) σ R := by
 intro H a w M
 have Y := F2 M.sr hj hs
 simp only [Z2]
 by_cases O : b = want
 ·rw [if_pos (by simp [Region.wanted, Y, O])]
  have := h1 O H a w M
  simp only [Z2] at this
  rw [if_pos (by simp [Region.wanted])] at this
  exact this
 ·rw [if_neg (by simp [Region.wanted, Y, O])]
  have W : b = !want := by cases b <;> cases want <;> simp_all
  exact h2 W H _ w (M.put (.v _) hd)
def qL (X : List Nat) (G : Array Bool) : Bool := X.all fun x => !(G.getD x true)
def Fv (P : Program) (G : Array Oper) (Q : Exit → Act → World → Prop) (S : World → Prop) (X : List Nat) : Nat → Array Bool → Act → World → Prop
 | 0, listed, a, w => Region.ready .any G listed = [] ∧ Q .normal a w
 | fuel + 1, listed, a, w =>
  (Region.ready .any G listed = [] → Q .normal a w) ∧
  ∀ i ∈ Region.ready .any G listed, wpOp P G Q i (fun O M => (qL X (listed.setIfInBounds i true) = true → S M) ∧ Fv P G Q S X fuel (listed.setIfInBounds i true) O M) a w
theorem S8 {P : Program} {O : Array Oper} {Q : Exit → Act → World → Prop} {S : World → Prop} {X : List Nat} : ∀ (G : Nat) (M : Array Bool) (a : Act) (w : World), Fv P O Q S X G M a w → wpAny P .any O Q G M a w
 | 0, _, _, _, h => h
 | G + 1, _, _, _, h => ⟨h.1, fun i Z => wpOp_mono (fun W w' Y => S8 G _ W w' Y.2) (h.2 i Z)⟩
theorem Pn {P : Program} {O : Array Oper} {Q : Exit → Act → World → Prop} {S : World → Prop} {X : List Nat} {G : Array Bool} {a : Act} {w : World} (W : Region.ready .any O G = []) (h : Q .normal a w) :
  ∀ M, Fv P O Q S X M G a w
 | 0 => ⟨W, h⟩
 | _ + 1 => ⟨fun _ => h, by rw [W]; simp⟩
theorem Ej {P : Program} {M : Array Oper} {Q : Exit → Act → World → Prop} {S : World → Prop} {X Y : List Nat} {O : Nat} {G : Array Bool} {a : Act} {w : World} (Z : Region.ready .any M G = Y) (W : Y ≠ [])
  (h : ∀ i ∈ Y, wpOp P M Q i (fun a' w' => (qL X (G.setIfInBounds i true) = true → S w') ∧ Fv P M Q S X O (G.setIfInBounds i true) a' w') a w) : Fv P M Q S X (O + 1) G a w :=
 ⟨fun h0 => absurd (Z ▸ h0) W, Z ▸ h⟩
def Blk (M : Array Oper) (G : Array Bool) (U : List Nat) (i : Nat) : Prop :=
 ∀ u, u ∈ U → G.getD u true = false ∧ (u = i ∨ ∃ o e, M[u]? = some o ∧ e ∈ o.after ∧ Region.binds .any e = true ∧ e.on ∈ U)
theorem Blk.not_ready {W : Array Oper} {G : Array Bool} {U : List Nat} {i j : Nat} (hb : Blk W G U i) (hj : j ∈ Region.ready .any W G) (ab : j ≠ i) : j ∉ U := by
 intro hU
 obtain ⟨_, h⟩ := hb j hU
 rcases h with h | ⟨o, e, ho, he, aa, ac⟩
 ·exact ab h
 ·obtain ⟨_, o', O, M⟩ := mem_ready.1 hj
  rw [ho] at O
  cases O
  have Y := M e he aa
  have h0 := (hb e.on ac).1
  rcases Nat.lt_or_ge e.on G.size with Z | Z
  ·simp [Z] at h0 Y; rw [h0] at Y; cases Y
  ·simp [Array.getElem?_eq_none Z] at Y
theorem M3 {P : Program} {M : Array Oper} {Q : Exit → Act → World → Prop} {S : World → Prop} {X U : List Nat} {i : Nat} {oi : Oper} {v : Value} (hi : M[i]? = some oi) (ad : ∀ (j : Nat) (o : Oper) cs b, M[j]? = some o → o.op ≠ .select cs b)
  (hQ : ∀ c a w, Q (.panic c) (a.put oi.dst v) w → Q (.panic c) a w) (hX : ∀ x, x ∈ X → x ∈ U ∧ x ≠ i) :
  ∀ (W : Nat) (G : Array Bool) (a : Act) (w : World),
   (∀ j oj, M[j]? = some oj → j ≠ i → G.getD j true = false → (∀ e ∈ oj.after, Region.binds .any e = true → e.on ≠ i) → oi.apart M oj = true) → Blk M G U i →
   i ∈ Region.ready .any M G → YieldsIf P M S oi v a → S w →
   Fv P M Q S X W (G.setIfInBounds i true) (a.put oi.dst v) w → Fv P M Q S X (W + 1) G a w := by
 intro W
 induction W with
 | zero =>
  intro G a w _ _ hr hy hS H
  refine ⟨fun h => (by rw [h] at hr; cases hr), fun j hj => ?_⟩
  by_cases O : j = i
  ·subst O; exact hy.wpOp hi hS ⟨fun _ => hS, H⟩
  ·have := ready_mono hj O
   rw [H.1] at this
   cases this
 | succ W ih =>
  intro G a w Z Y hr hy hS H
  refine ⟨fun h => (by rw [h] at hr; cases hr), fun j hj => ?_⟩
  by_cases O : j = i
  ·subst O; exact hy.wpOp hi hS ⟨fun _ => hS, H⟩
  ·have h1 := H.2 j (ready_mono hj O)
   have hjU := Y.not_ready hj O
   obtain ⟨ac, oj, hoj, hall⟩ := mem_ready.1 hj
   have hnot : ∀ e ∈ oj.after, Region.binds .any e = true → e.on ≠ i := fun e he hb heq => by
    have h1 := hall e he hb
    have h0 := (mem_ready.1 hr).1
    rw [heq] at h1
    rcases Nat.lt_or_ge i G.size with h' | h'
    ·simp [h'] at h0 h1; rw [h0] at h1; cases h1
    ·simp [Array.getElem?_eq_none h'] at h1
   have ab : qL X ((G.setIfInBounds i true).setIfInBounds j true) = true := by
    refine List.all_eq_true.2 fun x hx => ?_
    obtain ⟨hxU, hxi⟩ := hX x hx
    rw [getD_set_ne true (show j ≠ x from fun h => hjU (h ▸ hxU)), getD_set_ne true (Ne.symm hxi), (Y x hxU).1]; rfl
   have h2 := wpOp_putIf hoj (Z j oj hoj O ac hnot) (fun cs b => ad i oi cs b hi) (fun cs b => ad j oj cs b hoj) hQ hy h1
   have aa : ∀ k ok, M[k]? = some ok → k ≠ i → (G.setIfInBounds j true).getD k true = false →
     (∀ e ∈ ok.after, Region.binds .any e = true → e.on ≠ i) → oi.apart M ok = true := fun k ok hk hki hun ab => by
    refine Z k ok hk hki ?_ ab
    by_cases hjk : j = k
    ·subst hjk; exact ac
    ·rw [getD_set_ne true hjk] at hun; exact hun
   have hblk' : Blk M (G.setIfInBounds j true) U i := fun u hu => ⟨by rw [getD_set_ne true (show j ≠ u from fun h => hjU (h ▸ hu))]; exact (Y u hu).1, (Y u hu).2⟩
   refine wpOp_mono (fun a' w' h3 => ⟨fun _ => h3.2.1 ab, ih (G.setIfInBounds j true) a' w' aa hblk' (ready_mono hr (Ne.symm O)) h3.1 (h3.2.1 ab) ?_⟩) h2
   rw [Array.setIfInBounds_comm _ _ O]
   exact h3.2.2
def rR (M : Array Oper) (G : Array Bool) (i : Nat) : List Nat :=
 (List.range M.size).foldl (fun U u => bif !(G.getD u true) && !(Nat.beq u i) && (match M[u]? with | some o => o.after.any (fun e => Region.binds .any e && U.contains e.on) | none => false) then u :: U else U) [i]
def tC (M : Array Oper) (G : Array Bool) (X U : List Nat) (i : Nat) : Bool :=
 X.isEmpty || (U.all (fun u => !(G.getD u true) && (Nat.beq u i || (match M[u]? with | some o => o.after.any (fun e => Region.binds .any e && U.contains e.on) | none => false))) && X.all (fun x => U.contains x && !(Nat.beq x i)))
theorem Zl {P : Program} {G : Array Oper} {Q : Exit → Act → World → Prop} {S : World → Prop} {X U : List Nat} {i : Nat} {oi : Oper} {v : Value} {M : Nat} {listed : Array Bool} {a : Act} {w : World} (hi : G[i]? = some oi)
  (hs : Region.noSelect G = true) (hf : Region.free .any G listed i = true) (hr : (Region.ready .any G listed).contains i = true) (hb : tC G listed X U i = true)
  (hQ : ∀ c a w, Q (.panic c) (a.put oi.dst v) w → Q (.panic c) a w) (hy : YieldsIf P G S oi v a) (hS : S w)
  (h : Fv P G Q S X M (listed.setIfInBounds i true) (a.put oi.dst v) w) : Fv P G Q S X (M + 1) listed a w := by
 have W : i ∈ Region.ready .any G listed := by simpa using hr
 rcases Bool.or_eq_true _ _ |>.mp hb with hb | hb
 ·have : X = [] := by simpa using hb
  subst this
  exact M3 (U := [i]) hi (Region.noSelect_spec hs) hQ (by simp) M listed a w (Region.free_spec hi hf) (fun u Y => by simp at Y; subst Y; exact ⟨(mem_ready.1 W).1, .inl rfl⟩) W hy hS h
 ·simp only [Bool.and_eq_true] at hb
  obtain ⟨h1, h2⟩ := hb
  refine M3 (U := U) hi (Region.noSelect_spec hs) hQ (fun x hx => ?_) M listed a w (Region.free_spec hi hf) (fun u Y => ?_) W hy hS h
  ·have := List.all_eq_true.1 h2 x hx
   simp only [Bool.and_eq_true, Bool.not_eq_true'] at this
   refine ⟨by simpa using this.1, fun Z => ?_⟩
   rw [Z] at this
   simp at this
  ·have := List.all_eq_true.1 h1 u Y
   simp only [Bool.and_eq_true, Bool.not_eq_true', Bool.or_eq_true] at this
   refine ⟨this.1, ?_⟩
   rcases this.2 with h | h
   ·exact .inl (nq h)
   ·split at h
    ·rename_i o ho
     rw [Array.any_eq_true'] at h
     obtain ⟨e, Z, O⟩ := h
     simp only [Bool.and_eq_true] at O
     exact .inr ⟨o, e, ho, Z, O.1, by simpa using O.2⟩
    ·cases h
inductive PL where
 | nil
 | still (i : Nat) (r : PL)
 | act (i : Nat) (r : PL)
 | two (i j : Nat) (r1 r2 : PL)
 | three (i j k : Nat) (r1 r2 r3 : PL)
 | four (i j k l : Nat) (r1 r2 r3 r4 : PL)
 | five (i j k l m : Nat) (r1 r2 r3 r4 r5 : PL)
 | par (A : List (Nat × List Nat)) (r : PL)
 | drop (i : Nat) (r : PL)
 | parS (A : List (Nat × List Nat)) (L : List (List Nat)) (r : PL)
def T5 (G : Array Oper) (A : List (Nat × List Nat)) (k : Array Bool → Bool) : Nat → List Nat → Array Bool → Bool
 | 0, _, _ => false
 | f + 1, D, listed => bif A.all (fun p => D.contains p.1) then k listed else
  match Region.ready .any G listed with
  | [] => false
  | i :: l => (i :: l).all fun j => !D.contains j && A.any (fun p => Nat.beq p.1 j && p.2.all D.contains) && T5 G A k f (j :: D) (listed.setIfInBounds j true)
def Jf : Array Bool → List Nat → Array Bool
 | a, [] => a
 | a, x :: D => Jf (a.setIfInBounds x true) D
def V6 (j : Nat) : List Nat → List Nat
 | [] => [j]
 | x :: D => bif Nat.ble j x then j :: x :: D else x :: V6 j D
def sU : List Nat → List Nat → Bool
 | [], [] => true
 | x :: a, y :: b => Nat.beq x y && sU a b
 | _, _ => false
def hasL (j : Nat) : List Nat → Bool
 | [] => false
 | x :: l => Nat.beq x j || hasL j l
def kR (M : Array Oper) (A : List (Nat × List Nat)) (L : List (List Nat)) (k : Array Bool → Bool) (G : Array Bool) : Bool :=
 L.any (sU []) && L.all fun D => Nat.ble D.length A.length && bif A.all (fun p => hasL p.1 D) then k (Jf G D) else
  match Region.ready .any M (Jf G D) with
  | [] => false
  | i :: l => Nat.blt D.length A.length && (i :: l).all fun j => !hasL j D && A.any (fun p => Nat.beq p.1 j && p.2.all fun d => hasL d D) && L.any (sU (V6 j D))
theorem aI : ∀ {a b : List Nat}, sU a b = true → a = b
 | [], [], _ => rfl
 | x :: a, y :: b, h => by
  simp only [sU, Bool.and_eq_true] at h
  rw [nq h.1, aI h.2]
theorem Mx {j : Nat} : ∀ {l : List Nat}, hasL j l = true ↔ j ∈ l
 | [] => by simp [hasL]
 | x :: l => by
  simp only [hasL, Bool.or_eq_true, List.mem_cons, Mx (l := l)]
  exact ⟨fun h => h.imp (fun h => (nq h).symm) id, fun h => h.imp (fun h => by rw [h]; simp) id⟩
theorem Y0 {j i : Nat} : ∀ {D : List Nat}, i ∈ V6 j D ↔ i = j ∨ i ∈ D
 | [] => by simp [V6]
 | x :: D => by
  simp only [V6]
  cases Nat.ble j x with
  | true => simp
  | false =>
   simp only [cond_false, List.mem_cons, Y0 (D := D)]
   exact ⟨fun h => h.elim (fun h => .inr (.inl h)) fun h => h.elim .inl fun h => .inr (.inr h), fun h => h.elim (fun h => .inr (.inl h)) fun h => h.elim .inl fun h => .inr (.inr h)⟩
theorem Y2 {j : Nat} : ∀ {D : List Nat}, (V6 j D).length = D.length + 1
 | [] => rfl
 | x :: D => by
  simp only [V6]
  cases Nat.ble j x with
  | true => rfl
  | false => simp only [cond_false, List.length_cons, Y2 (D := D)]
theorem lR {a : Array Bool} {i j : Nat} : (a.setIfInBounds i true).setIfInBounds j true = (a.setIfInBounds j true).setIfInBounds i true := by
 refine Array.ext_getElem? fun k => ?_
 simp only [Array.getElem?_setIfInBounds, Array.size_setIfInBounds]
 by_cases h : i = k <;> by_cases G : j = k <;> simp [h, G]
theorem Ug {j : Nat} : ∀ {D : List Nat} {a : Array Bool}, Jf (a.setIfInBounds j true) D = (Jf a D).setIfInBounds j true
 | [], _ => rfl
 | x :: D, a => by simp only [Jf]; rw [lR, Ug]
theorem Uh {j : Nat} : ∀ {D : List Nat} {a : Array Bool}, Jf a (V6 j D) = (Jf a D).setIfInBounds j true
 | [], _ => rfl
 | x :: D, a => by
  simp only [V6]
  cases Nat.ble j x with
  | true => exact Ug (D := x :: D)
  | false => simp only [cond_false, Jf]; exact Uh
def PL.actsOnly : PL → Bool
 | .nil => true
 | .act _ r => r.actsOnly
 | .drop _ r => r.actsOnly
 | _ => false
def PL.drops : PL → List Nat
 | .nil => []
 | .still _ r => r.drops
 | .act _ r => r.drops
 | .two _ _ r1 r2 => r1.drops ++ r2.drops
 | .three _ _ _ r1 r2 r3 => r1.drops ++ (r2.drops ++ r3.drops)
 | .four _ _ _ _ r1 r2 r3 r4 => r1.drops ++ (r2.drops ++ (r3.drops ++ r4.drops))
 | .five _ _ _ _ _ r1 r2 r3 r4 r5 => r1.drops ++ (r2.drops ++ (r3.drops ++ (r4.drops ++ r5.drops)))
 | .par _ r => r.drops
 | .drop i r => i :: r.drops
 | .parS _ _ r => r.drops
def Da (G : Array Oper) (X : List Nat) : PL → Array Bool → Bool
 | .nil, listed => (Region.ready .any G listed).isEmpty
 | .still i r, listed => Region.free .any G listed i && (Region.ready .any G listed).contains i && tC G listed X (bif X.isEmpty then [] else rR G listed i) i && Da G X r (listed.setIfInBounds i true)
 | .act i r, listed => Region.ready .any G listed == [i] && Da G X r (listed.setIfInBounds i true)
 | .two i j r1 r2, listed => Region.ready .any G listed == [i, j] && Da G X r1 (listed.setIfInBounds i true) && Da G X r2 (listed.setIfInBounds j true)
 | .three i j k r1 r2 r3, listed => Region.ready .any G listed == [i, j, k] && Da G X r1 (listed.setIfInBounds i true) && Da G X r2 (listed.setIfInBounds j true) && Da G X r3 (listed.setIfInBounds k true)
 | .four i j k l r1 r2 r3 r4, listed => Region.ready .any G listed == [i, j, k, l] && Da G X r1 (listed.setIfInBounds i true) && Da G X r2 (listed.setIfInBounds j true) && Da G X r3 (listed.setIfInBounds k true) && Da G X r4 (listed.setIfInBounds l true)
 | .five i j k l m r1 r2 r3 r4 r5, listed => Region.ready .any G listed == [i, j, k, l, m] && Da G X r1 (listed.setIfInBounds i true) && Da G X r2 (listed.setIfInBounds j true) && Da G X r3 (listed.setIfInBounds k true) && Da G X r4 (listed.setIfInBounds l true) && Da G X r5 (listed.setIfInBounds m true)
 | .par A r, listed => T5 G A (Da G X r) (A.length + 1) [] listed
 | .drop i r, listed => Region.ready .any G listed == [i] && X.contains i && r.actsOnly && Da G X r (listed.setIfInBounds i true)
 | .parS A L r, listed => kR G A L (Da G X r) listed
def PL.depth : PL → Nat
 | .nil => 0
 | .still _ r => r.depth + 1
 | .act _ r => r.depth + 1
 | .two _ _ r1 r2 => max r1.depth r2.depth + 1
 | .three _ _ _ r1 r2 r3 => max r1.depth (max r2.depth r3.depth) + 1
 | .four _ _ _ _ r1 r2 r3 r4 => max r1.depth (max r2.depth (max r3.depth r4.depth)) + 1
 | .five _ _ _ _ _ r1 r2 r3 r4 r5 => max r1.depth (max r2.depth (max r3.depth (max r4.depth r5.depth))) + 1
 | .par A r => r.depth + A.length
 | .drop _ r => r.depth + 1
 | .parS A _ r => r.depth + A.length
def P9 (G : Array Oper) (pl : PL) : Bool :=
 Region.noSelect G && Nat.ble pl.depth G.size && Da G pl.drops pl (Array.replicate G.size false)
def Dg (P : Program) (G : Array Oper) (Q : Exit → Act → World → Prop) : (World → Prop) → PL → Act → World → Prop
 | _, .nil, a, w => Q .normal a w
 | S, .still i r, a, w => ∃ o v, G[i]? = some o ∧ YieldsIf P G S o v a ∧ S w ∧ Dg P G Q S r (a.put o.dst v) w
 | S, .act i r, a, w => wpOp P G Q i (fun O M => S M ∧ Dg P G Q S r O M) a w
 | S, .two i j r1 r2, a, w => wpOp P G Q i (fun O M => S M ∧ Dg P G Q S r1 O M) a w ∧ wpOp P G Q j (fun O M => S M ∧ Dg P G Q S r2 O M) a w
 | S, .three i j k r1 r2 r3, a, w => wpOp P G Q i (fun O M => S M ∧ Dg P G Q S r1 O M) a w ∧ wpOp P G Q j (fun O M => S M ∧ Dg P G Q S r2 O M) a w ∧ wpOp P G Q k (fun O M => S M ∧ Dg P G Q S r3 O M) a w
 | S, .four i j k l r1 r2 r3 r4, a, w => wpOp P G Q i (fun O M => S M ∧ Dg P G Q S r1 O M) a w ∧ wpOp P G Q j (fun O M => S M ∧ Dg P G Q S r2 O M) a w ∧ wpOp P G Q k (fun O M => S M ∧ Dg P G Q S r3 O M) a w ∧ wpOp P G Q l (fun O M => S M ∧ Dg P G Q S r4 O M) a w
 | S, .five i j k l m r1 r2 r3 r4 r5, a, w => wpOp P G Q i (fun O M => S M ∧ Dg P G Q S r1 O M) a w ∧ wpOp P G Q j (fun O M => S M ∧ Dg P G Q S r2 O M) a w ∧ wpOp P G Q k (fun O M => S M ∧ Dg P G Q S r3 O M) a w ∧ wpOp P G Q l (fun O M => S M ∧ Dg P G Q S r4 O M) a w ∧ wpOp P G Q m (fun O M => S M ∧ Dg P G Q S r5 O M) a w
 | S, .par A r, a, w => ∃ J : List Nat → Act → World → Prop, J [] a w ∧
   (∀ (D : List Nat) (j : Nat) (W : List Nat) a w, (j, W) ∈ A → (∀ d, d ∈ W → d ∈ D) → j ∉ D → J D a w → wpOp P G Q j (fun O M => S M ∧ J (j :: D) O M) a w) ∧
   (∀ (D : List Nat) a w, (∀ p, p ∈ A → p.1 ∈ D) → J D a w → Dg P G Q S r a w)
 | _, .drop i r, a, w => wpOp P G Q i (fun O M => Dg P G Q (fun _ => True) r O M) a w
 | S, .parS A _ r, a, w => ∃ J : List Nat → Act → World → Prop, J [] a w ∧
   (∀ (D : List Nat) (j : Nat) (W : List Nat) a w, (j, W) ∈ A → (∀ d, d ∈ W → d ∈ D) → j ∉ D → J D a w → wpOp P G Q j (fun O M => S M ∧ J (j :: D) O M) a w) ∧
   (∀ (D : List Nat) a w, (∀ p, p ∈ A → p.1 ∈ D) → J D a w → Dg P G Q S r a w)
theorem Pm {P : Program} {G : Array Oper} {Q : Exit → Act → World → Prop} : ∀ (r : PL) (S : World → Prop) (a : Act) (w : World), r.actsOnly = true → Dg P G Q S r a w → Dg P G Q (fun _ => True) r a w
 | .nil, _, _, _, _, h => h
 | .act _ r, S, _, _, hr, h => wpOp_mono (fun M W O => ⟨trivial, Pm r S M W hr O.2⟩) h
 | .drop _ _, _, _, _, _, h => h
theorem P1 {X : List Nat} {G : Array Bool} {i : Nat} (h : qL X G = false) : qL X (G.setIfInBounds i true) = false := by
 unfold qL at *
 obtain ⟨x, Y, W⟩ := List.all_eq_false.1 h
 refine List.all_eq_false.2 ⟨x, Y, ?_⟩
 simp only [Bool.not_eq_true', Bool.not_eq_false] at *
 by_cases M : i = x
 ·subst M
  by_cases O : i < G.size
  ·simp [O]
  ·simp [O]
 ·rw [getD_set_ne true M]; exact W
theorem cY {X : List Nat} {G : Array Bool} {i : Nat} (h : X.contains i = true) : qL X (G.setIfInBounds i true) = false := by
 refine List.all_eq_false.2 ⟨i, by simpa using h, ?_⟩
 by_cases M : i < G.size
 ·simp [M]
 ·simp [M]
theorem Kc {P : Program} {O : Array Oper} {Q : Exit → Act → World → Prop} {S : World → Prop} {X : List Nat} :
  ∀ (pl : PL) (M : Nat) (G : Array Bool) (a : Act) (w : World), pl.actsOnly = true → qL X G = false → pl.depth ≤ M → Da O X pl G = true → Dg P O Q (fun _ => True) pl a w → Fv P O Q S X M G a w
 | .nil, M, G, a, w, _, _, _, hp, h => Pn (by simpa [Da] using hp) h M
 | .act i r, 0, _, _, _, _, _, hl, _, _ => by simp [PL.depth] at hl
 | .act i r, M + 1, G, a, w, ha, hn, hl, hp, h => by
  simp only [Da, Bool.and_eq_true, beq_iff_eq] at hp
  refine Ej hp.1 (by simp) (fun j W => ?_)
  simp only [List.mem_singleton] at W
  subst W
  exact wpOp_mono (fun a' w' Y => ⟨fun Z => absurd Z (by rw [P1 hn]; simp), Kc r M _ _ _ ha (P1 hn) (by simp [PL.depth] at hl; omega) hp.2 Y.2⟩) h
 | .drop i r, 0, _, _, _, _, _, hl, _, _ => by simp [PL.depth] at hl
 | .drop i r, M + 1, G, a, w, ha, hn, hl, hp, h => by
  simp only [Da, Bool.and_eq_true, beq_iff_eq] at hp
  refine Ej hp.1.1.1 (by simp) (fun j W => ?_)
  simp only [List.mem_singleton] at W
  subst W
  exact wpOp_mono (fun a' w' Y => ⟨fun Z => absurd Z (by rw [P1 hn]; simp), Kc r M _ _ _ ha (P1 hn) (by simp [PL.depth] at hl; omega) hp.2 Y⟩) h
theorem Zm {P : Program} {ops : Array Oper} {Q : Exit → Act → World → Prop} {S : World → Prop} {X : List Nat} (hsel : Region.noSelect ops = true) (hQ : ∀ c a w, ¬ Q (.panic c) a w) :
  ∀ (pl : PL) (G : Nat) (M : Array Bool) (a : Act) (w : World), pl.depth ≤ G → Da ops X pl M = true → Dg P ops Q S pl a w → Fv P ops Q S X G M a w := by
 intro pl
 induction pl with
 | nil =>
  intro G M a w _ Y h
  exact Pn (by simpa [Da] using Y) h G
 | still i r ih =>
  intro G M a w Z Y h
  cases G with
  | zero => simp [PL.depth] at Z
  | succ G =>
   simp only [Da, Bool.and_eq_true] at Y
   obtain ⟨⟨⟨hf, hr⟩, hb⟩, hp'⟩ := Y
   obtain ⟨o, v, ho, hy, hS, hrest⟩ := h
   exact Zl ho hsel hf hr hb (fun c a w hq => absurd hq (hQ _ _ _)) hy hS (ih G _ _ _ (by simp [PL.depth] at Z; omega) hp' hrest)
 | act i r ih =>
  intro G M a w Z Y h
  cases G with
  | zero => simp [PL.depth] at Z
  | succ G =>
   simp only [Da, Bool.and_eq_true, beq_iff_eq] at Y
   obtain ⟨hr, hp'⟩ := Y
   refine Ej hr (by simp) (fun j hj => ?_)
   simp only [List.mem_singleton] at hj
   subst hj
   exact wpOp_mono (fun a' w' O => ⟨fun _ => O.1, ih G _ _ _ (by simp [PL.depth] at Z; omega) hp' O.2⟩) h
 | two i j r1 r2 ih1 ih2 =>
  intro G M a w Z Y h
  cases G with
  | zero => simp [PL.depth] at Z
  | succ G =>
   simp only [Da, Bool.and_eq_true, beq_iff_eq] at Y
   obtain ⟨⟨hr, hp1⟩, hp2⟩ := Y
   simp only [PL.depth] at Z
   refine Ej hr (by simp) (fun k W => ?_)
   simp only [List.mem_cons, List.not_mem_nil, or_false] at W
   rcases W with rfl | rfl
   ·exact wpOp_mono (fun a' w' O => ⟨fun _ => O.1, ih1 G _ _ _ (by omega) hp1 O.2⟩) h.1
   ·exact wpOp_mono (fun a' w' O => ⟨fun _ => O.1, ih2 G _ _ _ (by omega) hp2 O.2⟩) h.2
 | three i j k r1 r2 r3 ih1 ih2 ih3 =>
  intro G M a w Z Y h
  cases G with
  | zero => simp [PL.depth] at Z
  | succ G =>
   simp only [Da, Bool.and_eq_true, beq_iff_eq] at Y
   obtain ⟨⟨⟨hr, hp1⟩, hp2⟩, hp3⟩ := Y
   simp only [PL.depth] at Z
   obtain ⟨hw1, hw2, hw3⟩ := h
   refine Ej hr (by simp) (fun kk W => ?_)
   simp only [List.mem_cons, List.not_mem_nil, or_false] at W
   rcases W with rfl | rfl | rfl
   ·exact wpOp_mono (fun a' w' O => ⟨fun _ => O.1, ih1 G _ _ _ (by omega) hp1 O.2⟩) hw1
   ·exact wpOp_mono (fun a' w' O => ⟨fun _ => O.1, ih2 G _ _ _ (by omega) hp2 O.2⟩) hw2
   ·exact wpOp_mono (fun a' w' O => ⟨fun _ => O.1, ih3 G _ _ _ (by omega) hp3 O.2⟩) hw3
 | four i j k l r1 r2 r3 r4 ih1 ih2 ih3 ih4 =>
  intro G M a w Z Y h
  cases G with
  | zero => simp [PL.depth] at Z
  | succ G =>
   simp only [Da, Bool.and_eq_true, beq_iff_eq] at Y
   obtain ⟨⟨⟨⟨hr, hp1⟩, hp2⟩, hp3⟩, hp4⟩ := Y
   simp only [PL.depth] at Z
   obtain ⟨hw1, hw2, hw3, hw4⟩ := h
   refine Ej hr (by simp) (fun kk W => ?_)
   simp only [List.mem_cons, List.not_mem_nil, or_false] at W
   rcases W with rfl | rfl | rfl | rfl
   ·exact wpOp_mono (fun a' w' O => ⟨fun _ => O.1, ih1 G _ _ _ (by omega) hp1 O.2⟩) hw1
   ·exact wpOp_mono (fun a' w' O => ⟨fun _ => O.1, ih2 G _ _ _ (by omega) hp2 O.2⟩) hw2
   ·exact wpOp_mono (fun a' w' O => ⟨fun _ => O.1, ih3 G _ _ _ (by omega) hp3 O.2⟩) hw3
   ·exact wpOp_mono (fun a' w' O => ⟨fun _ => O.1, ih4 G _ _ _ (by omega) hp4 O.2⟩) hw4
 | five i j k l m r1 r2 r3 r4 r5 ih1 ih2 ih3 ih4 ih5 =>
  intro G M a w Z Y h
  cases G with
  | zero => simp [PL.depth] at Z
  | succ G =>
   simp only [Da, Bool.and_eq_true, beq_iff_eq] at Y
   obtain ⟨⟨⟨⟨⟨hr, hp1⟩, hp2⟩, hp3⟩, hp4⟩, hp5⟩ := Y
   simp only [PL.depth] at Z
   obtain ⟨hw1, hw2, hw3, hw4, hw5⟩ := h
   refine Ej hr (by simp) (fun kk W => ?_)
   simp only [List.mem_cons, List.not_mem_nil, or_false] at W
   rcases W with rfl | rfl | rfl | rfl | rfl
   ·exact wpOp_mono (fun a' w' O => ⟨fun _ => O.1, ih1 G _ _ _ (by omega) hp1 O.2⟩) hw1
   ·exact wpOp_mono (fun a' w' O => ⟨fun _ => O.1, ih2 G _ _ _ (by omega) hp2 O.2⟩) hw2
   ·exact wpOp_mono (fun a' w' O => ⟨fun _ => O.1, ih3 G _ _ _ (by omega) hp3 O.2⟩) hw3
   ·exact wpOp_mono (fun a' w' O => ⟨fun _ => O.1, ih4 G _ _ _ (by omega) hp4 O.2⟩) hw4
   ·exact wpOp_mono (fun a' w' O => ⟨fun _ => O.1, ih5 G _ _ _ (by omega) hp5 O.2⟩) hw5
 | drop i r ih =>
  intro G M a w Z Y h
  cases G with
  | zero => simp [PL.depth] at Z
  | succ G =>
   simp only [Da, Bool.and_eq_true, beq_iff_eq] at Y
   obtain ⟨⟨⟨hr, hx⟩, ha⟩, hp'⟩ := Y
   refine Ej hr (by simp) (fun j hj => ?_)
   simp only [List.mem_singleton] at hj
   subst hj
   exact wpOp_mono (fun a' w' O => ⟨fun hn => absurd hn (by rw [cY hx]; simp), Kc r G _ _ _ ha (cY hx) (by simp [PL.depth] at Z; omega) hp' O⟩) h
 | par A r ih =>
  intro G M a w Z Y h
  obtain ⟨J, h0, hstep, hend⟩ := h
  simp only [PL.depth] at Z
  have main : ∀ (f : Nat) (D : List Nat) (M : Array Bool) (a : Act) (w : World) (G : Nat), f + r.depth ≤ G + 1 → T5 ops A (Da ops X r) f D M = true → J D a w → Fv P ops Q S X G M a w := by
   intro f
   induction f with
   | zero => intro D M a w G _ W; simp [T5] at W
   | succ f ihf =>
    intro D M a w G hf W hJ
    simp only [T5] at W
    cases hall : A.all (fun p => D.contains p.1) with
    | true =>
     rw [hall, cond_true] at W
     exact ih G M a w (by omega) W (hend D a w (fun p Y => by simpa using List.all_eq_true.1 hall p Y) hJ)
    | false =>
     rw [hall, cond_false] at W
     cases hr : Region.ready .any ops M with
     | nil => rw [hr] at W; simp at W
     | cons i l =>
      rw [hr] at W
      simp only [] at W
      cases G with
      | zero =>
       have hi := List.all_eq_true.1 W i (by simp)
       simp only [Bool.and_eq_true] at hi
       have : f = 0 := by omega
       subst this
       simp [T5] at hi
      | succ G =>
       refine Ej hr (by simp) (fun j hj => ?_)
       have hi := List.all_eq_true.1 W j hj
       simp only [Bool.and_eq_true, Bool.not_eq_true', List.any_eq_true] at hi
       obtain ⟨⟨hD, ⟨j', ds⟩, hm, hb, hds⟩, hrec⟩ := hi
       have := nq hb
       dsimp only at this
       subst this
       exact wpOp_mono (fun a' w' O => ⟨fun _ => O.1, ihf _ _ _ _ G (by omega) hrec O.2⟩)
        (hstep D _ ds a w hm (fun d hd => by simpa using List.all_eq_true.1 hds d hd) (by simpa using hD) hJ)
  exact main (A.length + 1) [] M a w G (by omega) Y h0
 | parS A L r ih =>
  intro G M a w Z Y h
  obtain ⟨J, h0, hstep, hend⟩ := h
  simp only [PL.depth] at Z
  simp only [Da, kR, Bool.and_eq_true] at Y
  obtain ⟨hL0, hL⟩ := Y
  have main : ∀ (f : Nat) (D D0 : List Nat) (a : Act) (w : World) (G : Nat), D ∈ L → (∀ x, x ∈ D0 ↔ x ∈ D) → f + D.length = A.length + 1 → f + r.depth ≤ G + 1 → J D0 a w → Fv P ops Q S X G (Jf M D) a w := by
   intro f
   induction f with
   | zero =>
    intro D D0 a w G hD _ hf _ _
    have := List.all_eq_true.1 hL D hD
    simp only [Bool.and_eq_true] at this
    have := Nat.le_of_ble_eq_true this.1
    omega
   | succ f ihf =>
    intro D D0 a w G hD hs hf hfu hJ
    have W := List.all_eq_true.1 hL D hD
    simp only [Bool.and_eq_true] at W
    obtain ⟨hlen, W⟩ := W
    cases hall : A.all (fun p => hasL p.1 D) with
    | true =>
     rw [hall, cond_true] at W
     exact ih G _ a w (by omega) W (hend D0 a w (fun p Y => (hs _).2 (Mx.1 (List.all_eq_true.1 hall p Y))) hJ)
    | false =>
     rw [hall, cond_false] at W
     cases hr : Region.ready .any ops (Jf M D) with
     | nil => rw [hr] at W; simp at W
     | cons i l =>
      rw [hr] at W
      simp only [Bool.and_eq_true] at W
      obtain ⟨hlt, W⟩ := W
      have hlt := Nat.le_of_ble_eq_true hlt
      cases G with
      | zero => omega
      | succ G =>
       refine Ej hr (by simp) (fun j hj => ?_)
       have hi := List.all_eq_true.1 W j hj
       simp only [Bool.and_eq_true, Bool.not_eq_true', List.any_eq_true] at hi
       obtain ⟨⟨hD', ⟨j', ds⟩, hm, hb, hds⟩, D', hDL, he⟩ := hi
       have := nq hb
       dsimp only at this
       subst this
       have he := aI he
       subst he
       have hjD : j' ∉ D0 := fun h => by
        have := Mx.2 ((hs _).1 h)
        rw [hD'] at this; cases this
       refine wpOp_mono (fun a' w' O => ⟨fun _ => O.1, ?_⟩) (hstep D0 _ ds a w hm (fun d hd => (hs _).2 (Mx.1 (List.all_eq_true.1 hds d hd))) hjD hJ)
       rw [← Uh]
       exact ihf _ (j' :: D0) _ _ G hDL (fun x => by rw [Y0, List.mem_cons, hs]) (by rw [Y2]; omega) (by omega) O.2
  obtain ⟨D, hD, he⟩ := List.any_eq_true.1 hL0
  have he := aI he
  subst he
  exact main (A.length + 1) [] [] a w G hD (by simp) (by simp) (by omega) h0
theorem Kg {P : Program} {id : Nat} {G : Array Oper} {Q : Exit → Act → World → Prop} {S : World → Prop} {a : Act} {w : World} (W : P.follows .mixedOrders = true) (pl : PL)
  (O : P9 G pl = true) (hQ : ∀ c a w, ¬ Q (.panic c) a w) (hL : ¬ LetsOut Q) (h : Dg P G Q S pl a w.drew) : cw (Code.region id G true) P Q a w := by
 simp only [P9, Bool.and_eq_true] at O
 obtain ⟨⟨Y, Z⟩, h3⟩ := O
 have M := S8 _ _ _ _ (Zm Y hQ pl G.size _ a _ (Nat.le_of_ble_eq_true Z) h3 h)
 intro ro hn
 cases ro with
 | none => exact wpIn_wide.2 (wp_region_any W M)
 | some q => exact Tw W (hn rfl) hL M
def tS (s : Au) : Option Tmp → Au
 | none => s
 | some d => s.filter fun p => !Nat.beq p.1 d
theorem Ht {d i : Nat} : ∀ {s : Au} {x : T}, get (s.filter fun p => !Nat.beq p.1 d) i = some x → i ≠ d ∧ get s i = some x
 | [], x, h => by simp [get] at h
 | (k, y) :: l, x, h => by
  cases hk : Nat.beq k d with
  | true =>
   simp only [List.filter, hk, Bool.not_true] at h
   obtain ⟨M, O⟩ := Ht h
   have : k = d := nq hk
   refine ⟨M, ?_⟩
   have G : Nat.beq k i = false := by
    cases hb : Nat.beq k i with
    | false => rfl
    | true => exact absurd (by rw [← this, nq hb]) M
   simp [get, G, O]
  | false =>
   simp only [List.filter, hk, Bool.not_false, get] at h
   cases hb : Nat.beq k i with
   | true =>
    simp only [hb, cond_true] at h
    have G := nq hb
    refine ⟨fun W => ?_, by simp [get, hb, h]⟩
    rw [← W, ← G] at hk
    simp at hk
   | false =>
    simp only [hb, cond_false] at h
    obtain ⟨M, O⟩ := Ht h
    exact ⟨M, by simp [get, hb, O]⟩
def free (s : Au) : Option Tmp → Bool
 | none => true
 | some d => s.all fun p => !Nat.beq p.1 d
theorem Tf {d i : Nat} : ∀ {s : Au} {x : T}, (s.all fun p => !Nat.beq p.1 d) = true → get s i = some x → i ≠ d
 | [], x, _, h => by simp [get] at h
 | (k, y) :: l, x, ha, h => by
  simp only [List.all_cons, Bool.and_eq_true, Bool.not_eq_true'] at ha
  simp only [get] at h
  cases hb : Nat.beq k i with
  | true =>
   have G := nq hb
   rintro rfl
   rw [hb] at ha; simp at ha
  | false =>
   simp only [hb, cond_false] at h
   exact Tf ha.2 h
theorem SR.free {s : Au} {H : GH} {a : Act} (r : SR n s H a) (dst : Option Tmp) (v : Value) (hf : free s dst = true) : SR n s H (a.put dst v) := by
 cases dst with
 | none => exact r
 | some d =>
  refine ⟨by simp [Act.put, r.size], fun i x h => ?_⟩
  have G := Tf hf h
  have M : (a.tmps.setIfInBounds d v).getD i undef = a.tmps.getD i undef := by
   simp [Array.getD_eq_getD_getElem?, Array.getElem?_setIfInBounds_ne (Ne.symm G)]
  simp only [Act.put]
  rw [M]; exact r.slots i x h
def Fb (s : Au) (dst : Option Tmp) (x : T) : Au :=
 match dst with
 | none => s
 | some d => (d, x) :: s
theorem SR.put {s : Au} {H : GH} {a : Act} (r : SR n s H a) {dst : Option Tmp} {v : Value} {x : T} (hv : VR H v x) (M : ∀ d, dst = some d → d < n) : SR n (Fb s dst x) H (a.put dst v) := by
 cases dst with
 | none => exact r
 | some d =>
  refine ⟨by simp [Act.put, r.size], fun i y h => ?_⟩
  simp only [Fb, get] at h
  simp only [Act.put]
  cases hb : Nat.beq d i with
  | true =>
   have := nq hb
   subst this
   simp only [hb, cond_true, Option.some.injEq] at h
   subst h
   have : d < a.tmps.size := by rw [r.size]; exact M d rfl
   simpa [Array.getD, this] using hv
  | false =>
   simp only [hb, cond_false] at h
   have G : d ≠ i := fun h => by rw [h] at hb; simp at hb
   have O : (a.tmps.setIfInBounds d v).getD i undef = a.tmps.getD i undef := by
    simp [Array.getD_eq_getD_getElem?, Array.getElem?_setIfInBounds_ne G]
   rw [O]; exact r.slots i y h
def AP (E : Env) (n : Nat) (C : Ctx) (O : Array Oper) (M : List Nat) (G : List Ob) (pl : PL) (so : Au) (σ : St) (R : St → Prop) : Prop :=
 ∀ Hs W H a w, SR n so Hs a → WR G Hs W → Jg Hs G W w → (∀ b o, Hs b = some o → H b = some o) →
  (∀ p, p ∈ G → ∃ i, M.contains i = true ∧ σ.objs[i]? = some p) → Gam n C σ H a w →
  Dg E.P O (fun e Y Z => e = .normal ∧ ∃ σ' H', R σ' ∧ Gam n C σ' H' Y Z) (Jg Hs G W) pl a w
theorem AP.nil {O : Array Oper} {M : List Nat} {G : List Ob} {so : Au} {R : St → Prop} (h : R σ) : AP E n C O M G .nil so σ R :=
 fun _ _ H _ _ _ _ _ _ _ W => ⟨rfl, σ, H, h, W⟩
theorem aU {O : Array Oper} {M : List Nat} {G : List Ob} {so : Au} {R : St → Prop} {i : Nat} {r : PL} {o : Oper} {x : T} (ho : O[i]? = some o)
  (hy : Yd E.P n so G o x) (hg : o.guard = none) (hd : ∀ d, o.dst = some d → d < n) (k : AP E n C O M G r (Fb so o.dst x) (σ.put o.dst x) R) :
  AP E n C O M G (.still i r) so σ R := by
 intro Hs ws H a w sr wr Y Z hp gm
 obtain ⟨v, hv, W⟩ := hy Hs a ws sr wr
 refine ⟨o, v, ho, .inl ⟨by simp [Region.wanted, hg], W⟩, Y, ?_⟩
 exact k Hs ws H _ w (sr.put hv hd) wr Y Z (by cases h : o.dst <;> simpa [St.put, h] using hp) (gm.put (hv.mono Z) hd)
theorem AP.new {O : Array Oper} {M : List Nat} {G : List Ob} {so : Au} {R : St → Prop} {i : Nat} {r : PL} {o : Oper} {x : T} (ho : O[i]? = some o)
  (hy : Yp E.P n σ.slots o x) (hg : o.guard = none) (hd : ∀ d, o.dst = some d → d < n) (k : AP E n C O M G r so (σ.put o.dst x) R) (hf : free so o.dst = true := by rfl) :
  AP E n C O M G (.still i r) so σ R := by
 intro Hs ws H a w sr wr Y hH hp Z
 obtain ⟨v, hv, W⟩ := hy H a Z.sr
 refine ⟨o, v, ho, .inl ⟨by simp [Region.wanted, hg], fun w' _ => W w'⟩, Y, ?_⟩
 exact k Hs ws H _ w (sr.free _ _ hf) wr Y hH (by cases h : o.dst <;> simpa [St.put, h] using hp) (Z.put hv hd)
theorem AP.act {Y : Array Oper} {M : List Nat} {G : List Ob} {so : Au} {R : St → Prop} {i : Nat} {r : PL} {o : Oper} (md : List Nat) (ho : Y[i]? = some o)
  (hg : o.guard = none) (hm : (M.all fun i => !md.contains i) = true) (h : AX E n C md o σ (fun σ' => AP E n C Y M G r so σ' R)) (hf : free so o.dst = true := by rfl) :
  AP E n C Y M G (.act i r) so σ R := by
 intro Hs ws H a w sr wr ag hH hp gm
 have ad : ∀ i, M.contains i = true → md.contains i = false := fun i hi => by
  have := (List.all_eq_true.1 hm) i (by simpa using hi)
  simpa using this
 simp only [Dg, wpOp, ho]
 rw [if_pos (by simp [Region.wanted, hg])]
 refine .inl (Dh ?_ (fun _ _ _ h => h.elim) (h H a w gm))
 rintro a' w' ⟨σ', H', v, hr, aa, ae, ab, ac⟩
 have Z : Jg Hs G ws w' := by
  refine ⟨fun b o hb => aa.held _ _ (ab _ _ (hH _ _ hb)), fun p O b hb => ?_⟩
  obtain ⟨i, hi, W⟩ := hp p O
  exact ((ac i p W (ad i hi)).2 b hb).trans (ag.2 p O b hb)
 refine ⟨Z, hr Hs ws H' a' w' (by rw [ae]; exact sr.free _ _ hf) wr Z (fun b o hb => ab _ _ (hH _ _ hb)) (fun p O => ?_) aa⟩
 obtain ⟨i, hi, W⟩ := hp p O
 exact ⟨i, hi, (ac i p W (ad i hi)).1⟩
def uC := @AP.act
theorem AP.drop {M : Array Oper} {W : List Nat} {O : List Ob} {so : Au} {R : St → Prop} {i : Nat} {r : PL} {o : Oper} (md : List Nat) (hr : r.actsOnly = true) (ho : M[i]? = some o)
  (hg : o.guard = none) (h : AX E n C md o σ (fun σ' => AP E n C M [] [] r [] σ' R)) :
  AP E n C M W O (.drop i r) so σ R := by
 intro Hs ws H a w sr wr ag hH hp gm
 simp only [Dg, wpOp, ho]
 rw [if_pos (by simp [Region.wanted, hg])]
 refine .inl (Dh ?_ (fun _ _ _ h => h.elim) (h H a w gm))
 rintro a' Z ⟨σ', H', v, Y, G, ha', hHH, hfr⟩
 exact Pm r _ a' Z hr (Y H' Z H' a' Z ⟨G.size, fun i x h => by simp [get] at h⟩ ⟨by simp, G.held⟩ ⟨G.held, by simp⟩ (fun _ _ h => h) (by simp) G)
def uR := @AP.drop
theorem AP.skip {G : Array Oper} {W : List Nat} {M : List Ob} {so : Au} {R : St → Prop} {i : Nat} {r : PL} {o : Oper} {j : Nat} {O b : Bool} {t : Tmp} (ho : G[i]? = some o)
  (hg : o.guard = some (j, O)) (hj : (G[j]?).bind (·.dst) = some t) (hs : get σ.slots t = some (.v (.bool b))) (hb : b = !O) (hd : ∀ d, o.dst = some d → d < n)
  (k : AP E n C G W M r so (σ.put o.dst (.v undef)) R) (hf : free so o.dst = true := by rfl) : AP E n C G W M (.still i r) so σ R := by
 intro Hs ws H a w sr wr Y hH hp Z
 have hy := F2 Z.sr hj hs
 have hw : Region.wanted o (yielded G a.tmps) = false := by subst hb; cases O <;> simp [Region.wanted, hg, hy]
 have hk := k Hs ws H _ w (sr.free o.dst undef hf) wr Y hH (by cases h : o.dst <;> simpa [St.put, h] using hp) (Z.put (.v undef) hd)
 exact ⟨o, undef, ho, .inr ⟨hw, rfl⟩, Y, hk⟩
theorem oJ {G : Array Oper} {W : List Nat} {M : List Ob} {so : Au} {R : St → Prop} {i : Nat} {r : PL} {o : Oper} {j : Nat} {O b : Bool} {t : Tmp} (ho : G[i]? = some o)
  (hg : o.guard = some (j, O)) (hj : (G[j]?).bind (·.dst) = some t) (hs : get σ.slots t = some (.v (.bool b))) (hb : b = !O) (hd : ∀ d, o.dst = some d → d < n)
  (k : AP E n C G W M r so (σ.put o.dst (.v undef)) R) (hf : free so o.dst = true := by rfl) : AP E n C G W M (.act i r) so σ R := by
 intro Hs ws H a w sr wr Y hH hp Z
 have hy := F2 Z.sr hj hs
 have hw : Region.wanted o (yielded G a.tmps) = false := by subst hb; cases O <;> simp [Region.wanted, hg, hy]
 have hk := k Hs ws H _ w (sr.free o.dst undef hf) wr Y hH (by cases h : o.dst <;> simpa [St.put, h] using hp) (Z.put (.v undef) hd)
 simp only [Dg, wpOp, ho]
 rw [if_neg (by simp [hw])]
 exact ⟨Y, hk⟩
theorem AP.two {O : Array Oper} {M : List Nat} {G : List Ob} {so : Au} {R : St → Prop} {i j : Nat} {r1 r2 : PL} (h1 : AP E n C O M G (.act i r1) so σ R) (h2 : AP E n C O M G (.act j r2) so σ R) :
  AP E n C O M G (.two i j r1 r2) so σ R :=
 fun Hs ws H a w sr wr W Z hp Y => ⟨h1 Hs ws H a w sr wr W Z hp Y, h2 Hs ws H a w sr wr W Z hp Y⟩
def uQ := @AP.two
theorem AP.three {O : Array Oper} {M : List Nat} {G : List Ob} {so : Au} {R : St → Prop} {i j k : Nat} {r1 r2 r3 : PL} (h1 : AP E n C O M G (.act i r1) so σ R) (h2 : AP E n C O M G (.act j r2) so σ R) (h3 : AP E n C O M G (.act k r3) so σ R) :
  AP E n C O M G (.three i j k r1 r2 r3) so σ R :=
 fun Hs ws H a w sr wr W Z hp Y => ⟨h1 Hs ws H a w sr wr W Z hp Y, h2 Hs ws H a w sr wr W Z hp Y, h3 Hs ws H a w sr wr W Z hp Y⟩
theorem AP.four {O : Array Oper} {M : List Nat} {G : List Ob} {so : Au} {R : St → Prop} {i j k l : Nat} {r1 r2 r3 r4 : PL} (h1 : AP E n C O M G (.act i r1) so σ R) (h2 : AP E n C O M G (.act j r2) so σ R) (h3 : AP E n C O M G (.act k r3) so σ R) (h4 : AP E n C O M G (.act l r4) so σ R) :
  AP E n C O M G (.four i j k l r1 r2 r3 r4) so σ R :=
 fun Hs ws H a w sr wr W Z hp Y => ⟨h1 Hs ws H a w sr wr W Z hp Y, h2 Hs ws H a w sr wr W Z hp Y, h3 Hs ws H a w sr wr W Z hp Y, h4 Hs ws H a w sr wr W Z hp Y⟩
theorem Dd {M : Array Oper} {O : List Nat} {G : List Ob} {so : Au} {R : St → Prop} {i : Nat} {r : PL} {op : Op} {x : T} {j : Nat} {W b : Bool} {t : Tmp}
  (ho : M[i]? = some ⟨dst, op, ty, pos, aft, some (j, W)⟩)
  (hj : (M[j]?).bind (·.dst) = some t) (hs : get σ.slots t = some (.v (.bool b))) (hb : b = W)
  (hy : Yd E.P n so G ⟨dst, op, ty, pos, aft, none⟩ x) (hd : ∀ d, dst = some d → d < n) (k : AP E n C M O G r (Fb so dst x) (σ.put dst x) R) :
  AP E n C M O G (.still i r) so σ R := by
 intro Hs ws H a w sr wr ag hH hp gm
 obtain ⟨v, hv, Y⟩ := hy Hs a ws sr wr
 have Z := F2 gm.sr hj hs
 refine ⟨_, v, ho, .inl ⟨by simp [Region.wanted, Z, hb], Y⟩, ag, ?_⟩
 exact k Hs ws H _ w (sr.put hv hd) wr ag hH (by cases dst <;> simpa [St.put] using hp) (gm.put (hv.mono hH) hd)
theorem qJ {M : Array Oper} {O : List Nat} {G : List Ob} {so : Au} {R : St → Prop} {i : Nat} {r : PL} {op : Op} {x : T} {j : Nat} {W b : Bool} {t : Tmp}
  (ho : M[i]? = some ⟨dst, op, ty, pos, aft, some (j, W)⟩)
  (hj : (M[j]?).bind (·.dst) = some t) (hs : get σ.slots t = some (.v (.bool b))) (hb : b = W)
  (hy : Yp E.P n σ.slots ⟨dst, op, ty, pos, aft, none⟩ x) (hd : ∀ d, dst = some d → d < n) (k : AP E n C M O G r so (σ.put dst x) R) (hf : free so dst = true := by rfl) :
  AP E n C M O G (.still i r) so σ R := by
 intro Hs ws H a w sr wr ag hH hp Z
 obtain ⟨v, hv, Y⟩ := hy H a Z.sr
 have aa := F2 Z.sr hj hs
 refine ⟨_, v, ho, .inl ⟨by simp [Region.wanted, aa, hb], fun w' _ => Y w'⟩, ag, ?_⟩
 exact k Hs ws H _ w (sr.free _ _ hf) wr ag hH (by cases dst <;> simpa [St.put] using hp) (Z.put hv hd)
theorem qK {Y : Array Oper} {M : List Nat} {G : List Ob} {so : Au} {R : St → Prop} {i : Nat} {r : PL} {op : Op} {j : Nat} {O b : Bool} {t : Tmp} (md : List Nat)
  (ho : Y[i]? = some ⟨dst, op, ty, pos, aft, some (j, O)⟩)
  (hj : (Y[j]?).bind (·.dst) = some t) (hs : get σ.slots t = some (.v (.bool b))) (hb : b = O) (hm : (M.all fun i => !md.contains i) = true)
  (h : AX E n C md ⟨dst, op, ty, pos, aft, none⟩ σ (fun σ' => AP E n C Y M G r so σ' R)) (hf : free so dst = true := by rfl) :
  AP E n C Y M G (.act i r) so σ R := by
 intro Hs ws H a w sr wr ag hH hp gm
 have ae : ∀ i, M.contains i = true → md.contains i = false := fun i hi => by
  have := (List.all_eq_true.1 hm) i (by simpa using hi)
  simpa using this
 have ah := F2 gm.sr hj hs
 simp only [Dg, wpOp, ho]
 rw [if_pos (by simp [Region.wanted, ah, hb])]
 have e : ∀ K Q, Oper.wp E.P ⟨dst, op, ty, pos, aft, some (j, O)⟩ a w K Q = Oper.wp E.P ⟨dst, op, ty, pos, aft, none⟩ a w K Q := fun _ _ => rfl
 rw [e]
 refine .inl (Dh ?_ (fun _ _ _ h => h.elim) (h H a w gm))
 rintro a' w' ⟨σ', H', v, hr, ab, af, ac, ad⟩
 have aa : Jg Hs G ws w' := by
  refine ⟨fun b o hb => ab.held _ _ (ac _ _ (hH _ _ hb)), fun p W b hb => ?_⟩
  obtain ⟨i, hi, Z⟩ := hp p W
  exact ((ad i p Z (ae i hi)).2 b hb).trans (ag.2 p W b hb)
 refine ⟨aa, hr Hs ws H' a' w' (by rw [af]; exact sr.free _ _ hf) wr aa (fun b o hb => ac _ _ (hH _ _ hb)) (fun p W => ?_) ab⟩
 obtain ⟨i, hi, Z⟩ := hp p W
 exact ⟨i, hi, (ad i p Z (ae i hi)).1⟩
theorem Gam.drew {H : GH} {a : Act} {w : World} (G : Gam n C σ H a w) : Gam n C σ H a w.drew :=
 { G with
  objs := fun p M => OR.mono (fun _ _ h => h) (fun _ _ => rfl) (G.objs p M)
  held := G.held, heap := G.heap, frame := G.frame }
theorem L8 {id : Nat} {W : Array Oper} {Q : Exit → St → Prop} (pl : PL) (M : List Nat) (G : List Ob) (hB : P9 W pl = true)
  (hp : M.map (fun i => σ.objs[i]?) = G.map some)
  (h : AP E n C W M G pl σ.slots σ (fun σ' => Q .normal σ')) : AW E n C (.region id W true) σ Q := by
 intro H a w gm
 have Z : ∀ p, p ∈ G → ∃ i, M.contains i = true ∧ σ.objs[i]? = some p := by
  intro p O
  have : some p ∈ M.map (fun i => σ.objs[i]?) := by rw [hp]; exact List.mem_map_of_mem O
  obtain ⟨i, hi, he⟩ := List.mem_map.1 this
  exact ⟨i, by simpa using hi, he⟩
 refine Iv (Kg (S := Jg H G w.drew) E.mixed pl hB (Q := fun e a' w' => e = .normal ∧ ∃ σ' H', Q .normal σ' ∧ Gam n C σ' H' a' w') ?_ ?_ ?_) ?_
 ·rintro c a w ⟨h, _⟩; cases h
 ·rintro ⟨a, w, h, _⟩; cases h
 ·have Y := gm.drew
  exact h H w.drew H a w.drew Y.sr ⟨fun p O => by obtain ⟨i, _, he⟩ := Z p O; exact Y.objs p (mg he), Y.held⟩ ⟨Y.held, fun _ _ _ _ => rfl⟩ (fun _ _ h => h) Z Y
 ·rintro e a' w' ⟨rfl, σ', H', q, g'⟩
  exact ⟨σ', H', q, g'⟩
end
def Eh : T → Option (List T)
 | .agg cs => some cs
 | .v x => bif x.oneCell' then some [.v x] else none
 | .list sz es => some [.list sz es]
 | .eptr l => some [.eptr l]
 | .tup _ => none
 | .fn f fs cs => some [.fn f fs cs]
def AR (H : GH) (arr : Array Value) (l : List T) : Prop := arr.size = l.length ∧ ∀ (j : Nat) (x : T), l[j]? = some x → CR H (arr.getD j undef) x
theorem Um {v : Value} (h : v.oneCell' = true) : v.cells = #[v] := by cases v <;> simp_all [Value.cells, Value.oneCell']
theorem AR.one {H : GH} {v : Value} {x : T} (h1 : v.oneCell' = true) (h : VR H v x) : AR H #[v] [x] := by
 refine ⟨rfl, fun j y G => ?_⟩
 cases j with
 | zero => simp at G; subst G; exact ⟨h1, h⟩
 | succ j => simp at G
theorem Hf {H : GH} {v : Value} {y : T} {cs : List T} (h : VR H v y) (hc : Eh y = some cs) : AR H v.cells cs := by
 cases y with
 | v x =>
  have := h.v_eq
  subst this
  simp only [Eh] at hc
  cases ho : v.oneCell' with
  | false => simp [ho] at hc
  | true =>
   simp only [ho, cond_true, Option.some.injEq] at hc
   subst hc
   rw [Um ho]
   exact .one ho h
 | list sz es =>
  simp only [Eh, Option.some.injEq] at hc
  subst hc
  obtain ⟨a, O, rfl⟩ := h.list_slice
  exact .one rfl h
 | agg l =>
  simp only [Eh, Option.some.injEq] at hc
  subst hc
  cases h with
  | agg vs cs hl G hv => exact ⟨hl, fun j x M => ⟨G j x M, hv j x M⟩⟩
 | tup l => simp [Eh] at hc
 | fn f fs cs =>
  simp only [Eh, Option.some.injEq] at hc
  subst hc
  have G : v.oneCell' = true := by cases h; rfl
  rw [Um G]
  exact .one G h
 | eptr l =>
  simp only [Eh, Option.some.injEq] at hc
  subst hc
  obtain ⟨b, o, rfl⟩ := h.eptr_ptr
  exact .one rfl h
theorem AR.all1 {H : GH} {arr : Array Value} {l : List T} (h : AR H arr l) : ∀ v, v ∈ arr.toList → v.oneCell' = true := by
 intro v Z
 obtain ⟨j, Y, O⟩ := List.getElem_of_mem Z
 have G : j < arr.size := by simpa using Y
 have M : j < l.length := by rw [← h.1]; exact G
 have := (h.2 j l[j] (gq M)).1
 have W : arr.getD j undef = v := by
  rw [Array.getD_eq_getD_getElem?, Array.getElem?_eq_getElem G]
  simpa using O
 rwa [W] at this
def E3 : List T → Nat → List T → List T
 | [], _, _ => []
 | e, 0, [] => e
 | _ :: e, 0, c :: cs => c :: E3 e 0 cs
 | x :: e, j + 1, cs => x :: E3 e j cs
theorem Fj : ∀ (l : List T) (j : Nat) (cs : List T), (E3 l j cs).length = l.length
 | [], _, _ => rfl
 | _ :: _, 0, [] => rfl
 | _ :: e, 0, _ :: cs => by simp [E3, Fj e 0 cs]
 | _ :: e, j + 1, cs => by simp [E3, Fj e j cs]
theorem Jx : ∀ (l : List T) (j : Nat) (cs : List T) (i : Nat) (x : T), (E3 l j cs)[i]? = some x →
  (j ≤ i ∧ i < j + cs.length ∧ cs[i - j]? = some x) ∨ ((i < j ∨ j + cs.length ≤ i) ∧ l[i]? = some x)
 | [], _, _, i, x, h => by simp [E3] at h
 | y :: e, 0, [], i, x, h => .inr ⟨by simp, h⟩
 | y :: e, 0, c :: cs, i, x, h => by
  simp only [E3] at h
  cases i with
  | zero => left; simp at h; exact ⟨by omega, by simp, by simp [h]⟩
  | succ i =>
   simp only [List.getElem?_cons_succ] at h
   rcases Jx e 0 cs i x h with ⟨M, G, O⟩ | ⟨M, G⟩
   ·left; exact ⟨by omega, by simp; omega, by simpa using O⟩
   ·right; refine ⟨by simp; omega, by simpa using G⟩
 | y :: e, j + 1, cs, i, x, h => by
  simp only [E3] at h
  cases i with
  | zero => right; simp at h; exact ⟨by omega, by simp [h]⟩
  | succ i =>
   simp only [List.getElem?_cons_succ] at h
   rcases Jx e j cs i x h with ⟨M, G, O⟩ | ⟨M, G⟩
   ·left; exact ⟨by omega, by omega, by rw [show i + 1 - (j + 1) = i - j by omega]; exact O⟩
   ·right; exact ⟨by omega, by simpa using G⟩
section
variable {E : Env} {n : Nat} {C : Ctx} {σ : St} {dst : Option Tmp} {ty : TypeId} {pos : String} {aft : Array Edge} {g : Option (Nat × Bool)}
theorem UsR.lt {H : GH} {w : World} {v : Value} {ty sz : Nat} {es : List (List T)} (h : UsR H w v ty sz es) : ∀ b, b ∈ Hj v → b < w.heap.size := by
 intro b G
 rcases h with ⟨rfl, _⟩ | ⟨W, c, O, rfl, _, _, Y, M, _⟩
 ·simp [Hj] at G
 ·simp [Hj] at G; subst G; exact (Array.getElem?_eq_some_iff.1 M).1
theorem Sc : ∀ {vs : List Value} {L : List (Option (List (List T)))} {b : Nat}, b ∈ D6 vs L → ∃ (i : Nat) (v : Value) (es : List (List T)), vs[i]? = some v ∧ L[i]? = some (some es) ∧ b ∈ Hj v
 | v :: vs, some es :: L, b, h => by
  simp only [D6, List.mem_append] at h
  rcases h with h | h
  ·exact ⟨0, v, es, rfl, rfl, h⟩
  ·obtain ⟨i, v, es, G, M, O⟩ := Sc h
   exact ⟨i + 1, v, es, by simpa using G, by simpa using M, O⟩
 | v :: vs, none :: L, b, h => by
  simp only [D6] at h
  obtain ⟨i, v, es, G, M, O⟩ := Sc h
  exact ⟨i + 1, v, es, by simpa using G, by simpa using M, O⟩
 | [], _, b, h => by simp [D6] at h
 | _ :: _, [], b, h => by simp [D6] at h
theorem OR.lt {H : GH} {w : World} {o : Ob} (h : OR H w o) : ∀ b, b ∈ o.fp → b < w.heap.size := by
 intro b G
 cases o with
 | arr b' ty sz cap M => simp only [Ob.fp, List.mem_singleton] at G; subst G; obtain ⟨cs, O, _⟩ := h; exact (Array.getElem?_eq_some_iff.1 O).1
 | us v ty sz M => exact UsR.lt h b G
 | uss v ty tyi szi vs L =>
  obtain ⟨_, W, Y⟩ := h
  simp only [Ob.fp, List.mem_append] at G
  rcases G with G | G
  ·exact W.lt b G
  ·obtain ⟨i, x, M, Z, q2, q3⟩ := Sc G
   exact (Y i x M Z q2).lt b q3
 | raw b' o => simp only [Ob.fp, List.mem_singleton] at G; subst G; exact (Array.getElem?_eq_some_iff.1 h).1
theorem M1 {α : Type} : ∀ {l : List α} {k : Nat} {x : α}, l[k]? = some x → ∃ G M, l = G ++ x :: M ∧ G.length = k ∧ (∀ y, l.set k y = G ++ y :: M) ∧ l.eraseIdx k = G ++ M
 | [], k, x, h => by simp at h
 | a :: l, 0, x, h => by simp at h; subst h; exact ⟨[], l, rfl, rfl, fun _ => rfl, rfl⟩
 | a :: l, k + 1, x, h => by
  obtain ⟨G, M, O, W, Y, Z⟩ := M1 (l := l) (k := k) (by simpa using h)
  exact ⟨a :: G, M, by rw [O]; rfl, by simp [W], fun y => by simp [Y y], by simp [Z]⟩
theorem Qc {α : Type} {f : α → List Nat} {l : List α} (M : (l.flatMap f).Nodup) {k i : Nat} {p q : α} (W : l[k]? = some p) (hi : l[i]? = some q) (Y : k ≠ i) : ∀ b, b ∈ f p → b ∉ f q := by
 obtain ⟨Z, l2, rfl, h2, _, _⟩ := M1 W
 intro b G O
 rw [List.flatMap_append, List.flatMap_cons, List.nodup_append, List.nodup_append] at M
 obtain ⟨_, ⟨_, _, n2⟩, n3⟩ := M
 rcases Nat.lt_or_ge i k with h | h
 ·rw [List.getElem?_append_left (by omega)] at hi
  exact n3 b (List.mem_flatMap.2 ⟨q, mg hi, O⟩) b (by simp [G]) rfl
 ·rw [List.getElem?_append_right (by omega), show i - Z.length = (i - k - 1) + 1 by omega, List.getElem?_cons_succ] at hi
  exact n2 b G b (List.mem_flatMap.2 ⟨q, mg hi, O⟩) rfl
theorem Yt {α : Type} {f : α → List Nat} {l : List α} (hn : (l.flatMap f).Nodup) {k : Nat} {p q : α} (hk : l[k]? = some p) (hq : (f q).Nodup) (hd : ∀ b, b ∈ f q → b ∈ f p ∨ ∀ x, x ∈ l → b ∉ f x) : ((l.set k q).flatMap f).Nodup := by
 obtain ⟨l1, l2, rfl, h2, h3, _⟩ := M1 hk
 rw [h3]
 rw [List.flatMap_append, List.flatMap_cons, List.nodup_append, List.nodup_append] at hn ⊢
 obtain ⟨n0, ⟨n1, Z, n2⟩, n3⟩ := hn
 refine ⟨n0, ⟨hq, Z, ?_⟩, ?_⟩
 ·intro b W c G M
  subst M
  rcases hd b W with h | h
  ·exact n2 b h b G rfl
  ·obtain ⟨x, Y, O⟩ := List.mem_flatMap.1 G
   exact h x (by simp [Y]) O
 ·intro b W c G M
  subst M
  rcases List.mem_append.1 G with G | G
  ·rcases hd b G with h | h
   ·exact n3 b W b (by simp [h]) rfl
   ·obtain ⟨x, Y, O⟩ := List.mem_flatMap.1 W
    exact h x (by simp [Y]) O
  ·exact n3 b W b (by rw [List.mem_append]; exact .inr G) rfl
theorem Gam.H_lt {H : GH} {a : Act} {w : World} (G : Gam n C σ H a w) {b : Nat} (hb : w.heap.size ≤ b) : H b = none := by
 cases h : H b with
 | none => rfl
 | some o => have := (Array.getElem?_eq_some_iff.1 (G.held b o h)).1; omega
theorem Gam.world {H : GH} {a : Act} {w w' : World} (G : Gam n C σ H a w) {objs : List Ob} (aa : Nat → Prop) (Z : w'.os = w.os ∧ w'.tape = w.tape ∧ w'.output = w.output) (hsz : w.heap.size ≤ w'.heap.size)
  (hk : ∀ k, k < w.heap.size → ¬ aa k → w'.heap[k]? = w.heap[k]?) (ab : ∀ k, aa k → k < w.heap.size → ∃ o, o ∈ σ.objs ∧ k ∈ o.fp)
  (ho : ∀ p, p ∈ objs → (p ∈ σ.objs ∧ ∀ b, b ∈ p.fp → ¬ aa b) ∨ (OR H w' p ∧ ∀ b, b ∈ p.fp → w.heap.size ≤ b ∨ ∃ o, o ∈ σ.objs ∧ b ∈ o.fp))
  (hn : (objs.flatMap Ob.fp).Nodup) : Gam n C ⟨σ.slots, objs⟩ H a w' := by
 have W : ∀ k o, o ∈ σ.objs → k ∈ o.fp → H k = none ∧ (C.w0.heap.size ≤ k ∨ k ∈ C.fp) := fun k o h hk => ⟨G.free _ h k hk, G.new _ h k hk⟩
 refine ⟨G.defers, G.size, G.slots, ?_, ?_, ?_, hn, ?_, G.grow, Nat.le_trans G.heap hsz, ?_, ⟨Z.1.trans G.env.1, Z.2.1.trans G.env.2.1, Z.2.2.trans G.env.2.2⟩⟩
 ·intro p hp
  rcases ho p hp with ⟨h1, M⟩ | ⟨h1, _⟩
  ·have := G.objs p h1
   exact this.mono (fun _ _ h => h) (fun b O => hk _ (this.lt b O) (M b O))
  ·exact h1
 ·intro p hp b O
  rcases ho p hp with ⟨h1, _⟩ | ⟨_, M⟩
  ·exact G.free p h1 b O
  ·rcases M b O with M | ⟨o, M, h3⟩
   ·exact G.H_lt M
   ·exact (W _ _ M h3).1
 ·intro p hp b O
  rcases ho p hp with ⟨h1, _⟩ | ⟨_, M⟩
  ·exact G.new p h1 b O
  ·rcases M b O with M | ⟨o, M, h3⟩
   ·exact .inl (Nat.le_trans G.heap M)
   ·exact (W _ _ M h3).2
 ·intro b o O
  have Y := (Array.getElem?_eq_some_iff.1 (G.held b o O)).1
  have : ¬ aa b := fun hr => by
   obtain ⟨o', h, h'⟩ := ab b hr Y
   rw [(W _ _ h h').1] at O; cases O
  rw [hk b Y this]; exact G.held b o O
 ·intro b O hf
  have Y := Nat.lt_of_lt_of_le O G.heap
  have : ¬ aa b := fun hr => by
   obtain ⟨o', h, h'⟩ := ab b hr Y
   rcases (W _ _ h h').2 with M | M
   ·omega
   ·exact hf M
  rw [hk b Y this]; exact G.frame b O hf
theorem Gam.more {H : GH} {a : Act} {w w' : World} (O : Gam n C σ H a w) {ob : Ob} (G : w'.os = w.os ∧ w'.tape = w.tape ∧ w'.output = w.output) (hsz : w.heap.size ≤ w'.heap.size)
  (hk : ∀ k, k < w.heap.size → w'.heap[k]? = w.heap[k]?) (h : OR H w' ob) (hf : ∀ b, b ∈ ob.fp → w.heap.size ≤ b) (Z : ob.fp.Nodup) : Gam n C ⟨σ.slots, σ.objs ++ [ob]⟩ H a w' := by
 refine O.world (fun _ => False) G hsz (fun k Y _ => hk k Y) (fun _ h => h.elim) ?_ ?_
 ·intro p hp
  rcases List.mem_append.1 hp with M | M
  ·exact .inl ⟨M, fun _ _ h => h⟩
  ·simp only [List.mem_singleton] at M; subst M; exact .inr ⟨h, fun b hb => .inl (hf b hb)⟩
 ·rw [List.flatMap_append, List.nodup_append]
  refine ⟨O.nodup, by simpa using Z, ?_⟩
  intro x hx y hy hxy
  subst hxy
  simp only [List.flatMap_cons, List.flatMap_nil, List.append_nil] at hy
  obtain ⟨p, hp, W⟩ := List.mem_flatMap.1 hx
  have := (O.objs p hp).lt x W
  have := hf x hy
  omega
theorem Gam.alloc {H : GH} {a : Act} {w : World} (G : Gam n C σ H a w) {o : Obj} {ob : Ob} (h : OR H (w.alloc o) ob) (hf : ob.fp = [w.heap.size]) : Gam n C ⟨σ.slots, σ.objs ++ [ob]⟩ H a (w.alloc o) :=
 G.more ⟨rfl, rfl, rfl⟩ (by show w.heap.size ≤ (w.heap.push o).size; simp) (fun k M => heap_alloc_old w o M) h (by rw [hf]; simp) (by rw [hf]; simp)
theorem OR.box {H : GH} {w : World} {t : TypeId} {arr : Array Value} {l : List T} {b : Nat} (h : w.heap[b]? = some (.cells arr t (0, 0))) (M : AR H arr l) : OR H w (.arr b t l.length 1 [l]) := by
 refine ⟨arr, h, by rw [M.1]; omega, by simp, by simp [Ky], ?_, ?_⟩
 ·intro i e G
  cases i with
  | zero => simp at G; subst G; rfl
  | succ i => simp at G
 ·intro i e G j x O
  cases i with
  | zero => simp at G; subst G; simpa using M.2 j x O
  | succ i => simp at G
theorem AX.value {md : List Nat} {o : Oper} {R : St → Prop}
  (h : ∀ H a w, Gam n C σ H a w → ∃ v w' s' H', (execOp a.eval o).run E.P w = .ok (.value v) w' ∧ R s' ∧ Gam n C s' H' (a.put o.dst v) w' ∧ (∀ b o, H b = some o → H' b = some o) ∧
   ∀ i p, σ.objs[i]? = some p → md.contains i = false → s'.objs[i]? = some p ∧ ∀ b, b ∈ p.fp → w'.heap[b]? = w.heap[b]?) : AX E n C md o σ R := by
 intro H a w G
 obtain ⟨v, w', s', H', M, O, W, Y, Z⟩ := h H a w G
 simp only [Oper.wp, M, Oper.upon]
 exact ⟨s', H', v, O, W, rfl, Y, Z⟩
theorem AX.skip {md : List Nat} {o : Oper} {R : St → Prop}
  (h : ∀ H a w, Gam n C σ H a w → ∃ w' s' H', (execOp a.eval o).run E.P w = .ok .skip w' ∧ R s' ∧ Gam n C s' H' (a.put o.dst undef) w' ∧ (∀ b o, H b = some o → H' b = some o) ∧
   ∀ i p, σ.objs[i]? = some p → md.contains i = false → s'.objs[i]? = some p ∧ ∀ b, b ∈ p.fp → w'.heap[b]? = w.heap[b]?) : AX E n C md o σ R := by
 intro H a w G
 obtain ⟨w', s', H', M, O, W, Y, Z⟩ := h H a w G
 simp only [Oper.wp, M, Oper.upon]
 exact ⟨s', H', undef, O, W, rfl, Y, Z⟩
theorem Fs {objs : List Ob} {x : Ob} {i : Nat} {p : Ob} (h : objs[i]? = some p) : (objs ++ [x])[i]? = some p := by
 rw [List.getElem?_append_left (gs h).1]; exact h
theorem AX.alloc {t : TypeId} {ti : TI} {z : Value} {cs : List T} {R : St → Prop} (ht : E.tab t = some ti) (hz : ti.zero = some z) (hc : z.cells.toList.map T.v = cs) (h1 : z.cells.toList.all (·.oneCell') = true) {m : Nat} (hm : cs.length = m)
  (hd : ∀ d, dst = some d → d < n) (k : ∀ b, R ⟨Fb σ.slots dst (.v (.pointer (some ⟨b, 0, none⟩))), σ.objs ++ [(.arr b t m 1 [cs])]⟩) :
  AX E n C [] ⟨dst, .alloc t, ty, pos, aft, g⟩ σ R := by
 refine AX.value fun H a w W => ?_
 have M : AR H z.cells cs := by
  subst hc
  refine ⟨by simp, fun j x hx => ?_⟩
  simp only [List.getElem?_map, Option.map_eq_some_iff] at hx
  obtain ⟨v, Z, rfl⟩ := hx
  have O : z.cells.getD j undef = v := by
   rw [Array.getD_eq_getD_getElem?, ← Array.getElem?_toList, Z]; rfl
  rw [O]
  exact ⟨List.all_eq_true.1 h1 v (mg Z), .v v⟩
 have G : OR H (w.alloc (.cells z.cells t)) (.arr w.heap.size t cs.length 1 [cs]) := OR.box (heap_alloc_new w _) M
 rw [hm] at G
 refine ⟨.pointer (some ⟨w.heap.size, 0, none⟩), w.alloc (.cells z.cells t), _, H, ?_, k w.heap.size, ?_, fun _ _ h => h, ?_⟩
 ·simp [execOp, Instr.alloc, F5 (E.ok _ _ ht) w hz, newVar, newRow]
 ·have := (W.alloc G rfl).put (dst := dst) (.v (.pointer (some ⟨w.heap.size, 0, none⟩))) hd
  cases dst <;> exact this
 ·intro i p Y _
  exact ⟨Fs Y, fun b hb => heap_alloc_old w _ ((W.objs p (mg Y)).lt b hb)⟩
theorem AX.box {t : TypeId} {x : Operand} {y : T} {cs : List T} {R : St → Prop} (hx : A7 σ.slots x = some y) (hc : Eh y = some cs) {m : Nat} (hm : cs.length = m)
  (Z : ∀ d, dst = some d → d < n) (k : ∀ b, R ⟨Fb σ.slots dst (.v (.pointer (some ⟨b, 0, none⟩))), σ.objs ++ [(.arr b t m 1 [cs])]⟩) :
  AX E n C [] ⟨dst, .box t x, ty, pos, aft, g⟩ σ R := by
 refine AX.value fun H a w M => ?_
 have O := Hf (M.sr.eval hx) hc
 have G : OR H (w.alloc (.cells (a.eval x).cells t)) (.arr w.heap.size t cs.length 1 [cs]) := OR.box (heap_alloc_new w _) O
 rw [hm] at G
 refine ⟨.pointer (some ⟨w.heap.size, 0, none⟩), w.alloc (.cells (a.eval x).cells t), _, H, ?_, k w.heap.size, ?_, fun _ _ h => h, ?_⟩
 ·simp [execOp, Instr.box, newVar, newRow]
 ·have := (M.alloc G rfl).put (dst := dst) (.v (.pointer (some ⟨w.heap.size, 0, none⟩))) Z
  cases dst <;> exact this
 ·intro i p W _
  exact ⟨Fs W, fun b Y => heap_alloc_old w _ ((M.objs p (mg W)).lt b Y)⟩
theorem Ia {objs : List Ob} {k i : Nat} {x p : Ob} (h : objs[i]? = some p) (hi : k ≠ i) : (objs.set k x)[i]? = some p := by
 rw [List.getElem?_set_ne hi]; exact h
theorem Gam.set {H : GH} {a : Act} {w w' : World} (Z : Gam n C σ H a w) {k : Nat} {o o' : Ob} (hk : σ.objs[k]? = some o) (W : w'.os = w.os ∧ w'.tape = w.tape ∧ w'.output = w.output) (hsz : w.heap.size ≤ w'.heap.size)
  (hot : ∀ i, i < w.heap.size → i ∉ o.fp → w'.heap[i]? = w.heap[i]?) (hor : OR H w' o') (Y : ∀ b, b ∈ o'.fp → w.heap.size ≤ b ∨ b ∈ o.fp) (hnd : o'.fp.Nodup) : Gam n C ⟨σ.slots, σ.objs.set k o'⟩ H a w' := by
 have hm := mg hk
 refine Z.world (fun i => i ∈ o.fp) W hsz hot (fun i hi _ => ⟨o, hm, hi⟩) ?_ ?_
 ·intro p hp
  obtain ⟨i, hi, he⟩ := List.getElem_of_mem hp
  have G : (σ.objs.set k o')[i]? = some p := by rw [gq hi, he]
  by_cases M : k = i
  ·subst M
   rw [List.getElem?_set_self (gs hk).1] at G
   cases G
   exact .inr ⟨hor, fun b O => (Y b O).imp id (fun h => ⟨o, hm, h⟩)⟩
  ·rw [List.getElem?_set_ne M] at G
   exact .inl ⟨mg G, fun b O hb' => Qc Z.nodup hk G M b hb' O⟩
 ·refine Yt Z.nodup hk hnd (fun b O => ?_)
  rcases Y b O with h | h
  ·exact .inr fun x hx hbx => by have := (Z.objs x hx).lt b hbx; omega
  ·exact .inl h
theorem Gam.apart {H : GH} {a : Act} {w : World} (M : Gam n C σ H a w) {k i : Nat} {p q : Ob} (O : σ.objs[k]? = some p) (hi : σ.objs[i]? = some q) (G : k ≠ i) : ∀ b, b ∈ q.fp → b ∉ p.fp :=
 fun b Y W => Qc M.nodup O hi G b W Y
theorem Kd (w : World) (g : Nat) (cs : Array Value) : (w.setRow g cs).heap.size = w.heap.size := by simp [World.setRow]
theorem Jy {G : Array Value} {vs : List Value} {o i : Nat} (hl : o + vs.length ≤ G.size) :
  ((G.toList.take o ++ vs ++ G.toList.drop (o + vs.length)).toArray).getD i undef = if o ≤ i ∧ i < o + vs.length then vs.getD (i - o) undef else G.getD i undef := by
 simp only [Array.getD_eq_getD_getElem?, List.getElem?_toArray, List.getElem?_append, List.length_append, List.length_take, Array.length_toList, List.getElem?_drop, List.getElem?_take, Array.getElem?_toList, List.getD]
 by_cases M : i < o
 ·have : min o G.size = o := by omega
  simp [this, M, show i < o + vs.length by omega, show ¬ o ≤ i by omega]
 ·have : min o G.size = o := by omega
  by_cases O : i < o + vs.length
  ·simp [this, M, O, show o ≤ i by omega]
  ·simp [this, M, O, show o + vs.length + (i - (o + vs.length)) = i by omega]
theorem L1 {H : GH} {a : Act} {w : World} {s : Au} (r : SR n s H a) {t : TypeId} {x y : Operand} {ti : TI} {c : T} {cs : List T} {b off tt sz cap : Nat} {es : List (List T)} (i j : Nat) {e : List T}
  (ht : E.tab t = some ti) (hx : A7 s x = some (.v (.pointer (some ⟨b, off, none⟩)))) (hor : ArrR H w b tt sz cap es) (he : es[i]? = some e) (ho : off = i * sz + j)
  (hy : A7 s y = some c) (hc : Eh c = some cs) (hsz : ti.size = cs.length) (hj : j + cs.length ≤ e.length) :
  ∃ w', (execOp a.eval ⟨none, .store t x y, ty, pos, aft, g⟩).run E.P w = .ok .skip w' ∧ ArrR H w' b tt sz cap (es.set i (E3 e j cs)) ∧ (w'.os = w.os ∧ w'.tape = w.tape ∧ w'.output = w.output) ∧ w'.heap.size = w.heap.size ∧
   ∀ i, i ≠ b → w'.heap[i]? = w.heap[i]? := by
 obtain ⟨O, a1, a2, a3, a4, a5, a6⟩ := hor
 have W := Hf (r.eval hy) hc
 have hil := (gs he).1
 have hel := a5 i e he
 have hmul : (i + 1) * sz ≤ cap * sz := Nat.mul_le_mul_right _ (by omega)
 rw [Nat.succ_mul] at hmul
 have M : (a.eval y).cells.toList.length = cs.length := by simpa using W.1
 have Z := run_storeCells_at (P := E.P) b off tt (a.eval y).cells.toList 0 O w a1 (by rw [M]; omega) W.all1
 simp only [Nat.add_zero] at Z
 refine ⟨w.setRow b (O.toList.take off ++ (a.eval y).cells.toList ++ O.toList.drop (off + (a.eval y).cells.toList.length)).toArray, ?_, ?_, ⟨rfl, rfl, rfl⟩, Kd _ _ _, fun i hi => setRow_other w b i _ hi⟩
 ·simp [execOp, Instr.storeAt, Instr.sureAddr, r.evalv hx, storeVar, Ch (E.ok _ _ ht), hsz, show (a.eval y).cells.size = cs.length from W.1] at Z ⊢
  simp [Z]
 ·refine ⟨_, setRow_heap w b O _ tt _ a1, ?_, by simpa using a3, by simpa using a4, ?_, ?_⟩
  ·simp only [List.size_toArray, List.length_append, List.length_take, List.length_drop, Array.length_toList, M]
   omega
  ·intro i' e' G
   rw [List.getElem?_set] at G
   split at G
   ·simp only [hil, if_true, Option.some.injEq] at G
    subst G; rw [Fj]; exact hel
   ·exact a5 i' e' G
  ·intro i' e' G j' x' aa
   rw [Jy (by rw [M]; omega)]
   rw [List.getElem?_set] at G
   split at G
   ·rename_i Y
    subst Y
    simp only [hil, if_true, Option.some.injEq] at G
    subst G
    rcases Jx e j cs j' x' aa with ⟨q1, q2, q3⟩ | ⟨q1, q2⟩
    ·rw [if_pos (by rw [M]; omega)]
     have := W.2 _ _ q3
     rw [show i * sz + j' - off = j' - j by omega]
     rw [Array.getD_eq_getD_getElem?, ← Array.getElem?_toList] at this
     simpa [List.getD] using this
    ·rw [if_neg (by rw [M]; omega)]
     exact a6 i e he j' x' q2
   ·rename_i Y
    have hj'l := (gs aa).1
    have hel' := a5 i' e' G
    rw [if_neg ?_]
    ·exact a6 i' e' G j' x' aa
    ·rw [M]
     rintro ⟨q1, q2⟩
     rcases Nat.lt_or_gt_of_ne Y with h | h
     ·have : (i + 1) * sz ≤ i' * sz := Nat.mul_le_mul_right _ h
      rw [Nat.succ_mul] at this; omega
     ·have : (i' + 1) * sz ≤ i * sz := Nat.mul_le_mul_right _ h
      rw [Nat.succ_mul] at this; omega
theorem AX.store (k : Nat) {t : TypeId} {x y : Operand} {ti : TI} {c : T} {cs : List T} {b off tt sz cap : Nat} {es es' : List (List T)} (i j : Nat) {e : List T} {R : St → Prop}
  (ht : E.tab t = some ti) (hx : A7 σ.slots x = some (.v (.pointer (some ⟨b, off, none⟩)))) (Y : σ.objs[k]? = some (.arr b tt sz cap es)) (he : es[i]? = some e) (ho : off = i * sz + j)
  (hy : A7 σ.slots y = some c) (hc : Eh c = some cs) (hsz : ti.size = cs.length) (hj : j + cs.length ≤ e.length) (hd : dst = none) (W : es.set i (E3 e j cs) = es')
  (kk : R ⟨σ.slots, σ.objs.set k (.arr b tt sz cap es')⟩) :
  AX E n C [k] ⟨dst, .store t x y, ty, pos, aft, g⟩ σ R := by
 subst hd
 subst W
 refine AX.skip fun H a w M => ?_
 obtain ⟨w', h1, h2, h3, h4, h5⟩ := L1 (ty := ty) (pos := pos) (aft := aft) (g := g) M.sr i j ht hx (M.objs _ (mg Y)) he ho hy hc hsz hj
 refine ⟨w', _, H, h1, kk, ?_, fun _ _ h => h, fun i' p hp hm => ?_⟩
 ·exact M.set Y h3 (by omega) (fun i _ hi => h5 i (by simpa [Ob.fp] using hi)) h2 (fun b hb => .inr hb) (by simp [Ob.fp])
 ·have G : k ≠ i' := fun h => by subst h; simp at hm
  exact ⟨Ia hp G, fun Z O => h5 Z (fun h => M.apart Y hp G Z O (by simp [Ob.fp, h]))⟩
def uL := @AX.store
theorem Zg {H : GH} {w : World} {v : Value} {tt sz : Nat} {es es' : List (List T)} {c cap : Nat} (hv : v = .slice (some ⟨T4 v, 0, none⟩) es.length c) (h1 : es.length ≤ c) (h2 : c ≤ cap) (hl : es'.length = es.length)
  (h : ArrR H w (T4 v) tt sz cap es') : UsR H w v tt sz es' :=
 .inr ⟨T4 v, c, cap, by rw [hl]; exact hv, by omega, h2, h⟩
theorem Bd (k : Nat) {t : TypeId} {x y : Operand} {ti : TI} {c : T} {cs : List T} {v : Value} {off tt sz : Nat} {es es' : List (List T)} (i j : Nat) {e : List T} {R : St → Prop}
  (ht : E.tab t = some ti) (hx : A7 σ.slots x = some (.v (.pointer (some ⟨T4 v, off, none⟩)))) (Y : σ.objs[k]? = some (.us v tt sz es)) (he : es[i]? = some e) (ho : off = i * sz + j)
  (hy : A7 σ.slots y = some c) (hc : Eh c = some cs) (hsz : ti.size = cs.length) (hj : j + cs.length ≤ e.length) (hd : dst = none) (W : es.set i (E3 e j cs) = es')
  (kk : R ⟨σ.slots, σ.objs.set k (.us v tt sz es')⟩) :
  AX E n C [k] ⟨dst, .store t x y, ty, pos, aft, g⟩ σ R := by
 subst hd
 subst W
 refine AX.skip fun H a w M => ?_
 have Z : UsR H w v tt sz es := M.objs _ (mg Y)
 obtain ⟨c', cap, hv, q1, q2, q3, q4⟩ := Z.arr he
 obtain ⟨w', h1, h2, h3, h4, h5⟩ := L1 (ty := ty) (pos := pos) (aft := aft) (g := g) M.sr i j ht hx q3 he ho hy hc hsz hj
 refine ⟨w', _, H, h1, kk, ?_, fun _ _ h => h, fun i' p hp hm => ?_⟩
 ·exact M.set Y h3 (by omega) (fun i _ hi => h5 i (by simpa [Ob.fp, q4] using hi)) (Zg hv q1 q2 (by simp) h2) (fun b hb => .inr hb) (by simp [Ob.fp, q4])
 ·have G : k ≠ i' := fun h => by subst h; simp at hm
  exact ⟨Ia hp G, fun b' O => h5 b' (fun h => M.apart Y hp G b' O (by simp [Ob.fp, q4, h]))⟩
end
end Go.Aw
