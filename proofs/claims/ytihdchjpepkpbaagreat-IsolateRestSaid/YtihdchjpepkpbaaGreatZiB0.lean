/- A program logic over the model. No condition. -/
import Derived.OrdersHeld
import Derived.Laws.Cells
import Derived.WalkKit
import Derived.RangeFuncLeaves
import Derived.RangeFuncRecord
import Derived.RangeFuncCalls
import Derived.OrdersIn
import Derived.Scope
import Derived.Laws.MakeOwn
import Derived.Laws.CopyRow
import Derived.Laws.AppendOwn
import Derived.Laws.AppendOwnNone
set_option maxRecDepth 100000
namespace Go.Aw
abbrev Li := List Int
theorem gs {α : Type _} {l : List α} {i : Nat} {a : α} (h : l[i]? = some a) : ∃ w : i < l.length, l[i] = a := List.getElem?_eq_some_iff.1 h
theorem gq {α : Type _} {l : List α} {i : Nat} (h : i < l.length) : l[i]? = some l[i] := List.getElem?_eq_getElem h
theorem mg {α : Type _} {l : List α} {i : Nat} {a : α} (h : l[i]? = some a) : a ∈ l := List.mem_of_getElem? h
theorem nq {a b : Nat} (h : Nat.beq a b = true) : a = b := Nat.eq_of_beq_eq_true h
set_option linter.unusedVariables false
set_option linter.defProp false
set_option linter.unusedSimpArgs false
def Ec : Option Nat → Fence
 | none => Fence.wide
 | some l => Fence.wide.inRound l
def Km : Op → Bool
 | .defer _ => false
 | _ => true
def nd : Code → Bool
 | .region _ ops _ => ops.toList.all fun o => Km o.op
 | .seq a b => nd a && nd b
 | .cond _ a b => nd a && nd b
 | .block _ c => nd c
 | .loop c => nd c
 | .scope _ => false
 | .rangeFunc .. => false
 | _ => true
theorem Lh (ro : Option Nat) (f : FuncId) : (Ec ro).fn f := by cases ro <;> trivial
theorem Kb (ro : Option Nat) : (Ec ro).depth = none := by cases ro <;> rfl
theorem Ht {ro : Option Nat} {m : Nat} {P : Program} {f : FuncId} {args : Array Value} {w : World} {R : Ending → World → Prop} (h : Calls P f args w R) : CallsIn (Ec ro) m P f args w R := by
 have G : CallsIn Fence.wide m P f args w R := callsIn_wide.2 h
 cases ro with
 | none => exact G
 | some l => exact G
theorem Ig {ro : Option Nat} {m : Nat} {P : Program} {G : String} {args : Array Value} {w : World} {R : Value → World → Prop} (h : Rows P G args w R) : RowsIn (Ec ro) m P G args w R := by
 intro c M _
 obtain ⟨v, O, r, s⟩ := h c M
 refine ⟨v, O, r, ?_⟩
 have := (stepsIn_wide (P := P)).2 s
 cases ro with
 | none => exact this
 | some l => exact this
theorem eC {ro : Option Nat} {m : Nat} {P : Program} {o : Oper} {a : Act} {w : World} {K : Act → World → Prop} {Q : Exit → Act → World → Prop} (M : Km o.op = true) (h : o.wp P a w K Q) : o.wpIn (Ec ro) m P a w K Q := by
 refine ⟨fun f _ => Lh ro f, ?_⟩
 have e : Oper.semAt (Ec ro).round a.eval o = execOp a.eval o := Oper.semAt_eq _ _ _ (fun c O => by rw [O] at M; simp [Km] at M)
 rw [e]
 unfold Oper.wp at h
 generalize (execOp a.eval o).run P w = r at h
 cases r with
 | ok x w' =>
  cases x <;> simp only [Oper.upon, Oper.uponIn] at h ⊢ <;>
   first
    | exact h
    | exact h.elim
    | exact ⟨fun G => (by rw [Kb] at G; cases G), Ht h⟩
    | exact ⟨fun G => (by rw [Kb] at G; cases G), Ig h⟩
 | halt x w' => cases x <;> simp only [Oper.upon, Oper.uponIn] at h ⊢ <;> first | exact h | exact h.elim
theorem Pv {m : Nat} {P : Program} {o : Oper} {a : Act} {w : World} {K : Act → World → Prop} {Q : Exit → Act → World → Prop} (h : o.wp P a w K Q) : o.wpIn (Ec none) m P a w K Q := by
 refine ⟨fun f _ => trivial, ?_⟩
 change o.uponIn (Ec none) m P a K Q ((execOp a.eval o).run P w)
 unfold Oper.wp at h
 generalize (execOp a.eval o).run P w = r at h
 cases r with
 | ok x w' =>
  cases x <;> simp only [Oper.upon, Oper.uponIn] at h ⊢ <;>
   first
    | exact h
    | exact h.elim
    | exact ⟨fun G => (by cases G), Ht h⟩
    | exact ⟨fun G => (by cases G), Ig h⟩
 | halt x w' => cases x <;> simp only [Oper.upon, Oper.uponIn] at h ⊢ <;> first | exact h | exact h.elim
theorem Wx {l : Nat} {m : Nat} {P : Program} {o : Oper} {a : Act} {w : World} {K : Act → World → Prop} {Q : Exit → Act → World → Prop} (G : Km o.op = true) (h : o.wpIn Fence.wide m P a w K Q) : o.wpIn (Ec (some l)) m P a w K Q := by
 refine ⟨fun f _ => trivial, ?_⟩
 have e : Oper.semAt (Ec (some l)).round a.eval o = Oper.semAt Fence.wide.round a.eval o := (Oper.semAt_eq _ _ _ (fun c M => by rw [M] at G; simp [Km] at G)).trans (Oper.semAt_eq _ _ _ (fun c M => by rw [M] at G; simp [Km] at G)).symm
 rw [e]
 exact h.2
theorem G4 {F : Fence} {m : Nat} {P : Program} {o : Oper} {a : Act} {w : World} {K K' : Act → World → Prop} {Q Q' : Exit → Act → World → Prop}
  (h : ∀ a w, K a w → K' a w) (O : ∀ e a w, Q e a w → Q' e a w) (G : o.wpIn F m P a w K Q) : o.wpIn F m P a w K' Q' := by
 refine ⟨G.1, ?_⟩
 have G := G.2
 generalize (o.semAt F.round a.eval).run P w = r at *
 have X : LetsOut Q → LetsOut Q' := fun ⟨a, w, h⟩ => ⟨a, w, O _ _ _ h⟩
 cases r with
 | ok x w' =>
  cases x <;> simp only [Oper.uponIn] at G ⊢ <;>
   first
    | exact h _ _ G
    | exact ⟨G.1, CallsIn.mono G.2 (fun e W M => by cases e <;> first | exact h _ _ M | exact O _ _ _ M | exact X M)⟩
    | exact ⟨G.1, RowsIn.mono G.2 (fun _ _ M => h _ _ M)⟩
    | exact ⟨G.1, RoundIn.mono G.2 (fun e W M => by cases e <;> first | exact h _ _ M | exact O _ _ _ M | exact X M)⟩
    | exact G.elim
 | halt x w' => cases x <;> simp only [Oper.uponIn] at G ⊢ <;> first | exact O _ _ _ G | exact G.elim
theorem gR {G : Array Oper} (M : G.toList.all (fun o => Km o.op) = true) {i : Nat} {o : Oper} (O : G[i]? = some o) : Km o.op = true :=
 List.all_eq_true.1 M o (Array.mem_toList_iff.2 (Array.mem_of_getElem? O))
theorem dV {ro : Option Nat} {m : Nat} {P : Program} {G : Array Oper} {Q : Exit → Act → World → Prop} (W : G.toList.all (fun o => Km o.op) = true) (O : ¬ LetsOut Q) {i : Nat} {K : Act → World → Prop} {a : Act} {w : World}
  (h : wpOp P G Q i K a w) : wpOpIn (Ec ro) m P G Q i K a w := by
 unfold wpOp at h
 unfold wpOpIn
 cases ho : G[i]? with
 | none => rw [ho] at h; exact h
 | some o =>
  rw [ho] at h
  have X := gR W ho
  simp only [] at h ⊢
  split at h
  ·rename_i M
   rw [if_pos M]
   rcases h with h | ⟨_, h⟩
   ·exact eC X h
   ·exact absurd h O
  ·rename_i M
   rw [if_neg M]
   exact ⟨fun f _ => Lh ro f, h⟩
theorem gY {ro : Option Nat} {m : Nat} {P : Program} {md : Region.Mode} {O : Array Oper} {Q : Exit → Act → World → Prop} (X : O.toList.all (fun o => Km o.op) = true) (W : ¬ LetsOut Q) : ∀ (M : Nat) (G : Array Bool) (a : Act) (w : World),
  wpAny P md O Q M G a w → wpAnyIn (Ec ro) m P md O Q M G a w := by
 intro M
 induction M with
 | zero => intro G a w h; exact h
 | succ M ih =>
  intro G a w h
  exact ⟨h.1, fun i Y => wpOpIn_mono (fun a w h => ih _ a w h) (dV X W (h.2 i Y))⟩
theorem Pe {ro : Option Nat} {m : Nat} {P : Program} {id : Nat} {G : Array Oper} {Q : Exit → Act → World → Prop} {a : Act} {w : World} (W : P.follows .mixedOrders = true) (O : G.toList.all (fun o => Km o.op) = true) (M : ¬ LetsOut Q)
  (h : wpAny P .any G Q G.size (Array.replicate G.size false) a { w with drawn := w.drawn + 1 }) : (Code.region id G true).wpIn (Ec ro) m P Q a w :=
 wpIn_region_any W (gY O M _ _ _ _ h)
def cw (c : Code) (P : Program) (Q : Exit → Act → World → Prop) (a : Act) (w : World) : Prop := ∀ ro : Option Nat, (ro.isSome = true → nd c = true) → c.wpIn (Ec ro) 0 P Q a w
section
variable {P : Program} {Q : Exit → Act → World → Prop} {a : Act} {w : World}
theorem cw.wp {c : Code} (h : cw c P Q a w) : c.wp P Q a w := wpIn_wide.1 (h none (fun h => by cases h))
theorem H3 {c : Code} {Q' : Exit → Act → World → Prop} (h : cw c P Q a w) (M : ∀ e a w, Q e a w → Q' e a w) : cw c P Q' a w := fun ro G => wpIn_mono (h ro G) M
theorem eO (h : Q .normal a w) : cw .skip P Q a w := fun _ _ => wpIn_skip h
theorem bM {l : Nat} (h : Q .normal a w) : cw (.label l) P Q a w := fun _ _ => wpIn_label h
theorem eQ {id : Nat} (h : Q (.exit id) a w) : cw (.exit id) P Q a w := fun _ _ => wpIn_exit h
theorem gW (h : Q .ret a w) : cw .ret P Q a w := fun _ _ => wpIn_ret h
theorem gV {x y : Code} (h : cw x P (Exit.then (cw y P Q) Q) a w) : cw (.seq x y) P Q a w := fun ro M =>
 wpIn_seq (wpIn_mono (h ro (fun G => (Bool.and_eq_true_iff.1 (M G)).1)) fun e a w q => by
  cases e with
  | normal => exact q ro (fun G => (Bool.and_eq_true_iff.1 (M G)).2)
  | _ => exact q)
theorem Pl {c : Operand} {x y : Code} {t : Bool} (hc : a.eval c = .bool t) (O : t = true → cw x P Q a w) (hf : t = false → cw y P Q a w) : cw (.cond c x y) P Q a w := fun ro M =>
 wpIn_cond_split hc (fun h => O h ro (fun G => (Bool.and_eq_true_iff.1 (M G)).1)) (fun h => hf h ro (fun G => (Bool.and_eq_true_iff.1 (M G)).2))
theorem bN {id : Nat} {c : Code} (h : cw c P (Exit.inBlock id Q) a w) : cw (.block id c) P Q a w := fun ro G => wpIn_block (h ro G)
theorem eP {c : Code} (I : Act → World → Prop) (μ : Act → World → Nat) (h₀ : I a w)
  (G : ∀ a w, I a w → cw c P (Exit.then (fun a' w' => I a' w' ∧ μ a' w' < μ a w) Q) a w) : cw (.loop c) P Q a w := fun ro M =>
 wpIn_loop I μ h₀ fun a w hi => G a w hi ro M
theorem Ki {c : Code} (h : cw c P (Exit.noGoto Q) a w) : cw (.scope c) P Q a w := fun ro G => by
 cases ro with
 | none => exact wpIn_wide.2 (wp_scope_straight h.wp)
 | some l => exact absurd (G rfl) (by simp [nd])
end
inductive T where
 | v (x : Value)
 | list (sz : Nat) (es : List (List T))
 | agg (cs : List T)
 | tup (cs : List T)
 | eptr (cs : List T)
 | fn (f : FuncId) (first caps : List T)
 deriving Inhabited
abbrev GH := Nat → Option Obj
def G6 : Nat := 140737488355328
inductive VR (H : GH) : Value → T → Prop
 | v (x : Value) : VR H x (.v x)
 | empty (a : Option Addr) (cap sz : Nat) : VR H (.slice a 0 cap) (.list sz [])
 | list (b off cap sz : Nat) (es : List (List T)) (cs : Array Value) (ty : TypeId) (fr : Nat × Nat)
   (hb : H b = some (.cells cs ty fr)) (hcap : es.length ≤ cap) (hmax : es.length ≤ G6) (hsz : off + es.length * sz ≤ cs.size)
   (hel : ∀ (i : Nat) (e : List T), es[i]? = some e → e.length = sz)
   (h1 : ∀ (i : Nat) (e : List T), es[i]? = some e → ∀ (j : Nat) (x : T), e[j]? = some x → (cs.getD (off + i * sz + j) undef).oneCell' = true)
   (hv : ∀ (i : Nat) (e : List T), es[i]? = some e → ∀ (j : Nat) (x : T), e[j]? = some x → VR H (cs.getD (off + i * sz + j) undef) x) :
   VR H (.slice (some ⟨b, off, none⟩) es.length cap) (.list sz es)
 | agg (vs : Array Value) (cs : List T) (hl : vs.size = cs.length)
   (h1 : ∀ (j : Nat) (x : T), cs[j]? = some x → (vs.getD j undef).oneCell' = true)
   (hv : ∀ (j : Nat) (x : T), cs[j]? = some x → VR H (vs.getD j undef) x) : VR H (.agg vs) (.agg cs)
 | tup (vs : Array Value) (cs : List T) (hl : vs.size = cs.length)
   (hv : ∀ (j : Nat) (x : T), cs[j]? = some x → VR H (vs.getD j undef) x) : VR H (.tuple vs) (.tup cs)
 | eptr (b off : Nat) (l : List T) (cs : Array Value) (ty : TypeId) (fr : Nat × Nat)
   (hb : H b = some (.cells cs ty fr)) (hsz : off + l.length ≤ cs.size)
   (h1 : ∀ (j : Nat) (x : T), l[j]? = some x → (cs.getD (off + j) undef).oneCell' = true)
   (hv : ∀ (j : Nat) (x : T), l[j]? = some x → VR H (cs.getD (off + j) undef) x) : VR H (.pointer (some ⟨b, off, none⟩)) (.eptr l)
 | fn (f : FuncId) (vf vc : Array Value) (fs cs : List T) (hf : vf.size = fs.length) (hc : vc.size = cs.length)
   (h1 : ∀ (j : Nat) (x : T), fs[j]? = some x → VR H (vf.getD j undef) x) (h2 : ∀ (j : Nat) (x : T), cs[j]? = some x → VR H (vc.getD j undef) x) :
   VR H (.func (.func f) vf vc) (.fn f fs cs)
theorem VR.monoC {H H' : GH} (G : ∀ b cs ty fr, H b = some (.cells cs ty fr) → H' b = some (.cells cs ty fr)) {v : Value} {x : T} (h : VR H v x) : VR H' v x := by
 induction h with
 | v x => exact .v x
 | empty a cap sz => exact .empty a cap sz
 | list b off cap sz es cs ty fr hb hcap hmax hsz hel h1 hv ih => exact .list b off cap sz es cs ty fr (G _ _ _ _ hb) hcap hmax hsz hel h1 ih
 | agg vs cs hl h1 hv ih => exact .agg vs cs hl h1 ih
 | tup vs cs hl hv ih => exact .tup vs cs hl ih
 | eptr b off l cs ty fr hb hsz h1 hv ih => exact .eptr b off l cs ty fr (G _ _ _ _ hb) hsz h1 ih
 | fn f vf vc fs cs hf hc h1 h2 ih1 ih2 => exact .fn f vf vc fs cs hf hc ih1 ih2
theorem VR.mono {H H' : GH} (G : ∀ b o, H b = some o → H' b = some o) {v : Value} {x : T} (h : VR H v x) : VR H' v x := h.monoC fun _ _ _ _ => G _ _
theorem VR.v_eq {H : GH} {v x : Value} (h : VR H v (.v x)) : v = x := by cases h; rfl
def Gq : Value → List Nat
 | .slice (some a) _ _ => [a.block]
 | _ => []
def Qx : Value → Nat
 | .slice (some a) _ _ => a.block
 | _ => 0
inductive Ob where
 | arr (b : Nat) (ty : TypeId) (sz cap : Nat) (es : List (List T))
 | us (v : Value) (ty : TypeId) (sz : Nat) (es : List (List T))
 | uss (v : Value) (ty tyi : TypeId) (szi : Nat) (vs : List Value) (L : List (Option (List (List T))))
 | raw (b : Nat) (o : Obj)
def D7 : List Value → List (Option (List (List T))) → List Nat
 | v :: vs, some _ :: L => Gq v ++ D7 vs L
 | _ :: vs, none :: L => D7 vs L
 | _, _ => []
def Ob.fp : Ob → List Nat
 | .arr b .. => [b]
 | .us v .. => Gq v
 | .uss v _ _ _ vs L => Gq v ++ D7 vs L
 | .raw b _ => [b]
def CR (H : GH) (v : Value) (x : T) : Prop := v.oneCell' = true ∧ VR H v x
def ArrR (H : GH) (w : World) (b : Nat) (ty : TypeId) (sz cap : Nat) (es : List (List T)) : Prop :=
 ∃ G : Array Value, w.heap[b]? = some (.cells G ty (0, 0)) ∧ G.size = cap * sz ∧ es.length ≤ cap ∧ es.length ≤ G6 ∧
   (∀ (i : Nat) (e : List T), es[i]? = some e → e.length = sz) ∧
   (∀ (i : Nat) (e : List T), es[i]? = some e → ∀ (j : Nat) (x : T), e[j]? = some x → CR H (G.getD (i * sz + j) undef) x)
def UsR (H : GH) (w : World) (v : Value) (ty : TypeId) (sz : Nat) (es : List (List T)) : Prop :=
 (v = .slice none 0 0 ∧ es = []) ∨ ∃ b c G, v = .slice (some ⟨b, 0, none⟩) es.length c ∧ es.length ≤ c ∧ c ≤ G ∧ ArrR H w b ty sz G es
def OR (H : GH) (w : World) : Ob → Prop
 | .arr b ty sz cap G => ArrR H w b ty sz cap G
 | .us v ty sz G => UsR H w v ty sz G
 | .uss v ty tyi szi vs L => vs.length = L.length ∧ UsR H w v ty 1 (vs.map fun x => [T.v x]) ∧ ∀ (i : Nat) (x : Value) (G : List (List T)), vs[i]? = some x → L[i]? = some (some G) → UsR H w x tyi szi G
 | .raw b o => w.heap[b]? = some o
theorem ArrR.monoC {H H' : GH} (hh : ∀ b cs ty fr, H b = some (.cells cs ty fr) → H' b = some (.cells cs ty fr)) {w w' : World} {b : Nat} (hw : w'.heap[b]? = w.heap[b]?) {ty : TypeId} {sz cap : Nat} {es : List (List T)} (h : ArrR H w b ty sz cap es) : ArrR H' w' b ty sz cap es := by
 obtain ⟨cs, W, X, Y, Z, a5, G⟩ := h
 exact ⟨cs, by rw [hw]; exact W, X, Y, Z, a5, fun i e M j x O => ⟨(G i e M j x O).1, (G i e M j x O).2.monoC hh⟩⟩
theorem UsR.monoC {H H' : GH} (X : ∀ b cs ty fr, H b = some (.cells cs ty fr) → H' b = some (.cells cs ty fr)) {w w' : World} {v : Value} (Y : ∀ b, b ∈ Gq v → w'.heap[b]? = w.heap[b]?) {ty : TypeId} {sz : Nat} {es : List (List T)} (h : UsR H w v ty sz es) : UsR H' w' v ty sz es := by
 rcases h with h | ⟨b, c, G, rfl, M, O, W⟩
 ·exact .inl h
 ·exact .inr ⟨b, c, G, rfl, M, O, W.monoC X (Y b (by simp [Gq]))⟩
theorem H5 : ∀ {vs : List Value} {L : List (Option (List (List T)))} {i : Nat} {v : Value} {es : List (List T)}, vs[i]? = some v → L[i]? = some (some es) → ∀ b, b ∈ Gq v → b ∈ D7 vs L
 | v' :: vs, some _ :: L, 0, v, es, h1, h2, b, hb => by simp at h1; subst h1; simp [D7, hb]
 | v' :: vs, some _ :: L, i + 1, v, es, h1, h2, b, hb => by simp [D7]; exact .inr (H5 (by simpa using h1) (by simpa using h2) b hb)
 | v' :: vs, none :: L, 0, v, es, h1, h2, b, hb => by simp at h2
 | v' :: vs, none :: L, i + 1, v, es, h1, h2, b, hb => by simp [D7]; exact H5 (by simpa using h1) (by simpa using h2) b hb
 | [], _, i, v, es, h1, h2, b, hb => by simp at h1
 | _ :: _, [], i, v, es, h1, h2, b, hb => by simp at h2
theorem OR.monoC {H H' : GH} (M : ∀ b cs ty fr, H b = some (.cells cs ty fr) → H' b = some (.cells cs ty fr)) {w w' : World} {o : Ob} (G : ∀ b, b ∈ o.fp → w'.heap[b]? = w.heap[b]?) (h : OR H w o) : OR H' w' o := by
 cases o with
 | arr b ty sz cap O => exact ArrR.monoC M (G b (by simp [Ob.fp])) h
 | us v ty sz O => exact UsR.monoC M G h
 | uss v ty tyi szi vs L =>
  obtain ⟨Z, h1, h2⟩ := h
  exact ⟨Z, h1.monoC M (fun b W => G b (by simp [Ob.fp, W])), fun i x O Y X => (h2 i x O Y X).monoC M (fun b W => G b (by simp [Ob.fp, H5 Y X b W]))⟩
 | raw b o => exact (G b (by simp [Ob.fp])).trans h
theorem ArrR.mono {H H' : GH} (G : ∀ b o, H b = some o → H' b = some o) {w w' : World} {b : Nat} (M : w'.heap[b]? = w.heap[b]?) {ty : TypeId} {sz cap : Nat} {es : List (List T)} (h : ArrR H w b ty sz cap es) : ArrR H' w' b ty sz cap es := h.monoC (fun _ _ _ _ => G _ _) M
theorem UsR.mono {H H' : GH} (G : ∀ b o, H b = some o → H' b = some o) {w w' : World} {v : Value} (M : ∀ b, b ∈ Gq v → w'.heap[b]? = w.heap[b]?) {ty : TypeId} {sz : Nat} {es : List (List T)} (h : UsR H w v ty sz es) : UsR H' w' v ty sz es := h.monoC (fun _ _ _ _ => G _ _) M
theorem OR.mono {H H' : GH} (G : ∀ b o, H b = some o → H' b = some o) {w w' : World} {o : Ob} (M : ∀ b, b ∈ o.fp → w'.heap[b]? = w.heap[b]?) (h : OR H w o) : OR H' w' o := h.monoC (fun _ _ _ _ => G _ _) M
abbrev Ak := List (Nat × T)
def get : Ak → Nat → Option T
 | [], _ => none
 | (k, x) :: l, i => bif Nat.beq k i then some x else get l i
structure St where
 slots : Ak
 objs : List Ob
def St.put (σ : St) (dst : Option Tmp) (x : T) : St :=
 match dst with
 | none => σ
 | some d => ⟨(d, x) :: σ.slots, σ.objs⟩
def gl : List (Nat × List T) := []
def dT (H : GH) : Prop := ∀ b l, (b, l) ∈ gl → VR H (.pointer (some ⟨b, 0, none⟩)) (.eptr l)
structure Ctx where
 w0 : World
 H0 : GH
 fp : List Nat
 hg : dT H0
def Marks (m : Nat) (H : GH) (l : List Deferred) : Prop := l.Nodup ∧ ∀ d, d ∈ l → ∃ b, d = { target := .collected b, args := #[] } ∧ H b = some (.deferred (some [])) ∧ m ≤ b
theorem Marks.mono {m : Nat} {H H' : GH} {l : List Deferred} (M : ∀ b o, H b = some o → H' b = some o) (h : Marks m H l) : Marks m H' l := ⟨h.1, fun d G => let ⟨b, h1, h2, h3⟩ := h.2 d G; ⟨b, h1, M _ _ h2, h3⟩⟩
theorem Marks.nil {m : Nat} {H : GH} : Marks m H [] := ⟨List.nodup_nil, fun d h => by cases h⟩
structure Gam (n : Nat) (C : Ctx) (σ : St) (H : GH) (a : Act) (w : World) : Prop where
 defers : Marks C.w0.heap.size H a.defers
 size : a.tmps.size = n
 slots : ∀ i x, get σ.slots i = some x → VR H (a.tmps.getD i undef) x
 objs : ∀ p, p ∈ σ.objs → OR H w p
 free : ∀ p, p ∈ σ.objs → ∀ b, b ∈ p.fp → H b = none
 new : ∀ p, p ∈ σ.objs → ∀ b, b ∈ p.fp → C.w0.heap.size ≤ b ∨ b ∈ C.fp
 nodup : (σ.objs.flatMap Ob.fp).Nodup
 held : ∀ b o, H b = some o → w.heap[b]? = some o
 grow : ∀ b o, C.H0 b = some o → H b = some o
 heap : C.w0.heap.size ≤ w.heap.size
 frame : ∀ b, b < C.w0.heap.size → b ∉ C.fp → w.heap[b]? = C.w0.heap[b]? ∧ H b = C.H0 b
 env : w.os = C.w0.os ∧ w.tape = C.w0.tape ∧ w.output = C.w0.output
inductive K where
 | slice (e : Nat) | array (n e : Nat) | struct (fs : List (Nat × Nat)) | string | int (k : IntKind) | bool | map (k e : Nat) | other
 deriving DecidableEq, Repr
structure TI where
 kind : K
 size : Nat
 bytes : Nat
 zero : Option Value
def TI.isAgg (i : TI) : Bool :=
 match i.kind with
 | .array .. | .struct .. => true
 | _ => false
def Jb : TypeDesc → K
 | .slice e => .slice e
 | .array n e => .array n e
 | .struct fs => .struct (fs.toList.map fun f => (f.offset, f.type))
 | .string => .string
 | .int k => .int k
 | .bool => .bool
 | .map k e => .map k e
 | _ => .other
def G8 (P : Program) (t : TypeId) : Option TI :=
 match P.info? t, P.underlying t with
 | some i, some d => some { kind := Jb d, size := i.size, bytes := i.bytes, zero := i.zero }
 | _, _ => none
structure Env where
 P : Program
 tab : Nat → Option TI
 ok : ∀ t i, tab t = some i → G8 P t = some i
 mixed : P.follows .mixedOrders = true
theorem Gf {P : Program} {t : TypeId} {i : TI} (h : G8 P t = some i) :
  ∃ G d, P.info? t = some G ∧ P.underlying t = some d ∧ Jb d = i.kind ∧ G.size = i.size ∧ G.bytes = i.bytes ∧ G.zero = i.zero := by
 unfold G8 at h
 split at h
 ·rename_i G d M O
  simp only [Option.some.injEq] at h
  subst h
  exact ⟨G, d, M, O, rfl, rfl, rfl, rfl⟩
 ·simp at h
section types
variable {P : Program} {t : TypeId} {i : TI} (h : G8 P t = some i) (w : World)
include h
theorem Bl : (sizeOf t).run P w = .ok i.size w := by
 obtain ⟨O, d, G, W, X, M, Y, Z⟩ := Gf h
 simp [sizeOf, typeInfo, G, M]
theorem G3 : ∃ inf, (typeInfo t).run P w = .ok inf w ∧ inf.size = i.size ∧ inf.bytes = i.bytes ∧ inf.zero = i.zero ∧ P.info? t = some inf := by
 obtain ⟨inf, d, G, X, Y, M, O, W⟩ := Gf h
 exact ⟨inf, by simp [typeInfo, G], M, O, W, G⟩
theorem Dh {z : Value} (O : i.zero = some z) : (zeroValue t).run P w = .ok z w := by
 obtain ⟨W, d, M, X, Y, Z, h5, G⟩ := Gf h
 rw [O] at G
 simp [zeroValue, typeInfo, M, G]
theorem Fg : (isAgg t).run P w = .ok i.isAgg w := by
 obtain ⟨O, d, W, G, M, X, Y, Z⟩ := Gf h
 unfold TI.isAgg
 rw [← M]
 cases d <;> simp [isAgg, underlying, G, Jb]
theorem Fl : ∃ d, P.underlying t = some d ∧ Jb d = i.kind := by
 obtain ⟨O, d, W, G, M, X, Y, Z⟩ := Gf h
 exact ⟨d, G, M⟩
end types
theorem Dk {P : Program} {t : TypeId} {i : TI} (h : G8 P t = some i) {e : Nat} (O : i.kind = .slice e) : P.underlying t = some (.slice e) := by
 obtain ⟨d, M, G⟩ := Fl h
 rw [O] at G
 cases d <;> simp [Jb] at G
 subst G; exact M
theorem Gv {P : Program} {t : TypeId} {i : TI} (h : G8 P t = some i) {fs : List (Nat × Nat)} (W : i.kind = .struct fs) :
  ∃ M : Array Field, P.underlying t = some (.struct M) ∧ M.toList.map (fun f => (f.offset, f.type)) = fs := by
 obtain ⟨d, O, G⟩ := Fl h
 rw [W] at G
 cases d <;> simp [Jb] at G
 exact ⟨_, O, G⟩
def AW (E : Env) (n : Nat) (C : Ctx) (c : Code) (σ : St) (Q : Exit → St → Prop) : Prop :=
 ∀ H a w, Gam n C σ H a w → cw c E.P (fun e G M => ∃ σ' H', Q e σ' ∧ Gam n C σ' H' G M) a w
def Vr (P : Program) (G : Array Oper) (Q : Exit → Act → World → Prop) : List Oper → Act → World → Prop
 | [], a, w => Q .normal a w
 | o :: r, a, w =>
  if Region.wanted o (yielded G a.tmps) then o.wpIn Fence.wide 0 P a w (Vr P G Q r) Q else Vr P G Q r (a.put o.dst undef) w
def AO (E : Env) (n : Nat) (C : Ctx) (G : Array Oper) (l : List Oper) (σ : St) (R : St → Prop) : Prop :=
 ∀ H a w, Gam n C σ H a w → Vr E.P G (fun e M O => e = .normal ∧ ∃ σ' H', R σ' ∧ Gam n C σ' H' M O) l a w
def AX (E : Env) (n : Nat) (C : Ctx) (md : List Nat) (o : Oper) (σ : St) (R : St → Prop) : Prop :=
 ∀ H a w, Gam n C σ H a w → o.wp E.P a w (fun G M => ∃ σ' H' v, R σ' ∧ Gam n C σ' H' G M ∧ G = a.put o.dst v ∧ (∀ b o, H b = some o → H' b = some o) ∧
  ∀ i p, σ.objs[i]? = some p → md.contains i = false → σ'.objs[i]? = some p ∧ ∀ b, b ∈ p.fp → M.heap[b]? = w.heap[b]?) (fun _ _ _ => False)
theorem Cf {P : Program} {o : Oper} {a : Act} {w : World} {K K' : Act → World → Prop} {Q Q' : Exit → Act → World → Prop}
  (h : ∀ a w, K a w → K' a w) (O : ∀ e a w, Q e a w → Q' e a w) (M : o.wp P a w K Q) : o.wp P a w K' Q' := by
 unfold Oper.wp at *
 generalize (execOp a.eval o).run P w = r at *
 cases r with
 | ok n w' =>
  cases n <;> simp only [Oper.upon] at M ⊢ <;>
   first
    | exact h _ _ M
    | exact Calls.mono M (fun e W G => by
      cases e with
      | returned v => exact h _ _ G
      | panicked c => exact O _ _ _ G
      | outgrown => obtain ⟨a, w, G⟩ := G; exact ⟨a, w, O _ _ _ G⟩)
    | exact Rows.mono M (fun _ _ G => h _ _ G)
 | halt x w' => cases x <;> simp only [Oper.upon] at M ⊢ <;> exact O _ _ _ M
theorem dW {P : Program} {G : Array Oper} {Q : Exit → Act → World → Prop} {ro : Option Nat} : ∀ (l : List Oper) (k : Nat) (a : Act) (w : World),
  (∀ j, j < l.length → G[k + j]? = l[j]?) → (ro.isSome = true → l.all (fun o => Km o.op) = true) → Vr P G Q l a w → wpOpsIn (Ec ro) 0 P G Q (List.range' k l.length) a w := by
 intro l
 induction l with
 | nil => intro k a w _ _ h; exact h
 | cons o r ih =>
  intro k a w X Y h
  have h0 : G[k]? = some o := by simpa using X 0 (by simp)
  have Z : ∀ j, j < r.length → G[k + 1 + j]? = r[j]? := fun j hj => by
   have := X (j + 1) (by simp; omega)
   rw [show k + 1 + j = k + (j + 1) by omega, this]; simp
  simp only [List.length_cons, List.range'_succ]
  simp only [wpOpsIn, h0]
  simp only [Vr] at h
  have M : ro.isSome = true → r.all (fun o => Km o.op) = true := fun hs => by
   have := Y hs; simp only [List.all_cons, Bool.and_eq_true] at this; exact this.2
  split
  ·rename_i W
   simp only [W, if_true] at h
   have O := G4 (fun a' w' O => ih (k + 1) a' w' Z M O) (fun _ _ _ h => h) h
   cases ro with
   | none => exact O
   | some q =>
    have := Y rfl
    simp only [List.all_cons, Bool.and_eq_true] at this
    exact Wx this.1 O
  ·rename_i W
   simp only [W] at h
   exact ⟨fun f _ => Lh ro f, ih (k + 1) _ _ Z M h⟩
theorem Pk {P : Program} {id : Nat} {G : Array Oper} {Q : Exit → Act → World → Prop} {a : Act} {w : World}
  (h : Vr P G Q G.toList a w) : cw (Code.region id G false) P Q a w := by
 intro ro M
 refine wpIn_region ?_
 have := dW (ro := ro) G.toList 0 a w (fun j _ => by simp) (fun O => M O) h
 simpa [List.range_eq_range'] using this
theorem Jk {P : Program} {G : Array Oper} {Q Q' : Exit → Act → World → Prop} (M : ∀ e a w, Q e a w → Q' e a w) :
  ∀ (l : List Oper) (a : Act) (w : World), Vr P G Q l a w → Vr P G Q' l a w
 | [], a, w, h => M _ _ _ h
 | o :: r, a, w, h => by
  simp only [Vr] at *
  split
  ·rename_i O
   simp only [O, if_true] at h
   exact G4 (fun W Y X => Jk M r W Y X) M h
  ·rename_i O
   simp only [O] at h
   exact Jk M r _ _ h
section rules
variable {E : Env} {n : Nat} {C : Ctx} {σ : St} {Q : Exit → St → Prop}
theorem AW.mono {c : Code} {Q' : Exit → St → Prop} (h : AW E n C c σ Q) (M : ∀ e σ, Q e σ → Q' e σ) : AW E n C c σ Q' :=
 fun H a w g => H3 (h H a w g) fun e O W ⟨σ', H', q, G⟩ => ⟨σ', H', M e σ' q, G⟩
theorem AW.skip (h : Q .normal σ) : AW E n C .skip σ Q := fun H _ _ g => eO ⟨σ, H, h, g⟩
def jL := @AW.skip
theorem AW.label {l : Nat} (h : Q .normal σ) : AW E n C (.label l) σ Q := fun H _ _ g => bM ⟨σ, H, h, g⟩
theorem AW.exit {id : Nat} (h : Q (.exit id) σ) : AW E n C (.exit id) σ Q := fun H _ _ g => eQ ⟨σ, H, h, g⟩
def jP := @AW.exit
theorem AW.ret (h : Q .ret σ) : AW E n C .ret σ Q := fun H _ _ g => gW ⟨σ, H, h, g⟩
def jN := @AW.ret
def H9 (next : St → Prop) (Q : Exit → St → Prop) : Exit → St → Prop
 | .normal, σ => next σ
 | e, σ => Q e σ
theorem AW.seq {x y : Code} (h : AW E n C x σ (H9 (fun σ' => AW E n C y σ' Q) Q)) : AW E n C (.seq x y) σ Q :=
 fun H a w g => gV (H3 (h H a w g) fun e M O ⟨σ', H', q, G⟩ => by
  cases e with
  | normal => exact q H' M O G
  | _ => exact ⟨σ', H', q, G⟩)
def jK := @AW.seq
theorem aV {x y : Code} (M : St → Prop) (h : AW E n C x σ (H9 M Q)) (k : ∀ σ', M σ' → AW E n C y σ' Q) : AW E n C (.seq x y) σ Q :=
 AW.seq (AW.mono h fun e σ' q => by
  cases e with
  | normal => exact k σ' q
  | _ => exact q)
def R5 (id : Nat) (Q : Exit → St → Prop) : Exit → St → Prop
 | .exit id', σ => bif Nat.beq id' id then Q .normal σ else Q (.exit id') σ
 | e, σ => Q e σ
theorem AW.block {id : Nat} {c : Code} (h : AW E n C c σ (R5 id Q)) : AW E n C (.block id c) σ Q :=
 fun H a w g => bN (H3 (h H a w g) fun e W X ⟨σ', H', q, M⟩ => by
  cases e with
  | exit id' =>
   by_cases G : id' = id
   ·subst G
    simp only [R5, Nat.beq_refl, cond_true] at q
    simp only [Exit.inBlock, if_true]
    exact ⟨σ', H', q, M⟩
   ·have O : Nat.beq id' id = false := by
     cases O : Nat.beq id' id with
     | false => rfl
     | true => exact absurd (nq O) G
    simp only [R5, O, cond_false] at q
    simp only [Exit.inBlock, G, if_false]
    exact ⟨σ', H', q, M⟩
  | _ => exact ⟨σ', H', q, M⟩)
def jM := @AW.block
theorem AW.loop {c : Code} (I : Nat → St → Prop) {m : Nat} (h₀ : I m σ)
  (G : ∀ m σ, I m σ → AW E n C c σ (H9 (fun σ' => ∃ m', m' < m ∧ I m' σ') Q)) : AW E n C (.loop c) σ Q := by
 intro H a w g
 have W : ∀ (p : Nat → Prop), (∃ m, p m) → ∃ m, p m ∧ ∀ k, k < m → ¬ p k := by
  intro p ⟨m, hm⟩
  induction m using Nat.strongRecOn with
  | _ m ih =>
   by_cases Y : ∃ k, k < m ∧ p k
   ·obtain ⟨k, Y, hp⟩ := Y; exact ih k Y hp
   ·exact ⟨m, hm, fun k hkm hp => Y ⟨k, hkm, hp⟩⟩
 let J : Act → World → Nat → Prop := fun a w m => ∃ σ H, I m σ ∧ Gam n C σ H a w
 have X : ∀ a w, ∃ m, (∃ k, J a w k) → J a w m ∧ ∀ k, k < m → ¬ J a w k := by
  intro a w
  by_cases h : ∃ k, J a w k
  ·obtain ⟨m, h1, h2⟩ := W _ h; exact ⟨m, fun _ => ⟨h1, h2⟩⟩
  ·exact ⟨0, fun h' => absurd h' h⟩
 let μ : Act → World → Nat := fun a w => Classical.choose (X a w)
 have hμ : ∀ a w, (∃ k, J a w k) → J a w (μ a w) ∧ ∀ k, k < μ a w → ¬ J a w k := fun a w => Classical.choose_spec (X a w)
 refine eP (fun a w => ∃ k, J a w k) μ ⟨m, σ, H, h₀, g⟩ ?_
 intro a w hJ
 obtain ⟨⟨σ₁, H₁, hI, g₁⟩, _⟩ := hμ a w hJ
 refine H3 (G _ σ₁ hI H₁ a w g₁) ?_
 rintro e Z w' ⟨σ', H', q, g'⟩
 cases e with
 | normal =>
  obtain ⟨m', hm', M⟩ := q
  have O : ∃ k, J Z w' k := ⟨m', σ', H', M, g'⟩
  refine ⟨O, ?_⟩
  have h2 := (hμ Z w' O).2
  have hJm : J Z w' m' := ⟨σ', H', M, g'⟩
  exact Nat.lt_of_le_of_lt (Nat.le_of_not_lt fun hlt => h2 m' hlt hJm) hm'
 | _ => exact ⟨σ', H', q, g'⟩
theorem AO.nil {G : Array Oper} {R : St → Prop} (h : R σ) : AO E n C G [] σ R := fun H _ _ g => ⟨rfl, σ, H, h, g⟩
def jH := @AO.nil
theorem AO.mono {G : Array Oper} {l : List Oper} {R R' : St → Prop} (h : AO E n C G l σ R) (W : ∀ σ, R σ → R' σ) : AO E n C G l σ R' :=
 fun H a w g => Jk (fun _ _ _ ⟨O, σ', H', r, M⟩ => ⟨O, σ', H', W _ r, M⟩) l a w (h H a w g)
theorem AO.act {G : Array Oper} {o : Oper} {l : List Oper} {R : St → Prop} (md : List Nat) (hg : o.guard = none)
  (h : AX E n C md o σ (fun σ' => AO E n C G l σ' R)) : AO E n C G (o :: l) σ R := by
 intro H a w g
 simp only [Vr]
 rw [if_pos (by simp [Region.wanted, hg])]
 exact Pv (Cf (fun M W ⟨σ', H', v, r, O, _⟩ => r H' M W O) (fun _ _ _ h => h.elim) (h H a w g))
def jI := @AO.act
theorem Gam.put {H : GH} {a : Act} {w : World} (g : Gam n C σ H a w) {dst : Option Tmp} {v : Value} {x : T} (hv : VR H v x)
  (X : ∀ d, dst = some d → d < n) : Gam n C (σ.put dst x) H (a.put dst v) w := by
 cases dst with
 | none => exact g
 | some d =>
  have O := X d rfl
  refine { g with defers := g.defers, size := by simp [Act.put, g.size], slots := ?_ }
  intro i y G
  simp only [St.put, get] at G
  simp only [Act.put]
  by_cases W : d = i
  ·subst W
   simp only [Nat.beq_refl, cond_true, Option.some.injEq] at G
   subst G
   have : d < a.tmps.size := by rw [g.size]; exact O
   simpa [Array.getD, this] using hv
  ·have M : Nat.beq d i = false := by
    cases M : Nat.beq d i with
    | false => rfl
    | true => exact absurd (nq M) W
   simp only [M, cond_false] at G
   have := g.slots i y G
   have Y : (a.tmps.setIfInBounds d v).getD i undef = a.tmps.getD i undef := by
    simp [Array.getD_eq_getD_getElem?, Array.getElem?_setIfInBounds_ne W]
   rw [Y]; exact this
theorem AW.region {id : Nat} {G : Array Oper} (h : AO E n C G G.toList σ (fun σ' => Q .normal σ')) : AW E n C (.region id G false) σ Q :=
 fun H a w g => Pk (Jk (fun _ _ _ ⟨O, σ', H', r, M⟩ => ⟨σ', H', by subst O; exact r, M⟩) _ _ _ (h H a w g))
def jG := @AW.region
theorem AW.cond {c : Operand} {x y : Code} {t : Nat} {b : Bool} (hc : c = .tmp t) (M : get σ.slots t = some (.v (.bool b)))
  (h1 : b = true → AW E n C x σ Q) (h2 : b = false → AW E n C y σ Q) : AW E n C (.cond c x y) σ Q := by
 intro H a w g
 subst hc
 have O : a.eval (.tmp t) = .bool b := (g.slots t _ M).v_eq
 exact Pl O (fun G => h1 G H a w g) (fun G => h2 G H a w g)
def Sub : Ak → Ak → Prop
 | [], _ => True
 | (i, x) :: l, s => get s i = some x ∧ Sub l s
theorem Sub.get : ∀ {l s : Ak}, Sub l s → ∀ i x, Aw.get l i = some x → Aw.get s i = some x
 | [], _, _, i, x, h => by simp [Aw.get] at h
 | (k, y) :: l, s, hs, i, x, h => by
  obtain ⟨G, M⟩ := hs
  simp only [Aw.get] at h
  cases hb : Nat.beq k i with
  | true =>
   have := nq hb
   subst this
   simp only [hb, cond_true, Option.some.injEq] at h
   subst h; exact G
  | false =>
   simp only [hb, cond_false] at h
   exact Sub.get M i x h
theorem Dc {α β : Type} {f : α → List β} : ∀ {l m : List α}, l.Sublist m → (l.flatMap f).Sublist (m.flatMap f)
 | _, _, .slnil => .slnil
 | _, _, .cons a h => by simp only [List.flatMap_cons]; exact (Dc h).trans (List.sublist_append_right _ _)
 | _, _, .cons_cons a h => by simp only [List.flatMap_cons]; exact (List.Sublist.refl _).append (Dc h)
theorem Gam.weaken {H : GH} {a : Act} {w : World} (g : Gam n C σ H a w) {s : Ak} {ob : List Ob} (O : Sub s σ.slots) (M : ob.Sublist σ.objs) :
  Gam n C ⟨s, ob⟩ H a w :=
 { g with
  slots := fun i x h => g.slots i x (O.get i x h)
  objs := fun p G => g.objs p (M.subset G)
  free := fun p G => g.free p (M.subset G)
  new := fun p G => g.new p (M.subset G)
  nodup := (Dc M).nodup g.nodup }
theorem AW.weaken {c : Code} {s : Ak} {ob : List Ob} (M : Sub s σ.slots) (G : ob.Sublist σ.objs) (h : AW E n C c ⟨s, ob⟩ Q) : AW E n C c σ Q :=
 fun H a w g => h H a w (g.weaken M G)
theorem AO.weaken {G : Array Oper} {l : List Oper} {R : St → Prop} {s : Ak} {ob : List Ob} (O : Sub s σ.slots) (M : ob.Sublist σ.objs) (h : AO E n C G l ⟨s, ob⟩ R) :
  AO E n C G l σ R :=
 fun H a w g => h H a w (g.weaken O M)
end rules
def Aq (s : Ak) : Operand → Option T
 | .tmp t => get s t
 | .const v => some (.v v)
 | .global g => some (.v (.pointer (some ⟨g, 0, none⟩)))
 | .func f => some (.v (.func (.func f) #[] #[]))
structure SR (n : Nat) (s : Ak) (H : GH) (a : Act) : Prop where
 size : a.tmps.size = n
 slots : ∀ i x, get s i = some x → VR H (a.tmps.getD i undef) x
theorem SR.eval {n : Nat} {s : Ak} {H : GH} {a : Act} (g : SR n s H a) {x : Operand} {y : T} (h : Aq s x = some y) : VR H (a.eval x) y := by
 cases x with
 | tmp t => exact g.slots t y h
 | const v => simp only [Aq, Option.some.injEq] at h; subst h; exact .v v
 | global g => simp only [Aq, Option.some.injEq] at h; subst h; exact .v _
 | func f => simp only [Aq, Option.some.injEq] at h; subst h; exact .v _
theorem SR.evalv {n : Nat} {s : Ak} {H : GH} {a : Act} (g : SR n s H a) {x : Operand} {y : Value} (h : Aq s x = some (.v y)) : a.eval x = y := (g.eval h).v_eq
def Yp (P : Program) (n : Nat) (s : Ak) (o : Oper) (x : T) : Prop :=
 ∀ H a, SR n s H a → ∃ v, VR H v x ∧ ∀ w, (execOp a.eval o).run P w = .ok (.value v) w
def Gc (H : GH) (objs : List Ob) (w w' : World) : Prop :=
 (∀ b o, H b = some o → w'.heap[b]? = some o) ∧ ∀ p, p ∈ objs → ∀ b, b ∈ p.fp → w'.heap[b]? = w.heap[b]?
structure WR (objs : List Ob) (H : GH) (w : World) : Prop where
 objs : ∀ p, p ∈ objs → OR H w p
 held : ∀ b o, H b = some o → w.heap[b]? = some o
def Yd (P : Program) (n : Nat) (s : Ak) (objs : List Ob) (o : Oper) (x : T) : Prop :=
 ∀ H a w, SR n s H a → WR objs H w → ∃ v, VR H v x ∧ ∀ G, Gc H objs w G → (execOp a.eval o).run P G = .ok (.value v) G
theorem Yp.yd {P : Program} {n : Nat} {s : Ak} {objs : List Ob} {o : Oper} {x : T} (h : Yp P n s o x) : Yd P n s objs o x :=
 fun H a _ g _ => let ⟨v, hv, hr⟩ := h H a g; ⟨v, hv, fun G _ => hr G⟩
def Dx (G : TI) (cs : List T) (off : Nat) : Option T :=
 bif G.isAgg then
  (bif Nat.beq off 0 && Nat.beq G.size cs.length then some (.agg cs)
   else bif Nat.ble (off + G.size) cs.length then some (.agg ((cs.drop off).take G.size)) else none)
 else cs[off]?
theorem C4 (b off n : Nat) : Addr.add ⟨b, off, none⟩ n = ⟨b, off + n, none⟩ := by
 unfold Addr.add
 split
 ·rename_i h; subst h; rfl
 ·rfl
section
variable {E : Env} {n : Nat} {s : Ak} {dst : Option Tmp} {ty : TypeId} {pos : String} {aft : Array Edge} {g : Option (Nat × Bool)}
theorem Yp.move {x : Operand} {y : T} (h : Aq s x = some y) : Yp E.P n s ⟨dst, .move x, ty, pos, aft, g⟩ y :=
 fun H a r => ⟨a.eval x, r.eval h, fun w => by simp [execOp]⟩
theorem Yp.assign {x : Operand} {y : T} (h : Aq s x = some y) : Yp E.P n s ⟨dst, .assign x, ty, pos, aft, g⟩ y :=
 fun H a r => ⟨a.eval x, r.eval h, fun w => by simp [execOp]⟩
theorem bW {c x y : Operand} {z : T} (hc : Aq s c = some (.v (.bool true))) (h : Aq s x = some z) : Yp E.P n s ⟨dst, .pick c x y, ty, pos, aft, g⟩ z :=
 fun H a r => ⟨a.eval x, r.eval h, fun w => by simp [execOp, r.evalv hc, asBool]⟩
theorem bX {c x y : Operand} {z : T} (hc : Aq s c = some (.v (.bool false))) (h : Aq s y = some z) : Yp E.P n s ⟨dst, .pick c x y, ty, pos, aft, g⟩ z :=
 fun H a r => ⟨a.eval y, r.eval h, fun w => by simp [execOp, r.evalv hc, asBool]⟩
theorem Jg {G : BinOp} {t O : TypeId} {x y : Operand} {k : IntKind} {a b c : Int} (M : Aq s x = some (.v (.int k a))) (hy : Aq s y = some (.v (.int k b)))
  (hc : match G with | .add => k.wrap (a + b) = c | .sub => k.wrap (a - b) = c | .mul => k.wrap (a * b) = c | .quo => b ≠ 0 ∧ k.wrap (a.tdiv b) = c | .rem => b ≠ 0 ∧ a.tmod b = c | _ => False) :
  Yp E.P n s ⟨dst, .binOp G t x y O, ty, pos, aft, g⟩ (.v (.int k c)) := by
 refine fun H A r => ⟨_, .v _, fun w => ?_⟩
 cases G <;> simp only at hc <;> simp [execOp, r.evalv M, r.evalv hy, eqGuard, binOp, Op.intArith, Op.intDiv, hc]
def cmpI : BinOp → Int → Int → Option Bool
 | .eql, a, b => some (a == b)
 | .neq, a, b => some (a != b)
 | .lss, a, b => some (decide (a < b))
 | .leq, a, b => some (decide (a ≤ b))
 | .gtr, a, b => some (decide (a > b))
 | .geq, a, b => some (decide (a ≥ b))
 | _, _, _ => none
theorem Yp.cmpI {G : BinOp} {t O : TypeId} {x y : Operand} {k : IntKind} {a b : Int} {c : Bool} (M : Aq s x = some (.v (.int k a))) (hy : Aq s y = some (.v (.int k b)))
  (hc : Aw.cmpI G a b = some c) : Yp E.P n s ⟨dst, .binOp G t x y O, ty, pos, aft, g⟩ (.v (.bool c)) := by
 refine fun H A r => ⟨_, .v _, fun w => ?_⟩
 cases G <;> simp only [Aw.cmpI, Option.some.injEq, reduceCtorEq] at hc <;> subst hc <;> simp [execOp, r.evalv M, r.evalv hy, eqGuard, binOp, Op.intCmp]
def kB := @Yp.cmpI
theorem Wf {t t' : TypeId} {x y : Operand} {p q : Bool} {M : TI} (Z : E.tab t = some M) (Y : M.kind = .bool)
  (hx : Aq s x = some (.v (.bool p))) (hy : Aq s y = some (.v (.bool q))) :
  Yp E.P n s ⟨dst, .binOp .neq t x y t', ty, pos, aft, g⟩ (.v (.bool (p != q))) := by
 refine fun H A r => ⟨_, .v _, fun w => ?_⟩
 obtain ⟨d, O, G⟩ := Fl (E.ok _ _ Z)
 rw [Y] at G
 cases d <;> simp [Jb] at G
 have W := run_neq_bool w t p q O
 have X : (!(p == q)) = (p != q) := rfl
 simp only [execOp, r.evalv hx, r.evalv hy, eqGuard]
 simp [W, X]
def cmpS : BinOp → ByteArray → ByteArray → Option Bool
 | .eql, a, b => some (a.toList == b.toList)
 | .neq, a, b => some (!(a.toList == b.toList))
 | .lss, a, b => some (Op.bytesLess a.toList b.toList)
 | .gtr, a, b => some (!(Op.bytesLess a.toList b.toList || a.toList == b.toList))
 | .leq, a, b => some (Op.bytesLess a.toList b.toList || a.toList == b.toList)
 | .geq, a, b => some (!Op.bytesLess a.toList b.toList)
 | _, _, _ => none
theorem Yp.cmpS {G : BinOp} {t O : TypeId} {x y : Operand} {a b : ByteArray} {c : Bool} (M : Aq s x = some (.v (.string a))) (hy : Aq s y = some (.v (.string b)))
  (hc : Aw.cmpS G a b = some c) : Yp E.P n s ⟨dst, .binOp G t x y O, ty, pos, aft, g⟩ (.v (.bool c)) := by
 refine fun H A r => ⟨_, .v _, fun w => ?_⟩
 cases G <;> simp only [Aw.cmpS, Option.some.injEq, reduceCtorEq] at hc <;> subst hc <;> simp [execOp, r.evalv M, r.evalv hy, eqGuard, binOp, Op.stringOp]
theorem eZ {t M : TypeId} {x y : Operand} {a b : ByteArray} (G : Aq s x = some (.v (.string a))) (hy : Aq s y = some (.v (.string b)))
  (hc : a.size + b.size < 9223372036854775807) : Yp E.P n s ⟨dst, .binOp .add t x y M, ty, pos, aft, g⟩ (.v (.string (a ++ b))) := by
 refine fun H A r => ⟨_, .v _, fun w => ?_⟩
 have : ¬ (((a.size + b.size : Nat) : Int) > IntKind.i64.max) := by
  have : IntKind.i64.max = 9223372036854775807 := by decide
  rw [this]; omega
 simp only [execOp, r.evalv G, r.evalv hy, eqGuard, binOp, Op.stringOp, if_neg this]
 simp
theorem Yp.not {t : TypeId} {x : Operand} {b : Bool} (G : Aq s x = some (.v (.bool b))) : Yp E.P n s ⟨dst, .unOp .not t x, ty, pos, aft, g⟩ (.v (.bool (!b))) :=
 fun H A r => ⟨_, .v _, fun w => by simp [execOp, r.evalv G, Op.unary]⟩
theorem Yp.neg {t : TypeId} {x : Operand} {k : IntKind} {a c : Int} (G : Aq s x = some (.v (.int k a))) (hc : k.wrap (0 - a) = c) :
  Yp E.P n s ⟨dst, .unOp .neg t x, ty, pos, aft, g⟩ (.v (.int k c)) :=
 fun H A r => ⟨_, .v _, fun w => by subst hc; simp [execOp, r.evalv G, Op.unary, Op.intArith]⟩
theorem Yp.extract {x : Operand} {i : Nat} {l : List T} {y : T} (O : Aq s x = some (.tup l)) (hi : l[i]? = some y) : Yp E.P n s ⟨dst, .extract x i, ty, pos, aft, g⟩ y := by
 intro H A r
 have h := r.eval O
 generalize M : A.eval x = v at h
 cases h with
 | tup vs cs hl hvs =>
  refine ⟨vs.getD i undef, hvs i y hi, fun w => ?_⟩
  have G : i < vs.size := by
   rw [hl]; exact (gs hi).1
  simp [execOp, M, Instr.extract, Array.getElem?_eq_getElem G, Array.getD, G]
theorem bZ {t Y : TypeId} {x : Operand} {k X : IntKind} {a c : Int} {ti G : TI} (ht : E.tab t = some ti) (W : E.tab Y = some G) (O : G.kind = .int X)
  (hx : Aq s x = some (.v (.int k a))) (hc : X.wrap a = c) : Yp E.P n s ⟨dst, .convert t Y x, ty, pos, aft, g⟩ (.v (.int X c)) := by
 refine fun H A r => ⟨_, .v _, fun w => ?_⟩
 obtain ⟨d, h1, M⟩ := Fl (E.ok _ _ W)
 obtain ⟨Z, h3, h4⟩ := Fl (E.ok _ _ ht)
 rw [O] at M
 cases d <;> simp [Jb] at M
 subst M
 subst hc
 cases Z <;> simp [execOp, r.evalv hx, convert, run_underlying h1, run_underlying h3, Conv.intToInt]
theorem VR.part {H : GH} {vs : Array Value} {cs : List T} (h : VR H (.agg vs) (.agg cs)) {off size : Nat} (Y : off + size ≤ cs.length) :
  VR H (.agg (vs.extract off (off + size))) (.agg ((cs.drop off).take size)) := by
 cases h with
 | agg vs cs hl h1 hv =>
  have M : ∀ j x, ((cs.drop off).take size)[j]? = some x → cs[off + j]? = some x ∧ (vs.extract off (off + size)).getD j undef = vs.getD (off + j) undef := by
   intro j x G
   have X : j < size := by
    have := (gs G).1
    simp at this; omega
   rw [List.getElem?_take_of_lt X, List.getElem?_drop] at G
   refine ⟨G, ?_⟩
   simp [Array.getD_eq_getD_getElem?, Array.getElem?_extract]
   rw [if_pos (by omega)]
  exact .agg _ _ (by simp; omega) (fun j x G => by obtain ⟨O, W⟩ := M j x G; rw [W]; exact h1 _ _ O)
   (fun j x G => by obtain ⟨O, W⟩ := M j x G; rw [W]; exact hv _ _ O)
theorem Iy {P : Program} {H : GH} {vs : Array Value} {cs : List T} (h : VR H (.agg vs) (.agg cs)) {t : TypeId} {M : TI} (Z : G8 P t = some M) {off : Nat} {y : T}
  (G : Dx M cs off = some y) : ∃ v, VR H v y ∧ ∀ w, (part t vs off).run P w = .ok v w := by
 unfold Dx at G
 cases ha : M.isAgg with
 | true =>
  simp only [ha, cond_true] at G
  have X : ∀ w, (part t vs off).run P w = .ok (.agg (vs.extract off (off + M.size))) w := fun w => by
   simp [part, Fg Z, ha, Bl Z]
  refine ⟨_, ?_, X⟩
  cases hb : (Nat.beq off 0 && Nat.beq M.size cs.length) with
  | true =>
   simp only [hb, cond_true, Option.some.injEq] at G
   subst G
   simp only [Bool.and_eq_true] at hb
   obtain ⟨Y, O⟩ := hb
   have Y := nq Y
   have O := nq O
   subst Y
   have := h.part (off := 0) (size := M.size) (by omega)
   simpa [O] using this
  | false =>
   simp only [hb, cond_false] at G
   cases hc : Nat.ble (off + M.size) cs.length with
   | false => simp [hc] at G
   | true =>
    simp only [hc, cond_true, Option.some.injEq] at G
    subst G
    exact h.part (Nat.le_of_ble_eq_true hc)
 | false =>
  simp only [ha, cond_false] at G
  cases h with
  | agg vs cs hl h1 hv =>
   refine ⟨_, hv _ _ G, fun w => ?_⟩
   have W : off < vs.size := by rw [hl]; exact (gs G).1
   simp [part, Fg Z, ha, Array.getElem?_eq_getElem W, Array.getD, W]
theorem Yp.field {t : TypeId} {x : Operand} {f : Nat} {cs : List T} {ti Z : TI} {fs : List (Nat × Nat)} {off ft : Nat} {y : T}
  (ht : E.tab t = some ti) (hk : ti.kind = .struct fs) (hf : fs[f]? = some (off, ft)) (O : E.tab ft = some Z)
  (hx : Aq s x = some (.agg cs)) (hp : Dx Z cs off = some y) : Yp E.P n s ⟨dst, .field t x f, ty, pos, aft, g⟩ y := by
 intro H A r
 obtain ⟨ff, h1, h2⟩ := Gv (E.ok _ _ ht) hk
 have h := r.eval hx
 generalize hv : A.eval x = v at h
 have M : ∃ G, ff[f]? = some G ∧ G.offset = off ∧ G.type = ft := by
  rw [← h2] at hf
  simp only [List.getElem?_map, Option.map_eq_some_iff] at hf
  obtain ⟨G, Y, q2⟩ := hf
  refine ⟨G, by simpa using Y, ?_, ?_⟩ <;> simp_all
 obtain ⟨G, Y, rfl, rfl⟩ := M
 cases h with
 | agg vs cs hl hc hvs =>
  obtain ⟨v, W, X⟩ := Iy (VR.agg vs cs hl hc hvs) (E.ok _ _ O) hp
  exact ⟨v, W, fun w => by simp [execOp, hv, Instr.field, run_underlying h1, Y, asAgg, X]⟩
theorem T3 {t : TypeId} {x : Operand} {f : Nat} {b o : Nat} {ti M : TI} {fs : List (Nat × Nat)} {off ft : Nat}
  (ht : E.tab t = some ti) (hk : ti.kind = .struct fs) (hf : fs[f]? = some (off, ft)) (W : E.tab ft = some M) (Z : Nat.beq M.size 0 = false)
  (hx : Aq s x = some (.v (.pointer (some ⟨b, o, none⟩)))) : Yp E.P n s ⟨dst, .fieldAddr t x f, ty, pos, aft, g⟩ (.v (.pointer (some ⟨b, o + off, none⟩))) := by
 intro H A r
 obtain ⟨ff, h1, h2⟩ := Gv (E.ok _ _ ht) hk
 have O : ∃ G, ff[f]? = some G ∧ G.offset = off ∧ G.type = ft := by
  rw [← h2] at hf
  simp only [List.getElem?_map, Option.map_eq_some_iff] at hf
  obtain ⟨G, Y, q2⟩ := hf
  refine ⟨G, by simpa using Y, ?_, ?_⟩ <;> simp_all
 obtain ⟨G, Y, rfl, rfl⟩ := O
 have X : ¬ M.size = 0 := by intro h; rw [h] at Z; simp at Z
 exact ⟨_, .v _, fun w => by
  simp [execOp, r.evalv hx, Instr.fieldAt, run_underlying h1, Y, Instr.sureAddr, fieldPlace, Bl (E.ok _ _ W), X, C4]⟩
theorem VR.eptr_drop {H : GH} {b o : Nat} {l : List T} (h : VR H (.pointer (some ⟨b, o, none⟩)) (.eptr l)) {off : Nat} (M : off ≤ l.length) :
  VR H (.pointer (some ⟨b, o + off, none⟩)) (.eptr (l.drop off)) := by
 cases h with
 | eptr b off' l cs ty fr hb hsz h1 hv =>
  refine .eptr b (o + off) (l.drop off) cs ty fr hb (by simp; omega) (fun j x G => ?_) (fun j x G => ?_)
  ·rw [List.getElem?_drop] at G; rw [show o + off + j = o + (off + j) by omega]; exact h1 _ _ G
  ·rw [List.getElem?_drop] at G; rw [show o + off + j = o + (off + j) by omega]; exact hv _ _ G
theorem VR.eptr_ptr {H : GH} {v : Value} {l : List T} (h : VR H v (.eptr l)) : ∃ b o, v = .pointer (some ⟨b, o, none⟩) := by
 cases h; exact ⟨_, _, rfl⟩
theorem Xn {t : TypeId} {x : Operand} {f : Nat} {cs : List T} {ti M : TI} {fs : List (Nat × Nat)} {off ft : Nat}
  (ht : E.tab t = some ti) (hk : ti.kind = .struct fs) (hf : fs[f]? = some (off, ft)) (W : E.tab ft = some M) (hz : Nat.beq M.size 0 = false)
  (hx : Aq s x = some (.eptr cs)) (X : Nat.ble off cs.length = true) : Yp E.P n s ⟨dst, .fieldAddr t x f, ty, pos, aft, g⟩ (.eptr (cs.drop off)) := by
 intro H A r
 obtain ⟨ff, h1, h2⟩ := Gv (E.ok _ _ ht) hk
 have O : ∃ G, ff[f]? = some G ∧ G.offset = off ∧ G.type = ft := by
  rw [← h2] at hf
  simp only [List.getElem?_map, Option.map_eq_some_iff] at hf
  obtain ⟨G, Z, q2⟩ := hf
  refine ⟨G, by simpa using Z, ?_, ?_⟩ <;> simp_all
 obtain ⟨G, Z, rfl, rfl⟩ := O
 have Y : ¬ M.size = 0 := by intro h; rw [h] at hz; simp at hz
 have h := r.eval hx
 obtain ⟨b, o, hv⟩ := h.eptr_ptr
 rw [hv] at h
 exact ⟨_, h.eptr_drop (Nat.le_of_ble_eq_true X), fun w => by
  simp [execOp, hv, Instr.fieldAt, run_underlying h1, Z, Instr.sureAddr, fieldPlace, Bl (E.ok _ _ W), Y, C4]⟩
theorem Sc {x : Operand} {b : Addr} (G : Aq s x = some (.v (.pointer (some b)))) : Yp E.P n s ⟨dst, .nilCheck x, ty, pos, aft, g⟩ (.v (.pointer (some b))) :=
 fun H A r => ⟨_, .v _, fun w => by simp [execOp, r.evalv G]⟩
theorem Sd {x : Operand} {cs : List T} (M : Aq s x = some (.eptr cs)) : Yp E.P n s ⟨dst, .nilCheck x, ty, pos, aft, g⟩ (.eptr cs) := by
 intro H A r
 have h := r.eval M
 obtain ⟨b, o, G⟩ := h.eptr_ptr
 exact ⟨_, h, fun w => by simp [execOp, G]⟩
theorem VR.list_slice {H : GH} {v : Value} {sz : Nat} {es : List (List T)} (h : VR H v (.list sz es)) : ∃ a cap, v = .slice a es.length cap := by
 cases h with
 | empty a cap sz => exact ⟨a, cap, rfl⟩
 | list b off cap sz es cs ty fr hb hcap hmax hsz hel h1 hv => exact ⟨_, _, rfl⟩
theorem VR.list_max {H : GH} {v : Value} {sz : Nat} {es : List (List T)} (h : VR H v (.list sz es)) : es.length ≤ G6 := by
 cases h with
 | empty a cap sz => simp [G6]
 | list b off cap sz es cs ty fr hb hcap hmax hsz hel h1 hv => exact hmax
theorem Ve {x : Operand} {t : TypeId} {sz : Nat} {es : List (List T)} {ti : TI} {e : Nat} (O : E.tab t = some ti) (M : ti.kind = .slice e) (X : Aq s x = some (.list sz es)) :
  Yp E.P n s ⟨dst, .call { callee := .builtin .len, args := #[x], argTypes := #[t] }, ty, pos, aft, g⟩ (.v (.int .i64 es.length)) := by
 refine fun H A r => ⟨_, .v _, fun w => ?_⟩
 obtain ⟨a, G, W⟩ := (r.eval X).list_slice
 simp [execOp, resolve, invoke, builtin, Builtin.len_, W, run_underlying (Dk (E.ok _ _ O) M), goInt]
theorem E8 {x : Operand} {t : TypeId} {a : Option Addr} {len cap : Nat} {ti : TI} {e : Nat} (M : E.tab t = some ti) (G : ti.kind = .slice e) (O : Aq s x = some (.v (.slice a len cap))) :
  Yp E.P n s ⟨dst, .call { callee := .builtin .len, args := #[x], argTypes := #[t] }, ty, pos, aft, g⟩ (.v (.int .i64 len)) :=
 fun H A r => ⟨_, .v _, fun w => by simp [execOp, resolve, invoke, builtin, Builtin.len_, r.evalv O, run_underlying (Dk (E.ok _ _ M) G), goInt]⟩
theorem Gw {P : Program} {t : TypeId} {i : TI} (h : G8 P t = some i) (O : i.kind = .string) : P.underlying t = some .string := by
 obtain ⟨d, M, G⟩ := Fl h
 rw [O] at G
 cases d <;> simp [Jb] at G
 exact M
theorem Se {x : Operand} {t : TypeId} {b : ByteArray} {ti : TI} (M : E.tab t = some ti) (G : ti.kind = .string) (O : Aq s x = some (.v (.string b))) :
  Yp E.P n s ⟨dst, .call { callee := .builtin .len, args := #[x], argTypes := #[t] }, ty, pos, aft, g⟩ (.v (.int .i64 b.size)) :=
 fun H A r => ⟨_, .v _, fun w => by simp [execOp, resolve, invoke, builtin, Builtin.len_, r.evalv O, run_underlying (Gw (E.ok _ _ M) G), goInt]⟩
theorem eY {x y : Operand} {M : Array TypeId} {k : IntKind} {a b : Int} (G : Aq s x = some (.v (.int k a))) (hy : Aq s y = some (.v (.int k b))) :
  Yp E.P n s ⟨dst, .call { callee := .builtin .max, args := #[x, y], argTypes := M }, ty, pos, aft, g⟩ (.v (.int k (max a b))) := by
 refine fun H A r => ⟨_, .v _, fun w => ?_⟩
 have : (if b > a then b else a) = max a b := by split <;> omega
 simp [execOp, resolve, invoke, builtin, Builtin.max_, Builtin.max2, r.evalv G, r.evalv hy]
 omega
theorem eX {x y : Operand} {M : Array TypeId} {k : IntKind} {a b : Int} (G : Aq s x = some (.v (.int k a))) (hy : Aq s y = some (.v (.int k b))) :
  Yp E.P n s ⟨dst, .call { callee := .builtin .min, args := #[x, y], argTypes := M }, ty, pos, aft, g⟩ (.v (.int k (min a b))) := by
 refine fun H A r => ⟨_, .v _, fun w => ?_⟩
 simp [execOp, resolve, invoke, builtin, Builtin.min_, Builtin.min2, r.evalv G, r.evalv hy]
 omega
theorem Xm {t : TypeId} {x y : Operand} {k : IntKind} {i : Int} {m : Nat} {sz : Nat} {es : List (List T)} {e : List T} {ti O : TI} {M : Nat}
  (Y : E.tab t = some ti) (X : ti.kind = .slice M) (hel : E.tab M = some O) (hsz : O.size = sz)
  (G : Aq s x = some (.list sz es)) (hy : Aq s y = some (.v (.int k i))) (hi : i = (m : Int)) (he : es[m]? = some e) :
  Yp E.P n s ⟨dst, .indexAddr t x y, ty, pos, aft, g⟩ (.eptr e) := by
 intro H A r
 have h := r.eval G
 have W : m < es.length := (gs he).1
 generalize Z : A.eval x = v at h
 cases h with
 | empty a cap sz => simp at he
 | list b off cap sz es cs ty fr hb hcap hmax hsz' hel' h1 hvs =>
  refine ⟨.pointer (some ⟨b, off + m * sz, none⟩), .eptr b (off + m * sz) e cs ty fr hb ?_ (fun j x G => h1 m e he j x G) (fun j x G => hvs m e he j x G), fun w => ?_⟩
  ·rw [hel' m e he]
   have : (m + 1) * sz ≤ es.length * sz := Nat.mul_le_mul_right _ W
   rw [Nat.succ_mul] at this; omega
  ·subst hi
   simp [execOp, Z, r.evalv hy, Instr.indexAt, asIntOf, run_underlying (Dk (E.ok _ _ Y) X), Bl (E.ok _ _ hel), hsz, W, C4]
theorem Ll {t : TypeId} {x y : Operand} {k : IntKind} {i : Int} {m : Nat} {b off len cap : Nat} {ti M : TI} {G : Nat}
  (X : E.tab t = some ti) (O : ti.kind = .slice G) (hel : E.tab G = some M)
  (Y : Aq s x = some (.v (.slice (some ⟨b, off, none⟩) len cap))) (hy : Aq s y = some (.v (.int k i))) (hi : i = (m : Int)) (W : m < len) :
  Yp E.P n s ⟨dst, .indexAddr t x y, ty, pos, aft, g⟩ (.v (.pointer (some ⟨b, off + m * M.size, none⟩))) := by
 refine fun H A r => ⟨_, .v _, fun w => ?_⟩
 subst hi
 simp [execOp, r.evalv Y, r.evalv hy, Instr.indexAt, asIntOf, run_underlying (Dk (E.ok _ _ X) O), Bl (E.ok _ _ hel), W, C4]
theorem Ld {P : Program} {t : TypeId} {i : TI} (h : G8 P t = some i) {m e : Nat} (O : i.kind = .array m e) : P.underlying t = some (.array m e) := by
 obtain ⟨d, M, G⟩ := Fl h
 rw [O] at G
 cases d <;> simp [Jb] at G
 obtain ⟨rfl, rfl⟩ := G; exact M
theorem C6 {t : TypeId} {x y : Operand} {k : IntKind} {i : Int} {m : Nat} {b off len : Nat} {ti M : TI} {G : Nat}
  (X : E.tab t = some ti) (O : ti.kind = .array len G) (hel : E.tab G = some M)
  (Y : Aq s x = some (.v (.pointer (some ⟨b, off, none⟩)))) (hy : Aq s y = some (.v (.int k i))) (hi : i = (m : Int)) (W : m < len) :
  Yp E.P n s ⟨dst, .indexAddr t x y, ty, pos, aft, g⟩ (.v (.pointer (some ⟨b, off + m * M.size, none⟩))) := by
 refine fun H A r => ⟨_, .v _, fun w => ?_⟩
 subst hi
 simp [execOp, r.evalv Y, r.evalv hy, Instr.indexAt, Instr.sureAddr, asIntOf, run_underlying (Ld (E.ok _ _ X) O), Bl (E.ok _ _ hel), W, C4]
def Vs (s : Ak) (x : Option Operand) (d m : Nat) : Prop :=
 match x with
 | none => m = d
 | some x => ∃ k i, Aq s x = some (.v (.int k i)) ∧ i = (m : Int)
theorem C2 {P : Program} {w : World} {k : IntKind} {m y : Nat} {G : BoundsCode} (h : m ≤ y) : (Instr.sliceBound (.int k (m : Int)) y G).run P w = .ok m w := by
 simp [Instr.sliceBound, asIntOf, h]
theorem Dl {P : Program} {w : World} {a : Act} {H : GH} (r : SR n s H a) {isS : Bool} {len cap l h m : Nat} {lo hi mx : Option Operand} (h1 : Vs s lo 0 l) (h2 : Vs s hi len h) (G : Vs s mx cap m)
  (Y : hi = none → mx = none) (O : l ≤ h) (M : h ≤ m) (X : m ≤ cap) :
  (Instr.sliceBounds isS len cap (lo.map a.eval) (hi.map a.eval) (mx.map a.eval)).run P w = .ok (l, h, m) w := by
 unfold Instr.sliceBounds
 cases lo with
 | none =>
  simp only [Vs] at h1
  subst h1
  cases hi with
  | none =>
   have := Y rfl; subst this
   simp only [Vs] at h2 G
   subst h2 G
   simp
  | some hi =>
   obtain ⟨k2, i2, W, rfl⟩ := h2
   cases mx with
   | none => simp only [Vs] at G; subst G; simp [r.evalv W, C2 M]
   | some mx => obtain ⟨k3, i3, e3, rfl⟩ := G; simp [r.evalv W, r.evalv e3, C2 X, C2 M]
 | some lo =>
  obtain ⟨k1, i1, Z, rfl⟩ := h1
  cases hi with
  | none =>
   have := Y rfl; subst this
   simp only [Vs] at h2 G
   subst h2 G
   simp [r.evalv Z, C2 O]
  | some hi =>
   obtain ⟨k2, i2, W, rfl⟩ := h2
   cases mx with
   | none => simp only [Vs] at G; subst G; simp [r.evalv Z, r.evalv W, C2 M, C2 O]
   | some mx => obtain ⟨k3, i3, e3, rfl⟩ := G; simp [r.evalv Z, r.evalv W, r.evalv e3, C2 X, C2 M, C2 O]
theorem VR.sub {H : GH} {b off cap sz : Nat} {es : List (List T)} (h : VR H (.slice (some ⟨b, off, none⟩) es.length cap) (.list sz es)) {l k c : Nat} (W : l + k ≤ es.length) (hc : k ≤ c) :
  VR H (.slice (some ⟨b, off + l * sz, none⟩) k c) (.list sz ((es.drop l).take k)) := by
 generalize Z : Value.slice (some ⟨b, off, none⟩) es.length cap = v at h
 cases h with
 | empty a cap sz =>
  have hk : k = 0 := by simp at W; omega
  subst hk
  simpa using VR.empty (H := H) (some ⟨b, off + l * sz, none⟩) c sz
 | list b' off' cap' sz es cs ty fr hb hcap hmax hsz hel h1 hvs =>
  simp only [Value.slice.injEq, Option.some.injEq, Addr.mk.injEq, and_true] at Z
  obtain ⟨⟨rfl, rfl⟩, _, _⟩ := Z
  have G : ((es.drop l).take k).length = k := by simp; omega
  have O : ∀ (i : Nat) (e : List T), ((es.drop l).take k)[i]? = some e → es[l + i]? = some e := by
   intro i e M
   have hi : i < k := by have := (gs M).1; omega
   rwa [List.getElem?_take_of_lt hi, List.getElem?_drop] at M
  have X : (l + k) * sz ≤ es.length * sz := Nat.mul_le_mul_right _ W
  rw [Nat.add_mul] at X
  have := VR.list (H := H) b (off + l * sz) c sz ((es.drop l).take k) cs ty fr hb (by rw [G]; exact hc) (by rw [G]; exact Nat.le_trans (by omega) hmax) (by rw [G]; omega) (fun i e M => hel _ _ (O i e M))
   (fun i e M j x Y => by have := h1 _ _ (O i e M) j x Y; rwa [Nat.add_mul, ← Nat.add_assoc] at this)
   (fun i e M j x Y => by have := hvs _ _ (O i e M) j x Y; rwa [Nat.add_mul, ← Nat.add_assoc] at this)
  rwa [G] at this
theorem Xl {t : TypeId} {x : Operand} {lo hi mx : Option Operand} {sz : Nat} {es : List (List T)} {ti X : TI} {e : Nat} (l h m : Nat)
  (ht : E.tab t = some ti) (hk : ti.kind = .slice e) (he : E.tab e = some X) (hsz : X.size = sz) (hx : Aq s x = some (.list sz es))
  (h1 : Vs s lo 0 l) (h2 : Vs s hi es.length h) (h3 : ∀ cap, es.length ≤ cap → ∃ G, Vs s mx cap G ∧ h ≤ G ∧ G ≤ cap) (W : hi = none → mx = none) (O : l ≤ h) (hh : h ≤ es.length) :
  Yp E.P n s ⟨dst, .slice t x lo hi mx, ty, pos, aft, g⟩ (.list sz ((es.drop l).take (h - l))) := by
 intro H A r
 have hv := r.eval hx
 have hu := Dk (E.ok _ _ ht) hk
 generalize Z : A.eval x = v at hv
 have M : ∀ w, (execOp A.eval ⟨dst, .slice t x lo hi mx, ty, pos, aft, g⟩).run E.P w = ((Instr.sliceAt t v (lo.map A.eval) (hi.map A.eval) (mx.map A.eval)).run E.P w).andThen fun a w => .ok (.value a) w := by
  intro w
  simp only [execOp, Z, Sem.run_bind]
  rfl
 cases hv with
 | empty a cap sz =>
  simp only [List.length_nil, Nat.le_zero] at hh
  subst hh
  simp only [List.length_nil] at h2
  have : l = 0 := by omega
  subst this
  obtain ⟨G, q1, q2, q3⟩ := h3 cap (by simp)
  refine ⟨.slice (if G = 0 then a else a.map (·.add (0 * X.size))) (0 - 0) (G - 0), by simpa using VR.empty _ _ _, fun w => ?_⟩
  rw [M]
  simp only [Instr.sliceAt, Instr.slice, Sem.run_bind, run_underlying hu, Result.andThen_ok, Dl r h1 h2 q1 W O q2 q3, Bl (E.ok _ _ he), Sem.run_pure]
 | list b off cap sz es cs ty fr hb hcap hmax hsz' hel hh1 hvs =>
  obtain ⟨G, q1, q2, q3⟩ := h3 cap hcap
  refine ⟨.slice (if G = l then some ⟨b, off, none⟩ else (some (⟨b, off, none⟩ : Addr)).map (·.add (l * X.size))) (h - l) (G - l), ?_, fun w => ?_⟩
  ·by_cases Y : G = l
   ·have : h - l = 0 := by omega
    rw [this]; simpa using VR.empty (H := H) _ _ _
   ·rw [if_neg Y]
    simp only [Option.map_some, C4, hsz]
    exact VR.sub (.list b off cap sz es cs ty fr hb hcap hmax hsz' hel hh1 hvs) (by omega) (by omega)
  ·rw [M]
   simp only [Instr.sliceAt, Instr.slice, Sem.run_bind, run_underlying hu, Result.andThen_ok, Dl r h1 h2 q1 W O q2 q3, Bl (E.ok _ _ he), Sem.run_pure]
theorem T2 {t : TypeId} {x y : Operand} {b : ByteArray} {k : IntKind} {i : Int} {m : Nat} {ti : TI} (W : E.tab t = some ti) (O : ti.kind = .string) (Y : Aq s x = some (.v (.string b)))
  (hy : Aq s y = some (.v (.int k i))) (hi : i = (m : Int)) (M : m < b.size) : Yp E.P n s ⟨dst, .index t x y, ty, pos, aft, g⟩ (.v (.int .u8 ((b.data.getD m 0).toNat : Int))) := by
 refine fun H A r => ⟨_, .v _, fun w => ?_⟩
 subst hi
 have X := Gw (E.ok _ _ W) O
 have G : m < b.data.size := M
 have : b[m]? = some (b.data.getD m 0) := by
  simp [getElem?_def, M, Array.getD, G]
  rfl
 simp [execOp, r.evalv Y, r.evalv hy, Instr.index, asIntOf, run_underlying X, this]
end
section
variable {E : Env} {n : Nat} {C : Ctx} {σ : St} {dst : Option Tmp} {ty : TypeId} {pos : String} {aft : Array Edge} {g : Option (Nat × Bool)}
theorem Gam.sr {H : GH} {a : Act} {w : World} (h : Gam n C σ H a w) : SR n σ.slots H a := ⟨h.size, h.slots⟩
theorem Gam.wr {H : GH} {a : Act} {w : World} (h : Gam n C σ H a w) : WR σ.objs H w := ⟨h.objs, h.held⟩
theorem F2 {H : GH} {cs : Array Value} {G : Nat} {e : List T} {M : TI} {j : Nat} {y : T} (hsz : G + e.length ≤ cs.size)
  (h1 : ∀ (j : Nat) (x : T), e[j]? = some x → (cs.getD (G + j) undef).oneCell' = true) (hv : ∀ (j : Nat) (x : T), e[j]? = some x → VR H (cs.getD (G + j) undef) x)
  (O : Dx M e j = some y) :
  (M.isAgg = true → j + M.size ≤ e.length ∧ VR H (.agg ((List.range M.size).map fun i => cs.getD (G + j + i) undef).toArray) y) ∧
  (M.isAgg = false → j < e.length ∧ VR H (cs.getD (G + j) undef) y) := by
 unfold Dx at O
 refine ⟨fun X => ?_, fun X => ?_⟩
 ·simp only [X, cond_true] at O
  have Y : j + M.size ≤ e.length ∧ y = .agg ((e.drop j).take M.size) := by
   cases hb : (Nat.beq j 0 && Nat.beq M.size e.length) with
   | true =>
    simp only [hb, cond_true, Option.some.injEq] at O
    simp only [Bool.and_eq_true] at hb
    have h0 := nq hb.1
    have h2 := nq hb.2
    subst h0
    exact ⟨by omega, by rw [← O, h2]; simp⟩
   | false =>
    simp only [hb, cond_false] at O
    cases hc : Nat.ble (j + M.size) e.length with
    | false => simp [hc] at O
    | true =>
     simp only [hc, cond_true, Option.some.injEq] at O
     exact ⟨Nat.le_of_ble_eq_true hc, O.symm⟩
  obtain ⟨k1, rfl⟩ := Y
  refine ⟨k1, .agg _ _ (by simp; omega) ?_ ?_⟩
  all_goals
   intro i x W
   have Z : i < M.size := by
    have := (gs W).1
    simp at this; omega
   rw [List.getElem?_take_of_lt Z, List.getElem?_drop] at W
   have he : (((List.range M.size).map fun i => cs.getD (G + j + i) undef).toArray).getD i undef = cs.getD (G + (j + i)) undef := by
    simp [Array.getD_eq_getD_getElem?, Z, Nat.add_assoc]
   rw [he]
   first | exact h1 _ _ W | exact hv _ _ W
 ·simp only [X, cond_false] at O
  exact ⟨(gs O).1, hv _ _ O⟩
def Es (G : TI) (cs : Array Value) (o : Nat) : Value :=
 if G.isAgg then .agg ((List.range G.size).map fun i => cs.getD (o + i) undef).toArray else cs.getD o undef
theorem Ju {w : World} {b o : Nat} {cs : Array Value} {ty : TypeId} {fr : Nat × Nat} (h : w.heap[b]? = some (.cells cs ty fr)) (G : o < cs.size) :
  w.cell? ⟨b, o, none⟩ = some (cs.getD o undef) := by
 simp [World.cell?, h, Array.getD, G]
theorem Ez {P : Program} {H : GH} {w : World} {t : TypeId} {M : TI} (O : G8 P t = some M) {b G j : Nat} {cs : Array Value} {ty : TypeId} {fr : Nat × Nat} {e : List T} {y : T}
  (hb : w.heap[b]? = some (.cells cs ty fr)) (hsz : G + e.length ≤ cs.size)
  (h1 : ∀ (j : Nat) (x : T), e[j]? = some x → (cs.getD (G + j) undef).oneCell' = true) (hv : ∀ (j : Nat) (x : T), e[j]? = some x → VR H (cs.getD (G + j) undef) x)
  (X : Dx M e j = some y) : (loadVar t ⟨b, G + j, none⟩).run P w = .ok (Es M cs (G + j)) w := by
 unfold Es
 obtain ⟨Z, p2⟩ := F2 hsz h1 hv X
 cases ha : M.isAgg with
 | true =>
  obtain ⟨Y, _⟩ := Z ha
  have W := run_loadCells (P := P) w ⟨b, G + j, none⟩ M.size (fun i => cs.getD (G + j + i) undef) (fun i hi => by
   rw [C4]; exact Ju hb (by omega))
  simp [loadVar, Fg O, ha, Bl O, W]
 | false =>
  obtain ⟨Y, _⟩ := p2 ha
  simp [loadVar, Fg O, ha, Ju hb (show G + j < cs.size by omega)]
theorem cB {t : TypeId} {x : Operand} {cs : List T} {G : TI} {y : T} {objs : List Ob} {s : Ak} (W : E.tab t = some G) (Y : Aq s x = some (.eptr cs)) (M : Dx G cs 0 = some y) :
  Yd E.P n s objs ⟨dst, .load t x, ty, pos, aft, g⟩ y := by
 intro H a w r wr
 have h := r.eval Y
 generalize X : a.eval x = v at h
 cases h with
 | eptr b off l cs' ty' fr hb hsz h1 hvs =>
  obtain ⟨Z, p2⟩ := F2 hsz h1 hvs M
  refine ⟨Es G cs' off, ?_, fun w' O => ?_⟩
  rotate_left
  ·have := Ez (j := 0) (E.ok _ _ W) (O.1 _ _ hb) hsz h1 hvs M
   simp only [execOp, X, Instr.loadAt, Instr.sureAddr, Sem.run_bind, Sem.run_pure, Result.andThen_ok]
   simp only [Nat.add_zero] at this
   rw [this]
   first | done | rfl
  ·cases ha : G.isAgg with
   | true => simpa [Es, ha] using (Z ha).2
   | false => simpa [Es, ha] using (p2 ha).2
theorem OR.cells {H : GH} {w : World} {b W sz cap : Nat} {es : List (List T)} (h : OR H w (.arr b W sz cap es)) {i : Nat} {e : List T} (he : es[i]? = some e) :
  ∃ cs, w.heap[b]? = some (.cells cs W (0, 0)) ∧ i * sz + e.length ≤ cs.size ∧ e.length = sz ∧
   (∀ (j : Nat) (x : T), e[j]? = some x → (cs.getD (i * sz + j) undef).oneCell' = true) ∧ (∀ (j : Nat) (x : T), e[j]? = some x → VR H (cs.getD (i * sz + j) undef) x) := by
 obtain ⟨cs, X, Y, Z, a4, M, O⟩ := h
 refine ⟨cs, X, ?_, M i e he, fun j x G => (O i e he j x G).1, fun j x G => (O i e he j x G).2⟩
 have hi : i < es.length := (gs he).1
 have : (i + 1) * sz ≤ cap * sz := Nat.mul_le_mul_right _ (by omega)
 rw [Nat.succ_mul] at this
 rw [M i e he, Y]; exact this
theorem Bn (k : Nat) {t : TypeId} {x : Operand} {M : TI} {y : T} {objs : List Ob} {s : Ak} {b off tt sz cap : Nat} {es : List (List T)} (i j : Nat) {e : List T}
  (ht : E.tab t = some M) (hx : Aq s x = some (.v (.pointer (some ⟨b, off, none⟩))))
  (Y : objs[k]? = some (.arr b tt sz cap es)) (he : es[i]? = some e) (ho : off = i * sz + j) (Z : Dx M e j = some y) :
  Yd E.P n s objs ⟨dst, .load t x, ty, pos, aft, g⟩ y := by
 intro H a w r wr
 have hv := r.evalv hx
 have O := wr.objs _ (mg Y)
 obtain ⟨cs, a1, W, a3, X, G⟩ := OR.cells O he
 obtain ⟨p1, p2⟩ := F2 W X G Z
 subst ho
 refine ⟨Es M cs (i * sz + j), ?_, fun w' ag => ?_⟩
 rotate_left
 ·have hb := ag.2 _ (mg Y)
  have := Ez (j := j) (E.ok _ _ ht) ((hb b (by simp [Ob.fp])).trans a1) W X G Z
  simp only [execOp, hv, Instr.loadAt, Instr.sureAddr, Sem.run_bind, Sem.run_pure, Result.andThen_ok, this]
  first | done | rfl
 ·cases ha : M.isAgg with
  | true => simpa [Es, ha] using (p1 ha).2
  | false => simpa [Es, ha] using (p2 ha).2
theorem UsR.arr {H : GH} {w : World} {v : Value} {G sz : Nat} {es : List (List T)} (h : UsR H w v G sz es) {i : Nat} {e : List T} (he : es[i]? = some e) :
  ∃ c cap, v = .slice (some ⟨Qx v, 0, none⟩) es.length c ∧ es.length ≤ c ∧ c ≤ cap ∧ ArrR H w (Qx v) G sz cap es ∧ Gq v = [Qx v] := by
 rcases h with ⟨_, h⟩ | ⟨b, c, cap, rfl, M, O, W⟩
 ·subst h; simp at he
 ·exact ⟨c, cap, rfl, M, O, W, rfl⟩
theorem A7 (k : Nat) {t : TypeId} {x : Operand} {Y : TI} {y : T} {objs : List Ob} {s : Ak} {v : Value} {off W sz : Nat} {es : List (List T)} (i j : Nat) {e : List T}
  (ht : E.tab t = some Y) (hx : Aq s x = some (.v (.pointer (some ⟨Qx v, off, none⟩))))
  (Z : objs[k]? = some (.us v W sz es)) (he : es[i]? = some e) (ho : off = i * sz + j) (G : Dx Y e j = some y) :
  Yd E.P n s objs ⟨dst, .load t x, ty, pos, aft, g⟩ y := by
 intro H a w r wr
 have O : UsR H w v W sz es := wr.objs _ (mg Z)
 obtain ⟨c, M, hv, h1, h2, h3, h4⟩ := O.arr he
 obtain ⟨z, hz, hr⟩ := Bn (E := E) (n := n) (dst := dst) (ty := ty) (pos := pos) (aft := aft) (g := g) (objs := [.arr (Qx v) W sz M es]) 0 i j ht hx rfl he ho G H a w r ⟨fun p G => by simp at G; subst G; exact h3, wr.held⟩
 refine ⟨z, hz, fun w' X => hr w' ⟨X.1, fun p G b hb => ?_⟩⟩
 simp only [List.mem_singleton] at G
 subst G
 exact X.2 _ (mg Z) b (by simp only [Ob.fp, h4] at *; exact hb)
theorem fA (k : Nat) {x : Operand} {t : TypeId} {objs : List Ob} {s : Ak} {v : Value} {Y sz : Nat} {es : List (List T)} {ti : TI} {e : Nat} (M : E.tab t = some ti) (G : ti.kind = .slice e) (O : Aq s x = some (.v v))
  (ho : objs[k]? = some (.us v Y sz es)) : Yd E.P n s objs ⟨dst, .call { callee := .builtin .len, args := #[x], argTypes := #[t] }, ty, pos, aft, g⟩ (.v (.int .i64 es.length)) := by
 intro H a w r wr
 have W : UsR H w v Y sz es := wr.objs _ (mg ho)
 rcases W with ⟨rfl, rfl⟩ | ⟨b, c, Z, rfl, h1, h2, h3⟩
 ·exact ⟨_, .v _, fun X _ => (E8 (E := E) (n := n) M G O H a r).choose_spec.2 X |> fun h => by rw [h]; have := (E8 (E := E) (n := n) (dst := dst) (ty := ty) (pos := pos) (aft := aft) (g := g) M G O H a r).choose_spec.1.v_eq; rw [this]; rfl⟩
 ·exact ⟨_, .v _, fun X _ => (E8 (E := E) (n := n) M G O H a r).choose_spec.2 X |> fun h => by rw [h]; have := (E8 (E := E) (n := n) (dst := dst) (ty := ty) (pos := pos) (aft := aft) (g := g) M G O H a r).choose_spec.1.v_eq; rw [this]⟩
theorem Be (k : Nat) {t : TypeId} {x y : Operand} {kk : IntKind} {i : Int} {m : Nat} {objs : List Ob} {s : Ak} {v : Value} {tt sz : Nat} {es : List (List T)} {e : List T} {ti X : TI} {W : Nat}
  (Z : E.tab t = some ti) (Y : ti.kind = .slice W) (hel : E.tab W = some X) (hsz : X.size = sz)
  (hx : Aq s x = some (.v v)) (ho : objs[k]? = some (.us v tt sz es)) (hy : Aq s y = some (.v (.int kk i))) (hi : i = (m : Int)) (M : es[m]? = some e) :
  Yd E.P n s objs ⟨dst, .indexAddr t x y, ty, pos, aft, g⟩ (.v (.pointer (some ⟨Qx v, m * sz, none⟩))) := by
 intro H a w r wr
 have O : UsR H w v tt sz es := wr.objs _ (mg ho)
 obtain ⟨c, cap, hv, h1, h2, h3, h4⟩ := O.arr M
 have G : Aq s x = some (.v (.slice (some ⟨Qx v, 0, none⟩) es.length c)) := by rw [← hv]; exact hx
 have := Ll (E := E) (n := n) (dst := dst) (ty := ty) (pos := pos) (aft := aft) (g := g) Z Y hel G hy hi (gs M).1 H a r
 rw [hsz, Nat.zero_add] at this
 exact (Yp.yd (fun H A r => Ll (E := E) (n := n) (dst := dst) (ty := ty) (pos := pos) (aft := aft) (g := g) Z Y hel G hy hi (gs M).1 H A r) (objs := objs) H a w r wr) |> fun h => by rw [hsz, Nat.zero_add] at h; exact h
theorem AO.still {G : Array Oper} {o : Oper} {l : List Oper} {R : St → Prop} {x : T} (hy : Yd E.P n σ.slots σ.objs o x) (hg : o.guard = none) (O : ∀ d, o.dst = some d → d < n)
  (k : AO E n C G l (σ.put o.dst x) R) : AO E n C G (o :: l) σ R := by
 intro H a w M
 obtain ⟨v, X, W⟩ := hy H a w M.sr M.wr
 simp only [Vr]
 rw [if_pos (by simp [Region.wanted, hg])]
 refine Pv ?_
 simp only [Oper.wp, W w ⟨M.held, fun _ _ _ _ => rfl⟩, Oper.upon]
 exact k H _ w (M.put X O)
theorem By {n d : Nat} (h : Nat.blt d n = true) : ∀ G, some d = some G → G < n := fun G he => by
 cases he; exact Nat.le_of_ble_eq_true h
theorem Ex {H : GH} {a : Act} {s : Ak} (r : SR n s H a) {G : Array Oper} {j : Nat} {t : Tmp} {b : Bool} (X : (G[j]?).bind (·.dst) = some t) (Y : get s t = some (.v (.bool b))) :
  yielded G a.tmps j = some b := by
 have M := (r.slots t _ Y).v_eq
 have O : t < a.tmps.size := by
  apply Classical.byContradiction
  intro W
  rw [Array.getD_eq_getD_getElem?, Array.getElem?_eq_none (Nat.le_of_not_lt W)] at M
  simp [undef] at M
 have : a.tmps[t]? = some (.bool b) := by
  rw [Array.getD_eq_getD_getElem?, Array.getElem?_eq_getElem O] at M
  rw [Array.getElem?_eq_getElem O]; simpa using M
 simp [yielded, X, this]
theorem AO.guard {G : Array Oper} {Y : Op} {l : List Oper} {R : St → Prop} {j : Nat} {want b : Bool} {t : Tmp}
  (hj : (G[j]?).bind (·.dst) = some t) (hs : get σ.slots t = some (.v (.bool b))) (Z : ∀ d, dst = some d → d < n)
  (h1 : b = want → AO E n C G (⟨dst, Y, ty, pos, aft, none⟩ :: l) σ R)
  (h2 : b = !want → AO E n C G l (σ.put dst (.v undef)) R) : AO E n C G (⟨dst, Y, ty, pos, aft, some (j, want)⟩ :: l) σ R := by
 intro H a w M
 have X := Ex M.sr hj hs
 simp only [Vr]
 by_cases O : b = want
 ·rw [if_pos (by simp [Region.wanted, X, O])]
  have := h1 O H a w M
  simp only [Vr] at this
  rw [if_pos (by simp [Region.wanted])] at this
  exact this
 ·rw [if_neg (by simp [Region.wanted, X, O])]
  have W : b = !want := by cases b <;> cases want <;> simp_all
  exact h2 W H _ w (M.put (.v _) Z)
def fJ (X : List Nat) (G : Array Bool) : Bool := X.all fun x => !(G.getD x true)
def Ew (P : Program) (G : Array Oper) (Q : Exit → Act → World → Prop) (S : World → Prop) (X : List Nat) : Nat → Array Bool → Act → World → Prop
 | 0, listed, a, w => Region.ready .any G listed = [] ∧ Q .normal a w
 | fuel + 1, listed, a, w =>
  (Region.ready .any G listed = [] → Q .normal a w) ∧
  ∀ i ∈ Region.ready .any G listed, wpOp P G Q i (fun O M => (fJ X (listed.setIfInBounds i true) = true → S M) ∧ Ew P G Q S X fuel (listed.setIfInBounds i true) O M) a w
theorem Oe {P : Program} {O : Array Oper} {Q : Exit → Act → World → Prop} {S : World → Prop} {X : List Nat} : ∀ (G : Nat) (M : Array Bool) (a : Act) (w : World), Ew P O Q S X G M a w → wpAny P .any O Q G M a w
 | 0, _, _, _, h => h
 | G + 1, _, _, _, h => ⟨h.1, fun i Z => wpOp_mono (fun W w' Y => Oe G _ W w' Y.2) (h.2 i Z)⟩
theorem Lv {P : Program} {O : Array Oper} {Q : Exit → Act → World → Prop} {S : World → Prop} {X : List Nat} {G : Array Bool} {a : Act} {w : World} (W : Region.ready .any O G = []) (h : Q .normal a w) :
  ∀ M, Ew P O Q S X M G a w
 | 0 => ⟨W, h⟩
 | _ + 1 => ⟨fun _ => h, by rw [W]; simp⟩
theorem Do {P : Program} {M : Array Oper} {Q : Exit → Act → World → Prop} {S : World → Prop} {X Y : List Nat} {O : Nat} {G : Array Bool} {a : Act} {w : World} (Z : Region.ready .any M G = Y) (W : Y ≠ [])
  (h : ∀ i ∈ Y, wpOp P M Q i (fun a' w' => (fJ X (G.setIfInBounds i true) = true → S w') ∧ Ew P M Q S X O (G.setIfInBounds i true) a' w') a w) : Ew P M Q S X (O + 1) G a w :=
 ⟨fun h0 => absurd (Z ▸ h0) W, Z ▸ h⟩
def Blk (M : Array Oper) (G : Array Bool) (U : List Nat) (i : Nat) : Prop :=
 ∀ u, u ∈ U → G.getD u true = false ∧ (u = i ∨ ∃ o e, M[u]? = some o ∧ e ∈ o.after ∧ Region.binds .any e = true ∧ e.on ∈ U)
theorem Blk.not_ready {W : Array Oper} {G : Array Bool} {U : List Nat} {i j : Nat} (hb : Blk W G U i) (hj : j ∈ Region.ready .any W G) (aa : j ≠ i) : j ∉ U := by
 intro hU
 obtain ⟨_, h⟩ := hb j hU
 rcases h with h | ⟨o, e, ho, he, Z, ab⟩
 ·exact aa h
 ·obtain ⟨_, o', O, M⟩ := mem_ready.1 hj
  rw [ho] at O
  cases O
  have X := M e he Z
  have h0 := (hb e.on ab).1
  rcases Nat.lt_or_ge e.on G.size with Y | Y
  ·simp [Y] at h0 X; rw [h0] at X; cases X
  ·simp [Array.getElem?_eq_none Y] at X
theorem Jw {P : Program} {M : Array Oper} {Q : Exit → Act → World → Prop} {S : World → Prop} {X U : List Nat} {i : Nat} {oi : Oper} {v : Value} (hi : M[i]? = some oi) (ad : ∀ (j : Nat) (o : Oper) cs b, M[j]? = some o → o.op ≠ .select cs b)
  (hQ : ∀ c a w, Q (.panic c) (a.put oi.dst v) w → Q (.panic c) a w) (hX : ∀ x, x ∈ X → x ∈ U ∧ x ≠ i) :
  ∀ (W : Nat) (G : Array Bool) (a : Act) (w : World),
   (∀ j oj, M[j]? = some oj → j ≠ i → G.getD j true = false → (∀ e ∈ oj.after, Region.binds .any e = true → e.on ≠ i) → oi.apart M oj = true) → Blk M G U i →
   i ∈ Region.ready .any M G → YieldsIf P M S oi v a → S w →
   Ew P M Q S X W (G.setIfInBounds i true) (a.put oi.dst v) w → Ew P M Q S X (W + 1) G a w := by
 intro W
 induction W with
 | zero =>
  intro G a w _ _ hr hy hS H
  refine ⟨fun h => (by rw [h] at hr; cases hr), fun j hj => ?_⟩
  by_cases O : j = i
  ·subst O; exact hy.wpOp hi hS ⟨fun _ => hS, H⟩
  ·have := ready_mono hj O
   rw [H.1] at this
   cases this
 | succ W ih =>
  intro G a w Z Y hr hy hS H
  refine ⟨fun h => (by rw [h] at hr; cases hr), fun j hj => ?_⟩
  by_cases O : j = i
  ·subst O; exact hy.wpOp hi hS ⟨fun _ => hS, H⟩
  ·have h1 := H.2 j (ready_mono hj O)
   have hjU := Y.not_ready hj O
   obtain ⟨ac, oj, hoj, hall⟩ := mem_ready.1 hj
   have hnot : ∀ e ∈ oj.after, Region.binds .any e = true → e.on ≠ i := fun e he hb heq => by
    have h1 := hall e he hb
    have h0 := (mem_ready.1 hr).1
    rw [heq] at h1
    rcases Nat.lt_or_ge i G.size with h' | h'
    ·simp [h'] at h0 h1; rw [h0] at h1; cases h1
    ·simp [Array.getElem?_eq_none h'] at h1
   have ab : fJ X ((G.setIfInBounds i true).setIfInBounds j true) = true := by
    refine List.all_eq_true.2 fun x hx => ?_
    obtain ⟨hxU, hxi⟩ := hX x hx
    rw [getD_set_ne true (show j ≠ x from fun h => hjU (h ▸ hxU)), getD_set_ne true (Ne.symm hxi), (Y x hxU).1]; rfl
   have h2 := wpOp_putIf hoj (Z j oj hoj O ac hnot) (fun cs b => ad i oi cs b hi) (fun cs b => ad j oj cs b hoj) hQ hy h1
   have aa : ∀ k ok, M[k]? = some ok → k ≠ i → (G.setIfInBounds j true).getD k true = false →
     (∀ e ∈ ok.after, Region.binds .any e = true → e.on ≠ i) → oi.apart M ok = true := fun k ok hk hki hun ab => by
    refine Z k ok hk hki ?_ ab
    by_cases hjk : j = k
    ·subst hjk; exact ac
    ·rw [getD_set_ne true hjk] at hun; exact hun
   have hblk' : Blk M (G.setIfInBounds j true) U i := fun u hu => ⟨by rw [getD_set_ne true (show j ≠ u from fun h => hjU (h ▸ hu))]; exact (Y u hu).1, (Y u hu).2⟩
   refine wpOp_mono (fun a' w' h3 => ⟨fun _ => h3.2.1 ab, ih (G.setIfInBounds j true) a' w' aa hblk' (ready_mono hr (Ne.symm O)) h3.1 (h3.2.1 ab) ?_⟩) h2
   rw [Array.setIfInBounds_comm _ _ O]
   exact h3.2.2
def gF (M : Array Oper) (G : Array Bool) (i : Nat) : List Nat :=
 (List.range M.size).foldl (fun U u => bif !(G.getD u true) && !(Nat.beq u i) && (match M[u]? with | some o => o.after.any (fun e => Region.binds .any e && U.contains e.on) | none => false) then u :: U else U) [i]
def iC (M : Array Oper) (G : Array Bool) (X U : List Nat) (i : Nat) : Bool :=
 X.isEmpty || (U.all (fun u => !(G.getD u true) && (Nat.beq u i || (match M[u]? with | some o => o.after.any (fun e => Region.binds .any e && U.contains e.on) | none => false))) && X.all (fun x => U.contains x && !(Nat.beq x i)))
theorem Tu {P : Program} {G : Array Oper} {Q : Exit → Act → World → Prop} {S : World → Prop} {X U : List Nat} {i : Nat} {oi : Oper} {v : Value} {M : Nat} {listed : Array Bool} {a : Act} {w : World} (hi : G[i]? = some oi)
  (hs : Region.noSelect G = true) (hf : Region.free .any G listed i = true) (hr : (Region.ready .any G listed).contains i = true) (hb : iC G listed X U i = true)
  (hQ : ∀ c a w, Q (.panic c) (a.put oi.dst v) w → Q (.panic c) a w) (hy : YieldsIf P G S oi v a) (hS : S w)
  (h : Ew P G Q S X M (listed.setIfInBounds i true) (a.put oi.dst v) w) : Ew P G Q S X (M + 1) listed a w := by
 have W : i ∈ Region.ready .any G listed := by simpa using hr
 rcases Bool.or_eq_true _ _ |>.mp hb with hb | hb
 ·have : X = [] := by simpa using hb
  subst this
  exact Jw (U := [i]) hi (Region.noSelect_spec hs) hQ (by simp) M listed a w (Region.free_spec hi hf) (fun u Y => by simp at Y; subst Y; exact ⟨(mem_ready.1 W).1, .inl rfl⟩) W hy hS h
 ·simp only [Bool.and_eq_true] at hb
  obtain ⟨h1, h2⟩ := hb
  refine Jw (U := U) hi (Region.noSelect_spec hs) hQ (fun x hx => ?_) M listed a w (Region.free_spec hi hf) (fun u Y => ?_) W hy hS h
  ·have := List.all_eq_true.1 h2 x hx
   simp only [Bool.and_eq_true, Bool.not_eq_true'] at this
   refine ⟨by simpa using this.1, fun Z => ?_⟩
   rw [Z] at this
   simp at this
  ·have := List.all_eq_true.1 h1 u Y
   simp only [Bool.and_eq_true, Bool.not_eq_true', Bool.or_eq_true] at this
   refine ⟨this.1, ?_⟩
   rcases this.2 with h | h
   ·exact .inl (nq h)
   ·split at h
    ·rename_i o ho
     rw [Array.any_eq_true'] at h
     obtain ⟨e, Z, O⟩ := h
     simp only [Bool.and_eq_true] at O
     exact .inr ⟨o, e, ho, Z, O.1, by simpa using O.2⟩
    ·cases h
inductive PL where
 | nil
 | still (i : Nat) (r : PL)
 | act (i : Nat) (r : PL)
 | two (i j : Nat) (r1 r2 : PL)
 | three (i j k : Nat) (r1 r2 r3 : PL)
 | four (i j k l : Nat) (r1 r2 r3 r4 : PL)
 | five (i j k l m : Nat) (r1 r2 r3 r4 r5 : PL)
 | par (A : List (Nat × List Nat)) (r : PL)
 | drop (i : Nat) (r : PL)
 | parS (A : List (Nat × List Nat)) (L : List (List Nat)) (r : PL)
def Po (G : Array Oper) (A : List (Nat × List Nat)) (k : Array Bool → Bool) : Nat → List Nat → Array Bool → Bool
 | 0, _, _ => false
 | f + 1, D, listed => bif A.all (fun p => D.contains p.1) then k listed else
  match Region.ready .any G listed with
  | [] => false
  | i :: l => (i :: l).all fun j => !D.contains j && A.any (fun p => Nat.beq p.1 j && p.2.all D.contains) && Po G A k f (j :: D) (listed.setIfInBounds j true)
def Ha : Array Bool → List Nat → Array Bool
 | a, [] => a
 | a, x :: D => Ha (a.setIfInBounds x true) D
def Qz (j : Nat) : List Nat → List Nat
 | [] => [j]
 | x :: D => bif Nat.ble j x then j :: x :: D else x :: Qz j D
def hR : List Nat → List Nat → Bool
 | [], [] => true
 | x :: a, y :: b => Nat.beq x y && hR a b
 | _, _ => false
def hasL (j : Nat) : List Nat → Bool
 | [] => false
 | x :: l => Nat.beq x j || hasL j l
def aM (M : Array Oper) (A : List (Nat × List Nat)) (L : List (List Nat)) (k : Array Bool → Bool) (G : Array Bool) : Bool :=
 L.any (hR []) && L.all fun D => Nat.ble D.length A.length && bif A.all (fun p => hasL p.1 D) then k (Ha G D) else
  match Region.ready .any M (Ha G D) with
  | [] => false
  | i :: l => Nat.blt D.length A.length && (i :: l).all fun j => !hasL j D && A.any (fun p => Nat.beq p.1 j && p.2.all fun d => hasL d D) && L.any (hR (Qz j D))
theorem Ui : ∀ {a b : List Nat}, hR a b = true → a = b
 | [], [], _ => rfl
 | x :: a, y :: b, h => by
  simp only [hR, Bool.and_eq_true] at h
  rw [nq h.1, Ui h.2]
theorem Jr {j : Nat} : ∀ {l : List Nat}, hasL j l = true ↔ j ∈ l
 | [] => by simp [hasL]
 | x :: l => by
  simp only [hasL, Bool.or_eq_true, List.mem_cons, Jr (l := l)]
  exact ⟨fun h => h.imp (fun h => (nq h).symm) id, fun h => h.imp (fun h => by rw [h]; simp) id⟩
theorem Tb {j i : Nat} : ∀ {D : List Nat}, i ∈ Qz j D ↔ i = j ∨ i ∈ D
 | [] => by simp [Qz]
 | x :: D => by
  simp only [Qz]
  cases Nat.ble j x with
  | true => simp
  | false =>
   simp only [cond_false, List.mem_cons, Tb (D := D)]
   exact ⟨fun h => h.elim (fun h => .inr (.inl h)) fun h => h.elim .inl fun h => .inr (.inr h), fun h => h.elim (fun h => .inr (.inl h)) fun h => h.elim .inl fun h => .inr (.inr h)⟩
theorem Tc {j : Nat} : ∀ {D : List Nat}, (Qz j D).length = D.length + 1
 | [] => rfl
 | x :: D => by
  simp only [Qz]
  cases Nat.ble j x with
  | true => rfl
  | false => simp only [cond_false, List.length_cons, Tc (D := D)]
theorem bB {a : Array Bool} {i j : Nat} : (a.setIfInBounds i true).setIfInBounds j true = (a.setIfInBounds j true).setIfInBounds i true := by
 refine Array.ext_getElem? fun k => ?_
 simp only [Array.getElem?_setIfInBounds, Array.size_setIfInBounds]
 by_cases h : i = k <;> by_cases G : j = k <;> simp [h, G]
theorem Py {j : Nat} : ∀ {D : List Nat} {a : Array Bool}, Ha (a.setIfInBounds j true) D = (Ha a D).setIfInBounds j true
 | [], _ => rfl
 | x :: D, a => by simp only [Ha]; rw [bB, Py]
theorem Pz {j : Nat} : ∀ {D : List Nat} {a : Array Bool}, Ha a (Qz j D) = (Ha a D).setIfInBounds j true
 | [], _ => rfl
 | x :: D, a => by
  simp only [Qz]
  cases Nat.ble j x with
  | true => exact Py (D := x :: D)
  | false => simp only [cond_false, Ha]; exact Pz
def PL.actsOnly : PL → Bool
 | .nil => true
 | .act _ r => r.actsOnly
 | .drop _ r => r.actsOnly
 | _ => false
def PL.drops : PL → List Nat
 | .nil => []
 | .still _ r => r.drops
 | .act _ r => r.drops
 | .two _ _ r1 r2 => r1.drops ++ r2.drops
 | .three _ _ _ r1 r2 r3 => r1.drops ++ (r2.drops ++ r3.drops)
 | .four _ _ _ _ r1 r2 r3 r4 => r1.drops ++ (r2.drops ++ (r3.drops ++ r4.drops))
 | .five _ _ _ _ _ r1 r2 r3 r4 r5 => r1.drops ++ (r2.drops ++ (r3.drops ++ (r4.drops ++ r5.drops)))
 | .par _ r => r.drops
 | .drop i r => i :: r.drops
 | .parS _ _ r => r.drops
def Cm (G : Array Oper) (X : List Nat) : PL → Array Bool → Bool
 | .nil, listed => (Region.ready .any G listed).isEmpty
 | .still i r, listed => Region.free .any G listed i && (Region.ready .any G listed).contains i && iC G listed X (bif X.isEmpty then [] else gF G listed i) i && Cm G X r (listed.setIfInBounds i true)
 | .act i r, listed => Region.ready .any G listed == [i] && Cm G X r (listed.setIfInBounds i true)
 | .two i j r1 r2, listed => Region.ready .any G listed == [i, j] && Cm G X r1 (listed.setIfInBounds i true) && Cm G X r2 (listed.setIfInBounds j true)
 | .three i j k r1 r2 r3, listed => Region.ready .any G listed == [i, j, k] && Cm G X r1 (listed.setIfInBounds i true) && Cm G X r2 (listed.setIfInBounds j true) && Cm G X r3 (listed.setIfInBounds k true)
 | .four i j k l r1 r2 r3 r4, listed => Region.ready .any G listed == [i, j, k, l] && Cm G X r1 (listed.setIfInBounds i true) && Cm G X r2 (listed.setIfInBounds j true) && Cm G X r3 (listed.setIfInBounds k true) && Cm G X r4 (listed.setIfInBounds l true)
 | .five i j k l m r1 r2 r3 r4 r5, listed => Region.ready .any G listed == [i, j, k, l, m] && Cm G X r1 (listed.setIfInBounds i true) && Cm G X r2 (listed.setIfInBounds j true) && Cm G X r3 (listed.setIfInBounds k true) && Cm G X r4 (listed.setIfInBounds l true) && Cm G X r5 (listed.setIfInBounds m true)
 | .par A r, listed => Po G A (Cm G X r) (A.length + 1) [] listed
 | .drop i r, listed => Region.ready .any G listed == [i] && X.contains i && r.actsOnly && Cm G X r (listed.setIfInBounds i true)
 | .parS A L r, listed => aM G A L (Cm G X r) listed
def PL.depth : PL → Nat
 | .nil => 0
 | .still _ r => r.depth + 1
 | .act _ r => r.depth + 1
 | .two _ _ r1 r2 => max r1.depth r2.depth + 1
 | .three _ _ _ r1 r2 r3 => max r1.depth (max r2.depth r3.depth) + 1
 | .four _ _ _ _ r1 r2 r3 r4 => max r1.depth (max r2.depth (max r3.depth r4.depth)) + 1
 | .five _ _ _ _ _ r1 r2 r3 r4 r5 => max r1.depth (max r2.depth (max r3.depth (max r4.depth r5.depth))) + 1
 | .par A r => r.depth + A.length
 | .drop _ r => r.depth + 1
 | .parS A _ r => r.depth + A.length
def Pn (G : Array Oper) (pl : PL) : Bool :=
 Region.noSelect G && Nat.ble pl.depth G.size && Cm G pl.drops pl (Array.replicate G.size false)
def Cu (P : Program) (G : Array Oper) (Q : Exit → Act → World → Prop) : (World → Prop) → PL → Act → World → Prop
 | _, .nil, a, w => Q .normal a w
 | S, .still i r, a, w => ∃ o v, G[i]? = some o ∧ YieldsIf P G S o v a ∧ S w ∧ Cu P G Q S r (a.put o.dst v) w
 | S, .act i r, a, w => wpOp P G Q i (fun O M => S M ∧ Cu P G Q S r O M) a w
 | S, .two i j r1 r2, a, w => wpOp P G Q i (fun O M => S M ∧ Cu P G Q S r1 O M) a w ∧ wpOp P G Q j (fun O M => S M ∧ Cu P G Q S r2 O M) a w
 | S, .three i j k r1 r2 r3, a, w => wpOp P G Q i (fun O M => S M ∧ Cu P G Q S r1 O M) a w ∧ wpOp P G Q j (fun O M => S M ∧ Cu P G Q S r2 O M) a w ∧ wpOp P G Q k (fun O M => S M ∧ Cu P G Q S r3 O M) a w
 | S, .four i j k l r1 r2 r3 r4, a, w => wpOp P G Q i (fun O M => S M ∧ Cu P G Q S r1 O M) a w ∧ wpOp P G Q j (fun O M => S M ∧ Cu P G Q S r2 O M) a w ∧ wpOp P G Q k (fun O M => S M ∧ Cu P G Q S r3 O M) a w ∧ wpOp P G Q l (fun O M => S M ∧ Cu P G Q S r4 O M) a w
 | S, .five i j k l m r1 r2 r3 r4 r5, a, w => wpOp P G Q i (fun O M => S M ∧ Cu P G Q S r1 O M) a w ∧ wpOp P G Q j (fun O M => S M ∧ Cu P G Q S r2 O M) a w ∧ wpOp P G Q k (fun O M => S M ∧ Cu P G Q S r3 O M) a w ∧ wpOp P G Q l (fun O M => S M ∧ Cu P G Q S r4 O M) a w ∧ wpOp P G Q m (fun O M => S M ∧ Cu P G Q S r5 O M) a w
 | S, .par A r, a, w => ∃ J : List Nat → Act → World → Prop, J [] a w ∧
   (∀ (D : List Nat) (j : Nat) (W : List Nat) a w, (j, W) ∈ A → (∀ d, d ∈ W → d ∈ D) → j ∉ D → J D a w → wpOp P G Q j (fun O M => S M ∧ J (j :: D) O M) a w) ∧
   (∀ (D : List Nat) a w, (∀ p, p ∈ A → p.1 ∈ D) → J D a w → Cu P G Q S r a w)
 | _, .drop i r, a, w => wpOp P G Q i (fun O M => Cu P G Q (fun _ => True) r O M) a w
 | S, .parS A _ r, a, w => ∃ J : List Nat → Act → World → Prop, J [] a w ∧
   (∀ (D : List Nat) (j : Nat) (W : List Nat) a w, (j, W) ∈ A → (∀ d, d ∈ W → d ∈ D) → j ∉ D → J D a w → wpOp P G Q j (fun O M => S M ∧ J (j :: D) O M) a w) ∧
   (∀ (D : List Nat) a w, (∀ p, p ∈ A → p.1 ∈ D) → J D a w → Cu P G Q S r a w)
theorem Lu {P : Program} {G : Array Oper} {Q : Exit → Act → World → Prop} : ∀ (r : PL) (S : World → Prop) (a : Act) (w : World), r.actsOnly = true → Cu P G Q S r a w → Cu P G Q (fun _ => True) r a w
 | .nil, _, _, _, _, h => h
 | .act _ r, S, _, _, hr, h => wpOp_mono (fun M W O => ⟨trivial, Lu r S M W hr O.2⟩) h
 | .drop _ _, _, _, _, _, h => h
theorem Mb {X : List Nat} {G : Array Bool} {i : Nat} (h : fJ X G = false) : fJ X (G.setIfInBounds i true) = false := by
 unfold fJ at *
 obtain ⟨x, Y, W⟩ := List.all_eq_false.1 h
 refine List.all_eq_false.2 ⟨x, Y, ?_⟩
 simp only [Bool.not_eq_true', Bool.not_eq_false] at *
 by_cases M : i = x
 ·subst M
  by_cases O : i < G.size
  ·simp [O]
  ·simp [O]
 ·rw [getD_set_ne true M]; exact W
theorem V7 {X : List Nat} {G : Array Bool} {i : Nat} (h : X.contains i = true) : fJ X (G.setIfInBounds i true) = false := by
 refine List.all_eq_false.2 ⟨i, by simpa using h, ?_⟩
 by_cases M : i < G.size
 ·simp [M]
 ·simp [M]
theorem Hp {P : Program} {O : Array Oper} {Q : Exit → Act → World → Prop} {S : World → Prop} {X : List Nat} :
  ∀ (pl : PL) (M : Nat) (G : Array Bool) (a : Act) (w : World), pl.actsOnly = true → fJ X G = false → pl.depth ≤ M → Cm O X pl G = true → Cu P O Q (fun _ => True) pl a w → Ew P O Q S X M G a w
 | .nil, M, G, a, w, _, _, _, hp, h => Lv (by simpa [Cm] using hp) h M
 | .act i r, 0, _, _, _, _, _, hl, _, _ => by simp [PL.depth] at hl
 | .act i r, M + 1, G, a, w, ha, hn, hl, hp, h => by
  simp only [Cm, Bool.and_eq_true, beq_iff_eq] at hp
  refine Do hp.1 (by simp) (fun j W => ?_)
  simp only [List.mem_singleton] at W
  subst W
  exact wpOp_mono (fun a' w' Y => ⟨fun Z => absurd Z (by rw [Mb hn]; simp), Hp r M _ _ _ ha (Mb hn) (by simp [PL.depth] at hl; omega) hp.2 Y.2⟩) h
 | .drop i r, 0, _, _, _, _, _, hl, _, _ => by simp [PL.depth] at hl
 | .drop i r, M + 1, G, a, w, ha, hn, hl, hp, h => by
  simp only [Cm, Bool.and_eq_true, beq_iff_eq] at hp
  refine Do hp.1.1.1 (by simp) (fun j W => ?_)
  simp only [List.mem_singleton] at W
  subst W
  exact wpOp_mono (fun a' w' Y => ⟨fun Z => absurd Z (by rw [Mb hn]; simp), Hp r M _ _ _ ha (Mb hn) (by simp [PL.depth] at hl; omega) hp.2 Y⟩) h
theorem Tv {P : Program} {ops : Array Oper} {Q : Exit → Act → World → Prop} {S : World → Prop} {X : List Nat} (hsel : Region.noSelect ops = true) (hQ : ∀ c a w, ¬ Q (.panic c) a w) :
  ∀ (pl : PL) (G : Nat) (M : Array Bool) (a : Act) (w : World), pl.depth ≤ G → Cm ops X pl M = true → Cu P ops Q S pl a w → Ew P ops Q S X G M a w := by
 intro pl
 induction pl with
 | nil =>
  intro G M a w _ Y h
  exact Lv (by simpa [Cm] using Y) h G
 | still i r ih =>
  intro G M a w Z Y h
  cases G with
  | zero => simp [PL.depth] at Z
  | succ G =>
   simp only [Cm, Bool.and_eq_true] at Y
   obtain ⟨⟨⟨hf, hr⟩, hb⟩, hp'⟩ := Y
   obtain ⟨o, v, ho, hy, hS, hrest⟩ := h
   exact Tu ho hsel hf hr hb (fun c a w hq => absurd hq (hQ _ _ _)) hy hS (ih G _ _ _ (by simp [PL.depth] at Z; omega) hp' hrest)
 | act i r ih =>
  intro G M a w Z Y h
  cases G with
  | zero => simp [PL.depth] at Z
  | succ G =>
   simp only [Cm, Bool.and_eq_true, beq_iff_eq] at Y
   obtain ⟨hr, hp'⟩ := Y
   refine Do hr (by simp) (fun j hj => ?_)
   simp only [List.mem_singleton] at hj
   subst hj
   exact wpOp_mono (fun a' w' O => ⟨fun _ => O.1, ih G _ _ _ (by simp [PL.depth] at Z; omega) hp' O.2⟩) h
 | two i j r1 r2 ih1 ih2 =>
  intro G M a w Z Y h
  cases G with
  | zero => simp [PL.depth] at Z
  | succ G =>
   simp only [Cm, Bool.and_eq_true, beq_iff_eq] at Y
   obtain ⟨⟨hr, hp1⟩, hp2⟩ := Y
   simp only [PL.depth] at Z
   refine Do hr (by simp) (fun k W => ?_)
   simp only [List.mem_cons, List.not_mem_nil, or_false] at W
   rcases W with rfl | rfl
   ·exact wpOp_mono (fun a' w' O => ⟨fun _ => O.1, ih1 G _ _ _ (by omega) hp1 O.2⟩) h.1
   ·exact wpOp_mono (fun a' w' O => ⟨fun _ => O.1, ih2 G _ _ _ (by omega) hp2 O.2⟩) h.2
 | three i j k r1 r2 r3 ih1 ih2 ih3 =>
  intro G M a w Z Y h
  cases G with
  | zero => simp [PL.depth] at Z
  | succ G =>
   simp only [Cm, Bool.and_eq_true, beq_iff_eq] at Y
   obtain ⟨⟨⟨hr, hp1⟩, hp2⟩, hp3⟩ := Y
   simp only [PL.depth] at Z
   obtain ⟨hw1, hw2, hw3⟩ := h
   refine Do hr (by simp) (fun kk W => ?_)
   simp only [List.mem_cons, List.not_mem_nil, or_false] at W
   rcases W with rfl | rfl | rfl
   ·exact wpOp_mono (fun a' w' O => ⟨fun _ => O.1, ih1 G _ _ _ (by omega) hp1 O.2⟩) hw1
   ·exact wpOp_mono (fun a' w' O => ⟨fun _ => O.1, ih2 G _ _ _ (by omega) hp2 O.2⟩) hw2
   ·exact wpOp_mono (fun a' w' O => ⟨fun _ => O.1, ih3 G _ _ _ (by omega) hp3 O.2⟩) hw3
 | four i j k l r1 r2 r3 r4 ih1 ih2 ih3 ih4 =>
  intro G M a w Z Y h
  cases G with
  | zero => simp [PL.depth] at Z
  | succ G =>
   simp only [Cm, Bool.and_eq_true, beq_iff_eq] at Y
   obtain ⟨⟨⟨⟨hr, hp1⟩, hp2⟩, hp3⟩, hp4⟩ := Y
   simp only [PL.depth] at Z
   obtain ⟨hw1, hw2, hw3, hw4⟩ := h
   refine Do hr (by simp) (fun kk W => ?_)
   simp only [List.mem_cons, List.not_mem_nil, or_false] at W
   rcases W with rfl | rfl | rfl | rfl
   ·exact wpOp_mono (fun a' w' O => ⟨fun _ => O.1, ih1 G _ _ _ (by omega) hp1 O.2⟩) hw1
   ·exact wpOp_mono (fun a' w' O => ⟨fun _ => O.1, ih2 G _ _ _ (by omega) hp2 O.2⟩) hw2
   ·exact wpOp_mono (fun a' w' O => ⟨fun _ => O.1, ih3 G _ _ _ (by omega) hp3 O.2⟩) hw3
   ·exact wpOp_mono (fun a' w' O => ⟨fun _ => O.1, ih4 G _ _ _ (by omega) hp4 O.2⟩) hw4
 | five i j k l m r1 r2 r3 r4 r5 ih1 ih2 ih3 ih4 ih5 =>
  intro G M a w Z Y h
  cases G with
  | zero => simp [PL.depth] at Z
  | succ G =>
   simp only [Cm, Bool.and_eq_true, beq_iff_eq] at Y
   obtain ⟨⟨⟨⟨⟨hr, hp1⟩, hp2⟩, hp3⟩, hp4⟩, hp5⟩ := Y
   simp only [PL.depth] at Z
   obtain ⟨hw1, hw2, hw3, hw4, hw5⟩ := h
   refine Do hr (by simp) (fun kk W => ?_)
   simp only [List.mem_cons, List.not_mem_nil, or_false] at W
   rcases W with rfl | rfl | rfl | rfl | rfl
   ·exact wpOp_mono (fun a' w' O => ⟨fun _ => O.1, ih1 G _ _ _ (by omega) hp1 O.2⟩) hw1
   ·exact wpOp_mono (fun a' w' O => ⟨fun _ => O.1, ih2 G _ _ _ (by omega) hp2 O.2⟩) hw2
   ·exact wpOp_mono (fun a' w' O => ⟨fun _ => O.1, ih3 G _ _ _ (by omega) hp3 O.2⟩) hw3
   ·exact wpOp_mono (fun a' w' O => ⟨fun _ => O.1, ih4 G _ _ _ (by omega) hp4 O.2⟩) hw4
   ·exact wpOp_mono (fun a' w' O => ⟨fun _ => O.1, ih5 G _ _ _ (by omega) hp5 O.2⟩) hw5
 | drop i r ih =>
  intro G M a w Z Y h
  cases G with
  | zero => simp [PL.depth] at Z
  | succ G =>
   simp only [Cm, Bool.and_eq_true, beq_iff_eq] at Y
   obtain ⟨⟨⟨hr, hx⟩, ha⟩, hp'⟩ := Y
   refine Do hr (by simp) (fun j hj => ?_)
   simp only [List.mem_singleton] at hj
   subst hj
   exact wpOp_mono (fun a' w' O => ⟨fun hn => absurd hn (by rw [V7 hx]; simp), Hp r G _ _ _ ha (V7 hx) (by simp [PL.depth] at Z; omega) hp' O⟩) h
 | par A r ih =>
  intro G M a w Z Y h
  obtain ⟨J, h0, hstep, hend⟩ := h
  simp only [PL.depth] at Z
  have main : ∀ (f : Nat) (D : List Nat) (M : Array Bool) (a : Act) (w : World) (G : Nat), f + r.depth ≤ G + 1 → Po ops A (Cm ops X r) f D M = true → J D a w → Ew P ops Q S X G M a w := by
   intro f
   induction f with
   | zero => intro D M a w G _ W; simp [Po] at W
   | succ f ihf =>
    intro D M a w G hf W hJ
    simp only [Po] at W
    cases hall : A.all (fun p => D.contains p.1) with
    | true =>
     rw [hall, cond_true] at W
     exact ih G M a w (by omega) W (hend D a w (fun p Y => by simpa using List.all_eq_true.1 hall p Y) hJ)
    | false =>
     rw [hall, cond_false] at W
     cases hr : Region.ready .any ops M with
     | nil => rw [hr] at W; simp at W
     | cons i l =>
      rw [hr] at W
      simp only [] at W
      cases G with
      | zero =>
       have hi := List.all_eq_true.1 W i (by simp)
       simp only [Bool.and_eq_true] at hi
       have : f = 0 := by omega
       subst this
       simp [Po] at hi
      | succ G =>
       refine Do hr (by simp) (fun j hj => ?_)
       have hi := List.all_eq_true.1 W j hj
       simp only [Bool.and_eq_true, Bool.not_eq_true', List.any_eq_true] at hi
       obtain ⟨⟨hD, ⟨j', ds⟩, hm, hb, hds⟩, hrec⟩ := hi
       have := nq hb
       dsimp only at this
       subst this
       exact wpOp_mono (fun a' w' O => ⟨fun _ => O.1, ihf _ _ _ _ G (by omega) hrec O.2⟩)
        (hstep D _ ds a w hm (fun d hd => by simpa using List.all_eq_true.1 hds d hd) (by simpa using hD) hJ)
  exact main (A.length + 1) [] M a w G (by omega) Y h0
 | parS A L r ih =>
  intro G M a w Z Y h
  obtain ⟨J, h0, hstep, hend⟩ := h
  simp only [PL.depth] at Z
  simp only [Cm, aM, Bool.and_eq_true] at Y
  obtain ⟨hL0, hL⟩ := Y
  have main : ∀ (f : Nat) (D D0 : List Nat) (a : Act) (w : World) (G : Nat), D ∈ L → (∀ x, x ∈ D0 ↔ x ∈ D) → f + D.length = A.length + 1 → f + r.depth ≤ G + 1 → J D0 a w → Ew P ops Q S X G (Ha M D) a w := by
   intro f
   induction f with
   | zero =>
    intro D D0 a w G hD _ hf _ _
    have := List.all_eq_true.1 hL D hD
    simp only [Bool.and_eq_true] at this
    have := Nat.le_of_ble_eq_true this.1
    omega
   | succ f ihf =>
    intro D D0 a w G hD hs hf hfu hJ
    have W := List.all_eq_true.1 hL D hD
    simp only [Bool.and_eq_true] at W
    obtain ⟨hlen, W⟩ := W
    cases hall : A.all (fun p => hasL p.1 D) with
    | true =>
     rw [hall, cond_true] at W
     exact ih G _ a w (by omega) W (hend D0 a w (fun p Y => (hs _).2 (Jr.1 (List.all_eq_true.1 hall p Y))) hJ)
    | false =>
     rw [hall, cond_false] at W
     cases hr : Region.ready .any ops (Ha M D) with
     | nil => rw [hr] at W; simp at W
     | cons i l =>
      rw [hr] at W
      simp only [Bool.and_eq_true] at W
      obtain ⟨hlt, W⟩ := W
      have hlt := Nat.le_of_ble_eq_true hlt
      cases G with
      | zero => omega
      | succ G =>
       refine Do hr (by simp) (fun j hj => ?_)
       have hi := List.all_eq_true.1 W j hj
       simp only [Bool.and_eq_true, Bool.not_eq_true', List.any_eq_true] at hi
       obtain ⟨⟨hD', ⟨j', ds⟩, hm, hb, hds⟩, D', hDL, he⟩ := hi
       have := nq hb
       dsimp only at this
       subst this
       have he := Ui he
       subst he
       have hjD : j' ∉ D0 := fun h => by
        have := Jr.2 ((hs _).1 h)
        rw [hD'] at this; cases this
       refine wpOp_mono (fun a' w' O => ⟨fun _ => O.1, ?_⟩) (hstep D0 _ ds a w hm (fun d hd => (hs _).2 (Jr.1 (List.all_eq_true.1 hds d hd))) hjD hJ)
       rw [← Pz]
       exact ihf _ (j' :: D0) _ _ G hDL (fun x => by rw [Tb, List.mem_cons, hs]) (by rw [Tc]; omega) (by omega) O.2
  obtain ⟨D, hD, he⟩ := List.any_eq_true.1 hL0
  have he := Ui he
  subst he
  exact main (A.length + 1) [] [] a w G hD (by simp) (by simp) (by omega) h0
theorem Oz {P : Program} {id : Nat} {G : Array Oper} {Q : Exit → Act → World → Prop} {S : World → Prop} {a : Act} {w : World} (W : P.follows .mixedOrders = true) (pl : PL)
  (O : Pn G pl = true) (hQ : ∀ c a w, ¬ Q (.panic c) a w) (hL : ¬ LetsOut Q) (h : Cu P G Q S pl a w.drew) : cw (Code.region id G true) P Q a w := by
 simp only [Pn, Bool.and_eq_true] at O
 obtain ⟨⟨X, Y⟩, Z⟩ := O
 have M := Oe _ _ _ _ (Tv X hQ pl G.size _ a _ (Nat.le_of_ble_eq_true Y) Z h)
 intro ro hn
 cases ro with
 | none => exact wpIn_wide.2 (wp_region_any W M)
 | some q => exact Pe W (hn rfl) hL M
def iW (s : Ak) : Option Tmp → Ak
 | none => s
 | some d => s.filter fun p => !Nat.beq p.1 d
theorem Gb {d i : Nat} : ∀ {s : Ak} {x : T}, get (s.filter fun p => !Nat.beq p.1 d) i = some x → i ≠ d ∧ get s i = some x
 | [], x, h => by simp [get] at h
 | (k, y) :: l, x, h => by
  cases hk : Nat.beq k d with
  | true =>
   simp only [List.filter, hk, Bool.not_true] at h
   obtain ⟨M, O⟩ := Gb h
   have : k = d := nq hk
   refine ⟨M, ?_⟩
   have G : Nat.beq k i = false := by
    cases hb : Nat.beq k i with
    | false => rfl
    | true => exact absurd (by rw [← this, nq hb]) M
   simp [get, G, O]
  | false =>
   simp only [List.filter, hk, Bool.not_false, get] at h
   cases hb : Nat.beq k i with
   | true =>
    simp only [hb, cond_true] at h
    have G := nq hb
    refine ⟨fun W => ?_, by simp [get, hb, h]⟩
    rw [← W, ← G] at hk
    simp at hk
   | false =>
    simp only [hb, cond_false] at h
    obtain ⟨M, O⟩ := Gb h
    exact ⟨M, by simp [get, hb, O]⟩
def free (s : Ak) : Option Tmp → Bool
 | none => true
 | some d => s.all fun p => !Nat.beq p.1 d
theorem Ol {d i : Nat} : ∀ {s : Ak} {x : T}, (s.all fun p => !Nat.beq p.1 d) = true → get s i = some x → i ≠ d
 | [], x, _, h => by simp [get] at h
 | (k, y) :: l, x, ha, h => by
  simp only [List.all_cons, Bool.and_eq_true, Bool.not_eq_true'] at ha
  simp only [get] at h
  cases hb : Nat.beq k i with
  | true =>
   have G := nq hb
   rintro rfl
   rw [hb] at ha; simp at ha
  | false =>
   simp only [hb, cond_false] at h
   exact Ol ha.2 h
theorem SR.free {s : Ak} {H : GH} {a : Act} (r : SR n s H a) (dst : Option Tmp) (v : Value) (hf : free s dst = true) : SR n s H (a.put dst v) := by
 cases dst with
 | none => exact r
 | some d =>
  refine ⟨by simp [Act.put, r.size], fun i x h => ?_⟩
  have G := Ol hf h
  have M : (a.tmps.setIfInBounds d v).getD i undef = a.tmps.getD i undef := by
   simp [Array.getD_eq_getD_getElem?, Array.getElem?_setIfInBounds_ne (Ne.symm G)]
  simp only [Act.put]
  rw [M]; exact r.slots i x h
def D3 (s : Ak) (dst : Option Tmp) (x : T) : Ak :=
 match dst with
 | none => s
 | some d => (d, x) :: s
theorem SR.put {s : Ak} {H : GH} {a : Act} (r : SR n s H a) {dst : Option Tmp} {v : Value} {x : T} (hv : VR H v x) (M : ∀ d, dst = some d → d < n) : SR n (D3 s dst x) H (a.put dst v) := by
 cases dst with
 | none => exact r
 | some d =>
  refine ⟨by simp [Act.put, r.size], fun i y h => ?_⟩
  simp only [D3, get] at h
  simp only [Act.put]
  cases hb : Nat.beq d i with
  | true =>
   have := nq hb
   subst this
   simp only [hb, cond_true, Option.some.injEq] at h
   subst h
   have : d < a.tmps.size := by rw [r.size]; exact M d rfl
   simpa [Array.getD, this] using hv
  | false =>
   simp only [hb, cond_false] at h
   have G : d ≠ i := fun h => by rw [h] at hb; simp at hb
   have O : (a.tmps.setIfInBounds d v).getD i undef = a.tmps.getD i undef := by
    simp [Array.getD_eq_getD_getElem?, Array.getElem?_setIfInBounds_ne G]
   rw [O]; exact r.slots i y h
def AP (E : Env) (n : Nat) (C : Ctx) (O : Array Oper) (M : List Nat) (G : List Ob) (pl : PL) (so : Ak) (σ : St) (R : St → Prop) : Prop :=
 ∀ Hs W H a w, SR n so Hs a → WR G Hs W → Gc Hs G W w → (∀ b o, Hs b = some o → H b = some o) →
  (∀ p, p ∈ G → ∃ i, M.contains i = true ∧ σ.objs[i]? = some p) → Gam n C σ H a w →
  Cu E.P O (fun e X Y => e = .normal ∧ ∃ σ' H', R σ' ∧ Gam n C σ' H' X Y) (Gc Hs G W) pl a w
theorem AP.nil {O : Array Oper} {M : List Nat} {G : List Ob} {so : Ak} {R : St → Prop} (h : R σ) : AP E n C O M G .nil so σ R :=
 fun _ _ H _ _ _ _ _ _ _ W => ⟨rfl, σ, H, h, W⟩
theorem Ur {O : Array Oper} {M : List Nat} {G : List Ob} {so : Ak} {R : St → Prop} {i : Nat} {r : PL} {o : Oper} {x : T} (ho : O[i]? = some o)
  (hy : Yd E.P n so G o x) (hg : o.guard = none) (Z : ∀ d, o.dst = some d → d < n) (k : AP E n C O M G r (D3 so o.dst x) (σ.put o.dst x) R) :
  AP E n C O M G (.still i r) so σ R := by
 intro Hs ws H a w sr wr X Y hp gm
 obtain ⟨v, hv, W⟩ := hy Hs a ws sr wr
 refine ⟨o, v, ho, .inl ⟨by simp [Region.wanted, hg], W⟩, X, ?_⟩
 exact k Hs ws H _ w (sr.put hv Z) wr X Y (by cases h : o.dst <;> simpa [St.put, h] using hp) (gm.put (hv.mono Y) Z)
theorem AP.new {O : Array Oper} {M : List Nat} {G : List Ob} {so : Ak} {R : St → Prop} {i : Nat} {r : PL} {o : Oper} {x : T} (ho : O[i]? = some o)
  (hy : Yp E.P n σ.slots o x) (hg : o.guard = none) (hd : ∀ d, o.dst = some d → d < n) (k : AP E n C O M G r so (σ.put o.dst x) R) (hf : free so o.dst = true := by rfl) :
  AP E n C O M G (.still i r) so σ R := by
 intro Hs ws H a w sr wr X Z hp Y
 obtain ⟨v, hv, W⟩ := hy H a Y.sr
 refine ⟨o, v, ho, .inl ⟨by simp [Region.wanted, hg], fun w' _ => W w'⟩, X, ?_⟩
 exact k Hs ws H _ w (sr.free _ _ hf) wr X Z (by cases h : o.dst <;> simpa [St.put, h] using hp) (Y.put hv hd)
theorem AP.act {X : Array Oper} {M : List Nat} {G : List Ob} {so : Ak} {R : St → Prop} {i : Nat} {r : PL} {o : Oper} (md : List Nat) (ho : X[i]? = some o)
  (hg : o.guard = none) (hm : (M.all fun i => !md.contains i) = true) (h : AX E n C md o σ (fun σ' => AP E n C X M G r so σ' R)) (hf : free so o.dst = true := by rfl) :
  AP E n C X M G (.act i r) so σ R := by
 intro Hs ws H a w sr wr ag hH hp gm
 have ac : ∀ i, M.contains i = true → md.contains i = false := fun i hi => by
  have := (List.all_eq_true.1 hm) i (by simpa using hi)
  simpa using this
 simp only [Cu, wpOp, ho]
 rw [if_pos (by simp [Region.wanted, hg])]
 refine .inl (Cf ?_ (fun _ _ _ h => h.elim) (h H a w gm))
 rintro a' w' ⟨σ', H', v, hr, Z, ad, aa, ab⟩
 have Y : Gc Hs G ws w' := by
  refine ⟨fun b o hb => Z.held _ _ (aa _ _ (hH _ _ hb)), fun p O b hb => ?_⟩
  obtain ⟨i, hi, W⟩ := hp p O
  exact ((ab i p W (ac i hi)).2 b hb).trans (ag.2 p O b hb)
 refine ⟨Y, hr Hs ws H' a' w' (by rw [ad]; exact sr.free _ _ hf) wr Y (fun b o hb => aa _ _ (hH _ _ hb)) (fun p O => ?_) Z⟩
 obtain ⟨i, hi, W⟩ := hp p O
 exact ⟨i, hi, (ab i p W (ac i hi)).1⟩
def jJ := @AP.act
theorem AP.drop {M : Array Oper} {W : List Nat} {O : List Ob} {so : Ak} {R : St → Prop} {i : Nat} {r : PL} {o : Oper} (md : List Nat) (hr : r.actsOnly = true) (ho : M[i]? = some o)
  (hg : o.guard = none) (h : AX E n C md o σ (fun σ' => AP E n C M [] [] r [] σ' R)) :
  AP E n C M W O (.drop i r) so σ R := by
 intro Hs ws H a w sr wr ag hH hp gm
 simp only [Cu, wpOp, ho]
 rw [if_pos (by simp [Region.wanted, hg])]
 refine .inl (Cf ?_ (fun _ _ _ h => h.elim) (h H a w gm))
 rintro Z Y ⟨σ', H', v, X, G, ha', hHH, hfr⟩
 exact Lu r _ Z Y hr (X H' Y H' Z Y ⟨G.size, fun i x h => by simp [get] at h⟩ ⟨by simp, G.held⟩ ⟨G.held, by simp⟩ (fun _ _ h => h) (by simp) G)
def kA := @AP.drop
theorem AP.skip {G : Array Oper} {W : List Nat} {M : List Ob} {so : Ak} {R : St → Prop} {i : Nat} {r : PL} {o : Oper} {j : Nat} {O b : Bool} {t : Tmp} (ho : G[i]? = some o)
  (hg : o.guard = some (j, O)) (hj : (G[j]?).bind (·.dst) = some t) (hs : get σ.slots t = some (.v (.bool b))) (hb : b = !O) (hd : ∀ d, o.dst = some d → d < n)
  (k : AP E n C G W M r so (σ.put o.dst (.v undef)) R) (hf : free so o.dst = true := by rfl) : AP E n C G W M (.still i r) so σ R := by
 intro Hs ws H a w sr wr X Z hp Y
 have hy := Ex Y.sr hj hs
 have hw : Region.wanted o (yielded G a.tmps) = false := by subst hb; cases O <;> simp [Region.wanted, hg, hy]
 have hk := k Hs ws H _ w (sr.free o.dst undef hf) wr X Z (by cases h : o.dst <;> simpa [St.put, h] using hp) (Y.put (.v undef) hd)
 exact ⟨o, undef, ho, .inr ⟨hw, rfl⟩, X, hk⟩
theorem dH {G : Array Oper} {W : List Nat} {M : List Ob} {so : Ak} {R : St → Prop} {i : Nat} {r : PL} {o : Oper} {j : Nat} {O b : Bool} {t : Tmp} (ho : G[i]? = some o)
  (hg : o.guard = some (j, O)) (hj : (G[j]?).bind (·.dst) = some t) (hs : get σ.slots t = some (.v (.bool b))) (hb : b = !O) (hd : ∀ d, o.dst = some d → d < n)
  (k : AP E n C G W M r so (σ.put o.dst (.v undef)) R) (hf : free so o.dst = true := by rfl) : AP E n C G W M (.act i r) so σ R := by
 intro Hs ws H a w sr wr X Z hp Y
 have hy := Ex Y.sr hj hs
 have hw : Region.wanted o (yielded G a.tmps) = false := by subst hb; cases O <;> simp [Region.wanted, hg, hy]
 have hk := k Hs ws H _ w (sr.free o.dst undef hf) wr X Z (by cases h : o.dst <;> simpa [St.put, h] using hp) (Y.put (.v undef) hd)
 simp only [Cu, wpOp, ho]
 rw [if_neg (by simp [hw])]
 exact ⟨X, hk⟩
theorem AP.two {O : Array Oper} {M : List Nat} {G : List Ob} {so : Ak} {R : St → Prop} {i j : Nat} {r1 r2 : PL} (h1 : AP E n C O M G (.act i r1) so σ R) (h2 : AP E n C O M G (.act j r2) so σ R) :
  AP E n C O M G (.two i j r1 r2) so σ R :=
 fun Hs ws H a w sr wr W Y Z X => ⟨h1 Hs ws H a w sr wr W Y Z X, h2 Hs ws H a w sr wr W Y Z X⟩
def jX := @AP.two
theorem AP.three {O : Array Oper} {M : List Nat} {G : List Ob} {so : Ak} {R : St → Prop} {i j k : Nat} {r1 r2 r3 : PL} (h1 : AP E n C O M G (.act i r1) so σ R) (h2 : AP E n C O M G (.act j r2) so σ R) (h3 : AP E n C O M G (.act k r3) so σ R) :
  AP E n C O M G (.three i j k r1 r2 r3) so σ R :=
 fun Hs ws H a w sr wr W Y Z X => ⟨h1 Hs ws H a w sr wr W Y Z X, h2 Hs ws H a w sr wr W Y Z X, h3 Hs ws H a w sr wr W Y Z X⟩
theorem AP.four {O : Array Oper} {M : List Nat} {G : List Ob} {so : Ak} {R : St → Prop} {i j k l : Nat} {r1 r2 r3 r4 : PL} (h1 : AP E n C O M G (.act i r1) so σ R) (h2 : AP E n C O M G (.act j r2) so σ R) (h3 : AP E n C O M G (.act k r3) so σ R) (h4 : AP E n C O M G (.act l r4) so σ R) :
  AP E n C O M G (.four i j k l r1 r2 r3 r4) so σ R :=
 fun Hs ws H a w sr wr W Y Z X => ⟨h1 Hs ws H a w sr wr W Y Z X, h2 Hs ws H a w sr wr W Y Z X, h3 Hs ws H a w sr wr W Y Z X, h4 Hs ws H a w sr wr W Y Z X⟩
theorem AP.five {O : Array Oper} {M : List Nat} {G : List Ob} {so : Ak} {R : St → Prop} {i j k l m : Nat} {r1 r2 r3 r4 r5 : PL} (h1 : AP E n C O M G (.act i r1) so σ R) (h2 : AP E n C O M G (.act j r2) so σ R) (h3 : AP E n C O M G (.act k r3) so σ R) (h4 : AP E n C O M G (.act l r4) so σ R) (h5 : AP E n C O M G (.act m r5) so σ R) :
  AP E n C O M G (.five i j k l m r1 r2 r3 r4 r5) so σ R :=
 fun Hs ws H a w sr wr W Y Z X => ⟨h1 Hs ws H a w sr wr W Y Z X, h2 Hs ws H a w sr wr W Y Z X, h3 Hs ws H a w sr wr W Y Z X, h4 Hs ws H a w sr wr W Y Z X, h5 Hs ws H a w sr wr W Y Z X⟩
theorem AP.weaken {G : Array Oper} {pl : PL} {so : Ak} {R : St → Prop} {s : Ak} {ob : List Ob} (Y : Sub s σ.slots) (X : ob.Sublist σ.objs) (h : AP E n C G [] [] pl so ⟨s, ob⟩ R) :
  AP E n C G [] [] pl so σ R :=
 fun Hs ws H a w Z wr M W _ O => h Hs ws H a w Z wr M W (by simp) (O.weaken Y X)
theorem Jj {M : Array Oper} {O : List Nat} {G : List Ob} {so : Ak} {R : St → Prop} {i : Nat} {r : PL} {op : Op} {x : T} {j : Nat} {W b : Bool} {t : Tmp}
  (ho : M[i]? = some ⟨dst, op, ty, pos, aft, some (j, W)⟩)
  (hj : (M[j]?).bind (·.dst) = some t) (hs : get σ.slots t = some (.v (.bool b))) (hb : b = W)
  (hy : Yd E.P n so G ⟨dst, op, ty, pos, aft, none⟩ x) (hd : ∀ d, dst = some d → d < n) (k : AP E n C M O G r (D3 so dst x) (σ.put dst x) R) :
  AP E n C M O G (.still i r) so σ R := by
 intro Hs ws H a w sr wr Z hH hp gm
 obtain ⟨v, hv, X⟩ := hy Hs a ws sr wr
 have Y := Ex gm.sr hj hs
 refine ⟨_, v, ho, .inl ⟨by simp [Region.wanted, Y, hb], X⟩, Z, ?_⟩
 exact k Hs ws H _ w (sr.put hv hd) wr Z hH (by cases dst <;> simpa [St.put] using hp) (gm.put (hv.mono hH) hd)
theorem fI {M : Array Oper} {O : List Nat} {G : List Ob} {so : Ak} {R : St → Prop} {i : Nat} {r : PL} {op : Op} {x : T} {j : Nat} {W b : Bool} {t : Tmp}
  (ho : M[i]? = some ⟨dst, op, ty, pos, aft, some (j, W)⟩)
  (hj : (M[j]?).bind (·.dst) = some t) (hs : get σ.slots t = some (.v (.bool b))) (hb : b = W)
  (hy : Yp E.P n σ.slots ⟨dst, op, ty, pos, aft, none⟩ x) (hd : ∀ d, dst = some d → d < n) (k : AP E n C M O G r so (σ.put dst x) R) (hf : free so dst = true := by rfl) :
  AP E n C M O G (.still i r) so σ R := by
 intro Hs ws H a w sr wr ag hH hp Y
 obtain ⟨v, hv, X⟩ := hy H a Y.sr
 have Z := Ex Y.sr hj hs
 refine ⟨_, v, ho, .inl ⟨by simp [Region.wanted, Z, hb], fun w' _ => X w'⟩, ag, ?_⟩
 exact k Hs ws H _ w (sr.free _ _ hf) wr ag hH (by cases dst <;> simpa [St.put] using hp) (Y.put hv hd)
theorem Wk {X : Array Oper} {M : List Nat} {G : List Ob} {so : Ak} {R : St → Prop} {i : Nat} {r : PL} {op : Op} {j : Nat} {O b : Bool} {t : Tmp} (md : List Nat)
  (ho : X[i]? = some ⟨dst, op, ty, pos, aft, some (j, O)⟩)
  (hj : (X[j]?).bind (·.dst) = some t) (hs : get σ.slots t = some (.v (.bool b))) (hb : b = O) (hm : (M.all fun i => !md.contains i) = true)
  (h : AX E n C md ⟨dst, op, ty, pos, aft, none⟩ σ (fun σ' => AP E n C X M G r so σ' R)) (hf : free so dst = true := by rfl) :
  AP E n C X M G (.act i r) so σ R := by
 intro Hs ws H a w sr wr ag hH hp gm
 have ad : ∀ i, M.contains i = true → md.contains i = false := fun i hi => by
  have := (List.all_eq_true.1 hm) i (by simpa using hi)
  simpa using this
 have af := Ex gm.sr hj hs
 simp only [Cu, wpOp, ho]
 rw [if_pos (by simp [Region.wanted, af, hb])]
 have e : ∀ K Q, Oper.wp E.P ⟨dst, op, ty, pos, aft, some (j, O)⟩ a w K Q = Oper.wp E.P ⟨dst, op, ty, pos, aft, none⟩ a w K Q := fun _ _ => rfl
 rw [e]
 refine .inl (Cf ?_ (fun _ _ _ h => h.elim) (h H a w gm))
 rintro a' w' ⟨σ', H', v, hr, aa, ae, ab, ac⟩
 have Z : Gc Hs G ws w' := by
  refine ⟨fun b o hb => aa.held _ _ (ab _ _ (hH _ _ hb)), fun p W b hb => ?_⟩
  obtain ⟨i, hi, Y⟩ := hp p W
  exact ((ac i p Y (ad i hi)).2 b hb).trans (ag.2 p W b hb)
 refine ⟨Z, hr Hs ws H' a' w' (by rw [ae]; exact sr.free _ _ hf) wr Z (fun b o hb => ab _ _ (hH _ _ hb)) (fun p W => ?_) aa⟩
 obtain ⟨i, hi, Y⟩ := hp p W
 exact ⟨i, hi, (ac i p Y (ad i hi)).1⟩
theorem Gam.drew {H : GH} {a : Act} {w : World} (G : Gam n C σ H a w) : Gam n C σ H a w.drew :=
 { G with
  objs := fun p M => OR.mono (fun _ _ h => h) (fun _ _ => rfl) (G.objs p M)
  held := G.held, heap := G.heap, frame := G.frame }
theorem I8 {id : Nat} {W : Array Oper} {Q : Exit → St → Prop} (pl : PL) (M : List Nat) (G : List Ob) (hB : Pn W pl = true)
  (hp : M.map (fun i => σ.objs[i]?) = G.map some)
  (h : AP E n C W M G pl σ.slots σ (fun σ' => Q .normal σ')) : AW E n C (.region id W true) σ Q := by
 intro H a w gm
 have Y : ∀ p, p ∈ G → ∃ i, M.contains i = true ∧ σ.objs[i]? = some p := by
  intro p O
  have : some p ∈ M.map (fun i => σ.objs[i]?) := by rw [hp]; exact List.mem_map_of_mem O
  obtain ⟨i, hi, Z⟩ := List.mem_map.1 this
  exact ⟨i, by simpa using hi, Z⟩
 refine H3 (Oz (S := Gc H G w.drew) E.mixed pl hB (Q := fun e a' w' => e = .normal ∧ ∃ σ' H', Q .normal σ' ∧ Gam n C σ' H' a' w') ?_ ?_ ?_) ?_
 ·rintro c a w ⟨h, _⟩; cases h
 ·rintro ⟨a, w, h, _⟩; cases h
 ·have X := gm.drew
  exact h H w.drew H a w.drew X.sr ⟨fun p O => by obtain ⟨i, _, Z⟩ := Y p O; exact X.objs p (mg Z), X.held⟩ ⟨X.held, fun _ _ _ _ => rfl⟩ (fun _ _ h => h) Y X
 ·rintro e a' w' ⟨rfl, σ', H', q, g'⟩
  exact ⟨σ', H', q, g'⟩
end
end Go.Aw
