/- A program logic over the model. No condition. -/
import Derived.OrdersHeld
import Derived.Laws.Cells
import Derived.WalkKit
import Derived.RangeFuncLeaves
import Derived.RangeFuncRecord
import Derived.RangeFuncCalls
import Derived.OrdersIn
import Derived.Scope
import Derived.Laws.MakeOwn
import Derived.Laws.CopyRow
import Derived.Laws.AppendOwn
import Derived.Laws.AppendOwnNone
set_option maxRecDepth 100000
namespace Go.Aw
set_option linter.unusedVariables false
set_option linter.unusedSimpArgs false
def fenceR : Option Nat → Fence
 | none => Fence.wide
 | some l => Fence.wide.inRound l
def opNd : Op → Bool
 | .defer _ => false
 | _ => true
def nd : Code → Bool
 | .region _ ops _ => ops.toList.all fun o => opNd o.op
 | .seq a b => nd a && nd b
 | .cond _ a b => nd a && nd b
 | .block _ c => nd c
 | .loop c => nd c
 | .scope _ => false
 | .rangeFunc .. => false
 | _ => true
theorem fenceR_fn (ro : Option Nat) (f : FuncId) : (fenceR ro).fn f := by cases ro <;> trivial
theorem fenceR_depth (ro : Option Nat) : (fenceR ro).depth = none := by cases ro <;> rfl
theorem callsIn_fenceR {ro : Option Nat} {m : Nat} {P : Program} {f : FuncId} {args : Array Value} {w : World} {R : Ending → World → Prop} (h : Calls P f args w R) : CallsIn (fenceR ro) m P f args w R := by
 have h1 : CallsIn Fence.wide m P f args w R := callsIn_wide.2 h
 cases ro with
 | none => exact h1
 | some l => exact h1
theorem rowsIn_fenceR {ro : Option Nat} {m : Nat} {P : Program} {row : String} {args : Array Value} {w : World} {R : Value → World → Prop} (h : Rows P row args w R) : RowsIn (fenceR ro) m P row args w R := by
 intro c cs _
 obtain ⟨v, w', r, s⟩ := h c cs
 refine ⟨v, w', r, ?_⟩
 have := (stepsIn_wide (P := P)).2 s
 cases ro with
 | none => exact this
 | some l => exact this
theorem opwp_in {ro : Option Nat} {m : Nat} {P : Program} {o : Oper} {a : Act} {w : World} {K : Act → World → Prop} {Q : Exit → Act → World → Prop} (hd : opNd o.op = true) (h : o.wp P a w K Q) : o.wpIn (fenceR ro) m P a w K Q := by
 refine ⟨fun f _ => fenceR_fn ro f, ?_⟩
 have e : Oper.semAt (fenceR ro).round a.eval o = execOp a.eval o := Oper.semAt_eq _ _ _ (fun c hc => by rw [hc] at hd; simp [opNd] at hd)
 rw [e]
 unfold Oper.wp at h
 generalize (execOp a.eval o).run P w = r at h
 cases r with
 | ok x w' =>
  cases x <;> simp only [Oper.upon, Oper.uponIn] at h ⊢ <;>
   first
    | exact h
    | exact h.elim
    | exact ⟨fun hh => (by rw [fenceR_depth] at hh; cases hh), callsIn_fenceR h⟩
    | exact ⟨fun hh => (by rw [fenceR_depth] at hh; cases hh), rowsIn_fenceR h⟩
 | halt x w' => cases x <;> simp only [Oper.upon, Oper.uponIn] at h ⊢ <;> first | exact h | exact h.elim
theorem opwp_none {m : Nat} {P : Program} {o : Oper} {a : Act} {w : World} {K : Act → World → Prop} {Q : Exit → Act → World → Prop} (h : o.wp P a w K Q) : o.wpIn (fenceR none) m P a w K Q := by
 refine ⟨fun f _ => trivial, ?_⟩
 change o.uponIn (fenceR none) m P a K Q ((execOp a.eval o).run P w)
 unfold Oper.wp at h
 generalize (execOp a.eval o).run P w = r at h
 cases r with
 | ok x w' =>
  cases x <;> simp only [Oper.upon, Oper.uponIn] at h ⊢ <;>
   first
    | exact h
    | exact h.elim
    | exact ⟨fun hh => (by cases hh), callsIn_fenceR h⟩
    | exact ⟨fun hh => (by cases hh), rowsIn_fenceR h⟩
 | halt x w' => cases x <;> simp only [Oper.upon, Oper.uponIn] at h ⊢ <;> first | exact h | exact h.elim
theorem opwpIn_in {l : Nat} {m : Nat} {P : Program} {o : Oper} {a : Act} {w : World} {K : Act → World → Prop} {Q : Exit → Act → World → Prop} (hd : opNd o.op = true) (h : o.wpIn Fence.wide m P a w K Q) : o.wpIn (fenceR (some l)) m P a w K Q := by
 refine ⟨fun f _ => trivial, ?_⟩
 have e : Oper.semAt (fenceR (some l)).round a.eval o = Oper.semAt Fence.wide.round a.eval o := (Oper.semAt_eq _ _ _ (fun c hc => by rw [hc] at hd; simp [opNd] at hd)).trans (Oper.semAt_eq _ _ _ (fun c hc => by rw [hc] at hd; simp [opNd] at hd)).symm
 rw [e]
 exact h.2
theorem Oper.wpIn_monoQ {F : Fence} {m : Nat} {P : Program} {o : Oper} {a : Act} {w : World} {K K' : Act → World → Prop} {Q Q' : Exit → Act → World → Prop}
  (h : ∀ a w, K a w → K' a w) (hq : ∀ e a w, Q e a w → Q' e a w) (hh : o.wpIn F m P a w K Q) : o.wpIn F m P a w K' Q' := by
 refine ⟨hh.1, ?_⟩
 have hh := hh.2
 generalize (o.semAt F.round a.eval).run P w = r at *
 have hl : LetsOut Q → LetsOut Q' := fun ⟨a, w, h⟩ => ⟨a, w, hq _ _ _ h⟩
 cases r with
 | ok x w' =>
  cases x <;> simp only [Oper.uponIn] at hh ⊢ <;>
   first
    | exact h _ _ hh
    | exact ⟨hh.1, CallsIn.mono hh.2 (fun e w'' he => by cases e <;> first | exact h _ _ he | exact hq _ _ _ he | exact hl he)⟩
    | exact ⟨hh.1, RowsIn.mono hh.2 (fun _ _ he => h _ _ he)⟩
    | exact ⟨hh.1, RoundIn.mono hh.2 (fun e w'' he => by cases e <;> first | exact h _ _ he | exact hq _ _ _ he | exact hl he)⟩
    | exact hh.elim
 | halt x w' => cases x <;> simp only [Oper.uponIn] at hh ⊢ <;> first | exact hq _ _ _ hh | exact hh.elim
theorem mem_nd {ops : Array Oper} (hd : ops.toList.all (fun o => opNd o.op) = true) {i : Nat} {o : Oper} (ho : ops[i]? = some o) : opNd o.op = true :=
 List.all_eq_true.1 hd o (Array.mem_toList_iff.2 (Array.mem_of_getElem? ho))
theorem wpOp_in {ro : Option Nat} {m : Nat} {P : Program} {ops : Array Oper} {Q : Exit → Act → World → Prop} (hd : ops.toList.all (fun o => opNd o.op) = true) (hL : ¬ LetsOut Q) {i : Nat} {K : Act → World → Prop} {a : Act} {w : World}
  (h : wpOp P ops Q i K a w) : wpOpIn (fenceR ro) m P ops Q i K a w := by
 unfold wpOp at h
 unfold wpOpIn
 cases ho : ops[i]? with
 | none => rw [ho] at h; exact h
 | some o =>
  rw [ho] at h
  have hm := mem_nd hd ho
  simp only [] at h ⊢
  split at h
  ·rename_i hw
   rw [if_pos hw]
   rcases h with h | ⟨_, h⟩
   ·exact opwp_in hm h
   ·exact absurd h hL
  ·rename_i hw
   rw [if_neg hw]
   exact ⟨fun f _ => fenceR_fn ro f, h⟩
theorem any_in {ro : Option Nat} {m : Nat} {P : Program} {md : Region.Mode} {ops : Array Oper} {Q : Exit → Act → World → Prop} (hd : ops.toList.all (fun o => opNd o.op) = true) (hL : ¬ LetsOut Q) : ∀ (fuel : Nat) (listed : Array Bool) (a : Act) (w : World),
  wpAny P md ops Q fuel listed a w → wpAnyIn (fenceR ro) m P md ops Q fuel listed a w := by
 intro fuel
 induction fuel with
 | zero => intro listed a w h; exact h
 | succ fuel ih =>
  intro listed a w h
  exact ⟨h.1, fun i hi => wpOpIn_mono (fun a w h => ih _ a w h) (wpOp_in hd hL (h.2 i hi))⟩
theorem region_any_in {ro : Option Nat} {m : Nat} {P : Program} {id : Nat} {ops : Array Oper} {Q : Exit → Act → World → Prop} {a : Act} {w : World} (hm : P.follows .mixedOrders = true) (hd : ops.toList.all (fun o => opNd o.op) = true) (hL : ¬ LetsOut Q)
  (h : wpAny P .any ops Q ops.size (Array.replicate ops.size false) a { w with drawn := w.drawn + 1 }) : (Code.region id ops true).wpIn (fenceR ro) m P Q a w :=
 wpIn_region_any hm (any_in hd hL _ _ _ _ h)
def cw (c : Code) (P : Program) (Q : Exit → Act → World → Prop) (a : Act) (w : World) : Prop := ∀ ro : Option Nat, (ro.isSome = true → nd c = true) → c.wpIn (fenceR ro) 0 P Q a w
section
variable {P : Program} {Q : Exit → Act → World → Prop} {a : Act} {w : World}
theorem cw.wp {c : Code} (h : cw c P Q a w) : c.wp P Q a w := wpIn_wide.1 (h none (fun h => by cases h))
theorem cw_mono {c : Code} {Q' : Exit → Act → World → Prop} (h : cw c P Q a w) (hq : ∀ e a w, Q e a w → Q' e a w) : cw c P Q' a w := fun ro hn => wpIn_mono (h ro hn) hq
theorem cw_skip (h : Q .normal a w) : cw .skip P Q a w := fun _ _ => wpIn_skip h
theorem cw_label {l : Nat} (h : Q .normal a w) : cw (.label l) P Q a w := fun _ _ => wpIn_label h
theorem cw_exit {id : Nat} (h : Q (.exit id) a w) : cw (.exit id) P Q a w := fun _ _ => wpIn_exit h
theorem cw_ret (h : Q .ret a w) : cw .ret P Q a w := fun _ _ => wpIn_ret h
theorem cw_seq {x y : Code} (h : cw x P (Exit.then (cw y P Q) Q) a w) : cw (.seq x y) P Q a w := fun ro hn =>
 wpIn_seq (wpIn_mono (h ro (fun hs => (Bool.and_eq_true_iff.1 (hn hs)).1)) fun e a w q => by
  cases e with
  | normal => exact q ro (fun hs => (Bool.and_eq_true_iff.1 (hn hs)).2)
  | _ => exact q)
theorem cw_cond_split {c : Operand} {x y : Code} {t : Bool} (hc : a.eval c = .bool t) (ht : t = true → cw x P Q a w) (hf : t = false → cw y P Q a w) : cw (.cond c x y) P Q a w := fun ro hn =>
 wpIn_cond_split hc (fun h => ht h ro (fun hs => (Bool.and_eq_true_iff.1 (hn hs)).1)) (fun h => hf h ro (fun hs => (Bool.and_eq_true_iff.1 (hn hs)).2))
theorem cw_block {id : Nat} {c : Code} (h : cw c P (Exit.inBlock id Q) a w) : cw (.block id c) P Q a w := fun ro hn => wpIn_block (h ro hn)
theorem cw_loop {c : Code} (I : Act → World → Prop) (μ : Act → World → Nat) (h₀ : I a w)
  (round : ∀ a w, I a w → cw c P (Exit.then (fun a' w' => I a' w' ∧ μ a' w' < μ a w) Q) a w) : cw (.loop c) P Q a w := fun ro hn =>
 wpIn_loop I μ h₀ fun a w hi => round a w hi ro hn
theorem cw_scope_straight {c : Code} (h : cw c P (Exit.noGoto Q) a w) : cw (.scope c) P Q a w := fun ro hn => by
 cases ro with
 | none => exact wpIn_wide.2 (wp_scope_straight h.wp)
 | some l => exact absurd (hn rfl) (by simp [nd])
end
inductive T where
 | v (x : Value)
 | list (sz : Nat) (es : List (List T))
 | agg (cs : List T)
 | tup (cs : List T)
 | eptr (cs : List T)
 | fn (f : FuncId) (first caps : List T)
 deriving Inhabited
abbrev GH := Nat → Option Obj
def maxL : Nat := 140737488355328
inductive VR (H : GH) : Value → T → Prop
 | v (x : Value) : VR H x (.v x)
 | empty (a : Option Addr) (cap sz : Nat) : VR H (.slice a 0 cap) (.list sz [])
 | list (b off cap sz : Nat) (es : List (List T)) (cs : Array Value) (ty : TypeId) (fr : Nat × Nat)
   (hb : H b = some (.cells cs ty fr)) (hcap : es.length ≤ cap) (hmax : es.length ≤ maxL) (hsz : off + es.length * sz ≤ cs.size)
   (hel : ∀ (i : Nat) (e : List T), es[i]? = some e → e.length = sz)
   (h1 : ∀ (i : Nat) (e : List T), es[i]? = some e → ∀ (j : Nat) (x : T), e[j]? = some x → (cs.getD (off + i * sz + j) undef).oneCell' = true)
   (hv : ∀ (i : Nat) (e : List T), es[i]? = some e → ∀ (j : Nat) (x : T), e[j]? = some x → VR H (cs.getD (off + i * sz + j) undef) x) :
   VR H (.slice (some ⟨b, off, none⟩) es.length cap) (.list sz es)
 | agg (vs : Array Value) (cs : List T) (hl : vs.size = cs.length)
   (h1 : ∀ (j : Nat) (x : T), cs[j]? = some x → (vs.getD j undef).oneCell' = true)
   (hv : ∀ (j : Nat) (x : T), cs[j]? = some x → VR H (vs.getD j undef) x) : VR H (.agg vs) (.agg cs)
 | tup (vs : Array Value) (cs : List T) (hl : vs.size = cs.length)
   (hv : ∀ (j : Nat) (x : T), cs[j]? = some x → VR H (vs.getD j undef) x) : VR H (.tuple vs) (.tup cs)
 | eptr (b off : Nat) (l : List T) (cs : Array Value) (ty : TypeId) (fr : Nat × Nat)
   (hb : H b = some (.cells cs ty fr)) (hsz : off + l.length ≤ cs.size)
   (h1 : ∀ (j : Nat) (x : T), l[j]? = some x → (cs.getD (off + j) undef).oneCell' = true)
   (hv : ∀ (j : Nat) (x : T), l[j]? = some x → VR H (cs.getD (off + j) undef) x) : VR H (.pointer (some ⟨b, off, none⟩)) (.eptr l)
 | fn (f : FuncId) (vf vc : Array Value) (fs cs : List T) (hf : vf.size = fs.length) (hc : vc.size = cs.length)
   (h1 : ∀ (j : Nat) (x : T), fs[j]? = some x → VR H (vf.getD j undef) x) (h2 : ∀ (j : Nat) (x : T), cs[j]? = some x → VR H (vc.getD j undef) x) :
   VR H (.func (.func f) vf vc) (.fn f fs cs)
theorem VR.monoC {H H' : GH} (hh : ∀ b cs ty fr, H b = some (.cells cs ty fr) → H' b = some (.cells cs ty fr)) {v : Value} {x : T} (h : VR H v x) : VR H' v x := by
 induction h with
 | v x => exact .v x
 | empty a cap sz => exact .empty a cap sz
 | list b off cap sz es cs ty fr hb hcap hmax hsz hel h1 hv ih => exact .list b off cap sz es cs ty fr (hh _ _ _ _ hb) hcap hmax hsz hel h1 ih
 | agg vs cs hl h1 hv ih => exact .agg vs cs hl h1 ih
 | tup vs cs hl hv ih => exact .tup vs cs hl ih
 | eptr b off l cs ty fr hb hsz h1 hv ih => exact .eptr b off l cs ty fr (hh _ _ _ _ hb) hsz h1 ih
 | fn f vf vc fs cs hf hc h1 h2 ih1 ih2 => exact .fn f vf vc fs cs hf hc ih1 ih2
theorem VR.mono {H H' : GH} (hh : ∀ b o, H b = some o → H' b = some o) {v : Value} {x : T} (h : VR H v x) : VR H' v x := h.monoC fun _ _ _ _ => hh _ _
theorem VR.v_eq {H : GH} {v x : Value} (h : VR H v (.v x)) : v = x := by cases h; rfl
def bls : Value → List Nat
 | .slice (some a) _ _ => [a.block]
 | _ => []
def blk : Value → Nat
 | .slice (some a) _ _ => a.block
 | _ => 0
inductive Ob where
 | arr (b : Nat) (ty : TypeId) (sz cap : Nat) (es : List (List T))
 | us (v : Value) (ty : TypeId) (sz : Nat) (es : List (List T))
 | uss (v : Value) (ty tyi : TypeId) (szi : Nat) (vs : List Value) (L : List (Option (List (List T))))
 | raw (b : Nat) (o : Obj)
def ussIn : List Value → List (Option (List (List T))) → List Nat
 | v :: vs, some _ :: L => bls v ++ ussIn vs L
 | _ :: vs, none :: L => ussIn vs L
 | _, _ => []
def Ob.fp : Ob → List Nat
 | .arr b .. => [b]
 | .us v .. => bls v
 | .uss v _ _ _ vs L => bls v ++ ussIn vs L
 | .raw b _ => [b]
def CR (H : GH) (v : Value) (x : T) : Prop := v.oneCell' = true ∧ VR H v x
def ArrR (H : GH) (w : World) (b : Nat) (ty : TypeId) (sz cap : Nat) (es : List (List T)) : Prop :=
 ∃ cs : Array Value, w.heap[b]? = some (.cells cs ty (0, 0)) ∧ cs.size = cap * sz ∧ es.length ≤ cap ∧ es.length ≤ maxL ∧
   (∀ (i : Nat) (e : List T), es[i]? = some e → e.length = sz) ∧
   (∀ (i : Nat) (e : List T), es[i]? = some e → ∀ (j : Nat) (x : T), e[j]? = some x → CR H (cs.getD (i * sz + j) undef) x)
def UsR (H : GH) (w : World) (v : Value) (ty : TypeId) (sz : Nat) (es : List (List T)) : Prop :=
 (v = .slice none 0 0 ∧ es = []) ∨ ∃ b c cap, v = .slice (some ⟨b, 0, none⟩) es.length c ∧ es.length ≤ c ∧ c ≤ cap ∧ ArrR H w b ty sz cap es
def OR (H : GH) (w : World) : Ob → Prop
 | .arr b ty sz cap es => ArrR H w b ty sz cap es
 | .us v ty sz es => UsR H w v ty sz es
 | .uss v ty tyi szi vs L => vs.length = L.length ∧ UsR H w v ty 1 (vs.map fun x => [T.v x]) ∧ ∀ (i : Nat) (x : Value) (es : List (List T)), vs[i]? = some x → L[i]? = some (some es) → UsR H w x tyi szi es
 | .raw b o => w.heap[b]? = some o
theorem ArrR.monoC {H H' : GH} (hh : ∀ b cs ty fr, H b = some (.cells cs ty fr) → H' b = some (.cells cs ty fr)) {w w' : World} {b : Nat} (hw : w'.heap[b]? = w.heap[b]?) {ty : TypeId} {sz cap : Nat} {es : List (List T)} (h : ArrR H w b ty sz cap es) : ArrR H' w' b ty sz cap es := by
 obtain ⟨cs, a1, a2, a3, a4, a5, a6⟩ := h
 exact ⟨cs, by rw [hw]; exact a1, a2, a3, a4, a5, fun i e he j x hx => ⟨(a6 i e he j x hx).1, (a6 i e he j x hx).2.monoC hh⟩⟩
theorem UsR.monoC {H H' : GH} (hh : ∀ b cs ty fr, H b = some (.cells cs ty fr) → H' b = some (.cells cs ty fr)) {w w' : World} {v : Value} (hw : ∀ b, b ∈ bls v → w'.heap[b]? = w.heap[b]?) {ty : TypeId} {sz : Nat} {es : List (List T)} (h : UsR H w v ty sz es) : UsR H' w' v ty sz es := by
 rcases h with h | ⟨b, c, cap, rfl, h1, h2, h3⟩
 ·exact .inl h
 ·exact .inr ⟨b, c, cap, rfl, h1, h2, h3.monoC hh (hw b (by simp [bls]))⟩
theorem ussIn_mem : ∀ {vs : List Value} {L : List (Option (List (List T)))} {i : Nat} {v : Value} {es : List (List T)}, vs[i]? = some v → L[i]? = some (some es) → ∀ b, b ∈ bls v → b ∈ ussIn vs L
 | v' :: vs, some _ :: L, 0, v, es, h1, h2, b, hb => by simp at h1; subst h1; simp [ussIn, hb]
 | v' :: vs, some _ :: L, i + 1, v, es, h1, h2, b, hb => by simp [ussIn]; exact .inr (ussIn_mem (by simpa using h1) (by simpa using h2) b hb)
 | v' :: vs, none :: L, 0, v, es, h1, h2, b, hb => by simp at h2
 | v' :: vs, none :: L, i + 1, v, es, h1, h2, b, hb => by simp [ussIn]; exact ussIn_mem (by simpa using h1) (by simpa using h2) b hb
 | [], _, i, v, es, h1, h2, b, hb => by simp at h1
 | _ :: _, [], i, v, es, h1, h2, b, hb => by simp at h2
theorem OR.monoC {H H' : GH} (hh : ∀ b cs ty fr, H b = some (.cells cs ty fr) → H' b = some (.cells cs ty fr)) {w w' : World} {o : Ob} (hw : ∀ b, b ∈ o.fp → w'.heap[b]? = w.heap[b]?) (h : OR H w o) : OR H' w' o := by
 cases o with
 | arr b ty sz cap es => exact ArrR.monoC hh (hw b (by simp [Ob.fp])) h
 | us v ty sz es => exact UsR.monoC hh hw h
 | uss v ty tyi szi vs L =>
  obtain ⟨h0, h1, h2⟩ := h
  exact ⟨h0, h1.monoC hh (fun b hb => hw b (by simp [Ob.fp, hb])), fun i x es hx hl => (h2 i x es hx hl).monoC hh (fun b hb => hw b (by simp [Ob.fp, ussIn_mem hx hl b hb]))⟩
 | raw b o => exact (hw b (by simp [Ob.fp])).trans h
theorem ArrR.mono {H H' : GH} (hh : ∀ b o, H b = some o → H' b = some o) {w w' : World} {b : Nat} (hw : w'.heap[b]? = w.heap[b]?) {ty : TypeId} {sz cap : Nat} {es : List (List T)} (h : ArrR H w b ty sz cap es) : ArrR H' w' b ty sz cap es := h.monoC (fun _ _ _ _ => hh _ _) hw
theorem UsR.mono {H H' : GH} (hh : ∀ b o, H b = some o → H' b = some o) {w w' : World} {v : Value} (hw : ∀ b, b ∈ bls v → w'.heap[b]? = w.heap[b]?) {ty : TypeId} {sz : Nat} {es : List (List T)} (h : UsR H w v ty sz es) : UsR H' w' v ty sz es := h.monoC (fun _ _ _ _ => hh _ _) hw
theorem OR.mono {H H' : GH} (hh : ∀ b o, H b = some o → H' b = some o) {w w' : World} {o : Ob} (hw : ∀ b, b ∈ o.fp → w'.heap[b]? = w.heap[b]?) (h : OR H w o) : OR H' w' o := h.monoC (fun _ _ _ _ => hh _ _) hw
abbrev Slots := List (Nat × T)
def get : Slots → Nat → Option T
 | [], _ => none
 | (k, x) :: l, i => bif Nat.beq k i then some x else get l i
structure St where
 slots : Slots
 objs : List Ob
def St.put (σ : St) (dst : Option Tmp) (x : T) : St :=
 match dst with
 | none => σ
 | some d => ⟨(d, x) :: σ.slots, σ.objs⟩
def gl : List (Nat × List T) := []
def Held (H : GH) : Prop := ∀ b l, (b, l) ∈ gl → VR H (.pointer (some ⟨b, 0, none⟩)) (.eptr l)
structure Ctx where
 w0 : World
 H0 : GH
 fp : List Nat
 hg : Held H0
def Marks (m : Nat) (H : GH) (l : List Deferred) : Prop := l.Nodup ∧ ∀ d, d ∈ l → ∃ b, d = { target := .collected b, args := #[] } ∧ H b = some (.deferred (some [])) ∧ m ≤ b
theorem Marks.mono {m : Nat} {H H' : GH} {l : List Deferred} (hh : ∀ b o, H b = some o → H' b = some o) (h : Marks m H l) : Marks m H' l := ⟨h.1, fun d hd => let ⟨b, h1, h2, h3⟩ := h.2 d hd; ⟨b, h1, hh _ _ h2, h3⟩⟩
theorem Marks.nil {m : Nat} {H : GH} : Marks m H [] := ⟨List.nodup_nil, fun d h => by cases h⟩
structure Gam (n : Nat) (C : Ctx) (σ : St) (H : GH) (a : Act) (w : World) : Prop where
 defers : Marks C.w0.heap.size H a.defers
 size : a.tmps.size = n
 slots : ∀ i x, get σ.slots i = some x → VR H (a.tmps.getD i undef) x
 objs : ∀ p, p ∈ σ.objs → OR H w p
 free : ∀ p, p ∈ σ.objs → ∀ b, b ∈ p.fp → H b = none
 new : ∀ p, p ∈ σ.objs → ∀ b, b ∈ p.fp → C.w0.heap.size ≤ b ∨ b ∈ C.fp
 nodup : (σ.objs.flatMap Ob.fp).Nodup
 held : ∀ b o, H b = some o → w.heap[b]? = some o
 grow : ∀ b o, C.H0 b = some o → H b = some o
 heap : C.w0.heap.size ≤ w.heap.size
 frame : ∀ b, b < C.w0.heap.size → b ∉ C.fp → w.heap[b]? = C.w0.heap[b]? ∧ H b = C.H0 b
 env : w.os = C.w0.os ∧ w.tape = C.w0.tape ∧ w.output = C.w0.output
inductive K where
 | slice (e : Nat) | array (n e : Nat) | struct (fs : List (Nat × Nat)) | string | int (k : IntKind) | bool | map (k e : Nat) | other
 deriving DecidableEq, Repr
structure TI where
 kind : K
 size : Nat
 bytes : Nat
 zero : Option Value
def TI.isAgg (i : TI) : Bool :=
 match i.kind with
 | .array .. | .struct .. => true
 | _ => false
def K.of : TypeDesc → K
 | .slice e => .slice e
 | .array n e => .array n e
 | .struct fs => .struct (fs.toList.map fun f => (f.offset, f.type))
 | .string => .string
 | .int k => .int k
 | .bool => .bool
 | .map k e => .map k e
 | _ => .other
def tiOf (P : Program) (t : TypeId) : Option TI :=
 match P.info? t, P.underlying t with
 | some i, some d => some { kind := K.of d, size := i.size, bytes := i.bytes, zero := i.zero }
 | _, _ => none
structure Env where
 P : Program
 tab : Nat → Option TI
 ok : ∀ t i, tab t = some i → tiOf P t = some i
 mixed : P.follows .mixedOrders = true
theorem tiOf_spec {P : Program} {t : TypeId} {i : TI} (h : tiOf P t = some i) :
  ∃ inf d, P.info? t = some inf ∧ P.underlying t = some d ∧ K.of d = i.kind ∧ inf.size = i.size ∧ inf.bytes = i.bytes ∧ inf.zero = i.zero := by
 unfold tiOf at h
 split at h
 ·rename_i inf d h1 h2
  simp only [Option.some.injEq] at h
  subst h
  exact ⟨inf, d, h1, h2, rfl, rfl, rfl, rfl⟩
 ·simp at h
section types
variable {P : Program} {t : TypeId} {i : TI} (h : tiOf P t = some i) (w : World)
include h
theorem run_sizeOf_ti : (sizeOf t).run P w = .ok i.size w := by
 obtain ⟨inf, d, h1, h2, h3, h4, h5, h6⟩ := tiOf_spec h
 simp [sizeOf, typeInfo, h1, h4]
theorem run_typeInfo_ti : ∃ inf, (typeInfo t).run P w = .ok inf w ∧ inf.size = i.size ∧ inf.bytes = i.bytes ∧ inf.zero = i.zero ∧ P.info? t = some inf := by
 obtain ⟨inf, d, h1, h2, h3, h4, h5, h6⟩ := tiOf_spec h
 exact ⟨inf, by simp [typeInfo, h1], h4, h5, h6, h1⟩
theorem run_zeroValue_ti {z : Value} (hz : i.zero = some z) : (zeroValue t).run P w = .ok z w := by
 obtain ⟨inf, d, h1, h2, h3, h4, h5, h6⟩ := tiOf_spec h
 rw [hz] at h6
 simp [zeroValue, typeInfo, h1, h6]
theorem run_isAgg_ti : (isAgg t).run P w = .ok i.isAgg w := by
 obtain ⟨inf, d, h1, h2, h3, h4, h5, h6⟩ := tiOf_spec h
 unfold TI.isAgg
 rw [← h3]
 cases d <;> simp [isAgg, underlying, h2, K.of]
theorem und_ti : ∃ d, P.underlying t = some d ∧ K.of d = i.kind := by
 obtain ⟨inf, d, h1, h2, h3, h4, h5, h6⟩ := tiOf_spec h
 exact ⟨d, h2, h3⟩
end types
theorem und_slice {P : Program} {t : TypeId} {i : TI} (h : tiOf P t = some i) {e : Nat} (hk : i.kind = .slice e) : P.underlying t = some (.slice e) := by
 obtain ⟨d, h1, h2⟩ := und_ti h
 rw [hk] at h2
 cases d <;> simp [K.of] at h2
 subst h2; exact h1
theorem und_struct {P : Program} {t : TypeId} {i : TI} (h : tiOf P t = some i) {fs : List (Nat × Nat)} (hk : i.kind = .struct fs) :
  ∃ ff : Array Field, P.underlying t = some (.struct ff) ∧ ff.toList.map (fun f => (f.offset, f.type)) = fs := by
 obtain ⟨d, h1, h2⟩ := und_ti h
 rw [hk] at h2
 cases d <;> simp [K.of] at h2
 exact ⟨_, h1, h2⟩
def AW (E : Env) (n : Nat) (C : Ctx) (c : Code) (σ : St) (Q : Exit → St → Prop) : Prop :=
 ∀ H a w, Gam n C σ H a w → cw c E.P (fun e a' w' => ∃ σ' H', Q e σ' ∧ Gam n C σ' H' a' w') a w
def wpL (P : Program) (ops : Array Oper) (Q : Exit → Act → World → Prop) : List Oper → Act → World → Prop
 | [], a, w => Q .normal a w
 | o :: r, a, w =>
  if Region.wanted o (yielded ops a.tmps) then o.wpIn Fence.wide 0 P a w (wpL P ops Q r) Q else wpL P ops Q r (a.put o.dst undef) w
def AO (E : Env) (n : Nat) (C : Ctx) (ops : Array Oper) (l : List Oper) (σ : St) (R : St → Prop) : Prop :=
 ∀ H a w, Gam n C σ H a w → wpL E.P ops (fun e a' w' => e = .normal ∧ ∃ σ' H', R σ' ∧ Gam n C σ' H' a' w') l a w
def AX (E : Env) (n : Nat) (C : Ctx) (md : List Nat) (o : Oper) (σ : St) (R : St → Prop) : Prop :=
 ∀ H a w, Gam n C σ H a w → o.wp E.P a w (fun a' w' => ∃ σ' H' v, R σ' ∧ Gam n C σ' H' a' w' ∧ a' = a.put o.dst v ∧ (∀ b o, H b = some o → H' b = some o) ∧
  ∀ i p, σ.objs[i]? = some p → md.contains i = false → σ'.objs[i]? = some p ∧ ∀ b, b ∈ p.fp → w'.heap[b]? = w.heap[b]?) (fun _ _ _ => False)
theorem Oper.wp_monoQ {P : Program} {o : Oper} {a : Act} {w : World} {K K' : Act → World → Prop} {Q Q' : Exit → Act → World → Prop}
  (h : ∀ a w, K a w → K' a w) (hq : ∀ e a w, Q e a w → Q' e a w) (hh : o.wp P a w K Q) : o.wp P a w K' Q' := by
 unfold Oper.wp at *
 generalize (execOp a.eval o).run P w = r at *
 cases r with
 | ok n w' =>
  cases n <;> simp only [Oper.upon] at hh ⊢ <;>
   first
    | exact h _ _ hh
    | exact Calls.mono hh (fun e w'' he => by
      cases e with
      | returned v => exact h _ _ he
      | panicked c => exact hq _ _ _ he
      | outgrown => obtain ⟨a, w, he⟩ := he; exact ⟨a, w, hq _ _ _ he⟩)
    | exact Rows.mono hh (fun _ _ he => h _ _ he)
 | halt x w' => cases x <;> simp only [Oper.upon] at hh ⊢ <;> exact hq _ _ _ hh
theorem wpL_ops {P : Program} {ops : Array Oper} {Q : Exit → Act → World → Prop} {ro : Option Nat} : ∀ (l : List Oper) (k : Nat) (a : Act) (w : World),
  (∀ j, j < l.length → ops[k + j]? = l[j]?) → (ro.isSome = true → l.all (fun o => opNd o.op) = true) → wpL P ops Q l a w → wpOpsIn (fenceR ro) 0 P ops Q (List.range' k l.length) a w := by
 intro l
 induction l with
 | nil => intro k a w _ _ h; exact h
 | cons o r ih =>
  intro k a w hl hn h
  have h0 : ops[k]? = some o := by simpa using hl 0 (by simp)
  have hr : ∀ j, j < r.length → ops[k + 1 + j]? = r[j]? := fun j hj => by
   have := hl (j + 1) (by simp; omega)
   rw [show k + 1 + j = k + (j + 1) by omega, this]; simp
  simp only [List.length_cons, List.range'_succ]
  simp only [wpOpsIn, h0]
  simp only [wpL] at h
  have hn' : ro.isSome = true → r.all (fun o => opNd o.op) = true := fun hs => by
   have := hn hs; simp only [List.all_cons, Bool.and_eq_true] at this; exact this.2
  split
  ·rename_i hw
   simp only [hw, if_true] at h
   have h' := Oper.wpIn_monoQ (fun a' w' h' => ih (k + 1) a' w' hr hn' h') (fun _ _ _ h => h) h
   cases ro with
   | none => exact h'
   | some q =>
    have := hn rfl
    simp only [List.all_cons, Bool.and_eq_true] at this
    exact opwpIn_in this.1 h'
  ·rename_i hw
   simp only [hw] at h
   exact ⟨fun f _ => fenceR_fn ro f, ih (k + 1) _ _ hr hn' h⟩
theorem cw_region_seq {P : Program} {id : Nat} {ops : Array Oper} {Q : Exit → Act → World → Prop} {a : Act} {w : World}
  (h : wpL P ops Q ops.toList a w) : cw (Code.region id ops false) P Q a w := by
 intro ro hn
 refine wpIn_region ?_
 have := wpL_ops (ro := ro) ops.toList 0 a w (fun j _ => by simp) (fun hs => hn hs) h
 simpa [List.range_eq_range'] using this
theorem wpL_mono {P : Program} {ops : Array Oper} {Q Q' : Exit → Act → World → Prop} (hq : ∀ e a w, Q e a w → Q' e a w) :
  ∀ (l : List Oper) (a : Act) (w : World), wpL P ops Q l a w → wpL P ops Q' l a w
 | [], a, w, h => hq _ _ _ h
 | o :: r, a, w, h => by
  simp only [wpL] at *
  split
  ·rename_i hw
   simp only [hw, if_true] at h
   exact Oper.wpIn_monoQ (fun a' w' h' => wpL_mono hq r a' w' h') hq h
  ·rename_i hw
   simp only [hw] at h
   exact wpL_mono hq r _ _ h
section rules
variable {E : Env} {n : Nat} {C : Ctx} {σ : St} {Q : Exit → St → Prop}
theorem AW.mono {c : Code} {Q' : Exit → St → Prop} (h : AW E n C c σ Q) (hq : ∀ e σ, Q e σ → Q' e σ) : AW E n C c σ Q' :=
 fun H a w g => cw_mono (h H a w g) fun e a' w' ⟨σ', H', q, g'⟩ => ⟨σ', H', hq e σ' q, g'⟩
theorem AW.skip (h : Q .normal σ) : AW E n C .skip σ Q := fun H _ _ g => cw_skip ⟨σ, H, h, g⟩
theorem AW.label {l : Nat} (h : Q .normal σ) : AW E n C (.label l) σ Q := fun H _ _ g => cw_label ⟨σ, H, h, g⟩
theorem AW.exit {id : Nat} (h : Q (.exit id) σ) : AW E n C (.exit id) σ Q := fun H _ _ g => cw_exit ⟨σ, H, h, g⟩
theorem AW.ret (h : Q .ret σ) : AW E n C .ret σ Q := fun H _ _ g => cw_ret ⟨σ, H, h, g⟩
def Then (next : St → Prop) (Q : Exit → St → Prop) : Exit → St → Prop
 | .normal, σ => next σ
 | e, σ => Q e σ
theorem AW.seq {x y : Code} (h : AW E n C x σ (Then (fun σ' => AW E n C y σ' Q) Q)) : AW E n C (.seq x y) σ Q :=
 fun H a w g => cw_seq (cw_mono (h H a w g) fun e a' w' ⟨σ', H', q, g'⟩ => by
  cases e with
  | normal => exact q H' a' w' g'
  | _ => exact ⟨σ', H', q, g'⟩)
theorem AW.cut {x y : Code} (M : St → Prop) (h : AW E n C x σ (Then M Q)) (k : ∀ σ', M σ' → AW E n C y σ' Q) : AW E n C (.seq x y) σ Q :=
 AW.seq (AW.mono h fun e σ' q => by
  cases e with
  | normal => exact k σ' q
  | _ => exact q)
def InBlock (id : Nat) (Q : Exit → St → Prop) : Exit → St → Prop
 | .exit id', σ => bif Nat.beq id' id then Q .normal σ else Q (.exit id') σ
 | e, σ => Q e σ
theorem AW.block {id : Nat} {c : Code} (h : AW E n C c σ (InBlock id Q)) : AW E n C (.block id c) σ Q :=
 fun H a w g => cw_block (cw_mono (h H a w g) fun e a' w' ⟨σ', H', q, g'⟩ => by
  cases e with
  | exit id' =>
   by_cases hid : id' = id
   ·subst hid
    simp only [InBlock, Nat.beq_refl, cond_true] at q
    simp only [Exit.inBlock, if_true]
    exact ⟨σ', H', q, g'⟩
   ·have hb : Nat.beq id' id = false := by
     cases hb : Nat.beq id' id with
     | false => rfl
     | true => exact absurd (Nat.eq_of_beq_eq_true hb) hid
    simp only [InBlock, hb, cond_false] at q
    simp only [Exit.inBlock, hid, if_false]
    exact ⟨σ', H', q, g'⟩
  | _ => exact ⟨σ', H', q, g'⟩)
theorem AW.loop {c : Code} (I : Nat → St → Prop) {m : Nat} (h₀ : I m σ)
  (round : ∀ m σ, I m σ → AW E n C c σ (Then (fun σ' => ∃ m', m' < m ∧ I m' σ') Q)) : AW E n C (.loop c) σ Q := by
 intro H a w g
 have hdec : ∀ (p : Nat → Prop), (∃ m, p m) → ∃ m, p m ∧ ∀ k, k < m → ¬ p k := by
  intro p ⟨m, hm⟩
  induction m using Nat.strongRecOn with
  | _ m ih =>
   by_cases hk : ∃ k, k < m ∧ p k
   ·obtain ⟨k, hk, hp⟩ := hk; exact ih k hk hp
   ·exact ⟨m, hm, fun k hkm hp => hk ⟨k, hkm, hp⟩⟩
 let J : Act → World → Nat → Prop := fun a w m => ∃ σ H, I m σ ∧ Gam n C σ H a w
 have hex : ∀ a w, ∃ m, (∃ k, J a w k) → J a w m ∧ ∀ k, k < m → ¬ J a w k := by
  intro a w
  by_cases h : ∃ k, J a w k
  ·obtain ⟨m, h1, h2⟩ := hdec _ h; exact ⟨m, fun _ => ⟨h1, h2⟩⟩
  ·exact ⟨0, fun h' => absurd h' h⟩
 let μ : Act → World → Nat := fun a w => Classical.choose (hex a w)
 have hμ : ∀ a w, (∃ k, J a w k) → J a w (μ a w) ∧ ∀ k, k < μ a w → ¬ J a w k := fun a w => Classical.choose_spec (hex a w)
 refine cw_loop (fun a w => ∃ k, J a w k) μ ⟨m, σ, H, h₀, g⟩ ?_
 intro a w hJ
 obtain ⟨⟨σ₁, H₁, hI, g₁⟩, _⟩ := hμ a w hJ
 refine cw_mono (round _ σ₁ hI H₁ a w g₁) ?_
 rintro e a' w' ⟨σ', H', q, g'⟩
 cases e with
 | normal =>
  obtain ⟨m', hm', hI'⟩ := q
  have hJ' : ∃ k, J a' w' k := ⟨m', σ', H', hI', g'⟩
  refine ⟨hJ', ?_⟩
  have h2 := (hμ a' w' hJ').2
  have hJm : J a' w' m' := ⟨σ', H', hI', g'⟩
  exact Nat.lt_of_le_of_lt (Nat.le_of_not_lt fun hlt => h2 m' hlt hJm) hm'
 | _ => exact ⟨σ', H', q, g'⟩
theorem AO.nil {ops : Array Oper} {R : St → Prop} (h : R σ) : AO E n C ops [] σ R := fun H _ _ g => ⟨rfl, σ, H, h, g⟩
theorem AO.mono {ops : Array Oper} {l : List Oper} {R R' : St → Prop} (h : AO E n C ops l σ R) (hr : ∀ σ, R σ → R' σ) : AO E n C ops l σ R' :=
 fun H a w g => wpL_mono (fun _ _ _ ⟨he, σ', H', r, g'⟩ => ⟨he, σ', H', hr _ r, g'⟩) l a w (h H a w g)
theorem AO.act {ops : Array Oper} {o : Oper} {l : List Oper} {R : St → Prop} (md : List Nat) (hg : o.guard = none)
  (h : AX E n C md o σ (fun σ' => AO E n C ops l σ' R)) : AO E n C ops (o :: l) σ R := by
 intro H a w g
 simp only [wpL]
 rw [if_pos (by simp [Region.wanted, hg])]
 exact opwp_none (Oper.wp_monoQ (fun a' w' ⟨σ', H', v, r, g', _⟩ => r H' a' w' g') (fun _ _ _ h => h.elim) (h H a w g))
theorem Gam.put {H : GH} {a : Act} {w : World} (g : Gam n C σ H a w) {dst : Option Tmp} {v : Value} {x : T} (hv : VR H v x)
  (hd : ∀ d, dst = some d → d < n) : Gam n C (σ.put dst x) H (a.put dst v) w := by
 cases dst with
 | none => exact g
 | some d =>
  have hd' := hd d rfl
  refine { g with defers := g.defers, size := by simp [Act.put, g.size], slots := ?_ }
  intro i y hy
  simp only [St.put, get] at hy
  simp only [Act.put]
  by_cases hi : d = i
  ·subst hi
   simp only [Nat.beq_refl, cond_true, Option.some.injEq] at hy
   subst hy
   have : d < a.tmps.size := by rw [g.size]; exact hd'
   simpa [Array.getD, this] using hv
  ·have hb : Nat.beq d i = false := by
    cases hb : Nat.beq d i with
    | false => rfl
    | true => exact absurd (Nat.eq_of_beq_eq_true hb) hi
   simp only [hb, cond_false] at hy
   have := g.slots i y hy
   have he : (a.tmps.setIfInBounds d v).getD i undef = a.tmps.getD i undef := by
    simp [Array.getD_eq_getD_getElem?, Array.getElem?_setIfInBounds_ne hi]
   rw [he]; exact this
theorem AW.region {id : Nat} {ops : Array Oper} (h : AO E n C ops ops.toList σ (fun σ' => Q .normal σ')) : AW E n C (.region id ops false) σ Q :=
 fun H a w g => cw_region_seq (wpL_mono (fun _ _ _ ⟨he, σ', H', r, g'⟩ => ⟨σ', H', by subst he; exact r, g'⟩) _ _ _ (h H a w g))
theorem AW.cond {c : Operand} {x y : Code} {t : Nat} {b : Bool} (hc : c = .tmp t) (hs : get σ.slots t = some (.v (.bool b)))
  (h1 : b = true → AW E n C x σ Q) (h2 : b = false → AW E n C y σ Q) : AW E n C (.cond c x y) σ Q := by
 intro H a w g
 subst hc
 have hv : a.eval (.tmp t) = .bool b := (g.slots t _ hs).v_eq
 exact cw_cond_split hv (fun hb => h1 hb H a w g) (fun hb => h2 hb H a w g)
def Sub : Slots → Slots → Prop
 | [], _ => True
 | (i, x) :: l, s => get s i = some x ∧ Sub l s
theorem Sub.get : ∀ {l s : Slots}, Sub l s → ∀ i x, Aw.get l i = some x → Aw.get s i = some x
 | [], _, _, i, x, h => by simp [Aw.get] at h
 | (k, y) :: l, s, hs, i, x, h => by
  obtain ⟨h1, h2⟩ := hs
  simp only [Aw.get] at h
  cases hb : Nat.beq k i with
  | true =>
   have := Nat.eq_of_beq_eq_true hb
   subst this
   simp only [hb, cond_true, Option.some.injEq] at h
   subst h; exact h1
  | false =>
   simp only [hb, cond_false] at h
   exact Sub.get h2 i x h
theorem sublist_flatMap {α β : Type} {f : α → List β} : ∀ {l m : List α}, l.Sublist m → (l.flatMap f).Sublist (m.flatMap f)
 | _, _, .slnil => .slnil
 | _, _, .cons a h => by simp only [List.flatMap_cons]; exact (sublist_flatMap h).trans (List.sublist_append_right _ _)
 | _, _, .cons_cons a h => by simp only [List.flatMap_cons]; exact (List.Sublist.refl _).append (sublist_flatMap h)
theorem Gam.weaken {H : GH} {a : Act} {w : World} (g : Gam n C σ H a w) {s : Slots} {ob : List Ob} (hs : Sub s σ.slots) (ho : ob.Sublist σ.objs) :
  Gam n C ⟨s, ob⟩ H a w :=
 { g with
  slots := fun i x h => g.slots i x (hs.get i x h)
  objs := fun p hp => g.objs p (ho.subset hp)
  free := fun p hp => g.free p (ho.subset hp)
  new := fun p hp => g.new p (ho.subset hp)
  nodup := (sublist_flatMap ho).nodup g.nodup }
theorem AW.weaken {c : Code} {s : Slots} {ob : List Ob} (hs : Sub s σ.slots) (ho : ob.Sublist σ.objs) (h : AW E n C c ⟨s, ob⟩ Q) : AW E n C c σ Q :=
 fun H a w g => h H a w (g.weaken hs ho)
theorem AO.weaken {ops : Array Oper} {l : List Oper} {R : St → Prop} {s : Slots} {ob : List Ob} (hs : Sub s σ.slots) (ho : ob.Sublist σ.objs) (h : AO E n C ops l ⟨s, ob⟩ R) :
  AO E n C ops l σ R :=
 fun H a w g => h H a w (g.weaken hs ho)
end rules
def evalT (s : Slots) : Operand → Option T
 | .tmp t => get s t
 | .const v => some (.v v)
 | .global g => some (.v (.pointer (some ⟨g, 0, none⟩)))
 | .func f => some (.v (.func (.func f) #[] #[]))
structure SR (n : Nat) (s : Slots) (H : GH) (a : Act) : Prop where
 size : a.tmps.size = n
 slots : ∀ i x, get s i = some x → VR H (a.tmps.getD i undef) x
theorem SR.eval {n : Nat} {s : Slots} {H : GH} {a : Act} (g : SR n s H a) {x : Operand} {y : T} (h : evalT s x = some y) : VR H (a.eval x) y := by
 cases x with
 | tmp t => exact g.slots t y h
 | const v => simp only [evalT, Option.some.injEq] at h; subst h; exact .v v
 | global g => simp only [evalT, Option.some.injEq] at h; subst h; exact .v _
 | func f => simp only [evalT, Option.some.injEq] at h; subst h; exact .v _
theorem SR.evalv {n : Nat} {s : Slots} {H : GH} {a : Act} (g : SR n s H a) {x : Operand} {y : Value} (h : evalT s x = some (.v y)) : a.eval x = y := (g.eval h).v_eq
def Yp (P : Program) (n : Nat) (s : Slots) (o : Oper) (x : T) : Prop :=
 ∀ H a, SR n s H a → ∃ v, VR H v x ∧ ∀ w, (execOp a.eval o).run P w = .ok (.value v) w
def Agree (H : GH) (objs : List Ob) (w w' : World) : Prop :=
 (∀ b o, H b = some o → w'.heap[b]? = some o) ∧ ∀ p, p ∈ objs → ∀ b, b ∈ p.fp → w'.heap[b]? = w.heap[b]?
structure WR (objs : List Ob) (H : GH) (w : World) : Prop where
 objs : ∀ p, p ∈ objs → OR H w p
 held : ∀ b o, H b = some o → w.heap[b]? = some o
def Yd (P : Program) (n : Nat) (s : Slots) (objs : List Ob) (o : Oper) (x : T) : Prop :=
 ∀ H a w, SR n s H a → WR objs H w → ∃ v, VR H v x ∧ ∀ w', Agree H objs w w' → (execOp a.eval o).run P w' = .ok (.value v) w'
theorem Yp.yd {P : Program} {n : Nat} {s : Slots} {objs : List Ob} {o : Oper} {x : T} (h : Yp P n s o x) : Yd P n s objs o x :=
 fun H a _ g _ => let ⟨v, hv, hr⟩ := h H a g; ⟨v, hv, fun w' _ => hr w'⟩
def partT (fi : TI) (cs : List T) (off : Nat) : Option T :=
 bif fi.isAgg then
  (bif Nat.beq off 0 && Nat.beq fi.size cs.length then some (.agg cs)
   else bif Nat.ble (off + fi.size) cs.length then some (.agg ((cs.drop off).take fi.size)) else none)
 else cs[off]?
theorem Addr.add_mk (b off n : Nat) : Addr.add ⟨b, off, none⟩ n = ⟨b, off + n, none⟩ := by
 unfold Addr.add
 split
 ·rename_i h; subst h; rfl
 ·rfl
section
variable {E : Env} {n : Nat} {s : Slots} {dst : Option Tmp} {ty : TypeId} {pos : String} {aft : Array Edge} {g : Option (Nat × Bool)}
theorem Yp.move {x : Operand} {y : T} (h : evalT s x = some y) : Yp E.P n s ⟨dst, .move x, ty, pos, aft, g⟩ y :=
 fun H a r => ⟨a.eval x, r.eval h, fun w => by simp [execOp]⟩
theorem Yp.assign {x : Operand} {y : T} (h : evalT s x = some y) : Yp E.P n s ⟨dst, .assign x, ty, pos, aft, g⟩ y :=
 fun H a r => ⟨a.eval x, r.eval h, fun w => by simp [execOp]⟩
theorem Yp.pickT {c x y : Operand} {z : T} (hc : evalT s c = some (.v (.bool true))) (h : evalT s x = some z) : Yp E.P n s ⟨dst, .pick c x y, ty, pos, aft, g⟩ z :=
 fun H a r => ⟨a.eval x, r.eval h, fun w => by simp [execOp, r.evalv hc, asBool]⟩
theorem Yp.pickF {c x y : Operand} {z : T} (hc : evalT s c = some (.v (.bool false))) (h : evalT s y = some z) : Yp E.P n s ⟨dst, .pick c x y, ty, pos, aft, g⟩ z :=
 fun H a r => ⟨a.eval y, r.eval h, fun w => by simp [execOp, r.evalv hc, asBool]⟩
theorem Yp.binI {op : BinOp} {t t' : TypeId} {x y : Operand} {k : IntKind} {a b c : Int} (hx : evalT s x = some (.v (.int k a))) (hy : evalT s y = some (.v (.int k b)))
  (hc : match op with | .add => k.wrap (a + b) = c | .sub => k.wrap (a - b) = c | .mul => k.wrap (a * b) = c | .quo => b ≠ 0 ∧ k.wrap (a.tdiv b) = c | .rem => b ≠ 0 ∧ a.tmod b = c | _ => False) :
  Yp E.P n s ⟨dst, .binOp op t x y t', ty, pos, aft, g⟩ (.v (.int k c)) := by
 refine fun H A r => ⟨_, .v _, fun w => ?_⟩
 cases op <;> simp only at hc <;> simp [execOp, r.evalv hx, r.evalv hy, eqGuard, binOp, Op.intArith, Op.intDiv, hc]
def cmpI : BinOp → Int → Int → Option Bool
 | .eql, a, b => some (a == b)
 | .neq, a, b => some (a != b)
 | .lss, a, b => some (decide (a < b))
 | .leq, a, b => some (decide (a ≤ b))
 | .gtr, a, b => some (decide (a > b))
 | .geq, a, b => some (decide (a ≥ b))
 | _, _, _ => none
theorem Yp.cmpI {op : BinOp} {t t' : TypeId} {x y : Operand} {k : IntKind} {a b : Int} {c : Bool} (hx : evalT s x = some (.v (.int k a))) (hy : evalT s y = some (.v (.int k b)))
  (hc : Aw.cmpI op a b = some c) : Yp E.P n s ⟨dst, .binOp op t x y t', ty, pos, aft, g⟩ (.v (.bool c)) := by
 refine fun H A r => ⟨_, .v _, fun w => ?_⟩
 cases op <;> simp only [Aw.cmpI, Option.some.injEq, reduceCtorEq] at hc <;> subst hc <;> simp [execOp, r.evalv hx, r.evalv hy, eqGuard, binOp, Op.intCmp]
theorem Yp.eqB {t t' : TypeId} {x y : Operand} {p q : Bool} {tb : TI} (ht : E.tab t = some tb) (hk : tb.kind = .bool)
  (hx : evalT s x = some (.v (.bool p))) (hy : evalT s y = some (.v (.bool q))) :
  Yp E.P n s ⟨dst, .binOp .eql t x y t', ty, pos, aft, g⟩ (.v (.bool (p == q))) := by
 refine fun H A r => ⟨_, .v _, fun w => ?_⟩
 obtain ⟨d, h1, h2⟩ := und_ti (E.ok _ _ ht)
 rw [hk] at h2
 cases d <;> simp [K.of] at h2
 simp [execOp, r.evalv hx, r.evalv hy, eqGuard, run_eql_bool w t p q h1]
def cmpS : BinOp → ByteArray → ByteArray → Option Bool
 | .eql, a, b => some (a.toList == b.toList)
 | .neq, a, b => some (!(a.toList == b.toList))
 | .lss, a, b => some (Op.bytesLess a.toList b.toList)
 | .gtr, a, b => some (!(Op.bytesLess a.toList b.toList || a.toList == b.toList))
 | .leq, a, b => some (Op.bytesLess a.toList b.toList || a.toList == b.toList)
 | .geq, a, b => some (!Op.bytesLess a.toList b.toList)
 | _, _, _ => none
theorem Yp.cmpS {op : BinOp} {t t' : TypeId} {x y : Operand} {a b : ByteArray} {c : Bool} (hx : evalT s x = some (.v (.string a))) (hy : evalT s y = some (.v (.string b)))
  (hc : Aw.cmpS op a b = some c) : Yp E.P n s ⟨dst, .binOp op t x y t', ty, pos, aft, g⟩ (.v (.bool c)) := by
 refine fun H A r => ⟨_, .v _, fun w => ?_⟩
 cases op <;> simp only [Aw.cmpS, Option.some.injEq, reduceCtorEq] at hc <;> subst hc <;> simp [execOp, r.evalv hx, r.evalv hy, eqGuard, binOp, Op.stringOp]
theorem Yp.addS {t t' : TypeId} {x y : Operand} {a b : ByteArray} (hx : evalT s x = some (.v (.string a))) (hy : evalT s y = some (.v (.string b)))
  (hc : a.size + b.size < 9223372036854775807) : Yp E.P n s ⟨dst, .binOp .add t x y t', ty, pos, aft, g⟩ (.v (.string (a ++ b))) := by
 refine fun H A r => ⟨_, .v _, fun w => ?_⟩
 have : ¬ (((a.size + b.size : Nat) : Int) > IntKind.i64.max) := by
  have : IntKind.i64.max = 9223372036854775807 := by decide
  rw [this]; omega
 simp only [execOp, r.evalv hx, r.evalv hy, eqGuard, binOp, Op.stringOp, if_neg this]
 simp
theorem Yp.not {t : TypeId} {x : Operand} {b : Bool} (hx : evalT s x = some (.v (.bool b))) : Yp E.P n s ⟨dst, .unOp .not t x, ty, pos, aft, g⟩ (.v (.bool (!b))) :=
 fun H A r => ⟨_, .v _, fun w => by simp [execOp, r.evalv hx, Op.unary]⟩
theorem Yp.neg {t : TypeId} {x : Operand} {k : IntKind} {a c : Int} (hx : evalT s x = some (.v (.int k a))) (hc : k.wrap (0 - a) = c) :
  Yp E.P n s ⟨dst, .unOp .neg t x, ty, pos, aft, g⟩ (.v (.int k c)) :=
 fun H A r => ⟨_, .v _, fun w => by subst hc; simp [execOp, r.evalv hx, Op.unary, Op.intArith]⟩
theorem Yp.extract {x : Operand} {i : Nat} {l : List T} {y : T} (hx : evalT s x = some (.tup l)) (hi : l[i]? = some y) : Yp E.P n s ⟨dst, .extract x i, ty, pos, aft, g⟩ y := by
 intro H A r
 have h := r.eval hx
 generalize hv : A.eval x = v at h
 cases h with
 | tup vs cs hl hvs =>
  refine ⟨vs.getD i undef, hvs i y hi, fun w => ?_⟩
  have hlt : i < vs.size := by
   rw [hl]; exact (List.getElem?_eq_some_iff.1 hi).1
  simp [execOp, hv, Instr.extract, Array.getElem?_eq_getElem hlt, Array.getD, hlt]
theorem Yp.convI {t t' : TypeId} {x : Operand} {k k' : IntKind} {a c : Int} {ti ti' : TI} (ht : E.tab t = some ti) (ht' : E.tab t' = some ti') (hk' : ti'.kind = .int k')
  (hx : evalT s x = some (.v (.int k a))) (hc : k'.wrap a = c) : Yp E.P n s ⟨dst, .convert t t' x, ty, pos, aft, g⟩ (.v (.int k' c)) := by
 refine fun H A r => ⟨_, .v _, fun w => ?_⟩
 obtain ⟨d, h1, h2⟩ := und_ti (E.ok _ _ ht')
 obtain ⟨d0, h3, h4⟩ := und_ti (E.ok _ _ ht)
 rw [hk'] at h2
 cases d <;> simp [K.of] at h2
 subst h2
 subst hc
 cases d0 <;> simp [execOp, r.evalv hx, convert, run_underlying h1, run_underlying h3, Conv.intToInt]
theorem VR.part {H : GH} {vs : Array Value} {cs : List T} (h : VR H (.agg vs) (.agg cs)) {off size : Nat} (hle : off + size ≤ cs.length) :
  VR H (.agg (vs.extract off (off + size))) (.agg ((cs.drop off).take size)) := by
 cases h with
 | agg vs cs hl h1 hv =>
  have key : ∀ j x, ((cs.drop off).take size)[j]? = some x → cs[off + j]? = some x ∧ (vs.extract off (off + size)).getD j undef = vs.getD (off + j) undef := by
   intro j x hx
   have hj : j < size := by
    have := (List.getElem?_eq_some_iff.1 hx).1
    simp at this; omega
   rw [List.getElem?_take_of_lt hj, List.getElem?_drop] at hx
   refine ⟨hx, ?_⟩
   simp [Array.getD_eq_getD_getElem?, Array.getElem?_extract]
   rw [if_pos (by omega)]
  exact .agg _ _ (by simp; omega) (fun j x hx => by obtain ⟨k1, k2⟩ := key j x hx; rw [k2]; exact h1 _ _ k1)
   (fun j x hx => by obtain ⟨k1, k2⟩ := key j x hx; rw [k2]; exact hv _ _ k1)
theorem partT_spec {P : Program} {H : GH} {vs : Array Value} {cs : List T} (h : VR H (.agg vs) (.agg cs)) {t : TypeId} {fi : TI} (ht : tiOf P t = some fi) {off : Nat} {y : T}
  (hp : partT fi cs off = some y) : ∃ v, VR H v y ∧ ∀ w, (part t vs off).run P w = .ok v w := by
 unfold partT at hp
 cases ha : fi.isAgg with
 | true =>
  simp only [ha, cond_true] at hp
  have hrun : ∀ w, (part t vs off).run P w = .ok (.agg (vs.extract off (off + fi.size))) w := fun w => by
   simp [part, run_isAgg_ti ht, ha, run_sizeOf_ti ht]
  refine ⟨_, ?_, hrun⟩
  cases hb : (Nat.beq off 0 && Nat.beq fi.size cs.length) with
  | true =>
   simp only [hb, cond_true, Option.some.injEq] at hp
   subst hp
   simp only [Bool.and_eq_true] at hb
   obtain ⟨ho, hsz⟩ := hb
   have ho := Nat.eq_of_beq_eq_true ho
   have hsz := Nat.eq_of_beq_eq_true hsz
   subst ho
   have := h.part (off := 0) (size := fi.size) (by omega)
   simpa [hsz] using this
  | false =>
   simp only [hb, cond_false] at hp
   cases hc : Nat.ble (off + fi.size) cs.length with
   | false => simp [hc] at hp
   | true =>
    simp only [hc, cond_true, Option.some.injEq] at hp
    subst hp
    exact h.part (Nat.le_of_ble_eq_true hc)
 | false =>
  simp only [ha, cond_false] at hp
  cases h with
  | agg vs cs hl h1 hv =>
   refine ⟨_, hv _ _ hp, fun w => ?_⟩
   have hlt : off < vs.size := by rw [hl]; exact (List.getElem?_eq_some_iff.1 hp).1
   simp [part, run_isAgg_ti ht, ha, Array.getElem?_eq_getElem hlt, Array.getD, hlt]
theorem Yp.field {t : TypeId} {x : Operand} {f : Nat} {cs : List T} {ti fi : TI} {fs : List (Nat × Nat)} {off ft : Nat} {y : T}
  (ht : E.tab t = some ti) (hk : ti.kind = .struct fs) (hf : fs[f]? = some (off, ft)) (hft : E.tab ft = some fi)
  (hx : evalT s x = some (.agg cs)) (hp : partT fi cs off = some y) : Yp E.P n s ⟨dst, .field t x f, ty, pos, aft, g⟩ y := by
 intro H A r
 obtain ⟨ff, h1, h2⟩ := und_struct (E.ok _ _ ht) hk
 have h := r.eval hx
 generalize hv : A.eval x = v at h
 have hff : ∃ fld, ff[f]? = some fld ∧ fld.offset = off ∧ fld.type = ft := by
  rw [← h2] at hf
  simp only [List.getElem?_map, Option.map_eq_some_iff] at hf
  obtain ⟨fld, q1, q2⟩ := hf
  refine ⟨fld, by simpa using q1, ?_, ?_⟩ <;> simp_all
 obtain ⟨fld, q1, rfl, rfl⟩ := hff
 cases h with
 | agg vs cs hl hc hvs =>
  obtain ⟨v, hv1, hv2⟩ := partT_spec (VR.agg vs cs hl hc hvs) (E.ok _ _ hft) hp
  exact ⟨v, hv1, fun w => by simp [execOp, hv, Instr.field, run_underlying h1, q1, asAgg, hv2]⟩
theorem Yp.fieldPtr {t : TypeId} {x : Operand} {f : Nat} {b o : Nat} {ti fi : TI} {fs : List (Nat × Nat)} {off ft : Nat}
  (ht : E.tab t = some ti) (hk : ti.kind = .struct fs) (hf : fs[f]? = some (off, ft)) (hft : E.tab ft = some fi) (hz : Nat.beq fi.size 0 = false)
  (hx : evalT s x = some (.v (.pointer (some ⟨b, o, none⟩)))) : Yp E.P n s ⟨dst, .fieldAddr t x f, ty, pos, aft, g⟩ (.v (.pointer (some ⟨b, o + off, none⟩))) := by
 intro H A r
 obtain ⟨ff, h1, h2⟩ := und_struct (E.ok _ _ ht) hk
 have hff : ∃ fld, ff[f]? = some fld ∧ fld.offset = off ∧ fld.type = ft := by
  rw [← h2] at hf
  simp only [List.getElem?_map, Option.map_eq_some_iff] at hf
  obtain ⟨fld, q1, q2⟩ := hf
  refine ⟨fld, by simpa using q1, ?_, ?_⟩ <;> simp_all
 obtain ⟨fld, q1, rfl, rfl⟩ := hff
 have hz' : ¬ fi.size = 0 := by intro h; rw [h] at hz; simp at hz
 exact ⟨_, .v _, fun w => by
  simp [execOp, r.evalv hx, Instr.fieldAt, run_underlying h1, q1, Instr.sureAddr, fieldPlace, run_sizeOf_ti (E.ok _ _ hft), hz', Addr.add_mk]⟩
theorem VR.eptr_drop {H : GH} {b o : Nat} {l : List T} (h : VR H (.pointer (some ⟨b, o, none⟩)) (.eptr l)) {off : Nat} (hle : off ≤ l.length) :
  VR H (.pointer (some ⟨b, o + off, none⟩)) (.eptr (l.drop off)) := by
 cases h with
 | eptr b off' l cs ty fr hb hsz h1 hv =>
  refine .eptr b (o + off) (l.drop off) cs ty fr hb (by simp; omega) (fun j x hx => ?_) (fun j x hx => ?_)
  ·rw [List.getElem?_drop] at hx; rw [show o + off + j = o + (off + j) by omega]; exact h1 _ _ hx
  ·rw [List.getElem?_drop] at hx; rw [show o + off + j = o + (off + j) by omega]; exact hv _ _ hx
theorem VR.eptr_ptr {H : GH} {v : Value} {l : List T} (h : VR H v (.eptr l)) : ∃ b o, v = .pointer (some ⟨b, o, none⟩) := by
 cases h; exact ⟨_, _, rfl⟩
theorem Yp.fieldE {t : TypeId} {x : Operand} {f : Nat} {cs : List T} {ti fi : TI} {fs : List (Nat × Nat)} {off ft : Nat}
  (ht : E.tab t = some ti) (hk : ti.kind = .struct fs) (hf : fs[f]? = some (off, ft)) (hft : E.tab ft = some fi) (hz : Nat.beq fi.size 0 = false)
  (hx : evalT s x = some (.eptr cs)) (hle : Nat.ble off cs.length = true) : Yp E.P n s ⟨dst, .fieldAddr t x f, ty, pos, aft, g⟩ (.eptr (cs.drop off)) := by
 intro H A r
 obtain ⟨ff, h1, h2⟩ := und_struct (E.ok _ _ ht) hk
 have hff : ∃ fld, ff[f]? = some fld ∧ fld.offset = off ∧ fld.type = ft := by
  rw [← h2] at hf
  simp only [List.getElem?_map, Option.map_eq_some_iff] at hf
  obtain ⟨fld, q1, q2⟩ := hf
  refine ⟨fld, by simpa using q1, ?_, ?_⟩ <;> simp_all
 obtain ⟨fld, q1, rfl, rfl⟩ := hff
 have hz' : ¬ fi.size = 0 := by intro h; rw [h] at hz; simp at hz
 have h := r.eval hx
 obtain ⟨b, o, hv⟩ := h.eptr_ptr
 rw [hv] at h
 exact ⟨_, h.eptr_drop (Nat.le_of_ble_eq_true hle), fun w => by
  simp [execOp, hv, Instr.fieldAt, run_underlying h1, q1, Instr.sureAddr, fieldPlace, run_sizeOf_ti (E.ok _ _ hft), hz', Addr.add_mk]⟩
theorem Yp.nilCheckP {x : Operand} {b : Addr} (hx : evalT s x = some (.v (.pointer (some b)))) : Yp E.P n s ⟨dst, .nilCheck x, ty, pos, aft, g⟩ (.v (.pointer (some b))) :=
 fun H A r => ⟨_, .v _, fun w => by simp [execOp, r.evalv hx]⟩
theorem Yp.nilCheckE {x : Operand} {cs : List T} (hx : evalT s x = some (.eptr cs)) : Yp E.P n s ⟨dst, .nilCheck x, ty, pos, aft, g⟩ (.eptr cs) := by
 intro H A r
 have h := r.eval hx
 obtain ⟨b, o, hv⟩ := h.eptr_ptr
 exact ⟨_, h, fun w => by simp [execOp, hv]⟩
theorem VR.list_slice {H : GH} {v : Value} {sz : Nat} {es : List (List T)} (h : VR H v (.list sz es)) : ∃ a cap, v = .slice a es.length cap := by
 cases h with
 | empty a cap sz => exact ⟨a, cap, rfl⟩
 | list b off cap sz es cs ty fr hb hcap hmax hsz hel h1 hv => exact ⟨_, _, rfl⟩
theorem VR.list_max {H : GH} {v : Value} {sz : Nat} {es : List (List T)} (h : VR H v (.list sz es)) : es.length ≤ maxL := by
 cases h with
 | empty a cap sz => simp [maxL]
 | list b off cap sz es cs ty fr hb hcap hmax hsz hel h1 hv => exact hmax
theorem Yp.lenList {x : Operand} {t : TypeId} {sz : Nat} {es : List (List T)} {ti : TI} {e : Nat} (ht : E.tab t = some ti) (hk : ti.kind = .slice e) (hx : evalT s x = some (.list sz es)) :
  Yp E.P n s ⟨dst, .call { callee := .builtin .len, args := #[x], argTypes := #[t] }, ty, pos, aft, g⟩ (.v (.int .i64 es.length)) := by
 refine fun H A r => ⟨_, .v _, fun w => ?_⟩
 obtain ⟨a, cap, hv⟩ := (r.eval hx).list_slice
 simp [execOp, resolve, invoke, builtin, Builtin.len_, hv, run_underlying (und_slice (E.ok _ _ ht) hk), goInt]
theorem Yp.lenSlice {x : Operand} {t : TypeId} {a : Option Addr} {len cap : Nat} {ti : TI} {e : Nat} (ht : E.tab t = some ti) (hk : ti.kind = .slice e) (hx : evalT s x = some (.v (.slice a len cap))) :
  Yp E.P n s ⟨dst, .call { callee := .builtin .len, args := #[x], argTypes := #[t] }, ty, pos, aft, g⟩ (.v (.int .i64 len)) :=
 fun H A r => ⟨_, .v _, fun w => by simp [execOp, resolve, invoke, builtin, Builtin.len_, r.evalv hx, run_underlying (und_slice (E.ok _ _ ht) hk), goInt]⟩
theorem und_string {P : Program} {t : TypeId} {i : TI} (h : tiOf P t = some i) (hk : i.kind = .string) : P.underlying t = some .string := by
 obtain ⟨d, h1, h2⟩ := und_ti h
 rw [hk] at h2
 cases d <;> simp [K.of] at h2
 exact h1
theorem Yp.lenString {x : Operand} {t : TypeId} {b : ByteArray} {ti : TI} (ht : E.tab t = some ti) (hk : ti.kind = .string) (hx : evalT s x = some (.v (.string b))) :
  Yp E.P n s ⟨dst, .call { callee := .builtin .len, args := #[x], argTypes := #[t] }, ty, pos, aft, g⟩ (.v (.int .i64 b.size)) :=
 fun H A r => ⟨_, .v _, fun w => by simp [execOp, resolve, invoke, builtin, Builtin.len_, r.evalv hx, run_underlying (und_string (E.ok _ _ ht) hk), goInt]⟩
theorem Yp.maxI {x y : Operand} {ts : Array TypeId} {k : IntKind} {a b : Int} (hx : evalT s x = some (.v (.int k a))) (hy : evalT s y = some (.v (.int k b))) :
  Yp E.P n s ⟨dst, .call { callee := .builtin .max, args := #[x, y], argTypes := ts }, ty, pos, aft, g⟩ (.v (.int k (max a b))) := by
 refine fun H A r => ⟨_, .v _, fun w => ?_⟩
 have : (if b > a then b else a) = max a b := by split <;> omega
 simp [execOp, resolve, invoke, builtin, Builtin.max_, Builtin.max2, r.evalv hx, r.evalv hy]
 omega
theorem Yp.minI {x y : Operand} {ts : Array TypeId} {k : IntKind} {a b : Int} (hx : evalT s x = some (.v (.int k a))) (hy : evalT s y = some (.v (.int k b))) :
  Yp E.P n s ⟨dst, .call { callee := .builtin .min, args := #[x, y], argTypes := ts }, ty, pos, aft, g⟩ (.v (.int k (min a b))) := by
 refine fun H A r => ⟨_, .v _, fun w => ?_⟩
 simp [execOp, resolve, invoke, builtin, Builtin.min_, Builtin.min2, r.evalv hx, r.evalv hy]
 omega
theorem Yp.indexE {t : TypeId} {x y : Operand} {k : IntKind} {i : Int} {m : Nat} {sz : Nat} {es : List (List T)} {e : List T} {ti fi : TI} {el : Nat}
  (ht : E.tab t = some ti) (hk : ti.kind = .slice el) (hel : E.tab el = some fi) (hsz : fi.size = sz)
  (hx : evalT s x = some (.list sz es)) (hy : evalT s y = some (.v (.int k i))) (hi : i = (m : Int)) (he : es[m]? = some e) :
  Yp E.P n s ⟨dst, .indexAddr t x y, ty, pos, aft, g⟩ (.eptr e) := by
 intro H A r
 have h := r.eval hx
 have hm : m < es.length := (List.getElem?_eq_some_iff.1 he).1
 generalize hv : A.eval x = v at h
 cases h with
 | empty a cap sz => simp at he
 | list b off cap sz es cs ty fr hb hcap hmax hsz' hel' h1 hvs =>
  refine ⟨.pointer (some ⟨b, off + m * sz, none⟩), .eptr b (off + m * sz) e cs ty fr hb ?_ (fun j x hx => h1 m e he j x hx) (fun j x hx => hvs m e he j x hx), fun w => ?_⟩
  ·rw [hel' m e he]
   have : (m + 1) * sz ≤ es.length * sz := Nat.mul_le_mul_right _ hm
   rw [Nat.succ_mul] at this; omega
  ·subst hi
   simp [execOp, hv, r.evalv hy, Instr.indexAt, asIntOf, run_underlying (und_slice (E.ok _ _ ht) hk), run_sizeOf_ti (E.ok _ _ hel), hsz, hm, Addr.add_mk]
theorem Yp.indexS {t : TypeId} {x y : Operand} {k : IntKind} {i : Int} {m : Nat} {b off len cap : Nat} {ti fi : TI} {el : Nat}
  (ht : E.tab t = some ti) (hk : ti.kind = .slice el) (hel : E.tab el = some fi)
  (hx : evalT s x = some (.v (.slice (some ⟨b, off, none⟩) len cap))) (hy : evalT s y = some (.v (.int k i))) (hi : i = (m : Int)) (hm : m < len) :
  Yp E.P n s ⟨dst, .indexAddr t x y, ty, pos, aft, g⟩ (.v (.pointer (some ⟨b, off + m * fi.size, none⟩))) := by
 refine fun H A r => ⟨_, .v _, fun w => ?_⟩
 subst hi
 simp [execOp, r.evalv hx, r.evalv hy, Instr.indexAt, asIntOf, run_underlying (und_slice (E.ok _ _ ht) hk), run_sizeOf_ti (E.ok _ _ hel), hm, Addr.add_mk]
theorem und_array {P : Program} {t : TypeId} {i : TI} (h : tiOf P t = some i) {m e : Nat} (hk : i.kind = .array m e) : P.underlying t = some (.array m e) := by
 obtain ⟨d, h1, h2⟩ := und_ti h
 rw [hk] at h2
 cases d <;> simp [K.of] at h2
 obtain ⟨rfl, rfl⟩ := h2; exact h1
theorem Yp.indexA {t : TypeId} {x y : Operand} {k : IntKind} {i : Int} {m : Nat} {b off len : Nat} {ti fi : TI} {el : Nat}
  (ht : E.tab t = some ti) (hk : ti.kind = .array len el) (hel : E.tab el = some fi)
  (hx : evalT s x = some (.v (.pointer (some ⟨b, off, none⟩)))) (hy : evalT s y = some (.v (.int k i))) (hi : i = (m : Int)) (hm : m < len) :
  Yp E.P n s ⟨dst, .indexAddr t x y, ty, pos, aft, g⟩ (.v (.pointer (some ⟨b, off + m * fi.size, none⟩))) := by
 refine fun H A r => ⟨_, .v _, fun w => ?_⟩
 subst hi
 simp [execOp, r.evalv hx, r.evalv hy, Instr.indexAt, Instr.sureAddr, asIntOf, run_underlying (und_array (E.ok _ _ ht) hk), run_sizeOf_ti (E.ok _ _ hel), hm, Addr.add_mk]
def bnd (s : Slots) (x : Option Operand) (d m : Nat) : Prop :=
 match x with
 | none => m = d
 | some x => ∃ k i, evalT s x = some (.v (.int k i)) ∧ i = (m : Int)
theorem sliceBound_run {P : Program} {w : World} {k : IntKind} {m y : Nat} {code : BoundsCode} (h : m ≤ y) : (Instr.sliceBound (.int k (m : Int)) y code).run P w = .ok m w := by
 simp [Instr.sliceBound, asIntOf, h]
theorem sliceBounds_run {P : Program} {w : World} {a : Act} {H : GH} (r : SR n s H a) {isS : Bool} {len cap l h m : Nat} {lo hi mx : Option Operand} (h1 : bnd s lo 0 l) (h2 : bnd s hi len h) (h3 : bnd s mx cap m)
  (hmx : hi = none → mx = none) (hlh : l ≤ h) (hhm : h ≤ m) (hmc : m ≤ cap) :
  (Instr.sliceBounds isS len cap (lo.map a.eval) (hi.map a.eval) (mx.map a.eval)).run P w = .ok (l, h, m) w := by
 unfold Instr.sliceBounds
 cases lo with
 | none =>
  simp only [bnd] at h1
  subst h1
  cases hi with
  | none =>
   have := hmx rfl; subst this
   simp only [bnd] at h2 h3
   subst h2 h3
   simp
  | some hi =>
   obtain ⟨k2, i2, e2, rfl⟩ := h2
   cases mx with
   | none => simp only [bnd] at h3; subst h3; simp [r.evalv e2, sliceBound_run hhm]
   | some mx => obtain ⟨k3, i3, e3, rfl⟩ := h3; simp [r.evalv e2, r.evalv e3, sliceBound_run hmc, sliceBound_run hhm]
 | some lo =>
  obtain ⟨k1, i1, e1, rfl⟩ := h1
  cases hi with
  | none =>
   have := hmx rfl; subst this
   simp only [bnd] at h2 h3
   subst h2 h3
   simp [r.evalv e1, sliceBound_run hlh]
  | some hi =>
   obtain ⟨k2, i2, e2, rfl⟩ := h2
   cases mx with
   | none => simp only [bnd] at h3; subst h3; simp [r.evalv e1, r.evalv e2, sliceBound_run hhm, sliceBound_run hlh]
   | some mx => obtain ⟨k3, i3, e3, rfl⟩ := h3; simp [r.evalv e1, r.evalv e2, r.evalv e3, sliceBound_run hmc, sliceBound_run hhm, sliceBound_run hlh]
theorem VR.sub {H : GH} {b off cap sz : Nat} {es : List (List T)} (h : VR H (.slice (some ⟨b, off, none⟩) es.length cap) (.list sz es)) {l k c : Nat} (hlk : l + k ≤ es.length) (hc : k ≤ c) :
  VR H (.slice (some ⟨b, off + l * sz, none⟩) k c) (.list sz ((es.drop l).take k)) := by
 generalize hv : Value.slice (some ⟨b, off, none⟩) es.length cap = v at h
 cases h with
 | empty a cap sz =>
  have hk : k = 0 := by simp at hlk; omega
  subst hk
  simpa using VR.empty (H := H) (some ⟨b, off + l * sz, none⟩) c sz
 | list b' off' cap' sz es cs ty fr hb hcap hmax hsz hel h1 hvs =>
  simp only [Value.slice.injEq, Option.some.injEq, Addr.mk.injEq, and_true] at hv
  obtain ⟨⟨rfl, rfl⟩, _, _⟩ := hv
  have hlen : ((es.drop l).take k).length = k := by simp; omega
  have key : ∀ (i : Nat) (e : List T), ((es.drop l).take k)[i]? = some e → es[l + i]? = some e := by
   intro i e he
   have hi : i < k := by have := (List.getElem?_eq_some_iff.1 he).1; omega
   rwa [List.getElem?_take_of_lt hi, List.getElem?_drop] at he
  have hmul : (l + k) * sz ≤ es.length * sz := Nat.mul_le_mul_right _ hlk
  rw [Nat.add_mul] at hmul
  have := VR.list (H := H) b (off + l * sz) c sz ((es.drop l).take k) cs ty fr hb (by rw [hlen]; exact hc) (by rw [hlen]; exact Nat.le_trans (by omega) hmax) (by rw [hlen]; omega) (fun i e he => hel _ _ (key i e he))
   (fun i e he j x hx => by have := h1 _ _ (key i e he) j x hx; rwa [Nat.add_mul, ← Nat.add_assoc] at this)
   (fun i e he j x hx => by have := hvs _ _ (key i e he) j x hx; rwa [Nat.add_mul, ← Nat.add_assoc] at this)
  rwa [hlen] at this
theorem Yp.sliceL {t : TypeId} {x : Operand} {lo hi mx : Option Operand} {sz : Nat} {es : List (List T)} {ti ei : TI} {e : Nat} (l h m : Nat)
  (ht : E.tab t = some ti) (hk : ti.kind = .slice e) (he : E.tab e = some ei) (hsz : ei.size = sz) (hx : evalT s x = some (.list sz es))
  (h1 : bnd s lo 0 l) (h2 : bnd s hi es.length h) (h3 : ∀ cap, es.length ≤ cap → ∃ m', bnd s mx cap m' ∧ h ≤ m' ∧ m' ≤ cap) (hmx : hi = none → mx = none) (hlh : l ≤ h) (hh : h ≤ es.length) :
  Yp E.P n s ⟨dst, .slice t x lo hi mx, ty, pos, aft, g⟩ (.list sz ((es.drop l).take (h - l))) := by
 intro H A r
 have hv := r.eval hx
 have hu := und_slice (E.ok _ _ ht) hk
 generalize hvv : A.eval x = v at hv
 have hex : ∀ w, (execOp A.eval ⟨dst, .slice t x lo hi mx, ty, pos, aft, g⟩).run E.P w = ((Instr.sliceAt t v (lo.map A.eval) (hi.map A.eval) (mx.map A.eval)).run E.P w).andThen fun a w => .ok (.value a) w := by
  intro w
  simp only [execOp, hvv, Sem.run_bind]
  rfl
 cases hv with
 | empty a cap sz =>
  simp only [List.length_nil, Nat.le_zero] at hh
  subst hh
  simp only [List.length_nil] at h2
  have : l = 0 := by omega
  subst this
  obtain ⟨m', q1, q2, q3⟩ := h3 cap (by simp)
  refine ⟨.slice (if m' = 0 then a else a.map (·.add (0 * ei.size))) (0 - 0) (m' - 0), by simpa using VR.empty _ _ _, fun w => ?_⟩
  rw [hex]
  simp only [Instr.sliceAt, Instr.slice, Sem.run_bind, run_underlying hu, Result.andThen_ok, sliceBounds_run r h1 h2 q1 hmx hlh q2 q3, run_sizeOf_ti (E.ok _ _ he), Sem.run_pure]
 | list b off cap sz es cs ty fr hb hcap hmax hsz' hel hh1 hvs =>
  obtain ⟨m', q1, q2, q3⟩ := h3 cap hcap
  refine ⟨.slice (if m' = l then some ⟨b, off, none⟩ else (some (⟨b, off, none⟩ : Addr)).map (·.add (l * ei.size))) (h - l) (m' - l), ?_, fun w => ?_⟩
  ·by_cases hml : m' = l
   ·have : h - l = 0 := by omega
    rw [this]; simpa using VR.empty (H := H) _ _ _
   ·rw [if_neg hml]
    simp only [Option.map_some, Addr.add_mk, hsz]
    exact VR.sub (.list b off cap sz es cs ty fr hb hcap hmax hsz' hel hh1 hvs) (by omega) (by omega)
  ·rw [hex]
   simp only [Instr.sliceAt, Instr.slice, Sem.run_bind, run_underlying hu, Result.andThen_ok, sliceBounds_run r h1 h2 q1 hmx hlh q2 q3, run_sizeOf_ti (E.ok _ _ he), Sem.run_pure]
theorem Yp.indexStr {t : TypeId} {x y : Operand} {b : ByteArray} {k : IntKind} {i : Int} {m : Nat} {ti : TI} (ht : E.tab t = some ti) (hk : ti.kind = .string) (hx : evalT s x = some (.v (.string b)))
  (hy : evalT s y = some (.v (.int k i))) (hi : i = (m : Int)) (hm : m < b.size) : Yp E.P n s ⟨dst, .index t x y, ty, pos, aft, g⟩ (.v (.int .u8 ((b.data.getD m 0).toNat : Int))) := by
 refine fun H A r => ⟨_, .v _, fun w => ?_⟩
 subst hi
 have hu := und_string (E.ok _ _ ht) hk
 have hm' : m < b.data.size := hm
 have : b[m]? = some (b.data.getD m 0) := by
  simp [getElem?_def, hm, Array.getD, hm']
  rfl
 simp [execOp, r.evalv hx, r.evalv hy, Instr.index, asIntOf, run_underlying hu, this]
end
section
variable {E : Env} {n : Nat} {C : Ctx} {σ : St} {dst : Option Tmp} {ty : TypeId} {pos : String} {aft : Array Edge} {g : Option (Nat × Bool)}
theorem Gam.sr {H : GH} {a : Act} {w : World} (h : Gam n C σ H a w) : SR n σ.slots H a := ⟨h.size, h.slots⟩
theorem Gam.wr {H : GH} {a : Act} {w : World} (h : Gam n C σ H a w) : WR σ.objs H w := ⟨h.objs, h.held⟩
theorem partT_cells {H : GH} {cs : Array Value} {base : Nat} {e : List T} {fi : TI} {j : Nat} {y : T} (hsz : base + e.length ≤ cs.size)
  (h1 : ∀ (j : Nat) (x : T), e[j]? = some x → (cs.getD (base + j) undef).oneCell' = true) (hv : ∀ (j : Nat) (x : T), e[j]? = some x → VR H (cs.getD (base + j) undef) x)
  (hp : partT fi e j = some y) :
  (fi.isAgg = true → j + fi.size ≤ e.length ∧ VR H (.agg ((List.range fi.size).map fun i => cs.getD (base + j + i) undef).toArray) y) ∧
  (fi.isAgg = false → j < e.length ∧ VR H (cs.getD (base + j) undef) y) := by
 unfold partT at hp
 refine ⟨fun ha => ?_, fun ha => ?_⟩
 ·simp only [ha, cond_true] at hp
  have key : j + fi.size ≤ e.length ∧ y = .agg ((e.drop j).take fi.size) := by
   cases hb : (Nat.beq j 0 && Nat.beq fi.size e.length) with
   | true =>
    simp only [hb, cond_true, Option.some.injEq] at hp
    simp only [Bool.and_eq_true] at hb
    have h0 := Nat.eq_of_beq_eq_true hb.1
    have h2 := Nat.eq_of_beq_eq_true hb.2
    subst h0
    exact ⟨by omega, by rw [← hp, h2]; simp⟩
   | false =>
    simp only [hb, cond_false] at hp
    cases hc : Nat.ble (j + fi.size) e.length with
    | false => simp [hc] at hp
    | true =>
     simp only [hc, cond_true, Option.some.injEq] at hp
     exact ⟨Nat.le_of_ble_eq_true hc, hp.symm⟩
  obtain ⟨k1, rfl⟩ := key
  refine ⟨k1, .agg _ _ (by simp; omega) ?_ ?_⟩
  all_goals
   intro i x hx
   have hi : i < fi.size := by
    have := (List.getElem?_eq_some_iff.1 hx).1
    simp at this; omega
   rw [List.getElem?_take_of_lt hi, List.getElem?_drop] at hx
   have he : (((List.range fi.size).map fun i => cs.getD (base + j + i) undef).toArray).getD i undef = cs.getD (base + (j + i)) undef := by
    simp [Array.getD_eq_getD_getElem?, hi, Nat.add_assoc]
   rw [he]
   first | exact h1 _ _ hx | exact hv _ _ hx
 ·simp only [ha, cond_false] at hp
  exact ⟨(List.getElem?_eq_some_iff.1 hp).1, hv _ _ hp⟩
def loadVal (fi : TI) (cs : Array Value) (o : Nat) : Value :=
 if fi.isAgg then .agg ((List.range fi.size).map fun i => cs.getD (o + i) undef).toArray else cs.getD o undef
theorem cell?_of {w : World} {b o : Nat} {cs : Array Value} {ty : TypeId} {fr : Nat × Nat} (h : w.heap[b]? = some (.cells cs ty fr)) (ho : o < cs.size) :
  w.cell? ⟨b, o, none⟩ = some (cs.getD o undef) := by
 simp [World.cell?, h, Array.getD, ho]
theorem run_loadVar_part {P : Program} {H : GH} {w : World} {t : TypeId} {fi : TI} (ht : tiOf P t = some fi) {b base j : Nat} {cs : Array Value} {ty : TypeId} {fr : Nat × Nat} {e : List T} {y : T}
  (hb : w.heap[b]? = some (.cells cs ty fr)) (hsz : base + e.length ≤ cs.size)
  (h1 : ∀ (j : Nat) (x : T), e[j]? = some x → (cs.getD (base + j) undef).oneCell' = true) (hv : ∀ (j : Nat) (x : T), e[j]? = some x → VR H (cs.getD (base + j) undef) x)
  (hp : partT fi e j = some y) : (loadVar t ⟨b, base + j, none⟩).run P w = .ok (loadVal fi cs (base + j)) w := by
 unfold loadVal
 obtain ⟨p1, p2⟩ := partT_cells hsz h1 hv hp
 cases ha : fi.isAgg with
 | true =>
  obtain ⟨k1, _⟩ := p1 ha
  have hl := run_loadCells (P := P) w ⟨b, base + j, none⟩ fi.size (fun i => cs.getD (base + j + i) undef) (fun i hi => by
   rw [Addr.add_mk]; exact cell?_of hb (by omega))
  simp [loadVar, run_isAgg_ti ht, ha, run_sizeOf_ti ht, hl]
 | false =>
  obtain ⟨k1, _⟩ := p2 ha
  simp [loadVar, run_isAgg_ti ht, ha, cell?_of hb (show base + j < cs.size by omega)]
theorem Yd.loadE {t : TypeId} {x : Operand} {cs : List T} {fi : TI} {y : T} {objs : List Ob} {s : Slots} (ht : E.tab t = some fi) (hx : evalT s x = some (.eptr cs)) (hp : partT fi cs 0 = some y) :
  Yd E.P n s objs ⟨dst, .load t x, ty, pos, aft, g⟩ y := by
 intro H a w r wr
 have h := r.eval hx
 generalize hv : a.eval x = v at h
 cases h with
 | eptr b off l cs' ty' fr hb hsz h1 hvs =>
  obtain ⟨p1, p2⟩ := partT_cells hsz h1 hvs hp
  refine ⟨loadVal fi cs' off, ?_, fun w' ag => ?_⟩
  rotate_left
  ·have := run_loadVar_part (j := 0) (E.ok _ _ ht) (ag.1 _ _ hb) hsz h1 hvs hp
   simp only [execOp, hv, Instr.loadAt, Instr.sureAddr, Sem.run_bind, Sem.run_pure, Result.andThen_ok]
   simp only [Nat.add_zero] at this
   rw [this]
   first | done | rfl
  ·cases ha : fi.isAgg with
   | true => simpa [loadVal, ha] using (p1 ha).2
   | false => simpa [loadVal, ha] using (p2 ha).2
theorem OR.cells {H : GH} {w : World} {b tt sz cap : Nat} {es : List (List T)} (h : OR H w (.arr b tt sz cap es)) {i : Nat} {e : List T} (he : es[i]? = some e) :
  ∃ cs, w.heap[b]? = some (.cells cs tt (0, 0)) ∧ i * sz + e.length ≤ cs.size ∧ e.length = sz ∧
   (∀ (j : Nat) (x : T), e[j]? = some x → (cs.getD (i * sz + j) undef).oneCell' = true) ∧ (∀ (j : Nat) (x : T), e[j]? = some x → VR H (cs.getD (i * sz + j) undef) x) := by
 obtain ⟨cs, a1, a2, a3, a4, a5, a6⟩ := h
 refine ⟨cs, a1, ?_, a5 i e he, fun j x hx => (a6 i e he j x hx).1, fun j x hx => (a6 i e he j x hx).2⟩
 have hi : i < es.length := (List.getElem?_eq_some_iff.1 he).1
 have : (i + 1) * sz ≤ cap * sz := Nat.mul_le_mul_right _ (by omega)
 rw [Nat.succ_mul] at this
 rw [a5 i e he, a2]; exact this
theorem Yd.loadO (k : Nat) {t : TypeId} {x : Operand} {fi : TI} {y : T} {objs : List Ob} {s : Slots} {b off tt sz cap : Nat} {es : List (List T)} (i j : Nat) {e : List T}
  (ht : E.tab t = some fi) (hx : evalT s x = some (.v (.pointer (some ⟨b, off, none⟩))))
  (hk : objs[k]? = some (.arr b tt sz cap es)) (he : es[i]? = some e) (ho : off = i * sz + j) (hp : partT fi e j = some y) :
  Yd E.P n s objs ⟨dst, .load t x, ty, pos, aft, g⟩ y := by
 intro H a w r wr
 have hv := r.evalv hx
 have hor := wr.objs _ (List.mem_of_getElem? hk)
 obtain ⟨cs, a1, a2, a3, h1, hvs⟩ := OR.cells hor he
 obtain ⟨p1, p2⟩ := partT_cells a2 h1 hvs hp
 subst ho
 refine ⟨loadVal fi cs (i * sz + j), ?_, fun w' ag => ?_⟩
 rotate_left
 ·have hb := ag.2 _ (List.mem_of_getElem? hk)
  have := run_loadVar_part (j := j) (E.ok _ _ ht) ((hb b (by simp [Ob.fp])).trans a1) a2 h1 hvs hp
  simp only [execOp, hv, Instr.loadAt, Instr.sureAddr, Sem.run_bind, Sem.run_pure, Result.andThen_ok, this]
  first | done | rfl
 ·cases ha : fi.isAgg with
  | true => simpa [loadVal, ha] using (p1 ha).2
  | false => simpa [loadVal, ha] using (p2 ha).2
theorem UsR.arr {H : GH} {w : World} {v : Value} {tt sz : Nat} {es : List (List T)} (h : UsR H w v tt sz es) {i : Nat} {e : List T} (he : es[i]? = some e) :
  ∃ c cap, v = .slice (some ⟨blk v, 0, none⟩) es.length c ∧ es.length ≤ c ∧ c ≤ cap ∧ ArrR H w (blk v) tt sz cap es ∧ bls v = [blk v] := by
 rcases h with ⟨_, h⟩ | ⟨b, c, cap, rfl, h1, h2, h3⟩
 ·subst h; simp at he
 ·exact ⟨c, cap, rfl, h1, h2, h3, rfl⟩
theorem Yd.loadU (k : Nat) {t : TypeId} {x : Operand} {fi : TI} {y : T} {objs : List Ob} {s : Slots} {v : Value} {off tt sz : Nat} {es : List (List T)} (i j : Nat) {e : List T}
  (ht : E.tab t = some fi) (hx : evalT s x = some (.v (.pointer (some ⟨blk v, off, none⟩))))
  (hk : objs[k]? = some (.us v tt sz es)) (he : es[i]? = some e) (ho : off = i * sz + j) (hp : partT fi e j = some y) :
  Yd E.P n s objs ⟨dst, .load t x, ty, pos, aft, g⟩ y := by
 intro H a w r wr
 have hor : UsR H w v tt sz es := wr.objs _ (List.mem_of_getElem? hk)
 obtain ⟨c, cap, hv, h1, h2, h3, h4⟩ := hor.arr he
 obtain ⟨z, hz, hr⟩ := Yd.loadO (E := E) (n := n) (dst := dst) (ty := ty) (pos := pos) (aft := aft) (g := g) (objs := [.arr (blk v) tt sz cap es]) 0 i j ht hx rfl he ho hp H a w r ⟨fun p hp => by simp at hp; subst hp; exact h3, wr.held⟩
 refine ⟨z, hz, fun w' ag => hr w' ⟨ag.1, fun p hp b hb => ?_⟩⟩
 simp only [List.mem_singleton] at hp
 subst hp
 exact ag.2 _ (List.mem_of_getElem? hk) b (by simp only [Ob.fp, h4] at *; exact hb)
theorem Yd.lenU (k : Nat) {x : Operand} {t : TypeId} {objs : List Ob} {s : Slots} {v : Value} {tt sz : Nat} {es : List (List T)} {ti : TI} {e : Nat} (ht : E.tab t = some ti) (hk : ti.kind = .slice e) (hx : evalT s x = some (.v v))
  (ho : objs[k]? = some (.us v tt sz es)) : Yd E.P n s objs ⟨dst, .call { callee := .builtin .len, args := #[x], argTypes := #[t] }, ty, pos, aft, g⟩ (.v (.int .i64 es.length)) := by
 intro H a w r wr
 have hor : UsR H w v tt sz es := wr.objs _ (List.mem_of_getElem? ho)
 rcases hor with ⟨rfl, rfl⟩ | ⟨b, c, cap, rfl, h1, h2, h3⟩
 ·exact ⟨_, .v _, fun w' _ => (Yp.lenSlice (E := E) (n := n) ht hk hx H a r).choose_spec.2 w' |> fun h => by rw [h]; have := (Yp.lenSlice (E := E) (n := n) (dst := dst) (ty := ty) (pos := pos) (aft := aft) (g := g) ht hk hx H a r).choose_spec.1.v_eq; rw [this]; rfl⟩
 ·exact ⟨_, .v _, fun w' _ => (Yp.lenSlice (E := E) (n := n) ht hk hx H a r).choose_spec.2 w' |> fun h => by rw [h]; have := (Yp.lenSlice (E := E) (n := n) (dst := dst) (ty := ty) (pos := pos) (aft := aft) (g := g) ht hk hx H a r).choose_spec.1.v_eq; rw [this]⟩
theorem Yd.indexU (k : Nat) {t : TypeId} {x y : Operand} {kk : IntKind} {i : Int} {m : Nat} {objs : List Ob} {s : Slots} {v : Value} {tt sz : Nat} {es : List (List T)} {e : List T} {ti fi : TI} {el : Nat}
  (ht : E.tab t = some ti) (hk : ti.kind = .slice el) (hel : E.tab el = some fi) (hsz : fi.size = sz)
  (hx : evalT s x = some (.v v)) (ho : objs[k]? = some (.us v tt sz es)) (hy : evalT s y = some (.v (.int kk i))) (hi : i = (m : Int)) (hm : es[m]? = some e) :
  Yd E.P n s objs ⟨dst, .indexAddr t x y, ty, pos, aft, g⟩ (.v (.pointer (some ⟨blk v, m * sz, none⟩))) := by
 intro H a w r wr
 have hor : UsR H w v tt sz es := wr.objs _ (List.mem_of_getElem? ho)
 obtain ⟨c, cap, hv, h1, h2, h3, h4⟩ := hor.arr hm
 have hx' : evalT s x = some (.v (.slice (some ⟨blk v, 0, none⟩) es.length c)) := by rw [← hv]; exact hx
 have := Yp.indexS (E := E) (n := n) (dst := dst) (ty := ty) (pos := pos) (aft := aft) (g := g) ht hk hel hx' hy hi (List.getElem?_eq_some_iff.1 hm).1 H a r
 rw [hsz, Nat.zero_add] at this
 exact (Yp.yd (fun H A r => Yp.indexS (E := E) (n := n) (dst := dst) (ty := ty) (pos := pos) (aft := aft) (g := g) ht hk hel hx' hy hi (List.getElem?_eq_some_iff.1 hm).1 H A r) (objs := objs) H a w r wr) |> fun h => by rw [hsz, Nat.zero_add] at h; exact h
theorem AO.still {ops : Array Oper} {o : Oper} {l : List Oper} {R : St → Prop} {x : T} (hy : Yd E.P n σ.slots σ.objs o x) (hg : o.guard = none) (hd : ∀ d, o.dst = some d → d < n)
  (k : AO E n C ops l (σ.put o.dst x) R) : AO E n C ops (o :: l) σ R := by
 intro H a w gm
 obtain ⟨v, hv, hr⟩ := hy H a w gm.sr gm.wr
 simp only [wpL]
 rw [if_pos (by simp [Region.wanted, hg])]
 refine opwp_none ?_
 simp only [Oper.wp, hr w ⟨gm.held, fun _ _ _ _ => rfl⟩, Oper.upon]
 exact k H _ w (gm.put hv hd)
theorem dst_some {n d : Nat} (h : Nat.blt d n = true) : ∀ d', some d = some d' → d' < n := fun d' he => by
 cases he; exact Nat.le_of_ble_eq_true h
theorem yielded_of {H : GH} {a : Act} {s : Slots} (r : SR n s H a) {ops : Array Oper} {j : Nat} {t : Tmp} {b : Bool} (hj : (ops[j]?).bind (·.dst) = some t) (hs : get s t = some (.v (.bool b))) :
  yielded ops a.tmps j = some b := by
 have hv := (r.slots t _ hs).v_eq
 have ht : t < a.tmps.size := by
  apply Classical.byContradiction
  intro hc
  rw [Array.getD_eq_getD_getElem?, Array.getElem?_eq_none (Nat.le_of_not_lt hc)] at hv
  simp [undef] at hv
 have : a.tmps[t]? = some (.bool b) := by
  rw [Array.getD_eq_getD_getElem?, Array.getElem?_eq_getElem ht] at hv
  rw [Array.getElem?_eq_getElem ht]; simpa using hv
 simp [yielded, hj, this]
theorem AO.guard {ops : Array Oper} {op : Op} {l : List Oper} {R : St → Prop} {j : Nat} {want b : Bool} {t : Tmp}
  (hj : (ops[j]?).bind (·.dst) = some t) (hs : get σ.slots t = some (.v (.bool b))) (hd : ∀ d, dst = some d → d < n)
  (h1 : b = want → AO E n C ops (⟨dst, op, ty, pos, aft, none⟩ :: l) σ R)
  (h2 : b = !want → AO E n C ops l (σ.put dst (.v undef)) R) : AO E n C ops (⟨dst, op, ty, pos, aft, some (j, want)⟩ :: l) σ R := by
 intro H a w gm
 have hy := yielded_of gm.sr hj hs
 simp only [wpL]
 by_cases hb : b = want
 ·rw [if_pos (by simp [Region.wanted, hy, hb])]
  have := h1 hb H a w gm
  simp only [wpL] at this
  rw [if_pos (by simp [Region.wanted])] at this
  exact this
 ·rw [if_neg (by simp [Region.wanted, hy, hb])]
  have hb' : b = !want := by cases b <;> cases want <;> simp_all
  exact h2 hb' H _ w (gm.put (.v _) hd)
def noX (X : List Nat) (listed : Array Bool) : Bool := X.all fun x => !(listed.getD x true)
def wpAnyX (P : Program) (ops : Array Oper) (Q : Exit → Act → World → Prop) (S : World → Prop) (X : List Nat) : Nat → Array Bool → Act → World → Prop
 | 0, listed, a, w => Region.ready .any ops listed = [] ∧ Q .normal a w
 | fuel + 1, listed, a, w =>
  (Region.ready .any ops listed = [] → Q .normal a w) ∧
  ∀ i ∈ Region.ready .any ops listed, wpOp P ops Q i (fun a' w' => (noX X (listed.setIfInBounds i true) = true → S w') ∧ wpAnyX P ops Q S X fuel (listed.setIfInBounds i true) a' w') a w
theorem wpAny_of_X {P : Program} {ops : Array Oper} {Q : Exit → Act → World → Prop} {S : World → Prop} {X : List Nat} : ∀ (fuel : Nat) (listed : Array Bool) (a : Act) (w : World), wpAnyX P ops Q S X fuel listed a w → wpAny P .any ops Q fuel listed a w
 | 0, _, _, _, h => h
 | fuel + 1, _, _, _, h => ⟨h.1, fun i hi => wpOp_mono (fun a' w' h' => wpAny_of_X fuel _ a' w' h'.2) (h.2 i hi)⟩
theorem wpAnyX_done {P : Program} {ops : Array Oper} {Q : Exit → Act → World → Prop} {S : World → Prop} {X : List Nat} {listed : Array Bool} {a : Act} {w : World} (hr : Region.ready .any ops listed = []) (h : Q .normal a w) :
  ∀ fuel, wpAnyX P ops Q S X fuel listed a w
 | 0 => ⟨hr, h⟩
 | _ + 1 => ⟨fun _ => h, by rw [hr]; simp⟩
theorem wpAnyX_all {P : Program} {ops : Array Oper} {Q : Exit → Act → World → Prop} {S : World → Prop} {X rs : List Nat} {fuel : Nat} {listed : Array Bool} {a : Act} {w : World} (hr : Region.ready .any ops listed = rs) (hne : rs ≠ [])
  (h : ∀ i ∈ rs, wpOp P ops Q i (fun a' w' => (noX X (listed.setIfInBounds i true) = true → S w') ∧ wpAnyX P ops Q S X fuel (listed.setIfInBounds i true) a' w') a w) : wpAnyX P ops Q S X (fuel + 1) listed a w :=
 ⟨fun h0 => absurd (hr ▸ h0) hne, hr ▸ h⟩
def Blk (ops : Array Oper) (listed : Array Bool) (U : List Nat) (i : Nat) : Prop :=
 ∀ u, u ∈ U → listed.getD u true = false ∧ (u = i ∨ ∃ o e, ops[u]? = some o ∧ e ∈ o.after ∧ Region.binds .any e = true ∧ e.on ∈ U)
theorem Blk.not_ready {ops : Array Oper} {listed : Array Bool} {U : List Nat} {i j : Nat} (hb : Blk ops listed U i) (hj : j ∈ Region.ready .any ops listed) (hji : j ≠ i) : j ∉ U := by
 intro hU
 obtain ⟨_, h⟩ := hb j hU
 rcases h with h | ⟨o, e, ho, he, hbi, hon⟩
 ·exact hji h
 ·obtain ⟨_, o', ho', hall⟩ := mem_ready.1 hj
  rw [ho] at ho'
  cases ho'
  have h1 := hall e he hbi
  have h0 := (hb e.on hon).1
  rcases Nat.lt_or_ge e.on listed.size with h' | h'
  ·simp [h'] at h0 h1; rw [h0] at h1; cases h1
  ·simp [Array.getElem?_eq_none h'] at h1
theorem wpAnyX_first {P : Program} {ops : Array Oper} {Q : Exit → Act → World → Prop} {S : World → Prop} {X U : List Nat} {i : Nat} {oi : Oper} {v : Value} (hi : ops[i]? = some oi) (hsel : ∀ (j : Nat) (o : Oper) cs b, ops[j]? = some o → o.op ≠ .select cs b)
  (hQ : ∀ c a w, Q (.panic c) (a.put oi.dst v) w → Q (.panic c) a w) (hX : ∀ x, x ∈ X → x ∈ U ∧ x ≠ i) :
  ∀ (fuel : Nat) (listed : Array Bool) (a : Act) (w : World),
   (∀ j oj, ops[j]? = some oj → j ≠ i → listed.getD j true = false → (∀ e ∈ oj.after, Region.binds .any e = true → e.on ≠ i) → oi.apart ops oj = true) → Blk ops listed U i →
   i ∈ Region.ready .any ops listed → YieldsIf P ops S oi v a → S w →
   wpAnyX P ops Q S X fuel (listed.setIfInBounds i true) (a.put oi.dst v) w → wpAnyX P ops Q S X (fuel + 1) listed a w := by
 intro fuel
 induction fuel with
 | zero =>
  intro listed a w _ _ hr hy hS H
  refine ⟨fun h => (by rw [h] at hr; cases hr), fun j hj => ?_⟩
  by_cases hji : j = i
  ·subst hji; exact hy.wpOp hi hS ⟨fun _ => hS, H⟩
  ·have := ready_mono hj hji
   rw [H.1] at this
   cases this
 | succ fuel ih =>
  intro listed a w hfree hblk hr hy hS H
  refine ⟨fun h => (by rw [h] at hr; cases hr), fun j hj => ?_⟩
  by_cases hji : j = i
  ·subst hji; exact hy.wpOp hi hS ⟨fun _ => hS, H⟩
  ·have h1 := H.2 j (ready_mono hj hji)
   have hjU := hblk.not_ready hj hji
   obtain ⟨hjun, oj, hoj, hall⟩ := mem_ready.1 hj
   have hnot : ∀ e ∈ oj.after, Region.binds .any e = true → e.on ≠ i := fun e he hb heq => by
    have h1 := hall e he hb
    have h0 := (mem_ready.1 hr).1
    rw [heq] at h1
    rcases Nat.lt_or_ge i listed.size with h' | h'
    ·simp [h'] at h0 h1; rw [h0] at h1; cases h1
    ·simp [Array.getElem?_eq_none h'] at h1
   have hno : noX X ((listed.setIfInBounds i true).setIfInBounds j true) = true := by
    refine List.all_eq_true.2 fun x hx => ?_
    obtain ⟨hxU, hxi⟩ := hX x hx
    rw [getD_set_ne true (show j ≠ x from fun h => hjU (h ▸ hxU)), getD_set_ne true (Ne.symm hxi), (hblk x hxU).1]; rfl
   have h2 := wpOp_putIf hoj (hfree j oj hoj hji hjun hnot) (fun cs b => hsel i oi cs b hi) (fun cs b => hsel j oj cs b hoj) hQ hy h1
   have hfree' : ∀ k ok, ops[k]? = some ok → k ≠ i → (listed.setIfInBounds j true).getD k true = false →
     (∀ e ∈ ok.after, Region.binds .any e = true → e.on ≠ i) → oi.apart ops ok = true := fun k ok hk hki hun hno => by
    refine hfree k ok hk hki ?_ hno
    by_cases hjk : j = k
    ·subst hjk; exact hjun
    ·rw [getD_set_ne true hjk] at hun; exact hun
   have hblk' : Blk ops (listed.setIfInBounds j true) U i := fun u hu => ⟨by rw [getD_set_ne true (show j ≠ u from fun h => hjU (h ▸ hu))]; exact (hblk u hu).1, (hblk u hu).2⟩
   refine wpOp_mono (fun a' w' h3 => ⟨fun _ => h3.2.1 hno, ih (listed.setIfInBounds j true) a' w' hfree' hblk' (ready_mono hr (Ne.symm hji)) h3.1 (h3.2.1 hno) ?_⟩) h2
   rw [Array.setIfInBounds_comm _ _ hji]
   exact h3.2.2
def reachU (ops : Array Oper) (listed : Array Bool) (i : Nat) : List Nat :=
 (List.range ops.size).foldl (fun U u => bif !(listed.getD u true) && !(Nat.beq u i) && (match ops[u]? with | some o => o.after.any (fun e => Region.binds .any e && U.contains e.on) | none => false) then u :: U else U) [i]
def blkB (ops : Array Oper) (listed : Array Bool) (X U : List Nat) (i : Nat) : Bool :=
 X.isEmpty || (U.all (fun u => !(listed.getD u true) && (Nat.beq u i || (match ops[u]? with | some o => o.after.any (fun e => Region.binds .any e && U.contains e.on) | none => false))) && X.all (fun x => U.contains x && !(Nat.beq x i)))
theorem wpAnyX_take {P : Program} {ops : Array Oper} {Q : Exit → Act → World → Prop} {S : World → Prop} {X U : List Nat} {i : Nat} {oi : Oper} {v : Value} {fuel : Nat} {listed : Array Bool} {a : Act} {w : World} (hi : ops[i]? = some oi)
  (hs : Region.noSelect ops = true) (hf : Region.free .any ops listed i = true) (hr : (Region.ready .any ops listed).contains i = true) (hb : blkB ops listed X U i = true)
  (hQ : ∀ c a w, Q (.panic c) (a.put oi.dst v) w → Q (.panic c) a w) (hy : YieldsIf P ops S oi v a) (hS : S w)
  (h : wpAnyX P ops Q S X fuel (listed.setIfInBounds i true) (a.put oi.dst v) w) : wpAnyX P ops Q S X (fuel + 1) listed a w := by
 have hri : i ∈ Region.ready .any ops listed := by simpa using hr
 rcases Bool.or_eq_true _ _ |>.mp hb with hb | hb
 ·have : X = [] := by simpa using hb
  subst this
  exact wpAnyX_first (U := [i]) hi (Region.noSelect_spec hs) hQ (by simp) fuel listed a w (Region.free_spec hi hf) (fun u hu => by simp at hu; subst hu; exact ⟨(mem_ready.1 hri).1, .inl rfl⟩) hri hy hS h
 ·simp only [Bool.and_eq_true] at hb
  obtain ⟨h1, h2⟩ := hb
  refine wpAnyX_first (U := U) hi (Region.noSelect_spec hs) hQ (fun x hx => ?_) fuel listed a w (Region.free_spec hi hf) (fun u hu => ?_) hri hy hS h
  ·have := List.all_eq_true.1 h2 x hx
   simp only [Bool.and_eq_true, Bool.not_eq_true'] at this
   refine ⟨by simpa using this.1, fun he => ?_⟩
   rw [he] at this
   simp at this
  ·have := List.all_eq_true.1 h1 u hu
   simp only [Bool.and_eq_true, Bool.not_eq_true', Bool.or_eq_true] at this
   refine ⟨this.1, ?_⟩
   rcases this.2 with h | h
   ·exact .inl (Nat.eq_of_beq_eq_true h)
   ·split at h
    ·rename_i o ho
     rw [Array.any_eq_true'] at h
     obtain ⟨e, he, hbe⟩ := h
     simp only [Bool.and_eq_true] at hbe
     exact .inr ⟨o, e, ho, he, hbe.1, by simpa using hbe.2⟩
    ·cases h
inductive PL where
 | nil
 | still (i : Nat) (r : PL)
 | act (i : Nat) (r : PL)
 | two (i j : Nat) (r1 r2 : PL)
 | three (i j k : Nat) (r1 r2 r3 : PL)
 | four (i j k l : Nat) (r1 r2 r3 r4 : PL)
 | five (i j k l m : Nat) (r1 r2 r3 r4 r5 : PL)
 | par (A : List (Nat × List Nat)) (r : PL)
 | drop (i : Nat) (r : PL)
def parOk (ops : Array Oper) (A : List (Nat × List Nat)) (k : Array Bool → Bool) : Nat → List Nat → Array Bool → Bool
 | 0, _, _ => false
 | f + 1, D, listed => bif A.all (fun p => D.contains p.1) then k listed else
  match Region.ready .any ops listed with
  | [] => false
  | i :: l => (i :: l).all fun j => !D.contains j && A.any (fun p => Nat.beq p.1 j && p.2.all D.contains) && parOk ops A k f (j :: D) (listed.setIfInBounds j true)
def PL.actsOnly : PL → Bool
 | .nil => true
 | .act _ r => r.actsOnly
 | .drop _ r => r.actsOnly
 | _ => false
def PL.drops : PL → List Nat
 | .nil => []
 | .still _ r => r.drops
 | .act _ r => r.drops
 | .two _ _ r1 r2 => r1.drops ++ r2.drops
 | .three _ _ _ r1 r2 r3 => r1.drops ++ (r2.drops ++ r3.drops)
 | .four _ _ _ _ r1 r2 r3 r4 => r1.drops ++ (r2.drops ++ (r3.drops ++ r4.drops))
 | .five _ _ _ _ _ r1 r2 r3 r4 r5 => r1.drops ++ (r2.drops ++ (r3.drops ++ (r4.drops ++ r5.drops)))
 | .par _ r => r.drops
 | .drop i r => i :: r.drops
def planOk (ops : Array Oper) (X : List Nat) : PL → Array Bool → Bool
 | .nil, listed => (Region.ready .any ops listed).isEmpty
 | .still i r, listed => Region.free .any ops listed i && (Region.ready .any ops listed).contains i && blkB ops listed X (bif X.isEmpty then [] else reachU ops listed i) i && planOk ops X r (listed.setIfInBounds i true)
 | .act i r, listed => Region.ready .any ops listed == [i] && planOk ops X r (listed.setIfInBounds i true)
 | .two i j r1 r2, listed => Region.ready .any ops listed == [i, j] && planOk ops X r1 (listed.setIfInBounds i true) && planOk ops X r2 (listed.setIfInBounds j true)
 | .three i j k r1 r2 r3, listed => Region.ready .any ops listed == [i, j, k] && planOk ops X r1 (listed.setIfInBounds i true) && planOk ops X r2 (listed.setIfInBounds j true) && planOk ops X r3 (listed.setIfInBounds k true)
 | .four i j k l r1 r2 r3 r4, listed => Region.ready .any ops listed == [i, j, k, l] && planOk ops X r1 (listed.setIfInBounds i true) && planOk ops X r2 (listed.setIfInBounds j true) && planOk ops X r3 (listed.setIfInBounds k true) && planOk ops X r4 (listed.setIfInBounds l true)
 | .five i j k l m r1 r2 r3 r4 r5, listed => Region.ready .any ops listed == [i, j, k, l, m] && planOk ops X r1 (listed.setIfInBounds i true) && planOk ops X r2 (listed.setIfInBounds j true) && planOk ops X r3 (listed.setIfInBounds k true) && planOk ops X r4 (listed.setIfInBounds l true) && planOk ops X r5 (listed.setIfInBounds m true)
 | .par A r, listed => parOk ops A (planOk ops X r) (A.length + 1) [] listed
 | .drop i r, listed => Region.ready .any ops listed == [i] && X.contains i && r.actsOnly && planOk ops X r (listed.setIfInBounds i true)
def PL.depth : PL → Nat
 | .nil => 0
 | .still _ r => r.depth + 1
 | .act _ r => r.depth + 1
 | .two _ _ r1 r2 => max r1.depth r2.depth + 1
 | .three _ _ _ r1 r2 r3 => max r1.depth (max r2.depth r3.depth) + 1
 | .four _ _ _ _ r1 r2 r3 r4 => max r1.depth (max r2.depth (max r3.depth r4.depth)) + 1
 | .five _ _ _ _ _ r1 r2 r3 r4 r5 => max r1.depth (max r2.depth (max r3.depth (max r4.depth r5.depth))) + 1
 | .par A r => r.depth + A.length
 | .drop _ r => r.depth + 1
def planB (ops : Array Oper) (pl : PL) : Bool :=
 Region.noSelect ops && Nat.ble pl.depth ops.size && planOk ops pl.drops pl (Array.replicate ops.size false)
def wpPlan (P : Program) (ops : Array Oper) (Q : Exit → Act → World → Prop) : (World → Prop) → PL → Act → World → Prop
 | _, .nil, a, w => Q .normal a w
 | S, .still i r, a, w => ∃ o v, ops[i]? = some o ∧ YieldsIf P ops S o v a ∧ S w ∧ wpPlan P ops Q S r (a.put o.dst v) w
 | S, .act i r, a, w => wpOp P ops Q i (fun a' w' => S w' ∧ wpPlan P ops Q S r a' w') a w
 | S, .two i j r1 r2, a, w => wpOp P ops Q i (fun a' w' => S w' ∧ wpPlan P ops Q S r1 a' w') a w ∧ wpOp P ops Q j (fun a' w' => S w' ∧ wpPlan P ops Q S r2 a' w') a w
 | S, .three i j k r1 r2 r3, a, w => wpOp P ops Q i (fun a' w' => S w' ∧ wpPlan P ops Q S r1 a' w') a w ∧ wpOp P ops Q j (fun a' w' => S w' ∧ wpPlan P ops Q S r2 a' w') a w ∧ wpOp P ops Q k (fun a' w' => S w' ∧ wpPlan P ops Q S r3 a' w') a w
 | S, .four i j k l r1 r2 r3 r4, a, w => wpOp P ops Q i (fun a' w' => S w' ∧ wpPlan P ops Q S r1 a' w') a w ∧ wpOp P ops Q j (fun a' w' => S w' ∧ wpPlan P ops Q S r2 a' w') a w ∧ wpOp P ops Q k (fun a' w' => S w' ∧ wpPlan P ops Q S r3 a' w') a w ∧ wpOp P ops Q l (fun a' w' => S w' ∧ wpPlan P ops Q S r4 a' w') a w
 | S, .five i j k l m r1 r2 r3 r4 r5, a, w => wpOp P ops Q i (fun a' w' => S w' ∧ wpPlan P ops Q S r1 a' w') a w ∧ wpOp P ops Q j (fun a' w' => S w' ∧ wpPlan P ops Q S r2 a' w') a w ∧ wpOp P ops Q k (fun a' w' => S w' ∧ wpPlan P ops Q S r3 a' w') a w ∧ wpOp P ops Q l (fun a' w' => S w' ∧ wpPlan P ops Q S r4 a' w') a w ∧ wpOp P ops Q m (fun a' w' => S w' ∧ wpPlan P ops Q S r5 a' w') a w
 | S, .par A r, a, w => ∃ J : List Nat → Act → World → Prop, J [] a w ∧
   (∀ (D : List Nat) (j : Nat) (ds : List Nat) a w, (j, ds) ∈ A → (∀ d, d ∈ ds → d ∈ D) → j ∉ D → J D a w → wpOp P ops Q j (fun a' w' => S w' ∧ J (j :: D) a' w') a w) ∧
   (∀ (D : List Nat) a w, (∀ p, p ∈ A → p.1 ∈ D) → J D a w → wpPlan P ops Q S r a w)
 | _, .drop i r, a, w => wpOp P ops Q i (fun a' w' => wpPlan P ops Q (fun _ => True) r a' w') a w
theorem wpPlan_acts {P : Program} {ops : Array Oper} {Q : Exit → Act → World → Prop} : ∀ (r : PL) (S : World → Prop) (a : Act) (w : World), r.actsOnly = true → wpPlan P ops Q S r a w → wpPlan P ops Q (fun _ => True) r a w
 | .nil, _, _, _, _, h => h
 | .act _ r, S, _, _, hr, h => wpOp_mono (fun a' w' h' => ⟨trivial, wpPlan_acts r S a' w' hr h'.2⟩) h
 | .drop _ _, _, _, _, _, h => h
theorem noX_set {X : List Nat} {listed : Array Bool} {i : Nat} (h : noX X listed = false) : noX X (listed.setIfInBounds i true) = false := by
 unfold noX at *
 obtain ⟨x, hx, hv⟩ := List.all_eq_false.1 h
 refine List.all_eq_false.2 ⟨x, hx, ?_⟩
 simp only [Bool.not_eq_true', Bool.not_eq_false] at *
 by_cases hix : i = x
 ·subst hix
  by_cases hl : i < listed.size
  ·simp [hl]
  ·simp [hl]
 ·rw [getD_set_ne true hix]; exact hv
theorem noX_hit {X : List Nat} {listed : Array Bool} {i : Nat} (h : X.contains i = true) : noX X (listed.setIfInBounds i true) = false := by
 refine List.all_eq_false.2 ⟨i, by simpa using h, ?_⟩
 by_cases hl : i < listed.size
 ·simp [hl]
 ·simp [hl]
theorem wpAnyX_acts {P : Program} {ops : Array Oper} {Q : Exit → Act → World → Prop} {S : World → Prop} {X : List Nat} :
  ∀ (pl : PL) (fuel : Nat) (listed : Array Bool) (a : Act) (w : World), pl.actsOnly = true → noX X listed = false → pl.depth ≤ fuel → planOk ops X pl listed = true → wpPlan P ops Q (fun _ => True) pl a w → wpAnyX P ops Q S X fuel listed a w
 | .nil, fuel, listed, a, w, _, _, _, hp, h => wpAnyX_done (by simpa [planOk] using hp) h fuel
 | .act i r, 0, _, _, _, _, _, hl, _, _ => by simp [PL.depth] at hl
 | .act i r, fuel + 1, listed, a, w, ha, hn, hl, hp, h => by
  simp only [planOk, Bool.and_eq_true, beq_iff_eq] at hp
  refine wpAnyX_all hp.1 (by simp) (fun j hj => ?_)
  simp only [List.mem_singleton] at hj
  subst hj
  exact wpOp_mono (fun a' w' h' => ⟨fun hx => absurd hx (by rw [noX_set hn]; simp), wpAnyX_acts r fuel _ _ _ ha (noX_set hn) (by simp [PL.depth] at hl; omega) hp.2 h'.2⟩) h
 | .drop i r, 0, _, _, _, _, _, hl, _, _ => by simp [PL.depth] at hl
 | .drop i r, fuel + 1, listed, a, w, ha, hn, hl, hp, h => by
  simp only [planOk, Bool.and_eq_true, beq_iff_eq] at hp
  refine wpAnyX_all hp.1.1.1 (by simp) (fun j hj => ?_)
  simp only [List.mem_singleton] at hj
  subst hj
  exact wpOp_mono (fun a' w' h' => ⟨fun hx => absurd hx (by rw [noX_set hn]; simp), wpAnyX_acts r fuel _ _ _ ha (noX_set hn) (by simp [PL.depth] at hl; omega) hp.2 h'⟩) h
theorem wpAnyX_plan {P : Program} {ops : Array Oper} {Q : Exit → Act → World → Prop} {S : World → Prop} {X : List Nat} (hsel : Region.noSelect ops = true) (hQ : ∀ c a w, ¬ Q (.panic c) a w) :
  ∀ (pl : PL) (fuel : Nat) (listed : Array Bool) (a : Act) (w : World), pl.depth ≤ fuel → planOk ops X pl listed = true → wpPlan P ops Q S pl a w → wpAnyX P ops Q S X fuel listed a w := by
 intro pl
 induction pl with
 | nil =>
  intro fuel listed a w _ hp h
  exact wpAnyX_done (by simpa [planOk] using hp) h fuel
 | still i r ih =>
  intro fuel listed a w hl hp h
  cases fuel with
  | zero => simp [PL.depth] at hl
  | succ fuel =>
   simp only [planOk, Bool.and_eq_true] at hp
   obtain ⟨⟨⟨hf, hr⟩, hb⟩, hp'⟩ := hp
   obtain ⟨o, v, ho, hy, hS, hrest⟩ := h
   exact wpAnyX_take ho hsel hf hr hb (fun c a w hq => absurd hq (hQ _ _ _)) hy hS (ih fuel _ _ _ (by simp [PL.depth] at hl; omega) hp' hrest)
 | act i r ih =>
  intro fuel listed a w hl hp h
  cases fuel with
  | zero => simp [PL.depth] at hl
  | succ fuel =>
   simp only [planOk, Bool.and_eq_true, beq_iff_eq] at hp
   obtain ⟨hr, hp'⟩ := hp
   refine wpAnyX_all hr (by simp) (fun j hj => ?_)
   simp only [List.mem_singleton] at hj
   subst hj
   exact wpOp_mono (fun a' w' h' => ⟨fun _ => h'.1, ih fuel _ _ _ (by simp [PL.depth] at hl; omega) hp' h'.2⟩) h
 | two i j r1 r2 ih1 ih2 =>
  intro fuel listed a w hl hp h
  cases fuel with
  | zero => simp [PL.depth] at hl
  | succ fuel =>
   simp only [planOk, Bool.and_eq_true, beq_iff_eq] at hp
   obtain ⟨⟨hr, hp1⟩, hp2⟩ := hp
   simp only [PL.depth] at hl
   refine wpAnyX_all hr (by simp) (fun k hk => ?_)
   simp only [List.mem_cons, List.not_mem_nil, or_false] at hk
   rcases hk with rfl | rfl
   ·exact wpOp_mono (fun a' w' h' => ⟨fun _ => h'.1, ih1 fuel _ _ _ (by omega) hp1 h'.2⟩) h.1
   ·exact wpOp_mono (fun a' w' h' => ⟨fun _ => h'.1, ih2 fuel _ _ _ (by omega) hp2 h'.2⟩) h.2
 | three i j k r1 r2 r3 ih1 ih2 ih3 =>
  intro fuel listed a w hl hp h
  cases fuel with
  | zero => simp [PL.depth] at hl
  | succ fuel =>
   simp only [planOk, Bool.and_eq_true, beq_iff_eq] at hp
   obtain ⟨⟨⟨hr, hp1⟩, hp2⟩, hp3⟩ := hp
   simp only [PL.depth] at hl
   obtain ⟨hw1, hw2, hw3⟩ := h
   refine wpAnyX_all hr (by simp) (fun kk hk => ?_)
   simp only [List.mem_cons, List.not_mem_nil, or_false] at hk
   rcases hk with rfl | rfl | rfl
   ·exact wpOp_mono (fun a' w' h' => ⟨fun _ => h'.1, ih1 fuel _ _ _ (by omega) hp1 h'.2⟩) hw1
   ·exact wpOp_mono (fun a' w' h' => ⟨fun _ => h'.1, ih2 fuel _ _ _ (by omega) hp2 h'.2⟩) hw2
   ·exact wpOp_mono (fun a' w' h' => ⟨fun _ => h'.1, ih3 fuel _ _ _ (by omega) hp3 h'.2⟩) hw3
 | four i j k l r1 r2 r3 r4 ih1 ih2 ih3 ih4 =>
  intro fuel listed a w hl hp h
  cases fuel with
  | zero => simp [PL.depth] at hl
  | succ fuel =>
   simp only [planOk, Bool.and_eq_true, beq_iff_eq] at hp
   obtain ⟨⟨⟨⟨hr, hp1⟩, hp2⟩, hp3⟩, hp4⟩ := hp
   simp only [PL.depth] at hl
   obtain ⟨hw1, hw2, hw3, hw4⟩ := h
   refine wpAnyX_all hr (by simp) (fun kk hk => ?_)
   simp only [List.mem_cons, List.not_mem_nil, or_false] at hk
   rcases hk with rfl | rfl | rfl | rfl
   ·exact wpOp_mono (fun a' w' h' => ⟨fun _ => h'.1, ih1 fuel _ _ _ (by omega) hp1 h'.2⟩) hw1
   ·exact wpOp_mono (fun a' w' h' => ⟨fun _ => h'.1, ih2 fuel _ _ _ (by omega) hp2 h'.2⟩) hw2
   ·exact wpOp_mono (fun a' w' h' => ⟨fun _ => h'.1, ih3 fuel _ _ _ (by omega) hp3 h'.2⟩) hw3
   ·exact wpOp_mono (fun a' w' h' => ⟨fun _ => h'.1, ih4 fuel _ _ _ (by omega) hp4 h'.2⟩) hw4
 | five i j k l m r1 r2 r3 r4 r5 ih1 ih2 ih3 ih4 ih5 =>
  intro fuel listed a w hl hp h
  cases fuel with
  | zero => simp [PL.depth] at hl
  | succ fuel =>
   simp only [planOk, Bool.and_eq_true, beq_iff_eq] at hp
   obtain ⟨⟨⟨⟨⟨hr, hp1⟩, hp2⟩, hp3⟩, hp4⟩, hp5⟩ := hp
   simp only [PL.depth] at hl
   obtain ⟨hw1, hw2, hw3, hw4, hw5⟩ := h
   refine wpAnyX_all hr (by simp) (fun kk hk => ?_)
   simp only [List.mem_cons, List.not_mem_nil, or_false] at hk
   rcases hk with rfl | rfl | rfl | rfl | rfl
   ·exact wpOp_mono (fun a' w' h' => ⟨fun _ => h'.1, ih1 fuel _ _ _ (by omega) hp1 h'.2⟩) hw1
   ·exact wpOp_mono (fun a' w' h' => ⟨fun _ => h'.1, ih2 fuel _ _ _ (by omega) hp2 h'.2⟩) hw2
   ·exact wpOp_mono (fun a' w' h' => ⟨fun _ => h'.1, ih3 fuel _ _ _ (by omega) hp3 h'.2⟩) hw3
   ·exact wpOp_mono (fun a' w' h' => ⟨fun _ => h'.1, ih4 fuel _ _ _ (by omega) hp4 h'.2⟩) hw4
   ·exact wpOp_mono (fun a' w' h' => ⟨fun _ => h'.1, ih5 fuel _ _ _ (by omega) hp5 h'.2⟩) hw5
 | drop i r ih =>
  intro fuel listed a w hl hp h
  cases fuel with
  | zero => simp [PL.depth] at hl
  | succ fuel =>
   simp only [planOk, Bool.and_eq_true, beq_iff_eq] at hp
   obtain ⟨⟨⟨hr, hx⟩, ha⟩, hp'⟩ := hp
   refine wpAnyX_all hr (by simp) (fun j hj => ?_)
   simp only [List.mem_singleton] at hj
   subst hj
   exact wpOp_mono (fun a' w' h' => ⟨fun hn => absurd hn (by rw [noX_hit hx]; simp), wpAnyX_acts r fuel _ _ _ ha (noX_hit hx) (by simp [PL.depth] at hl; omega) hp' h'⟩) h
 | par A r ih =>
  intro fuel listed a w hl hp h
  obtain ⟨J, h0, hstep, hend⟩ := h
  simp only [PL.depth] at hl
  have main : ∀ (f : Nat) (D : List Nat) (listed : Array Bool) (a : Act) (w : World) (fuel : Nat), f + r.depth ≤ fuel + 1 → parOk ops A (planOk ops X r) f D listed = true → J D a w → wpAnyX P ops Q S X fuel listed a w := by
   intro f
   induction f with
   | zero => intro D listed a w fuel _ hk; simp [parOk] at hk
   | succ f ihf =>
    intro D listed a w fuel hf hk hJ
    simp only [parOk] at hk
    cases hall : A.all (fun p => D.contains p.1) with
    | true =>
     rw [hall, cond_true] at hk
     exact ih fuel listed a w (by omega) hk (hend D a w (fun p hp => by simpa using List.all_eq_true.1 hall p hp) hJ)
    | false =>
     rw [hall, cond_false] at hk
     cases hr : Region.ready .any ops listed with
     | nil => rw [hr] at hk; simp at hk
     | cons i l =>
      rw [hr] at hk
      simp only [] at hk
      cases fuel with
      | zero =>
       have hi := List.all_eq_true.1 hk i (by simp)
       simp only [Bool.and_eq_true] at hi
       have : f = 0 := by omega
       subst this
       simp [parOk] at hi
      | succ fuel =>
       refine wpAnyX_all hr (by simp) (fun j hj => ?_)
       have hi := List.all_eq_true.1 hk j hj
       simp only [Bool.and_eq_true, Bool.not_eq_true', List.any_eq_true] at hi
       obtain ⟨⟨hD, ⟨j', ds⟩, hm, hb, hds⟩, hrec⟩ := hi
       have := Nat.eq_of_beq_eq_true hb
       dsimp only at this
       subst this
       exact wpOp_mono (fun a' w' h' => ⟨fun _ => h'.1, ihf _ _ _ _ fuel (by omega) hrec h'.2⟩)
        (hstep D _ ds a w hm (fun d hd => by simpa using List.all_eq_true.1 hds d hd) (by simpa using hD) hJ)
  exact main (A.length + 1) [] listed a w fuel (by omega) hp h0
theorem wp_region_plan {P : Program} {id : Nat} {ops : Array Oper} {Q : Exit → Act → World → Prop} {S : World → Prop} {a : Act} {w : World} (hm : P.follows .mixedOrders = true) (pl : PL)
  (hB : planB ops pl = true) (hQ : ∀ c a w, ¬ Q (.panic c) a w) (hL : ¬ LetsOut Q) (h : wpPlan P ops Q S pl a w.drew) : cw (Code.region id ops true) P Q a w := by
 simp only [planB, Bool.and_eq_true] at hB
 obtain ⟨⟨h1, h2⟩, h3⟩ := hB
 have hA := wpAny_of_X _ _ _ _ (wpAnyX_plan h1 hQ pl ops.size _ a _ (Nat.le_of_ble_eq_true h2) h3 h)
 intro ro hn
 cases ro with
 | none => exact wpIn_wide.2 (wp_region_any hm hA)
 | some q => exact region_any_in hm (hn rfl) hL hA
def era (s : Slots) : Option Tmp → Slots
 | none => s
 | some d => s.filter fun p => !Nat.beq p.1 d
theorem get_filter_ne {d i : Nat} : ∀ {s : Slots} {x : T}, get (s.filter fun p => !Nat.beq p.1 d) i = some x → i ≠ d ∧ get s i = some x
 | [], x, h => by simp [get] at h
 | (k, y) :: l, x, h => by
  cases hk : Nat.beq k d with
  | true =>
   simp only [List.filter, hk, Bool.not_true] at h
   obtain ⟨h1, h2⟩ := get_filter_ne h
   have : k = d := Nat.eq_of_beq_eq_true hk
   refine ⟨h1, ?_⟩
   have hki : Nat.beq k i = false := by
    cases hb : Nat.beq k i with
    | false => rfl
    | true => exact absurd (by rw [← this, Nat.eq_of_beq_eq_true hb]) h1
   simp [get, hki, h2]
  | false =>
   simp only [List.filter, hk, Bool.not_false, get] at h
   cases hb : Nat.beq k i with
   | true =>
    simp only [hb, cond_true] at h
    have hki := Nat.eq_of_beq_eq_true hb
    refine ⟨fun he => ?_, by simp [get, hb, h]⟩
    rw [← he, ← hki] at hk
    simp at hk
   | false =>
    simp only [hb, cond_false] at h
    obtain ⟨h1, h2⟩ := get_filter_ne h
    exact ⟨h1, by simp [get, hb, h2]⟩
theorem SR.era {s : Slots} {H : GH} {a : Act} (r : SR n s H a) (dst : Option Tmp) (v : Value) : SR n (era s dst) H (a.put dst v) := by
 cases dst with
 | none => exact r
 | some d =>
  refine ⟨by simp [Act.put, r.size], fun i x h => ?_⟩
  obtain ⟨h1, h2⟩ := get_filter_ne h
  have he : (a.tmps.setIfInBounds d v).getD i undef = a.tmps.getD i undef := by
   simp [Array.getD_eq_getD_getElem?, Array.getElem?_setIfInBounds_ne (Ne.symm h1)]
  simp only [Act.put]
  rw [he]; exact r.slots i x h2
def free (s : Slots) : Option Tmp → Bool
 | none => true
 | some d => s.all fun p => !Nat.beq p.1 d
theorem get_all_ne {d i : Nat} : ∀ {s : Slots} {x : T}, (s.all fun p => !Nat.beq p.1 d) = true → get s i = some x → i ≠ d
 | [], x, _, h => by simp [get] at h
 | (k, y) :: l, x, ha, h => by
  simp only [List.all_cons, Bool.and_eq_true, Bool.not_eq_true'] at ha
  simp only [get] at h
  cases hb : Nat.beq k i with
  | true =>
   have hki := Nat.eq_of_beq_eq_true hb
   rintro rfl
   rw [hb] at ha; simp at ha
  | false =>
   simp only [hb, cond_false] at h
   exact get_all_ne ha.2 h
theorem SR.free {s : Slots} {H : GH} {a : Act} (r : SR n s H a) (dst : Option Tmp) (v : Value) (hf : free s dst = true) : SR n s H (a.put dst v) := by
 cases dst with
 | none => exact r
 | some d =>
  refine ⟨by simp [Act.put, r.size], fun i x h => ?_⟩
  have h1 := get_all_ne hf h
  have he : (a.tmps.setIfInBounds d v).getD i undef = a.tmps.getD i undef := by
   simp [Array.getD_eq_getD_getElem?, Array.getElem?_setIfInBounds_ne (Ne.symm h1)]
  simp only [Act.put]
  rw [he]; exact r.slots i x h
def putS (s : Slots) (dst : Option Tmp) (x : T) : Slots :=
 match dst with
 | none => s
 | some d => (d, x) :: s
theorem SR.put {s : Slots} {H : GH} {a : Act} (r : SR n s H a) {dst : Option Tmp} {v : Value} {x : T} (hv : VR H v x) (hd : ∀ d, dst = some d → d < n) : SR n (putS s dst x) H (a.put dst v) := by
 cases dst with
 | none => exact r
 | some d =>
  refine ⟨by simp [Act.put, r.size], fun i y h => ?_⟩
  simp only [putS, get] at h
  simp only [Act.put]
  cases hb : Nat.beq d i with
  | true =>
   have := Nat.eq_of_beq_eq_true hb
   subst this
   simp only [hb, cond_true, Option.some.injEq] at h
   subst h
   have : d < a.tmps.size := by rw [r.size]; exact hd d rfl
   simpa [Array.getD, this] using hv
  | false =>
   simp only [hb, cond_false] at h
   have hne : d ≠ i := fun h => by rw [h] at hb; simp at hb
   have he : (a.tmps.setIfInBounds d v).getD i undef = a.tmps.getD i undef := by
    simp [Array.getD_eq_getD_getElem?, Array.getElem?_setIfInBounds_ne hne]
   rw [he]; exact r.slots i y h
def AP (E : Env) (n : Nat) (C : Ctx) (ops : Array Oper) (prot : List Nat) (pobjs : List Ob) (pl : PL) (so : Slots) (σ : St) (R : St → Prop) : Prop :=
 ∀ Hs ws H a w, SR n so Hs a → WR pobjs Hs ws → Agree Hs pobjs ws w → (∀ b o, Hs b = some o → H b = some o) →
  (∀ p, p ∈ pobjs → ∃ i, prot.contains i = true ∧ σ.objs[i]? = some p) → Gam n C σ H a w →
  wpPlan E.P ops (fun e a' w' => e = .normal ∧ ∃ σ' H', R σ' ∧ Gam n C σ' H' a' w') (Agree Hs pobjs ws) pl a w
theorem AP.nil {ops : Array Oper} {prot : List Nat} {pobjs : List Ob} {so : Slots} {R : St → Prop} (h : R σ) : AP E n C ops prot pobjs .nil so σ R :=
 fun _ _ H _ _ _ _ _ _ _ gm => ⟨rfl, σ, H, h, gm⟩
theorem AP.old {ops : Array Oper} {prot : List Nat} {pobjs : List Ob} {so : Slots} {R : St → Prop} {i : Nat} {r : PL} {o : Oper} {x : T} (ho : ops[i]? = some o)
  (hy : Yd E.P n so pobjs o x) (hg : o.guard = none) (hd : ∀ d, o.dst = some d → d < n) (k : AP E n C ops prot pobjs r (putS so o.dst x) (σ.put o.dst x) R) :
  AP E n C ops prot pobjs (.still i r) so σ R := by
 intro Hs ws H a w sr wr ag hH hp gm
 obtain ⟨v, hv, hrun⟩ := hy Hs a ws sr wr
 refine ⟨o, v, ho, .inl ⟨by simp [Region.wanted, hg], hrun⟩, ag, ?_⟩
 exact k Hs ws H _ w (sr.put hv hd) wr ag hH (by cases h : o.dst <;> simpa [St.put, h] using hp) (gm.put (hv.mono hH) hd)
theorem AP.new {ops : Array Oper} {prot : List Nat} {pobjs : List Ob} {so : Slots} {R : St → Prop} {i : Nat} {r : PL} {o : Oper} {x : T} (ho : ops[i]? = some o)
  (hy : Yp E.P n σ.slots o x) (hg : o.guard = none) (hd : ∀ d, o.dst = some d → d < n) (k : AP E n C ops prot pobjs r so (σ.put o.dst x) R) (hf : free so o.dst = true := by rfl) :
  AP E n C ops prot pobjs (.still i r) so σ R := by
 intro Hs ws H a w sr wr ag hH hp gm
 obtain ⟨v, hv, hrun⟩ := hy H a gm.sr
 refine ⟨o, v, ho, .inl ⟨by simp [Region.wanted, hg], fun w' _ => hrun w'⟩, ag, ?_⟩
 exact k Hs ws H _ w (sr.free _ _ hf) wr ag hH (by cases h : o.dst <;> simpa [St.put, h] using hp) (gm.put hv hd)
theorem AP.act {ops : Array Oper} {prot : List Nat} {pobjs : List Ob} {so : Slots} {R : St → Prop} {i : Nat} {r : PL} {o : Oper} (md : List Nat) (ho : ops[i]? = some o)
  (hg : o.guard = none) (hm : (prot.all fun i => !md.contains i) = true) (h : AX E n C md o σ (fun σ' => AP E n C ops prot pobjs r so σ' R)) (hf : free so o.dst = true := by rfl) :
  AP E n C ops prot pobjs (.act i r) so σ R := by
 intro Hs ws H a w sr wr ag hH hp gm
 have hmd : ∀ i, prot.contains i = true → md.contains i = false := fun i hi => by
  have := (List.all_eq_true.1 hm) i (by simpa using hi)
  simpa using this
 simp only [wpPlan, wpOp, ho]
 rw [if_pos (by simp [Region.wanted, hg])]
 refine .inl (Oper.wp_monoQ ?_ (fun _ _ _ h => h.elim) (h H a w gm))
 rintro a' w' ⟨σ', H', v, hr, gm', ha', hHH, hfr⟩
 have ag' : Agree Hs pobjs ws w' := by
  refine ⟨fun b o hb => gm'.held _ _ (hHH _ _ (hH _ _ hb)), fun p hpp b hb => ?_⟩
  obtain ⟨i, hi, hoi⟩ := hp p hpp
  exact ((hfr i p hoi (hmd i hi)).2 b hb).trans (ag.2 p hpp b hb)
 refine ⟨ag', hr Hs ws H' a' w' (by rw [ha']; exact sr.free _ _ hf) wr ag' (fun b o hb => hHH _ _ (hH _ _ hb)) (fun p hpp => ?_) gm'⟩
 obtain ⟨i, hi, hoi⟩ := hp p hpp
 exact ⟨i, hi, (hfr i p hoi (hmd i hi)).1⟩
theorem AP.drop {ops : Array Oper} {prot : List Nat} {pobjs : List Ob} {so : Slots} {R : St → Prop} {i : Nat} {r : PL} {o : Oper} (md : List Nat) (hr : r.actsOnly = true) (ho : ops[i]? = some o)
  (hg : o.guard = none) (h : AX E n C md o σ (fun σ' => AP E n C ops [] [] r [] σ' R)) :
  AP E n C ops prot pobjs (.drop i r) so σ R := by
 intro Hs ws H a w sr wr ag hH hp gm
 simp only [wpPlan, wpOp, ho]
 rw [if_pos (by simp [Region.wanted, hg])]
 refine .inl (Oper.wp_monoQ ?_ (fun _ _ _ h => h.elim) (h H a w gm))
 rintro a' w' ⟨σ', H', v, hr', gm', ha', hHH, hfr⟩
 exact wpPlan_acts r _ a' w' hr (hr' H' w' H' a' w' ⟨gm'.size, fun i x h => by simp [get] at h⟩ ⟨by simp, gm'.held⟩ ⟨gm'.held, by simp⟩ (fun _ _ h => h) (by simp) gm')
theorem AP.skip {ops : Array Oper} {prot : List Nat} {pobjs : List Ob} {so : Slots} {R : St → Prop} {i : Nat} {r : PL} {o : Oper} {j : Nat} {want b : Bool} {t : Tmp} (ho : ops[i]? = some o)
  (hg : o.guard = some (j, want)) (hj : (ops[j]?).bind (·.dst) = some t) (hs : get σ.slots t = some (.v (.bool b))) (hb : b = !want) (hd : ∀ d, o.dst = some d → d < n)
  (k : AP E n C ops prot pobjs r so (σ.put o.dst (.v undef)) R) (hf : free so o.dst = true := by rfl) : AP E n C ops prot pobjs (.still i r) so σ R := by
 intro Hs ws H a w sr wr ag hH hp gm
 have hy := yielded_of gm.sr hj hs
 have hw : Region.wanted o (yielded ops a.tmps) = false := by subst hb; cases want <;> simp [Region.wanted, hg, hy]
 have hk := k Hs ws H _ w (sr.free o.dst undef hf) wr ag hH (by cases h : o.dst <;> simpa [St.put, h] using hp) (gm.put (.v undef) hd)
 exact ⟨o, undef, ho, .inr ⟨hw, rfl⟩, ag, hk⟩
theorem AP.skipA {ops : Array Oper} {prot : List Nat} {pobjs : List Ob} {so : Slots} {R : St → Prop} {i : Nat} {r : PL} {o : Oper} {j : Nat} {want b : Bool} {t : Tmp} (ho : ops[i]? = some o)
  (hg : o.guard = some (j, want)) (hj : (ops[j]?).bind (·.dst) = some t) (hs : get σ.slots t = some (.v (.bool b))) (hb : b = !want) (hd : ∀ d, o.dst = some d → d < n)
  (k : AP E n C ops prot pobjs r so (σ.put o.dst (.v undef)) R) (hf : free so o.dst = true := by rfl) : AP E n C ops prot pobjs (.act i r) so σ R := by
 intro Hs ws H a w sr wr ag hH hp gm
 have hy := yielded_of gm.sr hj hs
 have hw : Region.wanted o (yielded ops a.tmps) = false := by subst hb; cases want <;> simp [Region.wanted, hg, hy]
 have hk := k Hs ws H _ w (sr.free o.dst undef hf) wr ag hH (by cases h : o.dst <;> simpa [St.put, h] using hp) (gm.put (.v undef) hd)
 simp only [wpPlan, wpOp, ho]
 rw [if_neg (by simp [hw])]
 exact ⟨ag, hk⟩
theorem AP.two {ops : Array Oper} {prot : List Nat} {pobjs : List Ob} {so : Slots} {R : St → Prop} {i j : Nat} {r1 r2 : PL} (h1 : AP E n C ops prot pobjs (.act i r1) so σ R) (h2 : AP E n C ops prot pobjs (.act j r2) so σ R) :
  AP E n C ops prot pobjs (.two i j r1 r2) so σ R :=
 fun Hs ws H a w sr wr ag hH hp gm => ⟨h1 Hs ws H a w sr wr ag hH hp gm, h2 Hs ws H a w sr wr ag hH hp gm⟩
theorem AP.three {ops : Array Oper} {prot : List Nat} {pobjs : List Ob} {so : Slots} {R : St → Prop} {i j k : Nat} {r1 r2 r3 : PL} (h1 : AP E n C ops prot pobjs (.act i r1) so σ R) (h2 : AP E n C ops prot pobjs (.act j r2) so σ R) (h3 : AP E n C ops prot pobjs (.act k r3) so σ R) :
  AP E n C ops prot pobjs (.three i j k r1 r2 r3) so σ R :=
 fun Hs ws H a w sr wr ag hH hp gm => ⟨h1 Hs ws H a w sr wr ag hH hp gm, h2 Hs ws H a w sr wr ag hH hp gm, h3 Hs ws H a w sr wr ag hH hp gm⟩
theorem AP.four {ops : Array Oper} {prot : List Nat} {pobjs : List Ob} {so : Slots} {R : St → Prop} {i j k l : Nat} {r1 r2 r3 r4 : PL} (h1 : AP E n C ops prot pobjs (.act i r1) so σ R) (h2 : AP E n C ops prot pobjs (.act j r2) so σ R) (h3 : AP E n C ops prot pobjs (.act k r3) so σ R) (h4 : AP E n C ops prot pobjs (.act l r4) so σ R) :
  AP E n C ops prot pobjs (.four i j k l r1 r2 r3 r4) so σ R :=
 fun Hs ws H a w sr wr ag hH hp gm => ⟨h1 Hs ws H a w sr wr ag hH hp gm, h2 Hs ws H a w sr wr ag hH hp gm, h3 Hs ws H a w sr wr ag hH hp gm, h4 Hs ws H a w sr wr ag hH hp gm⟩
theorem AP.five {ops : Array Oper} {prot : List Nat} {pobjs : List Ob} {so : Slots} {R : St → Prop} {i j k l m : Nat} {r1 r2 r3 r4 r5 : PL} (h1 : AP E n C ops prot pobjs (.act i r1) so σ R) (h2 : AP E n C ops prot pobjs (.act j r2) so σ R) (h3 : AP E n C ops prot pobjs (.act k r3) so σ R) (h4 : AP E n C ops prot pobjs (.act l r4) so σ R) (h5 : AP E n C ops prot pobjs (.act m r5) so σ R) :
  AP E n C ops prot pobjs (.five i j k l m r1 r2 r3 r4 r5) so σ R :=
 fun Hs ws H a w sr wr ag hH hp gm => ⟨h1 Hs ws H a w sr wr ag hH hp gm, h2 Hs ws H a w sr wr ag hH hp gm, h3 Hs ws H a w sr wr ag hH hp gm, h4 Hs ws H a w sr wr ag hH hp gm, h5 Hs ws H a w sr wr ag hH hp gm⟩
theorem AP.weaken {ops : Array Oper} {pl : PL} {so : Slots} {R : St → Prop} {s : Slots} {ob : List Ob} (hs : Sub s σ.slots) (ho : ob.Sublist σ.objs) (h : AP E n C ops [] [] pl so ⟨s, ob⟩ R) :
  AP E n C ops [] [] pl so σ R :=
 fun Hs ws H a w sr wr ag hH _ gm => h Hs ws H a w sr wr ag hH (by simp) (gm.weaken hs ho)
theorem AP.oldG {ops : Array Oper} {prot : List Nat} {pobjs : List Ob} {so : Slots} {R : St → Prop} {i : Nat} {r : PL} {op : Op} {x : T} {j : Nat} {want b : Bool} {t : Tmp}
  (ho : ops[i]? = some ⟨dst, op, ty, pos, aft, some (j, want)⟩)
  (hj : (ops[j]?).bind (·.dst) = some t) (hs : get σ.slots t = some (.v (.bool b))) (hb : b = want)
  (hy : Yd E.P n so pobjs ⟨dst, op, ty, pos, aft, none⟩ x) (hd : ∀ d, dst = some d → d < n) (k : AP E n C ops prot pobjs r (putS so dst x) (σ.put dst x) R) :
  AP E n C ops prot pobjs (.still i r) so σ R := by
 intro Hs ws H a w sr wr ag hH hp gm
 obtain ⟨v, hv, hrun⟩ := hy Hs a ws sr wr
 have hyi := yielded_of gm.sr hj hs
 refine ⟨_, v, ho, .inl ⟨by simp [Region.wanted, hyi, hb], hrun⟩, ag, ?_⟩
 exact k Hs ws H _ w (sr.put hv hd) wr ag hH (by cases dst <;> simpa [St.put] using hp) (gm.put (hv.mono hH) hd)
theorem AP.newG {ops : Array Oper} {prot : List Nat} {pobjs : List Ob} {so : Slots} {R : St → Prop} {i : Nat} {r : PL} {op : Op} {x : T} {j : Nat} {want b : Bool} {t : Tmp}
  (ho : ops[i]? = some ⟨dst, op, ty, pos, aft, some (j, want)⟩)
  (hj : (ops[j]?).bind (·.dst) = some t) (hs : get σ.slots t = some (.v (.bool b))) (hb : b = want)
  (hy : Yp E.P n σ.slots ⟨dst, op, ty, pos, aft, none⟩ x) (hd : ∀ d, dst = some d → d < n) (k : AP E n C ops prot pobjs r so (σ.put dst x) R) (hf : free so dst = true := by rfl) :
  AP E n C ops prot pobjs (.still i r) so σ R := by
 intro Hs ws H a w sr wr ag hH hp gm
 obtain ⟨v, hv, hrun⟩ := hy H a gm.sr
 have hyi := yielded_of gm.sr hj hs
 refine ⟨_, v, ho, .inl ⟨by simp [Region.wanted, hyi, hb], fun w' _ => hrun w'⟩, ag, ?_⟩
 exact k Hs ws H _ w (sr.free _ _ hf) wr ag hH (by cases dst <;> simpa [St.put] using hp) (gm.put hv hd)
theorem AP.actG {ops : Array Oper} {prot : List Nat} {pobjs : List Ob} {so : Slots} {R : St → Prop} {i : Nat} {r : PL} {op : Op} {j : Nat} {want b : Bool} {t : Tmp} (md : List Nat)
  (ho : ops[i]? = some ⟨dst, op, ty, pos, aft, some (j, want)⟩)
  (hj : (ops[j]?).bind (·.dst) = some t) (hs : get σ.slots t = some (.v (.bool b))) (hb : b = want) (hm : (prot.all fun i => !md.contains i) = true)
  (h : AX E n C md ⟨dst, op, ty, pos, aft, none⟩ σ (fun σ' => AP E n C ops prot pobjs r so σ' R)) (hf : free so dst = true := by rfl) :
  AP E n C ops prot pobjs (.act i r) so σ R := by
 intro Hs ws H a w sr wr ag hH hp gm
 have hmd : ∀ i, prot.contains i = true → md.contains i = false := fun i hi => by
  have := (List.all_eq_true.1 hm) i (by simpa using hi)
  simpa using this
 have hyi := yielded_of gm.sr hj hs
 simp only [wpPlan, wpOp, ho]
 rw [if_pos (by simp [Region.wanted, hyi, hb])]
 have e : ∀ K Q, Oper.wp E.P ⟨dst, op, ty, pos, aft, some (j, want)⟩ a w K Q = Oper.wp E.P ⟨dst, op, ty, pos, aft, none⟩ a w K Q := fun _ _ => rfl
 rw [e]
 refine .inl (Oper.wp_monoQ ?_ (fun _ _ _ h => h.elim) (h H a w gm))
 rintro a' w' ⟨σ', H', v, hr, gm', ha', hHH, hfr⟩
 have ag' : Agree Hs pobjs ws w' := by
  refine ⟨fun b o hb => gm'.held _ _ (hHH _ _ (hH _ _ hb)), fun p hpp b hb => ?_⟩
  obtain ⟨i, hi, hoi⟩ := hp p hpp
  exact ((hfr i p hoi (hmd i hi)).2 b hb).trans (ag.2 p hpp b hb)
 refine ⟨ag', hr Hs ws H' a' w' (by rw [ha']; exact sr.free _ _ hf) wr ag' (fun b o hb => hHH _ _ (hH _ _ hb)) (fun p hpp => ?_) gm'⟩
 obtain ⟨i, hi, hoi⟩ := hp p hpp
 exact ⟨i, hi, (hfr i p hoi (hmd i hi)).1⟩
theorem Gam.drew {H : GH} {a : Act} {w : World} (gm : Gam n C σ H a w) : Gam n C σ H a w.drew :=
 { gm with
  objs := fun p hp => OR.mono (fun _ _ h => h) (fun _ _ => rfl) (gm.objs p hp)
  held := gm.held, heap := gm.heap, frame := gm.frame }
theorem AW.regionD {id : Nat} {ops : Array Oper} {Q : Exit → St → Prop} (pl : PL) (prot : List Nat) (pobjs : List Ob) (hB : planB ops pl = true)
  (hp : prot.map (fun i => σ.objs[i]?) = pobjs.map some)
  (h : AP E n C ops prot pobjs pl σ.slots σ (fun σ' => Q .normal σ')) : AW E n C (.region id ops true) σ Q := by
 intro H a w gm
 have hpp : ∀ p, p ∈ pobjs → ∃ i, prot.contains i = true ∧ σ.objs[i]? = some p := by
  intro p hpm
  have : some p ∈ prot.map (fun i => σ.objs[i]?) := by rw [hp]; exact List.mem_map_of_mem hpm
  obtain ⟨i, hi, he⟩ := List.mem_map.1 this
  exact ⟨i, by simpa using hi, he⟩
 refine cw_mono (wp_region_plan (S := Agree H pobjs w.drew) E.mixed pl hB (Q := fun e a' w' => e = .normal ∧ ∃ σ' H', Q .normal σ' ∧ Gam n C σ' H' a' w') ?_ ?_ ?_) ?_
 ·rintro c a w ⟨h, _⟩; cases h
 ·rintro ⟨a, w, h, _⟩; cases h
 ·have gd := gm.drew
  exact h H w.drew H a w.drew gd.sr ⟨fun p hpm => by obtain ⟨i, _, he⟩ := hpp p hpm; exact gd.objs p (List.mem_of_getElem? he), gd.held⟩ ⟨gd.held, fun _ _ _ _ => rfl⟩ (fun _ _ h => h) hpp gd
 ·rintro e a' w' ⟨rfl, σ', H', q, g'⟩
  exact ⟨σ', H', q, g'⟩
end
def cellsT : T → Option (List T)
 | .agg cs => some cs
 | .v x => bif x.oneCell' then some [.v x] else none
 | .list sz es => some [.list sz es]
 | .eptr l => some [.eptr l]
 | .tup _ => none
 | .fn f fs cs => some [.fn f fs cs]
def AR (H : GH) (arr : Array Value) (l : List T) : Prop := arr.size = l.length ∧ ∀ (j : Nat) (x : T), l[j]? = some x → CR H (arr.getD j undef) x
theorem cells_one {v : Value} (h : v.oneCell' = true) : v.cells = #[v] := by cases v <;> simp_all [Value.cells, Value.oneCell']
theorem AR.one {H : GH} {v : Value} {x : T} (h1 : v.oneCell' = true) (h : VR H v x) : AR H #[v] [x] := by
 refine ⟨rfl, fun j y hy => ?_⟩
 cases j with
 | zero => simp at hy; subst hy; exact ⟨h1, h⟩
 | succ j => simp at hy
theorem cellsT_spec {H : GH} {v : Value} {y : T} {cs : List T} (h : VR H v y) (hc : cellsT y = some cs) : AR H v.cells cs := by
 cases y with
 | v x =>
  have := h.v_eq
  subst this
  simp only [cellsT] at hc
  cases ho : v.oneCell' with
  | false => simp [ho] at hc
  | true =>
   simp only [ho, cond_true, Option.some.injEq] at hc
   subst hc
   rw [cells_one ho]
   exact .one ho h
 | list sz es =>
  simp only [cellsT, Option.some.injEq] at hc
  subst hc
  obtain ⟨a, cap, rfl⟩ := h.list_slice
  exact .one rfl h
 | agg l =>
  simp only [cellsT, Option.some.injEq] at hc
  subst hc
  cases h with
  | agg vs cs hl h1 hv => exact ⟨hl, fun j x hx => ⟨h1 j x hx, hv j x hx⟩⟩
 | tup l => simp [cellsT] at hc
 | fn f fs cs =>
  simp only [cellsT, Option.some.injEq] at hc
  subst hc
  have h1 : v.oneCell' = true := by cases h; rfl
  rw [cells_one h1]
  exact .one h1 h
 | eptr l =>
  simp only [cellsT, Option.some.injEq] at hc
  subst hc
  obtain ⟨b, o, rfl⟩ := h.eptr_ptr
  exact .one rfl h
theorem AR.all1 {H : GH} {arr : Array Value} {l : List T} (h : AR H arr l) : ∀ v, v ∈ arr.toList → v.oneCell' = true := by
 intro v hv
 obtain ⟨j, hj, he⟩ := List.getElem_of_mem hv
 have hjs : j < arr.size := by simpa using hj
 have hjl : j < l.length := by rw [← h.1]; exact hjs
 have := (h.2 j l[j] (List.getElem?_eq_getElem hjl)).1
 have hg : arr.getD j undef = v := by
  rw [Array.getD_eq_getD_getElem?, Array.getElem?_eq_getElem hjs]
  simpa using he
 rwa [hg] at this
def setC : List T → Nat → List T → List T
 | [], _, _ => []
 | e, 0, [] => e
 | _ :: e, 0, c :: cs => c :: setC e 0 cs
 | x :: e, j + 1, cs => x :: setC e j cs
theorem setC_length : ∀ (l : List T) (j : Nat) (cs : List T), (setC l j cs).length = l.length
 | [], _, _ => rfl
 | _ :: _, 0, [] => rfl
 | _ :: e, 0, _ :: cs => by simp [setC, setC_length e 0 cs]
 | _ :: e, j + 1, cs => by simp [setC, setC_length e j cs]
theorem setC_get : ∀ (l : List T) (j : Nat) (cs : List T) (i : Nat) (x : T), (setC l j cs)[i]? = some x →
  (j ≤ i ∧ i < j + cs.length ∧ cs[i - j]? = some x) ∨ ((i < j ∨ j + cs.length ≤ i) ∧ l[i]? = some x)
 | [], _, _, i, x, h => by simp [setC] at h
 | y :: e, 0, [], i, x, h => .inr ⟨by simp, h⟩
 | y :: e, 0, c :: cs, i, x, h => by
  simp only [setC] at h
  cases i with
  | zero => left; simp at h; exact ⟨by omega, by simp, by simp [h]⟩
  | succ i =>
   simp only [List.getElem?_cons_succ] at h
   rcases setC_get e 0 cs i x h with ⟨h1, h2, h3⟩ | ⟨h1, h2⟩
   ·left; exact ⟨by omega, by simp; omega, by simpa using h3⟩
   ·right; refine ⟨by simp; omega, by simpa using h2⟩
 | y :: e, j + 1, cs, i, x, h => by
  simp only [setC] at h
  cases i with
  | zero => right; simp at h; exact ⟨by omega, by simp [h]⟩
  | succ i =>
   simp only [List.getElem?_cons_succ] at h
   rcases setC_get e j cs i x h with ⟨h1, h2, h3⟩ | ⟨h1, h2⟩
   ·left; exact ⟨by omega, by omega, by rw [show i + 1 - (j + 1) = i - j by omega]; exact h3⟩
   ·right; exact ⟨by omega, by simpa using h2⟩
section
variable {E : Env} {n : Nat} {C : Ctx} {σ : St} {dst : Option Tmp} {ty : TypeId} {pos : String} {aft : Array Edge} {g : Option (Nat × Bool)}
theorem UsR.lt {H : GH} {w : World} {v : Value} {ty sz : Nat} {es : List (List T)} (h : UsR H w v ty sz es) : ∀ b, b ∈ bls v → b < w.heap.size := by
 intro b hb
 rcases h with ⟨rfl, _⟩ | ⟨b', c, cap, rfl, _, _, cs, a1, _⟩
 ·simp [bls] at hb
 ·simp [bls] at hb; subst hb; exact (Array.getElem?_eq_some_iff.1 a1).1
theorem ussIn_ex : ∀ {vs : List Value} {L : List (Option (List (List T)))} {b : Nat}, b ∈ ussIn vs L → ∃ (i : Nat) (v : Value) (es : List (List T)), vs[i]? = some v ∧ L[i]? = some (some es) ∧ b ∈ bls v
 | v :: vs, some es :: L, b, h => by
  simp only [ussIn, List.mem_append] at h
  rcases h with h | h
  ·exact ⟨0, v, es, rfl, rfl, h⟩
  ·obtain ⟨i, v, es, h1, h2, h3⟩ := ussIn_ex h
   exact ⟨i + 1, v, es, by simpa using h1, by simpa using h2, h3⟩
 | v :: vs, none :: L, b, h => by
  simp only [ussIn] at h
  obtain ⟨i, v, es, h1, h2, h3⟩ := ussIn_ex h
  exact ⟨i + 1, v, es, by simpa using h1, by simpa using h2, h3⟩
 | [], _, b, h => by simp [ussIn] at h
 | _ :: _, [], b, h => by simp [ussIn] at h
theorem OR.lt {H : GH} {w : World} {o : Ob} (h : OR H w o) : ∀ b, b ∈ o.fp → b < w.heap.size := by
 intro b hb
 cases o with
 | arr b' ty sz cap es => simp only [Ob.fp, List.mem_singleton] at hb; subst hb; obtain ⟨cs, a1, _⟩ := h; exact (Array.getElem?_eq_some_iff.1 a1).1
 | us v ty sz es => exact UsR.lt h b hb
 | uss v ty tyi szi vs L =>
  obtain ⟨_, h1, h2⟩ := h
  simp only [Ob.fp, List.mem_append] at hb
  rcases hb with hb | hb
  ·exact h1.lt b hb
  ·obtain ⟨i, x, es, q1, q2, q3⟩ := ussIn_ex hb
   exact (h2 i x es q1 q2).lt b q3
 | raw b' o => simp only [Ob.fp, List.mem_singleton] at hb; subst hb; exact (Array.getElem?_eq_some_iff.1 h).1
theorem at_split {α : Type} : ∀ {l : List α} {k : Nat} {x : α}, l[k]? = some x → ∃ l1 l2, l = l1 ++ x :: l2 ∧ l1.length = k ∧ (∀ y, l.set k y = l1 ++ y :: l2) ∧ l.eraseIdx k = l1 ++ l2
 | [], k, x, h => by simp at h
 | a :: l, 0, x, h => by simp at h; subst h; exact ⟨[], l, rfl, rfl, fun _ => rfl, rfl⟩
 | a :: l, k + 1, x, h => by
  obtain ⟨l1, l2, h1, h2, h3, h4⟩ := at_split (l := l) (k := k) (by simpa using h)
  exact ⟨a :: l1, l2, by rw [h1]; rfl, by simp [h2], fun y => by simp [h3 y], by simp [h4]⟩
theorem at_ne {α : Type} {f : α → List Nat} {l : List α} (hn : (l.flatMap f).Nodup) {k i : Nat} {p q : α} (hk : l[k]? = some p) (hi : l[i]? = some q) (hne : k ≠ i) : ∀ b, b ∈ f p → b ∉ f q := by
 obtain ⟨l1, l2, rfl, h2, _, _⟩ := at_split hk
 intro b hb hq
 rw [List.flatMap_append, List.flatMap_cons, List.nodup_append, List.nodup_append] at hn
 obtain ⟨_, ⟨_, _, n2⟩, n3⟩ := hn
 rcases Nat.lt_or_ge i k with h | h
 ·rw [List.getElem?_append_left (by omega)] at hi
  exact n3 b (List.mem_flatMap.2 ⟨q, List.mem_of_getElem? hi, hq⟩) b (by simp [hb]) rfl
 ·rw [List.getElem?_append_right (by omega), show i - l1.length = (i - k - 1) + 1 by omega, List.getElem?_cons_succ] at hi
  exact n2 b hb b (List.mem_flatMap.2 ⟨q, List.mem_of_getElem? hi, hq⟩) rfl
theorem nodup_at {α : Type} {f : α → List Nat} {l : List α} (hn : (l.flatMap f).Nodup) {k : Nat} {p q : α} (hk : l[k]? = some p) (hq : (f q).Nodup) (hd : ∀ b, b ∈ f q → b ∈ f p ∨ ∀ x, x ∈ l → b ∉ f x) : ((l.set k q).flatMap f).Nodup := by
 obtain ⟨l1, l2, rfl, h2, h3, _⟩ := at_split hk
 rw [h3]
 rw [List.flatMap_append, List.flatMap_cons, List.nodup_append, List.nodup_append] at hn ⊢
 obtain ⟨n0, ⟨n1, n1', n2⟩, n3⟩ := hn
 refine ⟨n0, ⟨hq, n1', ?_⟩, ?_⟩
 ·intro b hb c hc hbc
  subst hbc
  rcases hd b hb with h | h
  ·exact n2 b h b hc rfl
  ·obtain ⟨x, hx, hbx⟩ := List.mem_flatMap.1 hc
   exact h x (by simp [hx]) hbx
 ·intro b hb c hc hbc
  subst hbc
  rcases List.mem_append.1 hc with hc | hc
  ·rcases hd b hc with h | h
   ·exact n3 b hb b (by simp [h]) rfl
   ·obtain ⟨x, hx, hbx⟩ := List.mem_flatMap.1 hb
    exact h x (by simp [hx]) hbx
  ·exact n3 b hb b (by rw [List.mem_append]; exact .inr hc) rfl
theorem Gam.H_lt {H : GH} {a : Act} {w : World} (gm : Gam n C σ H a w) {b : Nat} (hb : w.heap.size ≤ b) : H b = none := by
 cases h : H b with
 | none => rfl
 | some o => have := (Array.getElem?_eq_some_iff.1 (gm.held b o h)).1; omega
theorem Gam.world {H : GH} {a : Act} {w w' : World} (gm : Gam n C σ H a w) {objs : List Ob} (row : Nat → Prop) (henv : w'.os = w.os ∧ w'.tape = w.tape ∧ w'.output = w.output) (hsz : w.heap.size ≤ w'.heap.size)
  (hk : ∀ k, k < w.heap.size → ¬ row k → w'.heap[k]? = w.heap[k]?) (hrow : ∀ k, row k → k < w.heap.size → ∃ o, o ∈ σ.objs ∧ k ∈ o.fp)
  (ho : ∀ p, p ∈ objs → (p ∈ σ.objs ∧ ∀ b, b ∈ p.fp → ¬ row b) ∨ (OR H w' p ∧ ∀ b, b ∈ p.fp → w.heap.size ≤ b ∨ ∃ o, o ∈ σ.objs ∧ b ∈ o.fp))
  (hn : (objs.flatMap Ob.fp).Nodup) : Gam n C ⟨σ.slots, objs⟩ H a w' := by
 have hown : ∀ k o, o ∈ σ.objs → k ∈ o.fp → H k = none ∧ (C.w0.heap.size ≤ k ∨ k ∈ C.fp) := fun k o h hk => ⟨gm.free _ h k hk, gm.new _ h k hk⟩
 refine ⟨gm.defers, gm.size, gm.slots, ?_, ?_, ?_, hn, ?_, gm.grow, Nat.le_trans gm.heap hsz, ?_, ⟨henv.1.trans gm.env.1, henv.2.1.trans gm.env.2.1, henv.2.2.trans gm.env.2.2⟩⟩
 ·intro p hp
  rcases ho p hp with ⟨h1, h2⟩ | ⟨h1, _⟩
  ·have := gm.objs p h1
   exact this.mono (fun _ _ h => h) (fun b hb => hk _ (this.lt b hb) (h2 b hb))
  ·exact h1
 ·intro p hp b hb
  rcases ho p hp with ⟨h1, _⟩ | ⟨_, h2⟩
  ·exact gm.free p h1 b hb
  ·rcases h2 b hb with h2 | ⟨o, h2, h3⟩
   ·exact gm.H_lt h2
   ·exact (hown _ _ h2 h3).1
 ·intro p hp b hb
  rcases ho p hp with ⟨h1, _⟩ | ⟨_, h2⟩
  ·exact gm.new p h1 b hb
  ·rcases h2 b hb with h2 | ⟨o, h2, h3⟩
   ·exact .inl (Nat.le_trans gm.heap h2)
   ·exact (hown _ _ h2 h3).2
 ·intro b o hb
  have hbl := (Array.getElem?_eq_some_iff.1 (gm.held b o hb)).1
  have : ¬ row b := fun hr => by
   obtain ⟨o', h, h'⟩ := hrow b hr hbl
   rw [(hown _ _ h h').1] at hb; cases hb
  rw [hk b hbl this]; exact gm.held b o hb
 ·intro b hb hf
  have hbl := Nat.lt_of_lt_of_le hb gm.heap
  have : ¬ row b := fun hr => by
   obtain ⟨o', h, h'⟩ := hrow b hr hbl
   rcases (hown _ _ h h').2 with h2 | h2
   ·omega
   ·exact hf h2
  rw [hk b hbl this]; exact gm.frame b hb hf
theorem Gam.more {H : GH} {a : Act} {w w' : World} (gm : Gam n C σ H a w) {ob : Ob} (henv : w'.os = w.os ∧ w'.tape = w.tape ∧ w'.output = w.output) (hsz : w.heap.size ≤ w'.heap.size)
  (hk : ∀ k, k < w.heap.size → w'.heap[k]? = w.heap[k]?) (h : OR H w' ob) (hf : ∀ b, b ∈ ob.fp → w.heap.size ≤ b) (hnd : ob.fp.Nodup) : Gam n C ⟨σ.slots, σ.objs ++ [ob]⟩ H a w' := by
 refine gm.world (fun _ => False) henv hsz (fun k hkl _ => hk k hkl) (fun _ h => h.elim) ?_ ?_
 ·intro p hp
  rcases List.mem_append.1 hp with h1 | h1
  ·exact .inl ⟨h1, fun _ _ h => h⟩
  ·simp only [List.mem_singleton] at h1; subst h1; exact .inr ⟨h, fun b hb => .inl (hf b hb)⟩
 ·rw [List.flatMap_append, List.nodup_append]
  refine ⟨gm.nodup, by simpa using hnd, ?_⟩
  intro x hx y hy hxy
  subst hxy
  simp only [List.flatMap_cons, List.flatMap_nil, List.append_nil] at hy
  obtain ⟨p, hp, hbx⟩ := List.mem_flatMap.1 hx
  have := (gm.objs p hp).lt x hbx
  have := hf x hy
  omega
theorem Gam.alloc {H : GH} {a : Act} {w : World} (gm : Gam n C σ H a w) {o : Obj} {ob : Ob} (h : OR H (w.alloc o) ob) (hf : ob.fp = [w.heap.size]) : Gam n C ⟨σ.slots, σ.objs ++ [ob]⟩ H a (w.alloc o) :=
 gm.more ⟨rfl, rfl, rfl⟩ (by show w.heap.size ≤ (w.heap.push o).size; simp) (fun k hk => heap_alloc_old w o hk) h (by rw [hf]; simp) (by rw [hf]; simp)
theorem OR.box {H : GH} {w : World} {t : TypeId} {arr : Array Value} {l : List T} {b : Nat} (h : w.heap[b]? = some (.cells arr t (0, 0))) (ha : AR H arr l) : OR H w (.arr b t l.length 1 [l]) := by
 refine ⟨arr, h, by rw [ha.1]; omega, by simp, by simp [maxL], ?_, ?_⟩
 ·intro i e he
  cases i with
  | zero => simp at he; subst he; rfl
  | succ i => simp at he
 ·intro i e he j x hx
  cases i with
  | zero => simp at he; subst he; simpa using ha.2 j x hx
  | succ i => simp at he
theorem AX.value {md : List Nat} {o : Oper} {R : St → Prop}
  (h : ∀ H a w, Gam n C σ H a w → ∃ v w' s' H', (execOp a.eval o).run E.P w = .ok (.value v) w' ∧ R s' ∧ Gam n C s' H' (a.put o.dst v) w' ∧ (∀ b o, H b = some o → H' b = some o) ∧
   ∀ i p, σ.objs[i]? = some p → md.contains i = false → s'.objs[i]? = some p ∧ ∀ b, b ∈ p.fp → w'.heap[b]? = w.heap[b]?) : AX E n C md o σ R := by
 intro H a w gm
 obtain ⟨v, w', s', H', h1, h2, h3, h4, h5⟩ := h H a w gm
 simp only [Oper.wp, h1, Oper.upon]
 exact ⟨s', H', v, h2, h3, rfl, h4, h5⟩
theorem AX.skip {md : List Nat} {o : Oper} {R : St → Prop}
  (h : ∀ H a w, Gam n C σ H a w → ∃ w' s' H', (execOp a.eval o).run E.P w = .ok .skip w' ∧ R s' ∧ Gam n C s' H' (a.put o.dst undef) w' ∧ (∀ b o, H b = some o → H' b = some o) ∧
   ∀ i p, σ.objs[i]? = some p → md.contains i = false → s'.objs[i]? = some p ∧ ∀ b, b ∈ p.fp → w'.heap[b]? = w.heap[b]?) : AX E n C md o σ R := by
 intro H a w gm
 obtain ⟨w', s', H', h1, h2, h3, h4, h5⟩ := h H a w gm
 simp only [Oper.wp, h1, Oper.upon]
 exact ⟨s', H', undef, h2, h3, rfl, h4, h5⟩
theorem append_keeps {objs : List Ob} {x : Ob} {i : Nat} {p : Ob} (h : objs[i]? = some p) : (objs ++ [x])[i]? = some p := by
 rw [List.getElem?_append_left (List.getElem?_eq_some_iff.1 h).1]; exact h
theorem AX.alloc {t : TypeId} {ti : TI} {z : Value} {cs : List T} {R : St → Prop} (ht : E.tab t = some ti) (hz : ti.zero = some z) (hc : z.cells.toList.map T.v = cs) (h1 : z.cells.toList.all (·.oneCell') = true) {m : Nat} (hm : cs.length = m)
  (hd : ∀ d, dst = some d → d < n) (k : ∀ b, R ⟨putS σ.slots dst (.v (.pointer (some ⟨b, 0, none⟩))), σ.objs ++ [(.arr b t m 1 [cs])]⟩) :
  AX E n C [] ⟨dst, .alloc t, ty, pos, aft, g⟩ σ R := by
 refine AX.value fun H a w gm => ?_
 have har : AR H z.cells cs := by
  subst hc
  refine ⟨by simp, fun j x hx => ?_⟩
  simp only [List.getElem?_map, Option.map_eq_some_iff] at hx
  obtain ⟨v, hv, rfl⟩ := hx
  have hv' : z.cells.getD j undef = v := by
   rw [Array.getD_eq_getD_getElem?, ← Array.getElem?_toList, hv]; rfl
  rw [hv']
  exact ⟨List.all_eq_true.1 h1 v (List.mem_of_getElem? hv), .v v⟩
 have hor : OR H (w.alloc (.cells z.cells t)) (.arr w.heap.size t cs.length 1 [cs]) := OR.box (heap_alloc_new w _) har
 rw [hm] at hor
 refine ⟨.pointer (some ⟨w.heap.size, 0, none⟩), w.alloc (.cells z.cells t), _, H, ?_, k w.heap.size, ?_, fun _ _ h => h, ?_⟩
 ·simp [execOp, Instr.alloc, run_zeroValue_ti (E.ok _ _ ht) w hz, newVar, newRow]
 ·have := (gm.alloc hor rfl).put (dst := dst) (.v (.pointer (some ⟨w.heap.size, 0, none⟩))) hd
  cases dst <;> exact this
 ·intro i p hp _
  exact ⟨append_keeps hp, fun b hb => heap_alloc_old w _ ((gm.objs p (List.mem_of_getElem? hp)).lt b hb)⟩
theorem AX.box {t : TypeId} {x : Operand} {y : T} {cs : List T} {R : St → Prop} (hx : evalT σ.slots x = some y) (hc : cellsT y = some cs) {m : Nat} (hm : cs.length = m)
  (hd : ∀ d, dst = some d → d < n) (k : ∀ b, R ⟨putS σ.slots dst (.v (.pointer (some ⟨b, 0, none⟩))), σ.objs ++ [(.arr b t m 1 [cs])]⟩) :
  AX E n C [] ⟨dst, .box t x, ty, pos, aft, g⟩ σ R := by
 refine AX.value fun H a w gm => ?_
 have har := cellsT_spec (gm.sr.eval hx) hc
 have hor : OR H (w.alloc (.cells (a.eval x).cells t)) (.arr w.heap.size t cs.length 1 [cs]) := OR.box (heap_alloc_new w _) har
 rw [hm] at hor
 refine ⟨.pointer (some ⟨w.heap.size, 0, none⟩), w.alloc (.cells (a.eval x).cells t), _, H, ?_, k w.heap.size, ?_, fun _ _ h => h, ?_⟩
 ·simp [execOp, Instr.box, newVar, newRow]
 ·have := (gm.alloc hor rfl).put (dst := dst) (.v (.pointer (some ⟨w.heap.size, 0, none⟩))) hd
  cases dst <;> exact this
 ·intro i p hp _
  exact ⟨append_keeps hp, fun b hb => heap_alloc_old w _ ((gm.objs p (List.mem_of_getElem? hp)).lt b hb)⟩
theorem set_keeps {objs : List Ob} {k i : Nat} {x p : Ob} (h : objs[i]? = some p) (hi : k ≠ i) : (objs.set k x)[i]? = some p := by
 rw [List.getElem?_set_ne hi]; exact h
theorem Gam.set {H : GH} {a : Act} {w w' : World} (gm : Gam n C σ H a w) {k : Nat} {o o' : Ob} (hk : σ.objs[k]? = some o) (henv : w'.os = w.os ∧ w'.tape = w.tape ∧ w'.output = w.output) (hsz : w.heap.size ≤ w'.heap.size)
  (hot : ∀ i, i < w.heap.size → i ∉ o.fp → w'.heap[i]? = w.heap[i]?) (hor : OR H w' o') (hfp : ∀ b, b ∈ o'.fp → w.heap.size ≤ b ∨ b ∈ o.fp) (hnd : o'.fp.Nodup) : Gam n C ⟨σ.slots, σ.objs.set k o'⟩ H a w' := by
 have hm := List.mem_of_getElem? hk
 refine gm.world (fun i => i ∈ o.fp) henv hsz hot (fun i hi _ => ⟨o, hm, hi⟩) ?_ ?_
 ·intro p hp
  obtain ⟨i, hi, he⟩ := List.getElem_of_mem hp
  have hp' : (σ.objs.set k o')[i]? = some p := by rw [List.getElem?_eq_getElem hi, he]
  by_cases hki : k = i
  ·subst hki
   rw [List.getElem?_set_self (List.getElem?_eq_some_iff.1 hk).1] at hp'
   cases hp'
   exact .inr ⟨hor, fun b hb => (hfp b hb).imp id (fun h => ⟨o, hm, h⟩)⟩
  ·rw [List.getElem?_set_ne hki] at hp'
   exact .inl ⟨List.mem_of_getElem? hp', fun b hb hb' => at_ne gm.nodup hk hp' hki b hb' hb⟩
 ·refine nodup_at gm.nodup hk hnd (fun b hb => ?_)
  rcases hfp b hb with h | h
  ·exact .inr fun x hx hbx => by have := (gm.objs x hx).lt b hbx; omega
  ·exact .inl h
theorem Gam.apart {H : GH} {a : Act} {w : World} (gm : Gam n C σ H a w) {k i : Nat} {p q : Ob} (hk : σ.objs[k]? = some p) (hi : σ.objs[i]? = some q) (hne : k ≠ i) : ∀ b, b ∈ q.fp → b ∉ p.fp :=
 fun b hq hp => at_ne gm.nodup hk hi hne b hp hq
theorem setRow_size (w : World) (g : Nat) (cs : Array Value) : (w.setRow g cs).heap.size = w.heap.size := by simp [World.setRow]
theorem getD_seg {cur : Array Value} {vs : List Value} {o i : Nat} (hl : o + vs.length ≤ cur.size) :
  ((cur.toList.take o ++ vs ++ cur.toList.drop (o + vs.length)).toArray).getD i undef = if o ≤ i ∧ i < o + vs.length then vs.getD (i - o) undef else cur.getD i undef := by
 simp only [Array.getD_eq_getD_getElem?, List.getElem?_toArray, List.getElem?_append, List.length_append, List.length_take, Array.length_toList, List.getElem?_drop, List.getElem?_take, Array.getElem?_toList, List.getD]
 by_cases h1 : i < o
 ·have : min o cur.size = o := by omega
  simp [this, h1, show i < o + vs.length by omega, show ¬ o ≤ i by omega]
 ·have : min o cur.size = o := by omega
  by_cases h2 : i < o + vs.length
  ·simp [this, h1, h2, show o ≤ i by omega]
  ·simp [this, h1, h2, show o + vs.length + (i - (o + vs.length)) = i by omega]
theorem store_core {H : GH} {a : Act} {w : World} {s : Slots} (r : SR n s H a) {t : TypeId} {x y : Operand} {ti : TI} {c : T} {cs : List T} {b off tt sz cap : Nat} {es : List (List T)} (i j : Nat) {e : List T}
  (ht : E.tab t = some ti) (hx : evalT s x = some (.v (.pointer (some ⟨b, off, none⟩)))) (hor : ArrR H w b tt sz cap es) (he : es[i]? = some e) (ho : off = i * sz + j)
  (hy : evalT s y = some c) (hc : cellsT c = some cs) (hsz : ti.size = cs.length) (hj : j + cs.length ≤ e.length) :
  ∃ w', (execOp a.eval ⟨none, .store t x y, ty, pos, aft, g⟩).run E.P w = .ok .skip w' ∧ ArrR H w' b tt sz cap (es.set i (setC e j cs)) ∧ (w'.os = w.os ∧ w'.tape = w.tape ∧ w'.output = w.output) ∧ w'.heap.size = w.heap.size ∧
   ∀ i, i ≠ b → w'.heap[i]? = w.heap[i]? := by
 obtain ⟨cur, a1, a2, a3, a4, a5, a6⟩ := hor
 have har := cellsT_spec (r.eval hy) hc
 have hil := (List.getElem?_eq_some_iff.1 he).1
 have hel := a5 i e he
 have hmul : (i + 1) * sz ≤ cap * sz := Nat.mul_le_mul_right _ (by omega)
 rw [Nat.succ_mul] at hmul
 have hvl : (a.eval y).cells.toList.length = cs.length := by simpa using har.1
 have hst := run_storeCells_at (P := E.P) b off tt (a.eval y).cells.toList 0 cur w a1 (by rw [hvl]; omega) har.all1
 simp only [Nat.add_zero] at hst
 refine ⟨w.setRow b (cur.toList.take off ++ (a.eval y).cells.toList ++ cur.toList.drop (off + (a.eval y).cells.toList.length)).toArray, ?_, ?_, ⟨rfl, rfl, rfl⟩, setRow_size _ _ _, fun i hi => setRow_other w b i _ hi⟩
 ·simp [execOp, Instr.storeAt, Instr.sureAddr, r.evalv hx, storeVar, run_sizeOf_ti (E.ok _ _ ht), hsz, show (a.eval y).cells.size = cs.length from har.1] at hst ⊢
  simp [hst]
 ·refine ⟨_, setRow_heap w b cur _ tt _ a1, ?_, by simpa using a3, by simpa using a4, ?_, ?_⟩
  ·simp only [List.size_toArray, List.length_append, List.length_take, List.length_drop, Array.length_toList, hvl]
   omega
  ·intro i' e' he'
   rw [List.getElem?_set] at he'
   split at he'
   ·simp only [hil, if_true, Option.some.injEq] at he'
    subst he'; rw [setC_length]; exact hel
   ·exact a5 i' e' he'
  ·intro i' e' he' j' x' hx'
   rw [getD_seg (by rw [hvl]; omega)]
   rw [List.getElem?_set] at he'
   split at he'
   ·rename_i hii
    subst hii
    simp only [hil, if_true, Option.some.injEq] at he'
    subst he'
    rcases setC_get e j cs j' x' hx' with ⟨q1, q2, q3⟩ | ⟨q1, q2⟩
    ·rw [if_pos (by rw [hvl]; omega)]
     have := har.2 _ _ q3
     rw [show i * sz + j' - off = j' - j by omega]
     rw [Array.getD_eq_getD_getElem?, ← Array.getElem?_toList] at this
     simpa [List.getD] using this
    ·rw [if_neg (by rw [hvl]; omega)]
     exact a6 i e he j' x' q2
   ·rename_i hii
    have hj'l := (List.getElem?_eq_some_iff.1 hx').1
    have hel' := a5 i' e' he'
    rw [if_neg ?_]
    ·exact a6 i' e' he' j' x' hx'
    ·rw [hvl]
     rintro ⟨q1, q2⟩
     rcases Nat.lt_or_gt_of_ne hii with h | h
     ·have : (i + 1) * sz ≤ i' * sz := Nat.mul_le_mul_right _ h
      rw [Nat.succ_mul] at this; omega
     ·have : (i' + 1) * sz ≤ i * sz := Nat.mul_le_mul_right _ h
      rw [Nat.succ_mul] at this; omega
theorem AX.store (k : Nat) {t : TypeId} {x y : Operand} {ti : TI} {c : T} {cs : List T} {b off tt sz cap : Nat} {es es' : List (List T)} (i j : Nat) {e : List T} {R : St → Prop}
  (ht : E.tab t = some ti) (hx : evalT σ.slots x = some (.v (.pointer (some ⟨b, off, none⟩)))) (hk : σ.objs[k]? = some (.arr b tt sz cap es)) (he : es[i]? = some e) (ho : off = i * sz + j)
  (hy : evalT σ.slots y = some c) (hc : cellsT c = some cs) (hsz : ti.size = cs.length) (hj : j + cs.length ≤ e.length) (hd : dst = none) (hes : es.set i (setC e j cs) = es')
  (kk : R ⟨σ.slots, σ.objs.set k (.arr b tt sz cap es')⟩) :
  AX E n C [k] ⟨dst, .store t x y, ty, pos, aft, g⟩ σ R := by
 subst hd
 subst hes
 refine AX.skip fun H a w gm => ?_
 obtain ⟨w', h1, h2, h3, h4, h5⟩ := store_core (ty := ty) (pos := pos) (aft := aft) (g := g) gm.sr i j ht hx (gm.objs _ (List.mem_of_getElem? hk)) he ho hy hc hsz hj
 refine ⟨w', _, H, h1, kk, ?_, fun _ _ h => h, fun i' p hp hm => ?_⟩
 ·exact gm.set hk h3 (by omega) (fun i _ hi => h5 i (by simpa [Ob.fp] using hi)) h2 (fun b hb => .inr hb) (by simp [Ob.fp])
 ·have hne : k ≠ i' := fun h => by subst h; simp at hm
  exact ⟨set_keeps hp hne, fun b' hb' => h5 b' (fun h => gm.apart hk hp hne b' hb' (by simp [Ob.fp, h]))⟩
theorem UsR.back {H : GH} {w : World} {v : Value} {tt sz : Nat} {es es' : List (List T)} {c cap : Nat} (hv : v = .slice (some ⟨blk v, 0, none⟩) es.length c) (h1 : es.length ≤ c) (h2 : c ≤ cap) (hl : es'.length = es.length)
  (h : ArrR H w (blk v) tt sz cap es') : UsR H w v tt sz es' :=
 .inr ⟨blk v, c, cap, by rw [hl]; exact hv, by omega, h2, h⟩
theorem AX.storeU (k : Nat) {t : TypeId} {x y : Operand} {ti : TI} {c : T} {cs : List T} {v : Value} {off tt sz : Nat} {es es' : List (List T)} (i j : Nat) {e : List T} {R : St → Prop}
  (ht : E.tab t = some ti) (hx : evalT σ.slots x = some (.v (.pointer (some ⟨blk v, off, none⟩)))) (hk : σ.objs[k]? = some (.us v tt sz es)) (he : es[i]? = some e) (ho : off = i * sz + j)
  (hy : evalT σ.slots y = some c) (hc : cellsT c = some cs) (hsz : ti.size = cs.length) (hj : j + cs.length ≤ e.length) (hd : dst = none) (hes : es.set i (setC e j cs) = es')
  (kk : R ⟨σ.slots, σ.objs.set k (.us v tt sz es')⟩) :
  AX E n C [k] ⟨dst, .store t x y, ty, pos, aft, g⟩ σ R := by
 subst hd
 subst hes
 refine AX.skip fun H a w gm => ?_
 have hor : UsR H w v tt sz es := gm.objs _ (List.mem_of_getElem? hk)
 obtain ⟨c', cap, hv, q1, q2, q3, q4⟩ := hor.arr he
 obtain ⟨w', h1, h2, h3, h4, h5⟩ := store_core (ty := ty) (pos := pos) (aft := aft) (g := g) gm.sr i j ht hx q3 he ho hy hc hsz hj
 refine ⟨w', _, H, h1, kk, ?_, fun _ _ h => h, fun i' p hp hm => ?_⟩
 ·exact gm.set hk h3 (by omega) (fun i _ hi => h5 i (by simpa [Ob.fp, q4] using hi)) (UsR.back hv q1 q2 (by simp) h2) (fun b hb => .inr hb) (by simp [Ob.fp, q4])
 ·have hne : k ≠ i' := fun h => by subst h; simp at hm
  exact ⟨set_keeps hp hne, fun b' hb' => h5 b' (fun h => gm.apart hk hp hne b' hb' (by simp [Ob.fp, q4, h]))⟩
end
end Go.Aw
