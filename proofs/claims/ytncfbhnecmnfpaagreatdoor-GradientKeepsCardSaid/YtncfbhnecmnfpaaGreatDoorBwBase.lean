/- The base of a value-level program logic over the model: abstract values, abstract states, their relation to worlds, and the structural rules. No condition. -/
import Derived.OrdersHeld
import Derived.Laws.Cells
import Derived.WalkKit
namespace Go.Aw
set_option linter.unusedVariables false
set_option linter.unusedSimpArgs false

/-- Abstract values: a value as it is, a slice that nobody writes (its elements, each a row of cells), a struct or array (its cells), a tuple, a pointer to cells that nobody writes, a function with what it has bound. -/
inductive T where
  | v (x : Value)
  | list (sz : Nat) (es : List (List T))
  | agg (cs : List T)
  | tup (cs : List T)
  | eptr (cs : List T)
  | fn (f : FuncId) (first caps : List T)
  deriving Inhabited

/-- Blocks that nobody writes any more. -/
abbrev GH := Nat → Option Obj

def maxL : Nat := 140737488355328

inductive VR (H : GH) : Value → T → Prop
  | v (x : Value) : VR H x (.v x)
  | empty (a : Option Addr) (cap sz : Nat) : VR H (.slice a 0 cap) (.list sz [])
  | list (b off cap sz : Nat) (es : List (List T)) (cs : Array Value) (ty : TypeId) (fr : Nat × Nat)
      (hb : H b = some (.cells cs ty fr)) (hcap : es.length ≤ cap) (hmax : es.length ≤ maxL) (hsz : off + es.length * sz ≤ cs.size)
      (hel : ∀ (i : Nat) (e : List T), es[i]? = some e → e.length = sz)
      (h1 : ∀ (i : Nat) (e : List T), es[i]? = some e → ∀ (j : Nat) (x : T), e[j]? = some x → (cs.getD (off + i * sz + j) undef).oneCell' = true)
      (hv : ∀ (i : Nat) (e : List T), es[i]? = some e → ∀ (j : Nat) (x : T), e[j]? = some x → VR H (cs.getD (off + i * sz + j) undef) x) :
      VR H (.slice (some ⟨b, off, none⟩) es.length cap) (.list sz es)
  | agg (vs : Array Value) (cs : List T) (hl : vs.size = cs.length)
      (h1 : ∀ (j : Nat) (x : T), cs[j]? = some x → (vs.getD j undef).oneCell' = true)
      (hv : ∀ (j : Nat) (x : T), cs[j]? = some x → VR H (vs.getD j undef) x) : VR H (.agg vs) (.agg cs)
  | tup (vs : Array Value) (cs : List T) (hl : vs.size = cs.length)
      (hv : ∀ (j : Nat) (x : T), cs[j]? = some x → VR H (vs.getD j undef) x) : VR H (.tuple vs) (.tup cs)
  | eptr (b off : Nat) (l : List T) (cs : Array Value) (ty : TypeId) (fr : Nat × Nat)
      (hb : H b = some (.cells cs ty fr)) (hsz : off + l.length ≤ cs.size)
      (h1 : ∀ (j : Nat) (x : T), l[j]? = some x → (cs.getD (off + j) undef).oneCell' = true)
      (hv : ∀ (j : Nat) (x : T), l[j]? = some x → VR H (cs.getD (off + j) undef) x) : VR H (.pointer (some ⟨b, off, none⟩)) (.eptr l)
  | fn (f : FuncId) (vf vc : Array Value) (fs cs : List T) (hf : vf.size = fs.length) (hc : vc.size = cs.length)
      (h1 : ∀ (j : Nat) (x : T), fs[j]? = some x → VR H (vf.getD j undef) x) (h2 : ∀ (j : Nat) (x : T), cs[j]? = some x → VR H (vc.getD j undef) x) :
      VR H (.func (.func f) vf vc) (.fn f fs cs)

theorem VR.mono {H H' : GH} (hh : ∀ b o, H b = some o → H' b = some o) {v : Value} {x : T} (h : VR H v x) : VR H' v x := by
  induction h with
  | v x => exact .v x
  | empty a cap sz => exact .empty a cap sz
  | list b off cap sz es cs ty fr hb hcap hmax hsz hel h1 hv ih => exact .list b off cap sz es cs ty fr (hh _ _ hb) hcap hmax hsz hel h1 ih
  | agg vs cs hl h1 hv ih => exact .agg vs cs hl h1 ih
  | tup vs cs hl hv ih => exact .tup vs cs hl ih
  | eptr b off l cs ty fr hb hsz h1 hv ih => exact .eptr b off l cs ty fr (hh _ _ hb) hsz h1 ih
  | fn f vf vc fs cs hf hc h1 h2 ih1 ih2 => exact .fn f vf vc fs cs hf hc ih1 ih2

theorem VR.v_eq {H : GH} {v x : Value} (h : VR H v (.v x)) : v = x := by cases h; rfl

/-- The block of a slice value, if it has one. -/
def bls : Value → List Nat
  | .slice (some a) _ _ => [a.block]
  | _ => []
def blk : Value → Nat
  | .slice (some a) _ _ => a.block
  | _ => 0

/-- Objects of the call's own: a row of variables at a known block; a slice of the call's own (nil, or with a block of its own); a slice of such slices (none: what is taken out); a map. -/
inductive Ob where
  | arr (b : Nat) (ty : TypeId) (sz cap : Nat) (es : List (List T))
  | us (v : Value) (ty : TypeId) (sz : Nat) (es : List (List T))
  | uss (v : Value) (ty tyi : TypeId) (szi : Nat) (vs : List Value) (L : List (Option (List (List T))))
  | raw (b : Nat) (o : Obj)

def ussIn : List Value → List (Option (List (List T))) → List Nat
  | v :: vs, some _ :: L => bls v ++ ussIn vs L
  | _ :: vs, none :: L => ussIn vs L
  | _, _ => []

/-- The blocks of an object. -/
def Ob.fp : Ob → List Nat
  | .arr b .. => [b]
  | .us v .. => bls v
  | .uss v _ _ _ vs L => bls v ++ ussIn vs L
  | .raw b _ => [b]

def CR (H : GH) (v : Value) (x : T) : Prop := v.oneCell' = true ∧ VR H v x

def ArrR (H : GH) (w : World) (b : Nat) (ty : TypeId) (sz cap : Nat) (es : List (List T)) : Prop :=
  ∃ cs : Array Value, w.heap[b]? = some (.cells cs ty (0, 0)) ∧ cs.size = cap * sz ∧ es.length ≤ cap ∧ es.length ≤ maxL ∧
      (∀ (i : Nat) (e : List T), es[i]? = some e → e.length = sz) ∧
      (∀ (i : Nat) (e : List T), es[i]? = some e → ∀ (j : Nat) (x : T), e[j]? = some x → CR H (cs.getD (i * sz + j) undef) x)

def UsR (H : GH) (w : World) (v : Value) (ty : TypeId) (sz : Nat) (es : List (List T)) : Prop :=
  (v = .slice none 0 0 ∧ es = []) ∨ ∃ b c cap, v = .slice (some ⟨b, 0, none⟩) es.length c ∧ es.length ≤ c ∧ c ≤ cap ∧ ArrR H w b ty sz cap es

def OR (H : GH) (w : World) : Ob → Prop
  | .arr b ty sz cap es => ArrR H w b ty sz cap es
  | .us v ty sz es => UsR H w v ty sz es
  | .uss v ty tyi szi vs L => vs.length = L.length ∧ UsR H w v ty 1 (vs.map fun x => [T.v x]) ∧ ∀ (i : Nat) (x : Value) (es : List (List T)), vs[i]? = some x → L[i]? = some (some es) → UsR H w x tyi szi es
  | .raw b o => w.heap[b]? = some o

theorem ArrR.mono {H H' : GH} (hh : ∀ b o, H b = some o → H' b = some o) {w w' : World} {b : Nat} (hw : w'.heap[b]? = w.heap[b]?) {ty : TypeId} {sz cap : Nat} {es : List (List T)} (h : ArrR H w b ty sz cap es) : ArrR H' w' b ty sz cap es := by
  obtain ⟨cs, a1, a2, a3, a4, a5, a6⟩ := h
  exact ⟨cs, by rw [hw]; exact a1, a2, a3, a4, a5, fun i e he j x hx => ⟨(a6 i e he j x hx).1, (a6 i e he j x hx).2.mono hh⟩⟩

theorem UsR.mono {H H' : GH} (hh : ∀ b o, H b = some o → H' b = some o) {w w' : World} {v : Value} (hw : ∀ b, b ∈ bls v → w'.heap[b]? = w.heap[b]?) {ty : TypeId} {sz : Nat} {es : List (List T)} (h : UsR H w v ty sz es) : UsR H' w' v ty sz es := by
  rcases h with h | ⟨b, c, cap, rfl, h1, h2, h3⟩
  · exact .inl h
  · exact .inr ⟨b, c, cap, rfl, h1, h2, h3.mono hh (hw b (by simp [bls]))⟩

theorem ussIn_mem : ∀ {vs : List Value} {L : List (Option (List (List T)))} {i : Nat} {v : Value} {es : List (List T)}, vs[i]? = some v → L[i]? = some (some es) → ∀ b, b ∈ bls v → b ∈ ussIn vs L
  | v' :: vs, some _ :: L, 0, v, es, h1, h2, b, hb => by simp at h1; subst h1; simp [ussIn, hb]
  | v' :: vs, some _ :: L, i + 1, v, es, h1, h2, b, hb => by simp [ussIn]; exact .inr (ussIn_mem (by simpa using h1) (by simpa using h2) b hb)
  | v' :: vs, none :: L, 0, v, es, h1, h2, b, hb => by simp at h2
  | v' :: vs, none :: L, i + 1, v, es, h1, h2, b, hb => by simp [ussIn]; exact ussIn_mem (by simpa using h1) (by simpa using h2) b hb
  | [], _, i, v, es, h1, h2, b, hb => by simp at h1
  | _ :: _, [], i, v, es, h1, h2, b, hb => by simp at h2

theorem OR.mono {H H' : GH} (hh : ∀ b o, H b = some o → H' b = some o) {w w' : World} {o : Ob} (hw : ∀ b, b ∈ o.fp → w'.heap[b]? = w.heap[b]?) (h : OR H w o) : OR H' w' o := by
  cases o with
  | arr b ty sz cap es => exact ArrR.mono hh (hw b (by simp [Ob.fp])) h
  | us v ty sz es => exact UsR.mono hh hw h
  | uss v ty tyi szi vs L =>
    obtain ⟨h0, h1, h2⟩ := h
    exact ⟨h0, h1.mono hh (fun b hb => hw b (by simp [Ob.fp, hb])), fun i x es hx hl => (h2 i x es hx hl).mono hh (fun b hb => hw b (by simp [Ob.fp, ussIn_mem hx hl b hb]))⟩
  | raw b o => exact (hw b (by simp [Ob.fp])).trans h

abbrev Slots := List (Nat × T)

def get : Slots → Nat → Option T
  | [], _ => none
  | (k, x) :: l, i => bif Nat.beq k i then some x else get l i

structure St where
  slots : Slots
  objs : List Ob

def St.put (σ : St) (dst : Option Tmp) (x : T) : St :=
  match dst with
  | none => σ
  | some d => ⟨(d, x) :: σ.slots, σ.objs⟩

/-- Package-level variables that nobody writes, with what they hold. -/
def gl : List (Nat × List T) := [(0, [400, 1200, 0, 2000, 0, 5000, 1, 2000].map fun n => .v (.int .i64 n))]
def Held (H : GH) : Prop := ∀ b l, (b, l) ∈ gl → VR H (.pointer (some ⟨b, 0, none⟩)) (.eptr l)
/-- How the call began: its world, what nobody wrote then, and the blocks that it may write. -/
structure Ctx where
  w0 : World
  H0 : GH
  fp : List Nat
  hg : Held H0

structure Gam (n : Nat) (C : Ctx) (σ : St) (H : GH) (a : Act) (w : World) : Prop where
  defers : a.defers = []
  size : a.tmps.size = n
  slots : ∀ i x, get σ.slots i = some x → VR H (a.tmps.getD i undef) x
  objs : ∀ p, p ∈ σ.objs → OR H w p
  free : ∀ p, p ∈ σ.objs → ∀ b, b ∈ p.fp → H b = none
  new : ∀ p, p ∈ σ.objs → ∀ b, b ∈ p.fp → C.w0.heap.size ≤ b ∨ b ∈ C.fp
  nodup : (σ.objs.flatMap Ob.fp).Nodup
  held : ∀ b o, H b = some o → w.heap[b]? = some o
  grow : ∀ b o, C.H0 b = some o → H b = some o
  heap : C.w0.heap.size ≤ w.heap.size
  frame : ∀ b, b < C.w0.heap.size → b ∉ C.fp → w.heap[b]? = C.w0.heap[b]? ∧ H b = C.H0 b
  env : w.os = C.w0.os ∧ w.tape = C.w0.tape ∧ w.output = C.w0.output

/-! ### Types -/

inductive K where
  | slice (e : Nat) | array (n e : Nat) | struct (fs : List (Nat × Nat)) | string | int (k : IntKind) | bool | map (k e : Nat) | other
  deriving DecidableEq, Repr

structure TI where
  kind : K
  size : Nat
  bytes : Nat
  zero : Option Value

def TI.isAgg (i : TI) : Bool :=
  match i.kind with
  | .array .. | .struct .. => true
  | _ => false

def K.of : TypeDesc → K
  | .slice e => .slice e
  | .array n e => .array n e
  | .struct fs => .struct (fs.toList.map fun f => (f.offset, f.type))
  | .string => .string
  | .int k => .int k
  | .bool => .bool
  | .map k e => .map k e
  | _ => .other

def tiOf (P : Program) (t : TypeId) : Option TI :=
  match P.info? t, P.underlying t with
  | some i, some d => some { kind := K.of d, size := i.size, bytes := i.bytes, zero := i.zero }
  | _, _ => none

structure Env where
  P : Program
  tab : Nat → Option TI
  ok : ∀ t i, tab t = some i → tiOf P t = some i
  mixed : P.follows .mixedOrders = true

theorem tiOf_spec {P : Program} {t : TypeId} {i : TI} (h : tiOf P t = some i) :
    ∃ inf d, P.info? t = some inf ∧ P.underlying t = some d ∧ K.of d = i.kind ∧ inf.size = i.size ∧ inf.bytes = i.bytes ∧ inf.zero = i.zero := by
  unfold tiOf at h
  split at h
  · rename_i inf d h1 h2
    simp only [Option.some.injEq] at h
    subst h
    exact ⟨inf, d, h1, h2, rfl, rfl, rfl, rfl⟩
  · simp at h

section types
variable {P : Program} {t : TypeId} {i : TI} (h : tiOf P t = some i) (w : World)
include h

theorem run_sizeOf_ti : (sizeOf t).run P w = .ok i.size w := by
  obtain ⟨inf, d, h1, h2, h3, h4, h5, h6⟩ := tiOf_spec h
  simp [sizeOf, typeInfo, h1, h4]

theorem run_typeInfo_ti : ∃ inf, (typeInfo t).run P w = .ok inf w ∧ inf.size = i.size ∧ inf.bytes = i.bytes ∧ inf.zero = i.zero ∧ P.info? t = some inf := by
  obtain ⟨inf, d, h1, h2, h3, h4, h5, h6⟩ := tiOf_spec h
  exact ⟨inf, by simp [typeInfo, h1], h4, h5, h6, h1⟩

theorem run_zeroValue_ti {z : Value} (hz : i.zero = some z) : (zeroValue t).run P w = .ok z w := by
  obtain ⟨inf, d, h1, h2, h3, h4, h5, h6⟩ := tiOf_spec h
  rw [hz] at h6
  simp [zeroValue, typeInfo, h1, h6]

theorem run_isAgg_ti : (isAgg t).run P w = .ok i.isAgg w := by
  obtain ⟨inf, d, h1, h2, h3, h4, h5, h6⟩ := tiOf_spec h
  unfold TI.isAgg
  rw [← h3]
  cases d <;> simp [isAgg, underlying, h2, K.of]

theorem und_ti : ∃ d, P.underlying t = some d ∧ K.of d = i.kind := by
  obtain ⟨inf, d, h1, h2, h3, h4, h5, h6⟩ := tiOf_spec h
  exact ⟨d, h2, h3⟩

end types

theorem und_slice {P : Program} {t : TypeId} {i : TI} (h : tiOf P t = some i) {e : Nat} (hk : i.kind = .slice e) : P.underlying t = some (.slice e) := by
  obtain ⟨d, h1, h2⟩ := und_ti h
  rw [hk] at h2
  cases d <;> simp [K.of] at h2
  subst h2; exact h1

theorem und_struct {P : Program} {t : TypeId} {i : TI} (h : tiOf P t = some i) {fs : List (Nat × Nat)} (hk : i.kind = .struct fs) :
    ∃ ff : Array Field, P.underlying t = some (.struct ff) ∧ ff.toList.map (fun f => (f.offset, f.type)) = fs := by
  obtain ⟨d, h1, h2⟩ := und_ti h
  rw [hk] at h2
  cases d <;> simp [K.of] at h2
  exact ⟨_, h1, h2⟩

/-! ### The judgements -/

def AW (E : Env) (n : Nat) (C : Ctx) (c : Code) (σ : St) (Q : Exit → St → Prop) : Prop :=
  ∀ H a w, Gam n C σ H a w → c.wp E.P (fun e a' w' => ∃ σ' H', Q e σ' ∧ Gam n C σ' H' a' w') a w

/-- A list of operations, from left to right (ops: the region, for the guards). -/
def wpL (P : Program) (ops : Array Oper) (Q : Exit → Act → World → Prop) : List Oper → Act → World → Prop
  | [], a, w => Q .normal a w
  | o :: r, a, w =>
    if Region.wanted o (yielded ops a.tmps) then o.wp P a w (wpL P ops Q r) Q else wpL P ops Q r (a.put o.dst undef) w

def AO (E : Env) (n : Nat) (C : Ctx) (ops : Array Oper) (l : List Oper) (σ : St) (R : St → Prop) : Prop :=
  ∀ H a w, Gam n C σ H a w → wpL E.P ops (fun e a' w' => e = .normal ∧ ∃ σ' H', R σ' ∧ Gam n C σ' H' a' w') l a w

/-- One operation that may act: md are the places in the list of objects that it may change; the others stay as they are. -/
def AX (E : Env) (n : Nat) (C : Ctx) (md : List Nat) (o : Oper) (σ : St) (R : St → Prop) : Prop :=
  ∀ H a w, Gam n C σ H a w → o.wp E.P a w (fun a' w' => ∃ σ' H' v, R σ' ∧ Gam n C σ' H' a' w' ∧ a' = a.put o.dst v ∧ (∀ b o, H b = some o → H' b = some o) ∧
    ∀ i p, σ.objs[i]? = some p → md.contains i = false → σ'.objs[i]? = some p ∧ ∀ b, b ∈ p.fp → w'.heap[b]? = w.heap[b]?) (fun _ _ _ => False)

theorem Oper.wp_monoQ {P : Program} {o : Oper} {a : Act} {w : World} {K K' : Act → World → Prop} {Q Q' : Exit → Act → World → Prop}
    (h : ∀ a w, K a w → K' a w) (hq : ∀ e a w, Q e a w → Q' e a w) (hh : o.wp P a w K Q) : o.wp P a w K' Q' := by
  unfold Oper.wp at *
  generalize (execOp a.eval o).run P w = r at *
  cases r with
  | ok n w' =>
    cases n <;> simp only [Oper.upon] at hh ⊢ <;>
      first
        | exact h _ _ hh
        | exact Calls.mono hh (fun e w'' he => by
            cases e with
            | returned v => exact h _ _ he
            | panicked c => exact hq _ _ _ he
            | outgrown => obtain ⟨a, w, he⟩ := he; exact ⟨a, w, hq _ _ _ he⟩)
        | exact Rows.mono hh (fun _ _ he => h _ _ he)
  | halt x w' => cases x <;> simp only [Oper.upon] at hh ⊢ <;> exact hq _ _ _ hh

theorem wpL_ops {P : Program} {ops : Array Oper} {Q : Exit → Act → World → Prop} : ∀ (l : List Oper) (k : Nat) (a : Act) (w : World),
    (∀ j, j < l.length → ops[k + j]? = l[j]?) → wpL P ops Q l a w → wpOps P ops Q (List.range' k l.length) a w := by
  intro l
  induction l with
  | nil => intro k a w _ h; exact h
  | cons o r ih =>
    intro k a w hl h
    have h0 : ops[k]? = some o := by simpa using hl 0 (by simp)
    have hr : ∀ j, j < r.length → ops[k + 1 + j]? = r[j]? := fun j hj => by
      have := hl (j + 1) (by simp; omega)
      rw [show k + 1 + j = k + (j + 1) by omega, this]; simp
    simp only [List.length_cons, List.range'_succ]
    simp only [wpOps, h0]
    simp only [wpL] at h
    split
    · rename_i hw
      simp only [hw, if_true] at h
      exact .inl (Oper.wp_mono (fun a' w' h' => ih (k + 1) a' w' hr h') h)
    · rename_i hw
      simp only [hw] at h
      exact ih (k + 1) _ _ hr h

theorem wp_region_seq {P : Program} {id : Nat} {ops : Array Oper} {Q : Exit → Act → World → Prop} {a : Act} {w : World}
    (h : wpL P ops Q ops.toList a w) : (Code.region id ops false).wp P Q a w := by
  refine wp_region ?_
  have := wpL_ops ops.toList 0 a w (fun j _ => by simp) h
  simpa [List.range_eq_range'] using this

theorem wpL_mono {P : Program} {ops : Array Oper} {Q Q' : Exit → Act → World → Prop} (hq : ∀ e a w, Q e a w → Q' e a w) :
    ∀ (l : List Oper) (a : Act) (w : World), wpL P ops Q l a w → wpL P ops Q' l a w
  | [], a, w, h => hq _ _ _ h
  | o :: r, a, w, h => by
    simp only [wpL] at *
    split
    · rename_i hw
      simp only [hw, if_true] at h
      exact Oper.wp_monoQ (fun a' w' h' => wpL_mono hq r a' w' h') hq h
    · rename_i hw
      simp only [hw] at h
      exact wpL_mono hq r _ _ h

section rules
variable {E : Env} {n : Nat} {C : Ctx} {σ : St} {Q : Exit → St → Prop}

theorem AW.mono {c : Code} {Q' : Exit → St → Prop} (h : AW E n C c σ Q) (hq : ∀ e σ, Q e σ → Q' e σ) : AW E n C c σ Q' :=
  fun H a w g => wp_mono (h H a w g) fun e a' w' ⟨σ', H', q, g'⟩ => ⟨σ', H', hq e σ' q, g'⟩

theorem AW.skip (h : Q .normal σ) : AW E n C .skip σ Q := fun H _ _ g => wp_skip ⟨σ, H, h, g⟩
theorem AW.label {l : Nat} (h : Q .normal σ) : AW E n C (.label l) σ Q := fun H _ _ g => wp_label ⟨σ, H, h, g⟩
theorem AW.exit {id : Nat} (h : Q (.exit id) σ) : AW E n C (.exit id) σ Q := fun H _ _ g => wp_exit ⟨σ, H, h, g⟩
theorem AW.ret (h : Q .ret σ) : AW E n C .ret σ Q := fun H _ _ g => wp_ret ⟨σ, H, h, g⟩

/-- What follows a piece of code: 'next' behind its end, Q at every other exit. -/
def Then (next : St → Prop) (Q : Exit → St → Prop) : Exit → St → Prop
  | .normal, σ => next σ
  | e, σ => Q e σ

theorem AW.seq {x y : Code} (h : AW E n C x σ (Then (fun σ' => AW E n C y σ' Q) Q)) : AW E n C (.seq x y) σ Q :=
  fun H a w g => wp_seq (wp_mono (h H a w g) fun e a' w' ⟨σ', H', q, g'⟩ => by
    cases e with
    | normal => exact q H' a' w' g'
    | _ => exact ⟨σ', H', q, g'⟩)

/-- The same with a cut: what holds between the two. -/
theorem AW.cut {x y : Code} (M : St → Prop) (h : AW E n C x σ (Then M Q)) (k : ∀ σ', M σ' → AW E n C y σ' Q) : AW E n C (.seq x y) σ Q :=
  AW.seq (AW.mono h fun e σ' q => by
    cases e with
    | normal => exact k σ' q
    | _ => exact q)

def InBlock (id : Nat) (Q : Exit → St → Prop) : Exit → St → Prop
  | .exit id', σ => bif Nat.beq id' id then Q .normal σ else Q (.exit id') σ
  | e, σ => Q e σ

theorem AW.block {id : Nat} {c : Code} (h : AW E n C c σ (InBlock id Q)) : AW E n C (.block id c) σ Q :=
  fun H a w g => wp_block (wp_mono (h H a w g) fun e a' w' ⟨σ', H', q, g'⟩ => by
    cases e with
    | exit id' =>
      by_cases hid : id' = id
      · subst hid
        simp only [InBlock, Nat.beq_refl, cond_true] at q
        simp only [Exit.inBlock, if_true]
        exact ⟨σ', H', q, g'⟩
      · have hb : Nat.beq id' id = false := by
          cases hb : Nat.beq id' id with
          | false => rfl
          | true => exact absurd (Nat.eq_of_beq_eq_true hb) hid
        simp only [InBlock, hb, cond_false] at q
        simp only [Exit.inBlock, hid, if_false]
        exact ⟨σ', H', q, g'⟩
    | _ => exact ⟨σ', H', q, g'⟩)

theorem AW.loop {c : Code} (I : Nat → St → Prop) {m : Nat} (h₀ : I m σ)
    (round : ∀ m σ, I m σ → AW E n C c σ (Then (fun σ' => ∃ m', m' < m ∧ I m' σ') Q)) : AW E n C (.loop c) σ Q := by
  intro H a w g
  have hdec : ∀ (p : Nat → Prop), (∃ m, p m) → ∃ m, p m ∧ ∀ k, k < m → ¬ p k := by
    intro p ⟨m, hm⟩
    induction m using Nat.strongRecOn with
    | _ m ih =>
      by_cases hk : ∃ k, k < m ∧ p k
      · obtain ⟨k, hk, hp⟩ := hk; exact ih k hk hp
      · exact ⟨m, hm, fun k hkm hp => hk ⟨k, hkm, hp⟩⟩
  let J : Act → World → Nat → Prop := fun a w m => ∃ σ H, I m σ ∧ Gam n C σ H a w
  have hex : ∀ a w, ∃ m, (∃ k, J a w k) → J a w m ∧ ∀ k, k < m → ¬ J a w k := by
    intro a w
    by_cases h : ∃ k, J a w k
    · obtain ⟨m, h1, h2⟩ := hdec _ h; exact ⟨m, fun _ => ⟨h1, h2⟩⟩
    · exact ⟨0, fun h' => absurd h' h⟩
  let μ : Act → World → Nat := fun a w => Classical.choose (hex a w)
  have hμ : ∀ a w, (∃ k, J a w k) → J a w (μ a w) ∧ ∀ k, k < μ a w → ¬ J a w k := fun a w => Classical.choose_spec (hex a w)
  refine wp_loop (fun a w => ∃ k, J a w k) μ ⟨m, σ, H, h₀, g⟩ ?_
  intro a w hJ
  obtain ⟨⟨σ₁, H₁, hI, g₁⟩, _⟩ := hμ a w hJ
  refine wp_mono (round _ σ₁ hI H₁ a w g₁) ?_
  rintro e a' w' ⟨σ', H', q, g'⟩
  cases e with
  | normal =>
    obtain ⟨m', hm', hI'⟩ := q
    have hJ' : ∃ k, J a' w' k := ⟨m', σ', H', hI', g'⟩
    refine ⟨hJ', ?_⟩
    have h2 := (hμ a' w' hJ').2
    have hJm : J a' w' m' := ⟨σ', H', hI', g'⟩
    exact Nat.lt_of_le_of_lt (Nat.le_of_not_lt fun hlt => h2 m' hlt hJm) hm'
  | _ => exact ⟨σ', H', q, g'⟩

theorem AO.nil {ops : Array Oper} {R : St → Prop} (h : R σ) : AO E n C ops [] σ R := fun H _ _ g => ⟨rfl, σ, H, h, g⟩

theorem AO.mono {ops : Array Oper} {l : List Oper} {R R' : St → Prop} (h : AO E n C ops l σ R) (hr : ∀ σ, R σ → R' σ) : AO E n C ops l σ R' :=
  fun H a w g => wpL_mono (fun _ _ _ ⟨he, σ', H', r, g'⟩ => ⟨he, σ', H', hr _ r, g'⟩) l a w (h H a w g)

theorem AO.act {ops : Array Oper} {o : Oper} {l : List Oper} {R : St → Prop} (md : List Nat) (hg : o.guard = none)
    (h : AX E n C md o σ (fun σ' => AO E n C ops l σ' R)) : AO E n C ops (o :: l) σ R := by
  intro H a w g
  simp only [wpL]
  rw [if_pos (by simp [Region.wanted, hg])]
  exact Oper.wp_monoQ (fun a' w' ⟨σ', H', v, r, g', _⟩ => r H' a' w' g') (fun _ _ _ h => h.elim) (h H a w g)

theorem Gam.put {H : GH} {a : Act} {w : World} (g : Gam n C σ H a w) {dst : Option Tmp} {v : Value} {x : T} (hv : VR H v x)
    (hd : ∀ d, dst = some d → d < n) : Gam n C (σ.put dst x) H (a.put dst v) w := by
  cases dst with
  | none => exact g
  | some d =>
    have hd' := hd d rfl
    refine { g with defers := g.defers, size := by simp [Act.put, g.size], slots := ?_ }
    intro i y hy
    simp only [St.put, get] at hy
    simp only [Act.put]
    by_cases hi : d = i
    · subst hi
      simp only [Nat.beq_refl, cond_true, Option.some.injEq] at hy
      subst hy
      have : d < a.tmps.size := by rw [g.size]; exact hd'
      simpa [Array.getD, this] using hv
    · have hb : Nat.beq d i = false := by
        cases hb : Nat.beq d i with
        | false => rfl
        | true => exact absurd (Nat.eq_of_beq_eq_true hb) hi
      simp only [hb, cond_false] at hy
      have := g.slots i y hy
      have he : (a.tmps.setIfInBounds d v).getD i undef = a.tmps.getD i undef := by
        simp [Array.getD_eq_getD_getElem?, Array.getElem?_setIfInBounds_ne hi]
      rw [he]; exact this

theorem AW.region {id : Nat} {ops : Array Oper} (h : AO E n C ops ops.toList σ (fun σ' => Q .normal σ')) : AW E n C (.region id ops false) σ Q :=
  fun H a w g => wp_region_seq (wpL_mono (fun _ _ _ ⟨he, σ', H', r, g'⟩ => ⟨σ', H', by subst he; exact r, g'⟩) _ _ _ (h H a w g))

theorem AW.cond {c : Operand} {x y : Code} {t : Nat} {b : Bool} (hc : c = .tmp t) (hs : get σ.slots t = some (.v (.bool b)))
    (h1 : b = true → AW E n C x σ Q) (h2 : b = false → AW E n C y σ Q) : AW E n C (.cond c x y) σ Q := by
  intro H a w g
  subst hc
  have hv : a.eval (.tmp t) = .bool b := (g.slots t _ hs).v_eq
  exact wp_cond_split hv (fun hb => h1 hb H a w g) (fun hb => h2 hb H a w g)

theorem AW.condC {x y : Code} {b : Bool} (h1 : b = true → AW E n C x σ Q) (h2 : b = false → AW E n C y σ Q) : AW E n C (.cond (.const (.bool b)) x y) σ Q := by
  intro H a w g
  exact wp_cond_split rfl (fun hb => h1 hb H a w g) (fun hb => h2 hb H a w g)

/-! ### Weakening -/

def Sub : Slots → Slots → Prop
  | [], _ => True
  | (i, x) :: l, s => get s i = some x ∧ Sub l s

theorem Sub.get : ∀ {l s : Slots}, Sub l s → ∀ i x, Aw.get l i = some x → Aw.get s i = some x
  | [], _, _, i, x, h => by simp [Aw.get] at h
  | (k, y) :: l, s, hs, i, x, h => by
    obtain ⟨h1, h2⟩ := hs
    simp only [Aw.get] at h
    cases hb : Nat.beq k i with
    | true =>
      have := Nat.eq_of_beq_eq_true hb
      subst this
      simp only [hb, cond_true, Option.some.injEq] at h
      subst h; exact h1
    | false =>
      simp only [hb, cond_false] at h
      exact Sub.get h2 i x h

theorem sublist_flatMap {α β : Type} {f : α → List β} : ∀ {l m : List α}, l.Sublist m → (l.flatMap f).Sublist (m.flatMap f)
  | _, _, .slnil => .slnil
  | _, _, .cons a h => by simp only [List.flatMap_cons]; exact (sublist_flatMap h).trans (List.sublist_append_right _ _)
  | _, _, .cons_cons a h => by simp only [List.flatMap_cons]; exact (List.Sublist.refl _).append (sublist_flatMap h)

theorem Gam.weaken {H : GH} {a : Act} {w : World} (g : Gam n C σ H a w) {s : Slots} {ob : List Ob} (hs : Sub s σ.slots) (ho : ob.Sublist σ.objs) :
    Gam n C ⟨s, ob⟩ H a w :=
  { g with
    slots := fun i x h => g.slots i x (hs.get i x h)
    objs := fun p hp => g.objs p (ho.subset hp)
    free := fun p hp => g.free p (ho.subset hp)
    new := fun p hp => g.new p (ho.subset hp)
    nodup := (sublist_flatMap ho).nodup g.nodup }

theorem AW.weaken {c : Code} {s : Slots} {ob : List Ob} (hs : Sub s σ.slots) (ho : ob.Sublist σ.objs) (h : AW E n C c ⟨s, ob⟩ Q) : AW E n C c σ Q :=
  fun H a w g => h H a w (g.weaken hs ho)

theorem AO.weaken {ops : Array Oper} {l : List Oper} {R : St → Prop} {s : Slots} {ob : List Ob} (hs : Sub s σ.slots) (ho : ob.Sublist σ.objs) (h : AO E n C ops l ⟨s, ob⟩ R) :
    AO E n C ops l σ R :=
  fun H a w g => h H a w (g.weaken hs ho)

end rules

end Go.Aw
