/- What single operations yield that only compute or read, at abstract values. No condition. -/
import Derived.Test.YtncfbhnecmnfpaaGreatDoorBwBase
namespace Go.Aw
set_option linter.unusedVariables false
set_option linter.unusedSimpArgs false

def evalT (s : Slots) : Operand → Option T
  | .tmp t => get s t
  | .const v => some (.v v)
  | .global g => some (.v (.pointer (some ⟨g, 0, none⟩)))
  | .func f => some (.v (.func (.func f) #[] #[]))

structure SR (n : Nat) (s : Slots) (H : GH) (a : Act) : Prop where
  size : a.tmps.size = n
  slots : ∀ i x, get s i = some x → VR H (a.tmps.getD i undef) x

theorem SR.eval {n : Nat} {s : Slots} {H : GH} {a : Act} (g : SR n s H a) {x : Operand} {y : T} (h : evalT s x = some y) : VR H (a.eval x) y := by
  cases x with
  | tmp t => exact g.slots t y h
  | const v => simp only [evalT, Option.some.injEq] at h; subst h; exact .v v
  | global g => simp only [evalT, Option.some.injEq] at h; subst h; exact .v _
  | func f => simp only [evalT, Option.some.injEq] at h; subst h; exact .v _

theorem SR.evalv {n : Nat} {s : Slots} {H : GH} {a : Act} (g : SR n s H a) {x : Operand} {y : Value} (h : evalT s x = some (.v y)) : a.eval x = y := (g.eval h).v_eq

/-- The operation yields x in whatever world. -/
def Yp (P : Program) (n : Nat) (s : Slots) (o : Oper) (x : T) : Prop :=
  ∀ H a, SR n s H a → ∃ v, VR H v x ∧ ∀ w, (execOp a.eval o).run P w = .ok (.value v) w

/-- The world w' is as w at the blocks that nobody writes and at the objects. -/
def Agree (H : GH) (objs : List Ob) (w w' : World) : Prop :=
  (∀ b o, H b = some o → w'.heap[b]? = some o) ∧ ∀ p, p ∈ objs → ∀ b, b ∈ p.fp → w'.heap[b]? = w.heap[b]?

structure WR (objs : List Ob) (H : GH) (w : World) : Prop where
  objs : ∀ p, p ∈ objs → OR H w p
  held : ∀ b o, H b = some o → w.heap[b]? = some o

/-- The operation yields x, and changes nothing, in every world that is as this one at what is known. -/
def Yd (P : Program) (n : Nat) (s : Slots) (objs : List Ob) (o : Oper) (x : T) : Prop :=
  ∀ H a w, SR n s H a → WR objs H w → ∃ v, VR H v x ∧ ∀ w', Agree H objs w w' → (execOp a.eval o).run P w' = .ok (.value v) w'

theorem Yp.yd {P : Program} {n : Nat} {s : Slots} {objs : List Ob} {o : Oper} {x : T} (h : Yp P n s o x) : Yd P n s objs o x :=
  fun H a _ g _ => let ⟨v, hv, hr⟩ := h H a g; ⟨v, hv, fun w' _ => hr w'⟩

def partT (fi : TI) (cs : List T) (off : Nat) : Option T :=
  bif fi.isAgg then
    (bif Nat.beq off 0 && Nat.beq fi.size cs.length then some (.agg cs)
     else bif Nat.ble (off + fi.size) cs.length then some (.agg ((cs.drop off).take fi.size)) else none)
  else cs[off]?

theorem Addr.add_mk (b off n : Nat) : Addr.add ⟨b, off, none⟩ n = ⟨b, off + n, none⟩ := by
  unfold Addr.add
  split
  · rename_i h; subst h; rfl
  · rfl

section
variable {E : Env} {n : Nat} {s : Slots} {dst : Option Tmp} {ty : TypeId} {pos : String} {aft : Array Edge} {g : Option (Nat × Bool)}

theorem Yp.move {x : Operand} {y : T} (h : evalT s x = some y) : Yp E.P n s ⟨dst, .move x, ty, pos, aft, g⟩ y :=
  fun H a r => ⟨a.eval x, r.eval h, fun w => by simp [execOp]⟩

theorem Yp.assign {x : Operand} {y : T} (h : evalT s x = some y) : Yp E.P n s ⟨dst, .assign x, ty, pos, aft, g⟩ y :=
  fun H a r => ⟨a.eval x, r.eval h, fun w => by simp [execOp]⟩

theorem Yp.pickT {c x y : Operand} {z : T} (hc : evalT s c = some (.v (.bool true))) (h : evalT s x = some z) : Yp E.P n s ⟨dst, .pick c x y, ty, pos, aft, g⟩ z :=
  fun H a r => ⟨a.eval x, r.eval h, fun w => by simp [execOp, r.evalv hc, asBool]⟩

theorem Yp.pickF {c x y : Operand} {z : T} (hc : evalT s c = some (.v (.bool false))) (h : evalT s y = some z) : Yp E.P n s ⟨dst, .pick c x y, ty, pos, aft, g⟩ z :=
  fun H a r => ⟨a.eval y, r.eval h, fun w => by simp [execOp, r.evalv hc, asBool]⟩

theorem Yp.pickB {c x y : Operand} {b p q : Bool} (hc : evalT s c = some (.v (.bool b))) (hx : evalT s x = some (.v (.bool p))) (hy : evalT s y = some (.v (.bool q))) :
    Yp E.P n s ⟨dst, .pick c x y, ty, pos, aft, g⟩ (.v (.bool (bif b then p else q))) :=
  fun H a r => ⟨_, .v _, fun w => by simp only [execOp, r.evalv hc, r.evalv hx, r.evalv hy, asBool]; cases b <;> simp⟩

theorem Yp.binI {op : BinOp} {t t' : TypeId} {x y : Operand} {k : IntKind} {a b c : Int} (hx : evalT s x = some (.v (.int k a))) (hy : evalT s y = some (.v (.int k b)))
    (hc : match op with | .add => k.wrap (a + b) = c | .sub => k.wrap (a - b) = c | .mul => k.wrap (a * b) = c | .quo => b ≠ 0 ∧ k.wrap (a.tdiv b) = c | .rem => b ≠ 0 ∧ a.tmod b = c | _ => False) :
    Yp E.P n s ⟨dst, .binOp op t x y t', ty, pos, aft, g⟩ (.v (.int k c)) := by
  refine fun H A r => ⟨_, .v _, fun w => ?_⟩
  cases op <;> simp only at hc <;> simp [execOp, r.evalv hx, r.evalv hy, eqGuard, binOp, Op.intArith, Op.intDiv, hc]

def cmpI : BinOp → Int → Int → Option Bool
  | .eql, a, b => some (a == b)
  | .neq, a, b => some (a != b)
  | .lss, a, b => some (decide (a < b))
  | .leq, a, b => some (decide (a ≤ b))
  | .gtr, a, b => some (decide (a > b))
  | .geq, a, b => some (decide (a ≥ b))
  | _, _, _ => none

theorem Yp.cmpI {op : BinOp} {t t' : TypeId} {x y : Operand} {k : IntKind} {a b : Int} {c : Bool} (hx : evalT s x = some (.v (.int k a))) (hy : evalT s y = some (.v (.int k b)))
    (hc : Aw.cmpI op a b = some c) : Yp E.P n s ⟨dst, .binOp op t x y t', ty, pos, aft, g⟩ (.v (.bool c)) := by
  refine fun H A r => ⟨_, .v _, fun w => ?_⟩
  cases op <;> simp only [Aw.cmpI, Option.some.injEq, reduceCtorEq] at hc <;> subst hc <;> simp [execOp, r.evalv hx, r.evalv hy, eqGuard, binOp, Op.intCmp]

theorem Yp.eqB {t t' : TypeId} {x y : Operand} {p q : Bool} {tb : TI} (ht : E.tab t = some tb) (hk : tb.kind = .bool)
    (hx : evalT s x = some (.v (.bool p))) (hy : evalT s y = some (.v (.bool q))) :
    Yp E.P n s ⟨dst, .binOp .eql t x y t', ty, pos, aft, g⟩ (.v (.bool (p == q))) := by
  refine fun H A r => ⟨_, .v _, fun w => ?_⟩
  obtain ⟨d, h1, h2⟩ := und_ti (E.ok _ _ ht)
  rw [hk] at h2
  cases d <;> simp [K.of] at h2
  simp [execOp, r.evalv hx, r.evalv hy, eqGuard, run_eql_bool w t p q h1]

theorem Yp.neqB {t t' : TypeId} {x y : Operand} {p q : Bool} {tb : TI} (ht : E.tab t = some tb) (hk : tb.kind = .bool)
    (hx : evalT s x = some (.v (.bool p))) (hy : evalT s y = some (.v (.bool q))) :
    Yp E.P n s ⟨dst, .binOp .neq t x y t', ty, pos, aft, g⟩ (.v (.bool (p != q))) := by
  refine fun H A r => ⟨_, .v _, fun w => ?_⟩
  obtain ⟨d, h1, h2⟩ := und_ti (E.ok _ _ ht)
  rw [hk] at h2
  cases d <;> simp [K.of] at h2
  have h3 := run_neq_bool w t p q h1
  have h4 : (!(p == q)) = (p != q) := rfl
  simp only [execOp, r.evalv hx, r.evalv hy, eqGuard]
  simp [h3, h4]

def cmpS : BinOp → ByteArray → ByteArray → Option Bool
  | .eql, a, b => some (a.toList == b.toList)
  | .neq, a, b => some (!(a.toList == b.toList))
  | .lss, a, b => some (Op.bytesLess a.toList b.toList)
  | .gtr, a, b => some (!(Op.bytesLess a.toList b.toList || a.toList == b.toList))
  | .leq, a, b => some (Op.bytesLess a.toList b.toList || a.toList == b.toList)
  | .geq, a, b => some (!Op.bytesLess a.toList b.toList)
  | _, _, _ => none

theorem Yp.cmpS {op : BinOp} {t t' : TypeId} {x y : Operand} {a b : ByteArray} {c : Bool} (hx : evalT s x = some (.v (.string a))) (hy : evalT s y = some (.v (.string b)))
    (hc : Aw.cmpS op a b = some c) : Yp E.P n s ⟨dst, .binOp op t x y t', ty, pos, aft, g⟩ (.v (.bool c)) := by
  refine fun H A r => ⟨_, .v _, fun w => ?_⟩
  cases op <;> simp only [Aw.cmpS, Option.some.injEq, reduceCtorEq] at hc <;> subst hc <;> simp [execOp, r.evalv hx, r.evalv hy, eqGuard, binOp, Op.stringOp]

theorem Yp.addS {t t' : TypeId} {x y : Operand} {a b : ByteArray} (hx : evalT s x = some (.v (.string a))) (hy : evalT s y = some (.v (.string b)))
    (hc : a.size + b.size < 9223372036854775807) : Yp E.P n s ⟨dst, .binOp .add t x y t', ty, pos, aft, g⟩ (.v (.string (a ++ b))) := by
  refine fun H A r => ⟨_, .v _, fun w => ?_⟩
  have : ¬ (((a.size + b.size : Nat) : Int) > IntKind.i64.max) := by
    have : IntKind.i64.max = 9223372036854775807 := by decide
    rw [this]; omega
  simp only [execOp, r.evalv hx, r.evalv hy, eqGuard, binOp, Op.stringOp, if_neg this]
  simp

theorem Yp.not {t : TypeId} {x : Operand} {b : Bool} (hx : evalT s x = some (.v (.bool b))) : Yp E.P n s ⟨dst, .unOp .not t x, ty, pos, aft, g⟩ (.v (.bool (!b))) :=
  fun H A r => ⟨_, .v _, fun w => by simp [execOp, r.evalv hx, Op.unary]⟩

theorem Yp.neg {t : TypeId} {x : Operand} {k : IntKind} {a c : Int} (hx : evalT s x = some (.v (.int k a))) (hc : k.wrap (0 - a) = c) :
    Yp E.P n s ⟨dst, .unOp .neg t x, ty, pos, aft, g⟩ (.v (.int k c)) :=
  fun H A r => ⟨_, .v _, fun w => by subst hc; simp [execOp, r.evalv hx, Op.unary, Op.intArith]⟩

theorem Yp.extract {x : Operand} {i : Nat} {l : List T} {y : T} (hx : evalT s x = some (.tup l)) (hi : l[i]? = some y) : Yp E.P n s ⟨dst, .extract x i, ty, pos, aft, g⟩ y := by
  intro H A r
  have h := r.eval hx
  generalize hv : A.eval x = v at h
  cases h with
  | tup vs cs hl hvs =>
    refine ⟨vs.getD i undef, hvs i y hi, fun w => ?_⟩
    have hlt : i < vs.size := by
      rw [hl]; exact (List.getElem?_eq_some_iff.1 hi).1
    simp [execOp, hv, Instr.extract, Array.getElem?_eq_getElem hlt, Array.getD, hlt]

theorem Yp.convI {t t' : TypeId} {x : Operand} {k k' : IntKind} {a c : Int} {ti ti' : TI} (ht : E.tab t = some ti) (ht' : E.tab t' = some ti') (hk' : ti'.kind = .int k')
    (hx : evalT s x = some (.v (.int k a))) (hc : k'.wrap a = c) : Yp E.P n s ⟨dst, .convert t t' x, ty, pos, aft, g⟩ (.v (.int k' c)) := by
  refine fun H A r => ⟨_, .v _, fun w => ?_⟩
  obtain ⟨d, h1, h2⟩ := und_ti (E.ok _ _ ht')
  obtain ⟨d0, h3, h4⟩ := und_ti (E.ok _ _ ht)
  rw [hk'] at h2
  cases d <;> simp [K.of] at h2
  subst h2
  subst hc
  cases d0 <;> simp [execOp, r.evalv hx, convert, run_underlying h1, run_underlying h3, Conv.intToInt]

theorem VR.part {H : GH} {vs : Array Value} {cs : List T} (h : VR H (.agg vs) (.agg cs)) {off size : Nat} (hle : off + size ≤ cs.length) :
    VR H (.agg (vs.extract off (off + size))) (.agg ((cs.drop off).take size)) := by
  cases h with
  | agg vs cs hl h1 hv =>
    have key : ∀ j x, ((cs.drop off).take size)[j]? = some x → cs[off + j]? = some x ∧ (vs.extract off (off + size)).getD j undef = vs.getD (off + j) undef := by
      intro j x hx
      have hj : j < size := by
        have := (List.getElem?_eq_some_iff.1 hx).1
        simp at this; omega
      rw [List.getElem?_take_of_lt hj, List.getElem?_drop] at hx
      refine ⟨hx, ?_⟩
      simp [Array.getD_eq_getD_getElem?, Array.getElem?_extract]
      rw [if_pos (by omega)]
    exact .agg _ _ (by simp; omega) (fun j x hx => by obtain ⟨k1, k2⟩ := key j x hx; rw [k2]; exact h1 _ _ k1)
      (fun j x hx => by obtain ⟨k1, k2⟩ := key j x hx; rw [k2]; exact hv _ _ k1)

theorem partT_spec {P : Program} {H : GH} {vs : Array Value} {cs : List T} (h : VR H (.agg vs) (.agg cs)) {t : TypeId} {fi : TI} (ht : tiOf P t = some fi) {off : Nat} {y : T}
    (hp : partT fi cs off = some y) : ∃ v, VR H v y ∧ ∀ w, (part t vs off).run P w = .ok v w := by
  unfold partT at hp
  cases ha : fi.isAgg with
  | true =>
    simp only [ha, cond_true] at hp
    have hrun : ∀ w, (part t vs off).run P w = .ok (.agg (vs.extract off (off + fi.size))) w := fun w => by
      simp [part, run_isAgg_ti ht, ha, run_sizeOf_ti ht]
    refine ⟨_, ?_, hrun⟩
    cases hb : (Nat.beq off 0 && Nat.beq fi.size cs.length) with
    | true =>
      simp only [hb, cond_true, Option.some.injEq] at hp
      subst hp
      simp only [Bool.and_eq_true] at hb
      obtain ⟨ho, hsz⟩ := hb
      have ho := Nat.eq_of_beq_eq_true ho
      have hsz := Nat.eq_of_beq_eq_true hsz
      subst ho
      have := h.part (off := 0) (size := fi.size) (by omega)
      simpa [hsz] using this
    | false =>
      simp only [hb, cond_false] at hp
      cases hc : Nat.ble (off + fi.size) cs.length with
      | false => simp [hc] at hp
      | true =>
        simp only [hc, cond_true, Option.some.injEq] at hp
        subst hp
        exact h.part (Nat.le_of_ble_eq_true hc)
  | false =>
    simp only [ha, cond_false] at hp
    cases h with
    | agg vs cs hl h1 hv =>
      refine ⟨_, hv _ _ hp, fun w => ?_⟩
      have hlt : off < vs.size := by rw [hl]; exact (List.getElem?_eq_some_iff.1 hp).1
      simp [part, run_isAgg_ti ht, ha, Array.getElem?_eq_getElem hlt, Array.getD, hlt]

theorem Yp.field {t : TypeId} {x : Operand} {f : Nat} {cs : List T} {ti fi : TI} {fs : List (Nat × Nat)} {off ft : Nat} {y : T}
    (ht : E.tab t = some ti) (hk : ti.kind = .struct fs) (hf : fs[f]? = some (off, ft)) (hft : E.tab ft = some fi)
    (hx : evalT s x = some (.agg cs)) (hp : partT fi cs off = some y) : Yp E.P n s ⟨dst, .field t x f, ty, pos, aft, g⟩ y := by
  intro H A r
  obtain ⟨ff, h1, h2⟩ := und_struct (E.ok _ _ ht) hk
  have h := r.eval hx
  generalize hv : A.eval x = v at h
  have hff : ∃ fld, ff[f]? = some fld ∧ fld.offset = off ∧ fld.type = ft := by
    rw [← h2] at hf
    simp only [List.getElem?_map, Option.map_eq_some_iff] at hf
    obtain ⟨fld, q1, q2⟩ := hf
    refine ⟨fld, by simpa using q1, ?_, ?_⟩ <;> simp_all
  obtain ⟨fld, q1, rfl, rfl⟩ := hff
  cases h with
  | agg vs cs hl hc hvs =>
    obtain ⟨v, hv1, hv2⟩ := partT_spec (VR.agg vs cs hl hc hvs) (E.ok _ _ hft) hp
    exact ⟨v, hv1, fun w => by simp [execOp, hv, Instr.field, run_underlying h1, q1, asAgg, hv2]⟩

theorem Yp.fieldPtr {t : TypeId} {x : Operand} {f : Nat} {b o : Nat} {ti fi : TI} {fs : List (Nat × Nat)} {off ft : Nat}
    (ht : E.tab t = some ti) (hk : ti.kind = .struct fs) (hf : fs[f]? = some (off, ft)) (hft : E.tab ft = some fi) (hz : Nat.beq fi.size 0 = false)
    (hx : evalT s x = some (.v (.pointer (some ⟨b, o, none⟩)))) : Yp E.P n s ⟨dst, .fieldAddr t x f, ty, pos, aft, g⟩ (.v (.pointer (some ⟨b, o + off, none⟩))) := by
  intro H A r
  obtain ⟨ff, h1, h2⟩ := und_struct (E.ok _ _ ht) hk
  have hff : ∃ fld, ff[f]? = some fld ∧ fld.offset = off ∧ fld.type = ft := by
    rw [← h2] at hf
    simp only [List.getElem?_map, Option.map_eq_some_iff] at hf
    obtain ⟨fld, q1, q2⟩ := hf
    refine ⟨fld, by simpa using q1, ?_, ?_⟩ <;> simp_all
  obtain ⟨fld, q1, rfl, rfl⟩ := hff
  have hz' : ¬ fi.size = 0 := by intro h; rw [h] at hz; simp at hz
  exact ⟨_, .v _, fun w => by
    simp [execOp, r.evalv hx, Instr.fieldAt, run_underlying h1, q1, Instr.sureAddr, fieldPlace, run_sizeOf_ti (E.ok _ _ hft), hz', Addr.add_mk]⟩

theorem VR.eptr_drop {H : GH} {b o : Nat} {l : List T} (h : VR H (.pointer (some ⟨b, o, none⟩)) (.eptr l)) {off : Nat} (hle : off ≤ l.length) :
    VR H (.pointer (some ⟨b, o + off, none⟩)) (.eptr (l.drop off)) := by
  cases h with
  | eptr b off' l cs ty fr hb hsz h1 hv =>
    refine .eptr b (o + off) (l.drop off) cs ty fr hb (by simp; omega) (fun j x hx => ?_) (fun j x hx => ?_)
    · rw [List.getElem?_drop] at hx; rw [show o + off + j = o + (off + j) by omega]; exact h1 _ _ hx
    · rw [List.getElem?_drop] at hx; rw [show o + off + j = o + (off + j) by omega]; exact hv _ _ hx

theorem VR.eptr_ptr {H : GH} {v : Value} {l : List T} (h : VR H v (.eptr l)) : ∃ b o, v = .pointer (some ⟨b, o, none⟩) := by
  cases h; exact ⟨_, _, rfl⟩

theorem Yp.fieldE {t : TypeId} {x : Operand} {f : Nat} {cs : List T} {ti fi : TI} {fs : List (Nat × Nat)} {off ft : Nat}
    (ht : E.tab t = some ti) (hk : ti.kind = .struct fs) (hf : fs[f]? = some (off, ft)) (hft : E.tab ft = some fi) (hz : Nat.beq fi.size 0 = false)
    (hx : evalT s x = some (.eptr cs)) (hle : Nat.ble off cs.length = true) : Yp E.P n s ⟨dst, .fieldAddr t x f, ty, pos, aft, g⟩ (.eptr (cs.drop off)) := by
  intro H A r
  obtain ⟨ff, h1, h2⟩ := und_struct (E.ok _ _ ht) hk
  have hff : ∃ fld, ff[f]? = some fld ∧ fld.offset = off ∧ fld.type = ft := by
    rw [← h2] at hf
    simp only [List.getElem?_map, Option.map_eq_some_iff] at hf
    obtain ⟨fld, q1, q2⟩ := hf
    refine ⟨fld, by simpa using q1, ?_, ?_⟩ <;> simp_all
  obtain ⟨fld, q1, rfl, rfl⟩ := hff
  have hz' : ¬ fi.size = 0 := by intro h; rw [h] at hz; simp at hz
  have h := r.eval hx
  obtain ⟨b, o, hv⟩ := h.eptr_ptr
  rw [hv] at h
  exact ⟨_, h.eptr_drop (Nat.le_of_ble_eq_true hle), fun w => by
    simp [execOp, hv, Instr.fieldAt, run_underlying h1, q1, Instr.sureAddr, fieldPlace, run_sizeOf_ti (E.ok _ _ hft), hz', Addr.add_mk]⟩

theorem Yp.nilCheckP {x : Operand} {b : Addr} (hx : evalT s x = some (.v (.pointer (some b)))) : Yp E.P n s ⟨dst, .nilCheck x, ty, pos, aft, g⟩ (.v (.pointer (some b))) :=
  fun H A r => ⟨_, .v _, fun w => by simp [execOp, r.evalv hx]⟩

theorem Yp.nilCheckE {x : Operand} {cs : List T} (hx : evalT s x = some (.eptr cs)) : Yp E.P n s ⟨dst, .nilCheck x, ty, pos, aft, g⟩ (.eptr cs) := by
  intro H A r
  have h := r.eval hx
  obtain ⟨b, o, hv⟩ := h.eptr_ptr
  exact ⟨_, h, fun w => by simp [execOp, hv]⟩

theorem VR.list_slice {H : GH} {v : Value} {sz : Nat} {es : List (List T)} (h : VR H v (.list sz es)) : ∃ a cap, v = .slice a es.length cap := by
  cases h with
  | empty a cap sz => exact ⟨a, cap, rfl⟩
  | list b off cap sz es cs ty fr hb hcap hmax hsz hel h1 hv => exact ⟨_, _, rfl⟩

theorem VR.list_max {H : GH} {v : Value} {sz : Nat} {es : List (List T)} (h : VR H v (.list sz es)) : es.length ≤ maxL := by
  cases h with
  | empty a cap sz => simp [maxL]
  | list b off cap sz es cs ty fr hb hcap hmax hsz hel h1 hv => exact hmax

theorem Yp.lenList {x : Operand} {t : TypeId} {sz : Nat} {es : List (List T)} {ti : TI} {e : Nat} (ht : E.tab t = some ti) (hk : ti.kind = .slice e) (hx : evalT s x = some (.list sz es)) :
    Yp E.P n s ⟨dst, .call { callee := .builtin .len, args := #[x], argTypes := #[t] }, ty, pos, aft, g⟩ (.v (.int .i64 es.length)) := by
  refine fun H A r => ⟨_, .v _, fun w => ?_⟩
  obtain ⟨a, cap, hv⟩ := (r.eval hx).list_slice
  simp [execOp, resolve, invoke, builtin, Builtin.len_, hv, run_underlying (und_slice (E.ok _ _ ht) hk), goInt]

theorem Yp.lenSlice {x : Operand} {t : TypeId} {a : Option Addr} {len cap : Nat} {ti : TI} {e : Nat} (ht : E.tab t = some ti) (hk : ti.kind = .slice e) (hx : evalT s x = some (.v (.slice a len cap))) :
    Yp E.P n s ⟨dst, .call { callee := .builtin .len, args := #[x], argTypes := #[t] }, ty, pos, aft, g⟩ (.v (.int .i64 len)) :=
  fun H A r => ⟨_, .v _, fun w => by simp [execOp, resolve, invoke, builtin, Builtin.len_, r.evalv hx, run_underlying (und_slice (E.ok _ _ ht) hk), goInt]⟩

theorem und_string {P : Program} {t : TypeId} {i : TI} (h : tiOf P t = some i) (hk : i.kind = .string) : P.underlying t = some .string := by
  obtain ⟨d, h1, h2⟩ := und_ti h
  rw [hk] at h2
  cases d <;> simp [K.of] at h2
  exact h1

theorem Yp.lenString {x : Operand} {t : TypeId} {b : ByteArray} {ti : TI} (ht : E.tab t = some ti) (hk : ti.kind = .string) (hx : evalT s x = some (.v (.string b))) :
    Yp E.P n s ⟨dst, .call { callee := .builtin .len, args := #[x], argTypes := #[t] }, ty, pos, aft, g⟩ (.v (.int .i64 b.size)) :=
  fun H A r => ⟨_, .v _, fun w => by simp [execOp, resolve, invoke, builtin, Builtin.len_, r.evalv hx, run_underlying (und_string (E.ok _ _ ht) hk), goInt]⟩

theorem Yp.maxI {x y : Operand} {ts : Array TypeId} {k : IntKind} {a b : Int} (hx : evalT s x = some (.v (.int k a))) (hy : evalT s y = some (.v (.int k b))) :
    Yp E.P n s ⟨dst, .call { callee := .builtin .max, args := #[x, y], argTypes := ts }, ty, pos, aft, g⟩ (.v (.int k (max a b))) := by
  refine fun H A r => ⟨_, .v _, fun w => ?_⟩
  have : (if b > a then b else a) = max a b := by split <;> omega
  simp [execOp, resolve, invoke, builtin, Builtin.max_, Builtin.max2, r.evalv hx, r.evalv hy]
  omega

theorem Yp.minI {x y : Operand} {ts : Array TypeId} {k : IntKind} {a b : Int} (hx : evalT s x = some (.v (.int k a))) (hy : evalT s y = some (.v (.int k b))) :
    Yp E.P n s ⟨dst, .call { callee := .builtin .min, args := #[x, y], argTypes := ts }, ty, pos, aft, g⟩ (.v (.int k (min a b))) := by
  refine fun H A r => ⟨_, .v _, fun w => ?_⟩
  simp [execOp, resolve, invoke, builtin, Builtin.min_, Builtin.min2, r.evalv hx, r.evalv hy]
  omega

theorem Yp.indexE {t : TypeId} {x y : Operand} {k : IntKind} {i : Int} {m : Nat} {sz : Nat} {es : List (List T)} {e : List T} {ti fi : TI} {el : Nat}
    (ht : E.tab t = some ti) (hk : ti.kind = .slice el) (hel : E.tab el = some fi) (hsz : fi.size = sz)
    (hx : evalT s x = some (.list sz es)) (hy : evalT s y = some (.v (.int k i))) (hi : i = (m : Int)) (he : es[m]? = some e) :
    Yp E.P n s ⟨dst, .indexAddr t x y, ty, pos, aft, g⟩ (.eptr e) := by
  intro H A r
  have h := r.eval hx
  have hm : m < es.length := (List.getElem?_eq_some_iff.1 he).1
  generalize hv : A.eval x = v at h
  cases h with
  | empty a cap sz => simp at he
  | list b off cap sz es cs ty fr hb hcap hmax hsz' hel' h1 hvs =>
    refine ⟨.pointer (some ⟨b, off + m * sz, none⟩), .eptr b (off + m * sz) e cs ty fr hb ?_ (fun j x hx => h1 m e he j x hx) (fun j x hx => hvs m e he j x hx), fun w => ?_⟩
    · rw [hel' m e he]
      have : (m + 1) * sz ≤ es.length * sz := Nat.mul_le_mul_right _ hm
      rw [Nat.succ_mul] at this; omega
    · subst hi
      simp [execOp, hv, r.evalv hy, Instr.indexAt, asIntOf, run_underlying (und_slice (E.ok _ _ ht) hk), run_sizeOf_ti (E.ok _ _ hel), hsz, hm, Addr.add_mk]

theorem Yp.indexS {t : TypeId} {x y : Operand} {k : IntKind} {i : Int} {m : Nat} {b off len cap : Nat} {ti fi : TI} {el : Nat}
    (ht : E.tab t = some ti) (hk : ti.kind = .slice el) (hel : E.tab el = some fi)
    (hx : evalT s x = some (.v (.slice (some ⟨b, off, none⟩) len cap))) (hy : evalT s y = some (.v (.int k i))) (hi : i = (m : Int)) (hm : m < len) :
    Yp E.P n s ⟨dst, .indexAddr t x y, ty, pos, aft, g⟩ (.v (.pointer (some ⟨b, off + m * fi.size, none⟩))) := by
  refine fun H A r => ⟨_, .v _, fun w => ?_⟩
  subst hi
  simp [execOp, r.evalv hx, r.evalv hy, Instr.indexAt, asIntOf, run_underlying (und_slice (E.ok _ _ ht) hk), run_sizeOf_ti (E.ok _ _ hel), hm, Addr.add_mk]

theorem und_array {P : Program} {t : TypeId} {i : TI} (h : tiOf P t = some i) {m e : Nat} (hk : i.kind = .array m e) : P.underlying t = some (.array m e) := by
  obtain ⟨d, h1, h2⟩ := und_ti h
  rw [hk] at h2
  cases d <;> simp [K.of] at h2
  obtain ⟨rfl, rfl⟩ := h2; exact h1

theorem Yp.indexA {t : TypeId} {x y : Operand} {k : IntKind} {i : Int} {m : Nat} {b off len : Nat} {ti fi : TI} {el : Nat}
    (ht : E.tab t = some ti) (hk : ti.kind = .array len el) (hel : E.tab el = some fi)
    (hx : evalT s x = some (.v (.pointer (some ⟨b, off, none⟩)))) (hy : evalT s y = some (.v (.int k i))) (hi : i = (m : Int)) (hm : m < len) :
    Yp E.P n s ⟨dst, .indexAddr t x y, ty, pos, aft, g⟩ (.v (.pointer (some ⟨b, off + m * fi.size, none⟩))) := by
  refine fun H A r => ⟨_, .v _, fun w => ?_⟩
  subst hi
  simp [execOp, r.evalv hx, r.evalv hy, Instr.indexAt, Instr.sureAddr, asIntOf, run_underlying (und_array (E.ok _ _ ht) hk), run_sizeOf_ti (E.ok _ _ hel), hm, Addr.add_mk]

/-! ### Slices -/

def bnd (s : Slots) (x : Option Operand) (d m : Nat) : Prop :=
  match x with
  | none => m = d
  | some x => ∃ k i, evalT s x = some (.v (.int k i)) ∧ i = (m : Int)

theorem sliceBound_run {P : Program} {w : World} {k : IntKind} {m y : Nat} {code : BoundsCode} (h : m ≤ y) : (Instr.sliceBound (.int k (m : Int)) y code).run P w = .ok m w := by
  simp [Instr.sliceBound, asIntOf, h]

theorem sliceBounds_run {P : Program} {w : World} {a : Act} {H : GH} (r : SR n s H a) {isS : Bool} {len cap l h m : Nat} {lo hi mx : Option Operand} (h1 : bnd s lo 0 l) (h2 : bnd s hi len h) (h3 : bnd s mx cap m)
    (hmx : hi = none → mx = none) (hlh : l ≤ h) (hhm : h ≤ m) (hmc : m ≤ cap) :
    (Instr.sliceBounds isS len cap (lo.map a.eval) (hi.map a.eval) (mx.map a.eval)).run P w = .ok (l, h, m) w := by
  unfold Instr.sliceBounds
  cases lo with
  | none =>
    simp only [bnd] at h1
    subst h1
    cases hi with
    | none =>
      have := hmx rfl; subst this
      simp only [bnd] at h2 h3
      subst h2 h3
      simp
    | some hi =>
      obtain ⟨k2, i2, e2, rfl⟩ := h2
      cases mx with
      | none => simp only [bnd] at h3; subst h3; simp [r.evalv e2, sliceBound_run hhm]
      | some mx => obtain ⟨k3, i3, e3, rfl⟩ := h3; simp [r.evalv e2, r.evalv e3, sliceBound_run hmc, sliceBound_run hhm]
  | some lo =>
    obtain ⟨k1, i1, e1, rfl⟩ := h1
    cases hi with
    | none =>
      have := hmx rfl; subst this
      simp only [bnd] at h2 h3
      subst h2 h3
      simp [r.evalv e1, sliceBound_run hlh]
    | some hi =>
      obtain ⟨k2, i2, e2, rfl⟩ := h2
      cases mx with
      | none => simp only [bnd] at h3; subst h3; simp [r.evalv e1, r.evalv e2, sliceBound_run hhm, sliceBound_run hlh]
      | some mx => obtain ⟨k3, i3, e3, rfl⟩ := h3; simp [r.evalv e1, r.evalv e2, r.evalv e3, sliceBound_run hmc, sliceBound_run hhm, sliceBound_run hlh]

theorem VR.sub {H : GH} {b off cap sz : Nat} {es : List (List T)} (h : VR H (.slice (some ⟨b, off, none⟩) es.length cap) (.list sz es)) {l k c : Nat} (hlk : l + k ≤ es.length) (hc : k ≤ c) :
    VR H (.slice (some ⟨b, off + l * sz, none⟩) k c) (.list sz ((es.drop l).take k)) := by
  generalize hv : Value.slice (some ⟨b, off, none⟩) es.length cap = v at h
  cases h with
  | empty a cap sz =>
    have hk : k = 0 := by simp at hlk; omega
    subst hk
    simpa using VR.empty (H := H) (some ⟨b, off + l * sz, none⟩) c sz
  | list b' off' cap' sz es cs ty fr hb hcap hmax hsz hel h1 hvs =>
    simp only [Value.slice.injEq, Option.some.injEq, Addr.mk.injEq, and_true] at hv
    obtain ⟨⟨rfl, rfl⟩, _, _⟩ := hv
    have hlen : ((es.drop l).take k).length = k := by simp; omega
    have key : ∀ (i : Nat) (e : List T), ((es.drop l).take k)[i]? = some e → es[l + i]? = some e := by
      intro i e he
      have hi : i < k := by have := (List.getElem?_eq_some_iff.1 he).1; omega
      rwa [List.getElem?_take_of_lt hi, List.getElem?_drop] at he
    have hmul : (l + k) * sz ≤ es.length * sz := Nat.mul_le_mul_right _ hlk
    rw [Nat.add_mul] at hmul
    have := VR.list (H := H) b (off + l * sz) c sz ((es.drop l).take k) cs ty fr hb (by rw [hlen]; exact hc) (by rw [hlen]; exact Nat.le_trans (by omega) hmax) (by rw [hlen]; omega) (fun i e he => hel _ _ (key i e he))
      (fun i e he j x hx => by have := h1 _ _ (key i e he) j x hx; rwa [Nat.add_mul, ← Nat.add_assoc] at this)
      (fun i e he j x hx => by have := hvs _ _ (key i e he) j x hx; rwa [Nat.add_mul, ← Nat.add_assoc] at this)
    rwa [hlen] at this

/-- A part of a list. -/
theorem Yp.sliceL {t : TypeId} {x : Operand} {lo hi mx : Option Operand} {sz : Nat} {es : List (List T)} {ti ei : TI} {e : Nat} (l h m : Nat)
    (ht : E.tab t = some ti) (hk : ti.kind = .slice e) (he : E.tab e = some ei) (hsz : ei.size = sz) (hx : evalT s x = some (.list sz es))
    (h1 : bnd s lo 0 l) (h2 : bnd s hi es.length h) (h3 : ∀ cap, es.length ≤ cap → ∃ m', bnd s mx cap m' ∧ h ≤ m' ∧ m' ≤ cap) (hmx : hi = none → mx = none) (hlh : l ≤ h) (hh : h ≤ es.length) :
    Yp E.P n s ⟨dst, .slice t x lo hi mx, ty, pos, aft, g⟩ (.list sz ((es.drop l).take (h - l))) := by
  intro H A r
  have hv := r.eval hx
  have hu := und_slice (E.ok _ _ ht) hk
  generalize hvv : A.eval x = v at hv
  have hex : ∀ w, (execOp A.eval ⟨dst, .slice t x lo hi mx, ty, pos, aft, g⟩).run E.P w = ((Instr.sliceAt t v (lo.map A.eval) (hi.map A.eval) (mx.map A.eval)).run E.P w).andThen fun a w => .ok (.value a) w := by
    intro w
    simp only [execOp, hvv, Sem.run_bind]
    rfl
  cases hv with
  | empty a cap sz =>
    simp only [List.length_nil, Nat.le_zero] at hh
    subst hh
    simp only [List.length_nil] at h2
    have : l = 0 := by omega
    subst this
    obtain ⟨m', q1, q2, q3⟩ := h3 cap (by simp)
    refine ⟨.slice (if m' = 0 then a else a.map (·.add (0 * ei.size))) (0 - 0) (m' - 0), by simpa using VR.empty _ _ _, fun w => ?_⟩
    rw [hex]
    simp only [Instr.sliceAt, Instr.slice, Sem.run_bind, run_underlying hu, Result.andThen_ok, sliceBounds_run r h1 h2 q1 hmx hlh q2 q3, run_sizeOf_ti (E.ok _ _ he), Sem.run_pure]
  | list b off cap sz es cs ty fr hb hcap hmax hsz' hel hh1 hvs =>
    obtain ⟨m', q1, q2, q3⟩ := h3 cap hcap
    refine ⟨.slice (if m' = l then some ⟨b, off, none⟩ else (some (⟨b, off, none⟩ : Addr)).map (·.add (l * ei.size))) (h - l) (m' - l), ?_, fun w => ?_⟩
    · by_cases hml : m' = l
      · have : h - l = 0 := by omega
        rw [this]; simpa using VR.empty (H := H) _ _ _
      · rw [if_neg hml]
        simp only [Option.map_some, Addr.add_mk, hsz]
        exact VR.sub (.list b off cap sz es cs ty fr hb hcap hmax hsz' hel hh1 hvs) (by omega) (by omega)
    · rw [hex]
      simp only [Instr.sliceAt, Instr.slice, Sem.run_bind, run_underlying hu, Result.andThen_ok, sliceBounds_run r h1 h2 q1 hmx hlh q2 q3, run_sizeOf_ti (E.ok _ _ he), Sem.run_pure]

/-- A part of a slice of the call's own. -/
theorem Yp.sliceS {t : TypeId} {x : Operand} {lo hi mx : Option Operand} {b off len cap : Nat} {ti ei : TI} {e : Nat} (l h m : Nat)
    (ht : E.tab t = some ti) (hk : ti.kind = .slice e) (he : E.tab e = some ei) (hx : evalT s x = some (.v (.slice (some ⟨b, off, none⟩) len cap)))
    (h1 : bnd s lo 0 l) (h2 : bnd s hi len h) (h3 : bnd s mx cap m) (hmx : hi = none → mx = none) (hlh : l ≤ h) (hhm : h ≤ m) (hmc : m ≤ cap) :
    Yp E.P n s ⟨dst, .slice t x lo hi mx, ty, pos, aft, g⟩ (.v (.slice (if m = l then some ⟨b, off, none⟩ else some ⟨b, off + l * ei.size, none⟩) (h - l) (m - l))) := by
  intro H A r
  have hu := und_slice (E.ok _ _ ht) hk
  refine ⟨_, .v _, fun w => ?_⟩
  simp only [execOp, r.evalv hx, Instr.sliceAt, Instr.slice, Sem.run_bind, run_underlying hu, Result.andThen_ok, sliceBounds_run r h1 h2 h3 hmx hlh hhm hmc, run_sizeOf_ti (E.ok _ _ he), Sem.run_pure]
  by_cases hml : m = l <;> simp [hml, Addr.add_mk]

/-- A part of a string. -/
theorem Yp.sliceStr {t : TypeId} {x : Operand} {lo hi : Option Operand} {b : ByteArray} {ti : TI} (l h : Nat)
    (ht : E.tab t = some ti) (hk : ti.kind = .string) (hx : evalT s x = some (.v (.string b)))
    (h1 : bnd s lo 0 l) (h2 : bnd s hi b.size h) (hlh : l ≤ h) (hh : h ≤ b.size) :
    Yp E.P n s ⟨dst, .slice t x lo hi none, ty, pos, aft, g⟩ (.v (.string (b.extract l h))) := by
  intro H A r
  have hu := und_string (E.ok _ _ ht) hk
  have hb := fun w => sliceBounds_run (P := E.P) (w := w) r (isS := false) (len := b.size) (cap := b.size) (mx := none) h1 h2 (m := b.size) rfl (fun _ => rfl) hlh hh (Nat.le_refl _)
  simp only [Option.map_none] at hb
  refine ⟨_, .v _, fun w => ?_⟩
  simp [execOp, r.evalv hx, Instr.sliceAt, Instr.slice, run_underlying hu, hb]

theorem Yp.indexStr {t : TypeId} {x y : Operand} {b : ByteArray} {k : IntKind} {i : Int} {m : Nat} {ti : TI} (ht : E.tab t = some ti) (hk : ti.kind = .string) (hx : evalT s x = some (.v (.string b)))
    (hy : evalT s y = some (.v (.int k i))) (hi : i = (m : Int)) (hm : m < b.size) : Yp E.P n s ⟨dst, .index t x y, ty, pos, aft, g⟩ (.v (.int .u8 ((b.data.getD m 0).toNat : Int))) := by
  refine fun H A r => ⟨_, .v _, fun w => ?_⟩
  subst hi
  have hu := und_string (E.ok _ _ ht) hk
  have hm' : m < b.data.size := hm
  have : b[m]? = some (b.data.getD m 0) := by
    simp [getElem?_def, hm, Array.getD, hm']
    rfl
  simp [execOp, r.evalv hx, r.evalv hy, Instr.index, asIntOf, run_underlying hu, this]

end
end Go.Aw
