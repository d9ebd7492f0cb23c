/- Chains of plain steps, computed: one rule runs so many operations of a region. No condition. -/
import Derived.Test.YtncfbhnecmnfpaaGreatDoorBwEq
import Derived.KernelRfl
namespace Go.Aw
set_option linter.unusedVariables false
set_option linter.unusedSimpArgs false

/-- Two ints of the same kind. -/
def ints2 (s : Slots) (x y : Operand) : Option (IntKind × Int × IntKind × Int) :=
  match evalT s x with
  | some (.v (.int k a)) => match evalT s y with
    | some (.v (.int k' b)) => some (k, a, k', b)
    | _ => none
  | _ => none

def isI64 : IntKind → Bool
  | .i64 => true
  | _ => false

theorem isI64_ok {k : IntKind} (h : isI64 k = true) : k = .i64 := by cases k <;> first | rfl | cases h

/-- What a plain binary operation yields. -/
def binT (s : Slots) (op : BinOp) (x y : Operand) : Option T :=
  match ints2 s x y with
  | some (.i64, a, .i64, b) => match op with
    | .lss => some (.v (.bool (decide (a < b))))
    | .leq => some (.v (.bool (decide (a ≤ b))))
    | .gtr => some (.v (.bool (decide (a > b))))
    | .geq => some (.v (.bool (decide (a ≥ b))))
    | .eql => some (.v (.bool (a == b)))
    | .neq => some (.v (.bool (a != b)))
    | .add => some (.v (.int .i64 (wr (a + b))))
    | .sub => some (.v (.int .i64 (wr (a - b))))
    | .mul => some (.v (.int .i64 (wr (a * b))))
    | _ => none
  | _ => none

def fieldT (E : Env) (s : Slots) (t : TypeId) (x : Operand) (f : Nat) : Option T :=
  match E.tab t with
  | some ti => match ti.kind with
    | .struct fs => match fs[f]? with
      | some (off, ft) => match E.tab ft with
        | some fi => bif Nat.beq fi.size 0 then none else
          match evalT s x with
          | some (.v (.pointer (some ⟨b, o, none⟩))) => some (.v (.pointer (some ⟨b, o + off, none⟩)))
          | some (.eptr cs) => bif Nat.ble off cs.length then some (.eptr (cs.drop off)) else none
          | _ => none
        | none => none
      | none => none
    | _ => none
  | none => none

def callT (E : Env) (s : Slots) (c : Call) : Option T :=
  match c with
  | ⟨.builtin .min, ⟨[x, y]⟩, _⟩ => match ints2 s x y with
    | some (.i64, a, .i64, b) => some (.v (.int .i64 (min a b)))
    | _ => none
  | ⟨.builtin .max, ⟨[x, y]⟩, _⟩ => match ints2 s x y with
    | some (.i64, a, .i64, b) => some (.v (.int .i64 (max a b)))
    | _ => none
  | ⟨.builtin .len, ⟨[x]⟩, ⟨[t]⟩⟩ => match E.tab t with
    | some ti => match ti.kind with
      | .string => match evalT s x with
        | some (.v (.string b)) => some (.v (.int .i64 b.size))
        | _ => none
      | _ => none
    | none => none
  | _ => none

/-- What a pure operation yields. -/
def stepT (E : Env) (s : Slots) : Op → Option T
  | .move x => evalT s x
  | .assign x => evalT s x
  | .pick c a b => match evalT s c with
    | some (.v (.bool true)) => evalT s a
    | some (.v (.bool false)) => evalT s b
    | _ => none
  | .nilCheck x => match evalT s x with
    | some (.v (.pointer (some b))) => some (.v (.pointer (some b)))
    | some (.eptr cs) => some (.eptr cs)
    | _ => none
  | .extract x i => match evalT s x with
    | some (.tup l) => l[i]?
    | _ => none
  | .unOp .not _ x => match evalT s x with
    | some (.v (.bool b)) => some (.v (.bool (!b)))
    | _ => none
  | .unOp .neg _ x => match evalT s x with
    | some (.v (.int .i64 a)) => some (.v (.int .i64 (wr (0 - a))))
    | _ => none
  | .binOp op _ x y _ => binT s op x y
  | .fieldAddr t x f => fieldT E s t x f
  | .call c => callT E s c
  | _ => none

section
variable {E : Env} {n : Nat} {C : Ctx} {s : Slots} {ob : List Ob} {ops : Array Oper} {R : St → Prop} {dst : Option Tmp} {ty : TypeId} {pos : String} {aft : Array Edge} {g : Option (Nat × Bool)}

theorem ints2_ok {x y : Operand} {k k' : IntKind} {a b : Int} (h : ints2 s x y = some (k, a, k', b)) : evalT s x = some (.v (.int k a)) ∧ evalT s y = some (.v (.int k' b)) := by
  unfold ints2 at h
  split at h
  · rename_i h1
    split at h
    · rename_i h2
      cases h
      exact ⟨h1, h2⟩
    · cases h
  · cases h

theorem binT_ok {op : BinOp} {t t' : TypeId} {x y : Operand} {z : T} (h : binT s op x y = some z) : Yp E.P n s ⟨dst, .binOp op t x y t', ty, pos, aft, g⟩ z := by
  unfold binT at h
  split at h <;> first | cases h | skip
  rename_i hi
  obtain ⟨hx, hy⟩ := ints2_ok hi
  split at h <;> first | cases h | skip
  · exact Yp.cmpI hx hy rfl
  · exact Yp.cmpI hx hy rfl
  · exact Yp.cmpI hx hy rfl
  · exact Yp.cmpI hx hy rfl
  · exact Yp.cmpI hx hy rfl
  · exact Yp.cmpI hx hy rfl
  · exact Yp.binI hx hy rfl
  · exact Yp.binI hx hy rfl
  · exact Yp.binI hx hy rfl

theorem fieldT_ok {t : TypeId} {x : Operand} {f : Nat} {z : T} (h : fieldT E s t x f = some z) : Yp E.P n s ⟨dst, .fieldAddr t x f, ty, pos, aft, g⟩ z := by
  unfold fieldT at h
  split at h <;> first | cases h | skip
  rename_i ti ht
  split at h <;> first | cases h | skip
  rename_i fs hk
  split at h <;> first | cases h | skip
  rename_i off ft hf
  split at h <;> first | cases h | skip
  rename_i fi hft
  cases hz : Nat.beq fi.size 0 with
  | true => rw [hz] at h; cases h
  | false =>
    rw [hz, cond_false] at h
    split at h <;> first | cases h | skip
    · rename_i hx
      exact Yp.fieldPtr ht hk hf hft hz hx
    · rename_i cs hx
      cases hle : Nat.ble off cs.length with
      | true => rw [hle, cond_true] at h; cases h; exact Yp.fieldE ht hk hf hft hz hx hle
      | false => rw [hle] at h; cases h

theorem callT_ok {c : Call} {z : T} (h : callT E s c = some z) : Yp E.P n s ⟨dst, .call c, ty, pos, aft, g⟩ z := by
  unfold callT at h
  split at h <;> first | cases h | skip
  · split at h <;> first | cases h | skip
    rename_i hi
    obtain ⟨hx, hy⟩ := ints2_ok hi
    exact Yp.minI hx hy
  · split at h <;> first | cases h | skip
    rename_i hi
    obtain ⟨hx, hy⟩ := ints2_ok hi
    exact Yp.maxI hx hy
  · split at h <;> first | cases h | skip
    rename_i ti ht
    split at h <;> first | cases h | skip
    rename_i hk
    split at h <;> first | cases h | skip
    rename_i hx
    exact Yp.lenString ht hk hx

theorem stepT_ok {op : Op} {z : T} (h : stepT E s op = some z) : Yp E.P n s ⟨dst, op, ty, pos, aft, g⟩ z := by
  unfold stepT at h
  split at h <;> first | cases h | skip
  · exact Yp.move h
  · exact Yp.assign h
  · split at h <;> first | cases h | skip
    · rename_i hc; exact Yp.pickT hc h
    · rename_i hc; exact Yp.pickF hc h
  · split at h <;> first | cases h | skip
    · rename_i hx; exact Yp.nilCheckP hx
    · rename_i hx; exact Yp.nilCheckE hx
  · split at h <;> first | cases h | skip
    rename_i hx; exact Yp.extract hx h
  · split at h <;> first | cases h | skip
    rename_i hx; exact Yp.not hx
  · split at h <;> first | cases h | skip
    rename_i hx; exact Yp.neg hx rfl
  · exact binT_ok h
  · exact fieldT_ok h
  · exact callT_ok h
end

/-- A part of a row that is the whole of it or a single cell. -/
def partW (fi : TI) (cs : List T) (off : Nat) : Option T :=
  bif fi.isAgg then (bif Nat.beq off 0 && Nat.beq fi.size cs.length then some (.agg cs) else none) else cs[off]?

theorem partW_ok {fi : TI} {cs : List T} {off : Nat} {y : T} (h : partW fi cs off = some y) : partT fi cs off = some y := by
  unfold partW at h
  unfold partT
  cases ha : fi.isAgg with
  | false => rw [ha, cond_false] at h; rw [cond_false]; exact h
  | true =>
    rw [ha, cond_true] at h
    rw [cond_true]
    cases hb : (Nat.beq off 0 && Nat.beq fi.size cs.length) with
    | true => rw [hb, cond_true] at h; rw [cond_true]; exact h
    | false => rw [hb] at h; cases h

/-- What an operation yields that reads but needs no hint. -/
def stepR (E : Env) (s : Slots) : Op → Option T
  | .load t x => match evalT s x with
    | some (.eptr cs) => match E.tab t with
      | some fi => partW fi cs 0
      | none => none
    | _ => none
  | op => stepT E s op

/-- Hints: at operation i read own object k; or: at operation i the result is x. -/
inductive Hn where
  | o (i k : Nat)
  | f (i : Nat) (x : T)
  | l (i : Nat) (c : Int)
  | x (i : Nat) (m : Nat) (e : List T)
  | k (i : Nat) (c : Int)

def Hn.at : Hn → Nat
  | .o i _ => i
  | .f i _ => i
  | .l i _ => i
  | .x i _ _ => i
  | .k i _ => i

def loadH (E : Env) (s : Slots) (ob : List Ob) (k : Nat) : Op → Option (T × Prop)
  | .load t x => match evalT s x with
    | some (.v (.pointer (some ⟨b, off, none⟩))) => match ob[k]? with
      | some (.arr b' _ _ _ [e]) => match E.tab t with
        | some fi => match partW fi e off with
          | some y => some (y, b = b')
          | none => none
        | none => none
      | _ => none
    | _ => none
  | _ => none

def lenH (E : Env) (s : Slots) (c : Int) : Op → Option (T × Prop)
  | .call ⟨.builtin .len, ⟨[x]⟩, ⟨[t]⟩⟩ => match E.tab t with
    | some ti => match ti.kind with
      | .slice _ => match evalT s x with
        | some (.list _ es) => some (.v (.int .i64 c), (es.length : Int) = c)
        | _ => none
      | _ => none
    | none => none
  | _ => none

def idxH (E : Env) (s : Slots) (m : Nat) (e : List T) : Op → Option (T × Prop)
  | .indexAddr t x y => match E.tab t with
    | some ti => match ti.kind with
      | .slice el => match E.tab el with
        | some fi => match evalT s x with
          | some (.list sz es) => bif Nat.beq fi.size sz then
            (match evalT s y with
            | some (.v (.int _ i)) => some (.eptr e, i = (m : Int) ∧ es[m]? = some e)
            | _ => none) else none
          | _ => none
        | none => none
      | _ => none
    | none => none
  | _ => none

/-- What an operation yields, with a hint, and what is to be shown for it. -/
def stepH (E : Env) (n : Nat) (s : Slots) (ob : List Ob) (d : Nat) (o : Oper) : Hn → Option (T × Prop)
  | .o _ k => loadH E s ob k o.op
  | .f _ x => some (x, Yd E.P n s ob ⟨some d, o.op, o.type, o.pos, o.after, none⟩ x)
  | .l _ c => lenH E s c o.op
  | .x _ m e => idxH E s m e o.op
  | .k _ c => match stepT E s o.op with
    | some (.v (.int kk e)) => some (.v (.int kk c), e = c)
    | _ => none

section
variable {E : Env} {n : Nat} {C : Ctx} {s : Slots} {ob : List Ob} {ops : Array Oper} {R : St → Prop} {dst : Option Tmp} {ty : TypeId} {pos : String} {aft : Array Edge} {g : Option (Nat × Bool)}

theorem stepR_ok {op : Op} {z : T} (h : stepR E s op = some z) : Yd E.P n s ob ⟨dst, op, ty, pos, aft, g⟩ z := by
  unfold stepR at h
  split at h
  · split at h <;> first | cases h | skip
    rename_i hx
    split at h <;> first | cases h | skip
    rename_i ht
    exact Yd.loadE ht hx (partW_ok h)
  · exact (stepT_ok h).yd

theorem stepH_ok {d : Nat} {o : Oper} {hn : Hn} {z : T} {p : Prop} (h : stepH E n s ob d o hn = some (z, p)) (hp : p) : Yd E.P n s ob ⟨some d, o.op, o.type, o.pos, o.after, none⟩ z := by
  unfold stepH at h
  split at h
  · unfold loadH at h
    split at h <;> first | cases h | skip
    rename_i ho
    split at h <;> first | cases h | skip
    rename_i hx
    split at h <;> first | cases h | skip
    rename_i hk
    split at h <;> first | cases h | skip
    rename_i ht
    split at h <;> first | cases h | skip
    rename_i hy
    subst hp
    rw [ho]
    exact Yd.loadO _ 0 _ ht hx hk rfl (by omega) (partW_ok hy)
  · cases h; exact hp
  · unfold lenH at h
    split at h <;> first | cases h | skip
    rename_i ho
    split at h <;> first | cases h | skip
    rename_i ht
    split at h <;> first | cases h | skip
    rename_i hk
    split at h <;> first | cases h | skip
    rename_i hx
    subst hp
    rw [ho]
    exact (Yp.lenList ht hk hx).yd
  · unfold idxH at h
    split at h <;> first | cases h | skip
    rename_i ho
    split at h <;> first | cases h | skip
    rename_i ht
    split at h <;> first | cases h | skip
    rename_i hk
    split at h <;> first | cases h | skip
    split at h <;> first | cases h | skip
    rename_i fi hel _ sz es hx
    cases hb : Nat.beq fi.size sz with
    | false => rw [hb] at h; cases h
    | true =>
      rw [hb, cond_true] at h
      split at h <;> first | cases h | skip
      rename_i hy
      rw [ho]
      exact (Yp.indexE ht hk hel (Nat.eq_of_beq_eq_true hb) hx hy hp.1 hp.2).yd
  · split at h <;> first | cases h | skip
    rename_i hx
    subst hp
    exact (stepT_ok hx).yd
end

/-- Whether an operation is carried out. -/
def guardT (ops : Array Oper) (s : Slots) : Option (Nat × Bool) → Option Bool
  | none => some true
  | some (j, want) => match ops[j]? with
    | some o => match o.dst with
      | some t => match get s t with
        | some (.v (.bool true)) => some want
        | some (.v (.bool false)) => some (!want)
        | _ => none
      | none => none
    | none => none

/-- Operations in the order of the text. -/
def runO (E : Env) (n : Nat) (ops : Array Oper) (ob : List Ob) : Nat → Nat → List Oper → Slots → List Hn → Prop → Option (Prop × List Oper × Slots)
  | 0, _, l, s, _, p => some (p, l, s)
  | _ + 1, _, [], _, _, _ => none
  | m + 1, i, o :: l, s, hs, p => match o.dst with
    | none => none
    | some d => bif Nat.blt d n then
      (match guardT ops s o.guard with
      | none => none
      | some false => runO E n ops ob m (i + 1) l ((d, .v undef) :: s) hs p
      | some true => match hs with
        | [] => match stepR E s o.op with
          | some x => runO E n ops ob m (i + 1) l ((d, x) :: s) [] p
          | none => none
        | h :: hs => bif Nat.beq h.at i then
            (match stepH E n s ob d o h with
            | some (x, q) => runO E n ops ob m (i + 1) l ((d, x) :: s) hs (q ∧ p)
            | none => none)
          else
            (match stepR E s o.op with
            | some x => runO E n ops ob m (i + 1) l ((d, x) :: s) (h :: hs) p
            | none => none)) else none

section
variable {E : Env} {n : Nat} {C : Ctx} {s : Slots} {ob : List Ob} {ops : Array Oper} {R : St → Prop}

theorem guardT_ok {j : Nat} {want v : Bool} (h : guardT ops s (some (j, want)) = some v) : ∃ t b, (ops[j]?).bind (·.dst) = some t ∧ get s t = some (.v (.bool b)) ∧ (v = true → b = want) ∧ (v = false → b = !want) := by
  simp only [guardT] at h
  split at h
  · rename_i o ho
    split at h
    · rename_i t hd
      have hj : (ops[j]?).bind (·.dst) = some t := by rw [ho]; exact hd
      split at h
      · rename_i hs
        cases h
        exact ⟨t, true, hj, hs, by cases want <;> simp, by cases want <;> simp⟩
      · rename_i hs
        cases h
        exact ⟨t, false, hj, hs, by cases want <;> simp, by cases want <;> simp⟩
      · cases h
    · cases h
  · cases h

theorem AO.go1 {d : Nat} {o : Oper} {l : List Oper} {x : T} (hg : guardT ops s o.guard = some true) (hdst : o.dst = some d) (hy : Yd E.P n s ob ⟨some d, o.op, o.type, o.pos, o.after, none⟩ x) (hd : Nat.blt d n = true)
    (k : AO E n C ops l ⟨(d, x) :: s, ob⟩ R) : AO E n C ops (o :: l) ⟨s, ob⟩ R := by
  obtain ⟨dst, op, ty, pos, aft, g⟩ := o
  cases hdst
  cases g with
  | none => exact AO.d hy hd k
  | some g =>
    obtain ⟨j, want⟩ := g
    obtain ⟨t, b, h1, h2, h3, _⟩ := guardT_ok hg
    have := h3 rfl
    exact AO.guard h1 h2 (dst_some hd) (fun _ => AO.d hy hd k) (fun h => by rw [this] at h; cases want <;> cases h)

theorem AO.go0 {d : Nat} {o : Oper} {l : List Oper} (hg : guardT ops s o.guard = some false) (hdst : o.dst = some d) (hd : Nat.blt d n = true)
    (k : AO E n C ops l ⟨(d, .v undef) :: s, ob⟩ R) : AO E n C ops (o :: l) ⟨s, ob⟩ R := by
  obtain ⟨dst, op, ty, pos, aft, g⟩ := o
  cases hdst
  cases g with
  | none => cases hg
  | some g =>
    obtain ⟨j, want⟩ := g
    obtain ⟨t, b, h1, h2, _, h3⟩ := guardT_ok hg
    have := h3 rfl
    exact AO.guard h1 h2 (dst_some hd) (fun h => by rw [this] at h; cases want <;> cases h) (fun _ => k)

theorem runO_ok : ∀ (m i : Nat) (l : List Oper) (s : Slots) (hs : List Hn) (p : Prop) {P : Prop} {l' : List Oper} {s' : Slots}, runO E n ops ob m i l s hs p = some (P, l', s') → P →
    p ∧ (AO E n C ops l' ⟨s', ob⟩ R → AO E n C ops l ⟨s, ob⟩ R)
  | 0, i, l, s, hs, p, P, l', s', h, hP => by cases h; exact ⟨hP, id⟩
  | m + 1, i, [], s, hs, p, P, l', s', h, hP => by cases h
  | m + 1, i, o :: l, s, hs, p, P, l', s', h, hP => by
    simp only [runO] at h
    split at h
    · cases h
    · rename_i d hdst
      cases hd : Nat.blt d n with
      | false => rw [hd] at h; cases h
      | true =>
        rw [hd, cond_true] at h
        split at h
        · cases h
        · rename_i hg
          obtain ⟨h1, h2⟩ := runO_ok m (i + 1) l _ hs p h hP
          exact ⟨h1, fun k => AO.go0 hg hdst hd (h2 k)⟩
        · rename_i hg
          split at h
          · split at h
            · rename_i x hx
              obtain ⟨h1, h2⟩ := runO_ok m (i + 1) l _ _ p h hP
              exact ⟨h1, fun k => AO.go1 hg hdst (stepR_ok hx) hd (h2 k)⟩
            · cases h
          · rename_i hn hs
            cases hb : Nat.beq hn.at i with
            | true =>
              rw [hb, cond_true] at h
              split at h
              · rename_i x q hx
                obtain ⟨h1, h2⟩ := runO_ok m (i + 1) l _ _ _ h hP
                exact ⟨h1.2, fun k => AO.go1 hg hdst (stepH_ok hx h1.1) hd (h2 k)⟩
              · cases h
            | false =>
              rw [hb, cond_false] at h
              split at h
              · rename_i x hx
                obtain ⟨h1, h2⟩ := runO_ok m (i + 1) l _ _ p h hP
                exact ⟨h1, fun k => AO.go1 hg hdst (stepR_ok hx) hd (h2 k)⟩
              · cases h

theorem bz : (∀ b, (true && b) = b) ∧ (∀ b, (false && b) = false) ∧ (∀ b, (true || b) = true) ∧ (∀ b, (false || b) = b) ∧ (!true) = false ∧ (!false) = true ∧ (∀ a b : Bool, cond true a b = a) ∧ (∀ a b : Bool, cond false a b = b) := by simp

theorem len_m {α : Type} {f : α → List T} {l : List α} : ((l.map f).length : Int) = (l.length : Int) := by rw [List.length_map]

/-- So many operations at once, without hints. -/
theorem AO.q (m : Nat) {l l' : List Oper} {s' : Slots} (h : runO E n ops ob m 0 l s [] True = some (True, l', s')) (k : AO E n C ops l' ⟨s', ob⟩ R) : AO E n C ops l ⟨s, ob⟩ R :=
  (runO_ok m 0 l s [] True h trivial).2 k

/-- A whole region, and on. -/
theorem AW.z {id : Nat} {y : Code} {Q : Exit → St → Prop} {s' : Slots} (h : runO E n ops ob ops.size 0 ops.toList s [] True = some (True, [], s')) (k : AW E n C y ⟨s', ob⟩ Q) : AW E n C (.seq (.region id ops false) y) ⟨s, ob⟩ Q :=
  AW.seq (AW.region ((runO_ok _ 0 _ s [] True h trivial).2 (AO.nil k)))
theorem AW.zr {id : Nat} {y : Code} {Q : Exit → St → Prop} {s' : Slots} {P : Prop} (hs : List Hn) (h : runO E n ops ob ops.size 0 ops.toList s hs True = some (P, [], s')) (hP : P) (k : AW E n C y ⟨s', ob⟩ Q) :
    AW E n C (.seq (.region id ops false) y) ⟨s, ob⟩ Q :=
  AW.seq (AW.region ((runO_ok _ 0 _ s hs True h hP).2 (AO.nil k)))
/-- A whole region at an end. -/
theorem AW.t {id : Nat} {Q : Exit → St → Prop} {s' : Slots} (h : runO E n ops ob ops.size 0 ops.toList s [] True = some (True, [], s')) (k : Q .normal ⟨s', ob⟩) : AW E n C (.region id ops false) ⟨s, ob⟩ Q :=
  AW.region ((runO_ok _ 0 _ s [] True h trivial).2 (AO.nil k))
theorem AW.tr {id : Nat} {Q : Exit → St → Prop} {s' : Slots} {P : Prop} (hs : List Hn) (h : runO E n ops ob ops.size 0 ops.toList s hs True = some (P, [], s')) (hP : P) (k : Q .normal ⟨s', ob⟩) :
    AW E n C (.region id ops false) ⟨s, ob⟩ Q :=
  AW.region ((runO_ok _ 0 _ s hs True h hP).2 (AO.nil k))

/-- So many operations at once. -/
theorem AO.r (m : Nat) (hs : List Hn) {l l' : List Oper} {s' : Slots} {P : Prop} (h : runO E n ops ob m 0 l s hs True = some (P, l', s')) (hP : P) (k : AO E n C ops l' ⟨s', ob⟩ R) : AO E n C ops l ⟨s, ob⟩ R :=
  (runO_ok m 0 l s hs True h hP).2 k

/-- A step of a plan: at the slots as they were at the region's beginning, or else at those that are known by now. -/
def stepO (E : Env) (so s : Slots) (d : Nat) (op : Op) : Option (T × Bool) :=
  match (match op with
    | .pick .. => none
    | op => stepR E so op) with
  | some x => some (x, true)
  | none => match stepT E s op with
    | some x => bif free so (some d) then some (x, false) else none
    | none => none

def putB (b : Bool) (so : Slots) (d : Nat) (x : T) : Slots := bif b then (d, x) :: so else so

/-- Plans in the order of the text: which operations act. -/
def pd : Nat → Nat → List Nat → PL
  | 0, _, _ => .nil
  | m + 1, i, a => bif a.contains i then .act i (pd m (i + 1) a) else .still i (pd m (i + 1) a)

/-- Steps of a plan. -/
def runP (E : Env) (n : Nat) (ops : Array Oper) (pobjs : List Ob) : Nat → Nat → PL → Slots → Slots → List Hn → Prop → Option (Prop × PL × Slots × Slots)
  | 0, _, l, so, s, _, p => some (p, l, so, s)
  | m + 1, i, .still j l, so, s, hs, p => match ops[j]? with
    | none => none
    | some o => match o.dst with
      | none => none
      | some d => bif Nat.blt d n then
        (match guardT ops s o.guard with
        | none => none
        | some false => bif free so (some d) then runP E n ops pobjs m (i + 1) l so ((d, .v undef) :: s) hs p else none
        | some true => match hs with
          | [] => match stepO E so s d o.op with
            | some (x, b) => runP E n ops pobjs m (i + 1) l (putB b so d x) ((d, x) :: s) [] p
            | none => none
          | h :: hs => bif Nat.beq h.at i then
              (match stepH E n so pobjs d o h with
              | some (x, q) => runP E n ops pobjs m (i + 1) l ((d, x) :: so) ((d, x) :: s) hs (q ∧ p)
              | none => none)
            else
              (match stepO E so s d o.op with
              | some (x, b) => runP E n ops pobjs m (i + 1) l (putB b so d x) ((d, x) :: s) (h :: hs) p
              | none => none)) else none
  | m + 1, i, .act j l, so, s, hs, p => match ops[j]? with
    | none => none
    | some o => match o.dst with
      | none => none
      | some d => bif Nat.blt d n && free so (some d) then
        (match guardT ops s o.guard with
        | some false => runP E n ops pobjs m (i + 1) l so ((d, .v undef) :: s) hs p
        | _ => none) else none
  | _ + 1, _, _, _, _, _, _ => none

section
variable {prot : List Nat} {pobjs : List Ob} {so : Slots}

theorem AP.goOld {j d : Nat} {o : Oper} {l : PL} {x : T} (ho : ops[j]? = some o) (hg : guardT ops s o.guard = some true) (hdst : o.dst = some d)
    (hy : Yd E.P n so pobjs ⟨some d, o.op, o.type, o.pos, o.after, none⟩ x) (hd : Nat.blt d n = true)
    (k : AP E n C ops prot pobjs l ((d, x) :: so) ⟨(d, x) :: s, ob⟩ R) : AP E n C ops prot pobjs (.still j l) so ⟨s, ob⟩ R := by
  obtain ⟨dst, op, ty, pos, aft, g⟩ := o
  cases hdst
  cases g with
  | none => exact AP.old ho hy rfl (dst_some hd) k
  | some g =>
    obtain ⟨i, want⟩ := g
    obtain ⟨t, b, h1, h2, h3, _⟩ := guardT_ok hg
    exact AP.oldG ho h1 h2 (h3 rfl) hy (dst_some hd) k

theorem AP.goNew {j d : Nat} {o : Oper} {l : PL} {x : T} (ho : ops[j]? = some o) (hg : guardT ops s o.guard = some true) (hdst : o.dst = some d)
    (hy : Yp E.P n s ⟨some d, o.op, o.type, o.pos, o.after, none⟩ x) (hd : Nat.blt d n = true) (hf : free so (some d) = true)
    (k : AP E n C ops prot pobjs l so ⟨(d, x) :: s, ob⟩ R) : AP E n C ops prot pobjs (.still j l) so ⟨s, ob⟩ R := by
  obtain ⟨dst, op, ty, pos, aft, g⟩ := o
  cases hdst
  cases g with
  | none => exact AP.new ho hy rfl (dst_some hd) k hf
  | some g =>
    obtain ⟨i, want⟩ := g
    obtain ⟨t, b, h1, h2, h3, _⟩ := guardT_ok hg
    exact AP.newG ho h1 h2 (h3 rfl) hy (dst_some hd) k hf

theorem AP.goSkip {j d : Nat} {o : Oper} {l : PL} (ho : ops[j]? = some o) (hg : guardT ops s o.guard = some false) (hdst : o.dst = some d) (hd : Nat.blt d n = true) (hf : free so (some d) = true)
    (k : AP E n C ops prot pobjs l so ⟨(d, .v undef) :: s, ob⟩ R) : AP E n C ops prot pobjs (.still j l) so ⟨s, ob⟩ R ∧ AP E n C ops prot pobjs (.act j l) so ⟨s, ob⟩ R := by
  obtain ⟨dst, op, ty, pos, aft, g⟩ := o
  cases hdst
  cases g with
  | none => cases hg
  | some g =>
    obtain ⟨i, want⟩ := g
    obtain ⟨t, b, h1, h2, _, h3⟩ := guardT_ok hg
    exact ⟨AP.skip ho rfl h1 h2 (h3 rfl) (dst_some hd) k hf, AP.skipA ho rfl h1 h2 (h3 rfl) (dst_some hd) k hf⟩

theorem AP.goStep {j d : Nat} {o : Oper} {l : PL} {x : T} {b : Bool} (ho : ops[j]? = some o) (hg : guardT ops s o.guard = some true) (hdst : o.dst = some d) (hd : Nat.blt d n = true)
    (hx : stepO E so s d o.op = some (x, b)) (k : AP E n C ops prot pobjs l (putB b so d x) ⟨(d, x) :: s, ob⟩ R) : AP E n C ops prot pobjs (.still j l) so ⟨s, ob⟩ R := by
  unfold stepO at hx
  split at hx
  · rename_i h
    cases hx
    split at h
    · cases h
    · exact AP.goOld ho hg hdst (stepR_ok h) hd k
  · split at hx
    · rename_i h
      cases hf : free so (some d) with
      | false => rw [hf] at hx; cases hx
      | true =>
        rw [hf, cond_true] at hx
        cases hx
        exact AP.goNew ho hg hdst (stepT_ok h) hd hf k
    · cases hx

theorem runP_ok : ∀ (m i : Nat) (l : PL) (so s : Slots) (hs : List Hn) (p : Prop) {P : Prop} {l' : PL} {so' s' : Slots}, runP E n ops pobjs m i l so s hs p = some (P, l', so', s') → P →
    p ∧ (AP E n C ops prot pobjs l' so' ⟨s', ob⟩ R → AP E n C ops prot pobjs l so ⟨s, ob⟩ R)
  | 0, i, l, so, s, hs, p, P, l', so', s', h, hP => by
    cases l <;> (simp only [runP] at h; cases h; exact ⟨hP, id⟩)
  | m + 1, i, .still j l, so, s, hs, p, P, l', so', s', h, hP => by
    simp only [runP] at h
    split at h
    · cases h
    · rename_i o ho
      split at h
      · cases h
      · rename_i d hdst
        cases hd : Nat.blt d n with
        | false => rw [hd] at h; cases h
        | true =>
          rw [hd, cond_true] at h
          split at h
          · cases h
          · rename_i hg
            cases hf : free so (some d) with
            | false => rw [hf] at h; cases h
            | true =>
              rw [hf, cond_true] at h
              obtain ⟨h1, h2⟩ := runP_ok m (i + 1) l so _ hs p h hP
              exact ⟨h1, fun k => (AP.goSkip ho hg hdst hd hf (h2 k)).1⟩
          · rename_i hg
            split at h
            · split at h
              · rename_i x b hx
                obtain ⟨h1, h2⟩ := runP_ok m (i + 1) l _ _ _ p h hP
                exact ⟨h1, fun k => AP.goStep ho hg hdst hd hx (h2 k)⟩
              · cases h
            · rename_i hn hs
              cases hb : Nat.beq hn.at i with
              | true =>
                rw [hb, cond_true] at h
                split at h
                · rename_i x q hx
                  obtain ⟨h1, h2⟩ := runP_ok m (i + 1) l _ _ _ _ h hP
                  exact ⟨h1.2, fun k => AP.goOld ho hg hdst (stepH_ok hx h1.1) hd (h2 k)⟩
                · cases h
              | false =>
                rw [hb, cond_false] at h
                split at h
                · rename_i x b hx
                  obtain ⟨h1, h2⟩ := runP_ok m (i + 1) l _ _ _ p h hP
                  exact ⟨h1, fun k => AP.goStep ho hg hdst hd hx (h2 k)⟩
                · cases h
  | m + 1, i, .act j l, so, s, hs, p, P, l', so', s', h, hP => by
    simp only [runP] at h
    split at h
    · cases h
    · rename_i o ho
      split at h
      · cases h
      · rename_i d hdst
        cases hd : Nat.blt d n with
        | false => rw [hd] at h; cases h
        | true =>
          cases hf : free so (some d) with
          | false => rw [hd, hf] at h; cases h
          | true =>
            rw [hd, hf] at h
            simp only [Bool.and_true, cond_true] at h
            split at h
            · rename_i hg
              obtain ⟨h1, h2⟩ := runP_ok m (i + 1) l so _ hs p h hP
              exact ⟨h1, fun k => (AP.goSkip ho hg hdst hd hf (h2 k)).2⟩
            · cases h
  | m + 1, i, .nil, so, s, hs, p, P, l', so', s', h, hP => by simp [runP] at h
  | m + 1, i, .two .., so, s, hs, p, P, l', so', s', h, hP => by simp [runP] at h
  | m + 1, i, .three .., so, s, hs, p, P, l', so', s', h, hP => by simp [runP] at h
  | m + 1, i, .four .., so, s, hs, p, P, l', so', s', h, hP => by simp [runP] at h
  | m + 1, i, .five .., so, s, hs, p, P, l', so', s', h, hP => by simp [runP] at h
  | m + 1, i, .par .., so, s, hs, p, P, l', so', s', h, hP => by simp [runP] at h
  | m + 1, i, .drop .., so, s, hs, p, P, l', so', s', h, hP => by simp [runP] at h

theorem AP.q (m : Nat) {l l' : PL} {so' s' : Slots} (h : runP E n ops pobjs m 0 l so s [] True = some (True, l', so', s')) (k : AP E n C ops prot pobjs l' so' ⟨s', ob⟩ R) :
    AP E n C ops prot pobjs l so ⟨s, ob⟩ R :=
  (runP_ok m 0 l so s [] True h trivial).2 k
/-- So many steps of a plan at once. -/
theorem AP.r (m : Nat) (hs : List Hn) {l l' : PL} {so' s' : Slots} {P : Prop} (h : runP E n ops pobjs m 0 l so s hs True = some (P, l', so', s')) (hP : P) (k : AP E n C ops prot pobjs l' so' ⟨s', ob⟩ R) :
    AP E n C ops prot pobjs l so ⟨s, ob⟩ R :=
  (runP_ok m 0 l so s hs True h hP).2 k

/-- A call whose value has no own parts. -/
theorem AX.cl {d : Nat} {c : Operand} {args : Array Operand} {tys : Array TypeId} {ty : TypeId} {pos : String} {aft : Array Edge} {f : FuncId} {xs pre suf ys : List T} {y X : T}
    (h : ACalls E f ys [] (fun x new => x = X ∧ new = [])) (k : R ⟨(d, X) :: s, ob⟩)
    (hc : evalT s c = some y) (hf : fnT y = some (f, pre, suf)) (hx : evalL s args.toList = some xs) (hys : pre ++ xs ++ suf = ys)
    (hd : Nat.blt d n = true) (hfl : flatT X = true) :
    AX E n C [] ⟨some d, .call { callee := .value c, args := args, argTypes := tys }, ty, pos, aft, none⟩ ⟨s, ob⟩ R :=
  AX.callL hc (.refl _) hf hx (.rest _) hys h (dst_some hd) (fun _ _ h => by rw [h.1]; exact hfl) (fun x h => by obtain ⟨_, rfl, _⟩ := h; exact k)
theorem AO.c {d : Nat} {c : Operand} {args : Array Operand} {tys : Array TypeId} {ty : TypeId} {pos : String} {aft : Array Edge} {f : FuncId} {xs pre suf ys : List T} {y X : T} {l : List Oper}
    (h : ACalls E f ys [] (fun x new => x = X ∧ new = [])) (k : AO E n C ops l ⟨(d, X) :: s, ob⟩ R)
    (hc : evalT s c = some y := by exact rfl) (hf : fnT y = some (f, pre, suf) := by exact rfl) (hx : evalL s args.toList = some xs := by exact rfl) (hys : pre ++ xs ++ suf = ys := by exact rfl)
    (hd : Nat.blt d n = true := by exact rfl) (hfl : flatT X = true := by exact rfl) :
    AO E n C ops (⟨some d, .call { callee := .value c, args := args, argTypes := tys }, ty, pos, aft, none⟩ :: l) ⟨s, ob⟩ R :=
  AO.act [] rfl (AX.cl h k hc hf hx hys hd hfl)
theorem AP.c {i d : Nat} {c : Operand} {args : Array Operand} {tys : Array TypeId} {ty : TypeId} {pos : String} {aft : Array Edge} {f : FuncId} {xs pre suf ys : List T} {y X : T} {l : PL}
    (ho : ops[i]? = some ⟨some d, .call { callee := .value c, args := args, argTypes := tys }, ty, pos, aft, none⟩) (h : ACalls E f ys [] (fun x new => x = X ∧ new = [])) (k : AP E n C ops prot pobjs l so ⟨(d, X) :: s, ob⟩ R)
    (hc : evalT s c = some y := by exact rfl) (hf : fnT y = some (f, pre, suf) := by exact rfl) (hx : evalL s args.toList = some xs := by exact rfl) (hys : pre ++ xs ++ suf = ys := by exact rfl)
    (hd : Nat.blt d n = true := by exact rfl) (hfl : flatT X = true := by exact rfl) (hfr : free so (some d) = true := by exact rfl) :
    AP E n C ops prot pobjs (.act i l) so ⟨s, ob⟩ R :=
  AP.act [] ho rfl (by simp) (AX.cl h k hc hf hx hys hd hfl) hfr
theorem AP.cG {i d j t : Nat} {want b : Bool} {c : Operand} {args : Array Operand} {tys : Array TypeId} {ty : TypeId} {pos : String} {aft : Array Edge} {f : FuncId} {xs pre suf ys : List T} {y X : T} {l : PL}
    (ho : ops[i]? = some ⟨some d, .call { callee := .value c, args := args, argTypes := tys }, ty, pos, aft, some (j, want)⟩) (h : ACalls E f ys [] (fun x new => x = X ∧ new = [])) (k : AP E n C ops prot pobjs l so ⟨(d, X) :: s, ob⟩ R)
    (hj : (ops[j]?).bind (·.dst) = some t := by exact rfl) (hs : get s t = some (.v (.bool b)) := by exact rfl) (hb : b = want := by exact rfl)
    (hc : evalT s c = some y := by exact rfl) (hf : fnT y = some (f, pre, suf) := by exact rfl) (hx : evalL s args.toList = some xs := by exact rfl) (hys : pre ++ xs ++ suf = ys := by exact rfl)
    (hd : Nat.blt d n = true := by exact rfl) (hfl : flatT X = true := by exact rfl) (hfr : free so (some d) = true := by exact rfl) :
    AP E n C ops prot pobjs (.act i l) so ⟨s, ob⟩ R :=
  AP.actG [] ho hj hs hb (by simp) (AX.cl h k hc hf hx hys hd hfl) hfr
end

/-- A whole drawn region, and on. -/
theorem AW.dz {id : Nat} {y : Code} {Q : Exit → St → Prop} {s' so' : Slots} {P : Prop} (pl : PL) (prot : List Nat) (pobjs : List Ob) (hs : List Hn) (hp : prot.map (fun i => ob[i]?) = pobjs.map some)
    (h : runP E n ops pobjs ops.size 0 pl s s hs True = some (P, .nil, so', s')) (hP : P) (k : AW E n C y ⟨s', ob⟩ Q) (hB : planB ops pl = true := by kernel_rfl) :
    AW E n C (.seq (.region id ops true) y) ⟨s, ob⟩ Q :=
  AW.seq (AW.regionD pl prot pobjs hB hp ((runP_ok _ 0 pl s s hs True h hP).2 (AP.nil k)))
theorem AW.dt {id : Nat} {Q : Exit → St → Prop} {s' so' : Slots} {P : Prop} (pl : PL) (prot : List Nat) (pobjs : List Ob) (hs : List Hn) (hp : prot.map (fun i => ob[i]?) = pobjs.map some)
    (h : runP E n ops pobjs ops.size 0 pl s s hs True = some (P, .nil, so', s')) (hP : P) (k : Q .normal ⟨s', ob⟩) (hB : planB ops pl = true := by kernel_rfl) :
    AW E n C (.region id ops true) ⟨s, ob⟩ Q :=
  AW.regionD pl prot pobjs hB hp ((runP_ok _ 0 pl s s hs True h hP).2 (AP.nil k))
/-- A drawn region. -/
theorem AW.rd {id : Nat} {Q : Exit → St → Prop} (pl : PL) (prot : List Nat) (pobjs : List Ob) (hp : prot.map (fun i => ob[i]?) = pobjs.map some)
    (h : AP E n C ops prot pobjs pl s ⟨s, ob⟩ (fun σ' => Q .normal σ')) (hB : planB ops pl = true := by kernel_rfl) : AW E n C (.region id ops true) ⟨s, ob⟩ Q := AW.regionD pl prot pobjs hB hp h

/-- What is left at the end of a piece of code. -/
theorem lf {M : Slots → List Ob → Prop} {kp s' : Slots} {ob' : List Ob} (hM : M s' ob') (hs : Sub (s' ++ kp) s) (ks : List Nat) (hk : pickAll ob ks = some ob') (hn : ks.Nodup := by decide) :
    ∃ s' ob', M s' ob' ∧ Left (s' ++ kp) ob' ⟨s, ob⟩ := ⟨_, _, hM, hs, ks, hk, hn⟩
theorem subI {s : Slots} : ∀ {l : Slots}, l.map (fun p => get s p.1) = l.map (fun p => some p.2) → Sub l s
  | [], _ => trivial
  | (i, x) :: l, h => by
    simp only [List.map_cons, List.cons.injEq] at h
    exact ⟨h.1, subI h.2⟩
theorem lg {M : Slots → List Ob → Prop} {kp s' : Slots} {ob' : List Ob} (hM : M s' ob') (ks : List Nat) (hs : (s' ++ kp).map (fun p => get s p.1) = (s' ++ kp).map (fun p => some p.2) := by exact rfl)
    (hk : pickAll ob ks = some ob' := by exact rfl) (hn : ks.Nodup := by decide) :
    ∃ s' ob', M s' ob' ∧ Left (s' ++ kp) ob' ⟨s, ob⟩ := ⟨_, _, hM, subI hs, ks, hk, hn⟩
/-- A condition, with what the pure function does there. -/
theorem AW.ch {t : Nat} {x y : Code} {Q : Exit → St → Prop} {b : Bool} {α : Type} {A B r : α} (h : (if b = true then A else B) = r) (hs : get s t = some (.v (.bool b)))
    (h1 : b = true → A = r → AW E n C x ⟨s, ob⟩ Q) (h2 : b = false → B = r → AW E n C y ⟨s, ob⟩ Q) : AW E n C (.cond (.tmp t) x y) ⟨s, ob⟩ Q :=
  AW.cond rfl hs (fun hb => h1 hb (ife_t hb h)) (fun hb => h2 hb (ife_f hb h))
section
variable {σ : St} {dst : Option Tmp} {ty : TypeId} {pos : String} {aft : Array Edge} {g : Option (Nat × Bool)}
theorem AX.lt {d : Nat} {t : TypeId} {m : Nat} {parts : Array (Nat × Operand)} {ti ei : TI} {e : Nat} {z : Value} {l : List T} (sz : Nat) (es : List (List T)) (k : R ⟨(d, .list sz es) :: s, ob⟩)
    (ht : E.tab t = some ti := by exact rfl) (hk : ti.kind = .slice e := by exact rfl) (he : E.tab e = some ei := by exact rfl) (hz : ei.zero = some z := by exact rfl) (h1 : z.cells.toList.all (·.oneCell') = true := by exact rfl)
    (hsz : ei.size = sz := by exact rfl) (hzs : z.cells.size = sz := by exact rfl) (hb : Nat.ble (m * sz) 16777216 = true := by exact rfl)
    (hm : Nat.ble m 16777216 = true := by exact rfl) (hf : fillT s (fun i => some (i * sz, sz)) (repT (zeroT z) m) parts.toList = some l := by exact rfl) (hr : rows sz m l = es := by exact rfl) (hd : Nat.blt d n = true := by exact rfl) :
    AX E n C [] ⟨some d, .buildSlice t m parts, ty, pos, aft, g⟩ ⟨s, ob⟩ R := AX.litF ht hk he hz h1 hsz hzs hb hm hf hr (dst_some hd) k
theorem AX.cg (ks : List Nat) {d : Nat} {c : Operand} {args : Array Operand} {tys : Array TypeId} {f : FuncId} {pre suf xs ys : List T} {fp : List Ob} {Rc : T → List Ob → List Ob → Prop} {R : St → Prop}
    (h : ACalls E f ys fp (fun x fp' => ∃ os new, fp' = os ++ new ∧ os.length = fp.length ∧ Rc x os new)) (k : ∀ x os new, os.length = fp.length → Rc x os new → R ⟨putS σ.slots (some d) x, setAll σ.objs ks os ++ new⟩)
    (hc : (evalT σ.slots c).bind fnT = some (f, pre, suf) := by exact rfl) (hx : evalL σ.slots args.toList = some xs := by exact rfl) (hys : pre ++ xs ++ suf = ys := by exact rfl)
    (hk : pickAll σ.objs ks = some fp := by exact rfl) (hkn : ks.Nodup := by decide) (hd : Nat.blt d n = true := by exact rfl) :
    AX E n C ks ⟨some d, .call { callee := .value c, args := args, argTypes := tys }, ty, pos, aft, g⟩ σ R := AX.callG ks hc hx hys hk hkn h (dst_some hd) k
theorem AX.ap {α : Type} {fr : α → List T} {la lm lr : List α} (ks : Nat) {d : Nat} {so x : Operand} {t : TypeId} {ti ei : TI} {e sz : Nat} {z v : Value} {R : St → Prop}
    (hks : σ.objs[ks]? = some (.us v e sz (la.map fr))) (ha : app? la lm = some lr)
    (k : ∀ v', R ⟨putS σ.slots (some d) (.v v'), σ.objs.set ks (.us v' e sz (lr.map fr))⟩)
    (hx : evalT σ.slots x = some (.list sz (lm.map fr)) := by exact rfl) (hs : evalT σ.slots so = some (.v v) := by exact rfl)
    (ht : E.tab t = some ti := by exact rfl) (hk : ti.kind = .slice e := by exact rfl) (he : E.tab e = some ei := by exact rfl) (hz : ei.zero = some z := by exact rfl) (hsz : ei.size = sz := by exact rfl)
    (hzs : z.cells.size = sz := by exact rfl) (hby : Nat.ble ei.bytes 2048 = true := by exact rfl) (hd : Nat.blt d n = true := by exact rfl) :
    AX E n C [ks] ⟨some d, .call { callee := .builtin .append, args := #[so, x], argTypes := #[t, t] }, ty, pos, aft, g⟩ σ R :=
  AX.appendU ks ht hk he hz hsz hzs hby hs hks (.list hx) (app_len (app_some ha).1) (app_map (app_some ha).2) (dst_some hd) k
end

/-- One result, nothing new. -/
theorem rt {E : Env} {fn : Func} {Rc : T → List Ob → Prop} {t : Nat} {x : T} (hf : fn.results.toList = [.tmp t]) (hx : get s t = some x) (hR : Rc x []) : Post E fn Rc .ret ⟨s, ob⟩ := ⟨.inr rfl, [x], [], by rw [hf]; exact ⟨hx, trivial⟩, List.nil_sublist _, hR⟩
end
end Go.Aw
