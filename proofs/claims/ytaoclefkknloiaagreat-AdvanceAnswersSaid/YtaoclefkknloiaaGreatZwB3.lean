/- A program logic over the model. No condition. -/
import Derived.Test.YtaoclefkknloiaaGreatZwB2
import Derived.KernelRfl
set_option maxRecDepth 100000
namespace Go.Aw
set_option linter.unusedVariables false
set_option linter.defProp false
set_option linter.unusedSimpArgs false
def Wn (s : Aq) (x y : Operand) : Option (IntKind × Int × IntKind × Int) :=
 match A5 s x with
 | some (.v (.int k a)) => match A5 s y with
  | some (.v (.int k' b)) => some (k, a, k', b)
  | _ => none
 | _ => none
def nT (s : Aq) (G : BinOp) (x y : Operand) : Option T :=
 match Wn s x y with
 | some (.i64, a, .i64, b) => match G with
  | .lss => some (.v (.bool (decide (a < b))))
  | .leq => some (.v (.bool (decide (a ≤ b))))
  | .gtr => some (.v (.bool (decide (a > b))))
  | .geq => some (.v (.bool (decide (a ≥ b))))
  | .eql => some (.v (.bool (a == b)))
  | .neq => some (.v (.bool (a != b)))
  | .add => some (.v (.int .i64 (wr (a + b))))
  | .sub => some (.v (.int .i64 (wr (a - b))))
  | .mul => some (.v (.int .i64 (wr (a * b))))
  | _ => none
 | _ => none
def Yq (E : Env) (s : Aq) (t : TypeId) (x : Operand) (f : Nat) : Option T :=
 match E.tab t with
 | some ti => match ti.kind with
  | .struct fs => match fs[f]? with
   | some (off, ft) => match E.tab ft with
    | some fi => bif Nat.beq fi.size 0 then none else
     match A5 s x with
     | some (.v (.pointer (some ⟨b, o, none⟩))) => some (.v (.pointer (some ⟨b, o + off, none⟩)))
     | some (.eptr cs) => bif Nat.ble off cs.length then some (.eptr (cs.drop off)) else none
     | _ => none
    | none => none
   | none => none
  | _ => none
 | none => none
def fI (E : Env) (s : Aq) (c : Call) : Option T :=
 match c with
 | ⟨.builtin .min, ⟨[x, y]⟩, _⟩ => match Wn s x y with
  | some (.i64, a, .i64, b) => some (.v (.int .i64 (min a b)))
  | _ => none
 | ⟨.builtin .max, ⟨[x, y]⟩, _⟩ => match Wn s x y with
  | some (.i64, a, .i64, b) => some (.v (.int .i64 (max a b)))
  | _ => none
 | ⟨.builtin .len, ⟨[x]⟩, ⟨[t]⟩⟩ => match E.tab t with
  | some ti => match ti.kind with
   | .string => match A5 s x with
    | some (.v (.string b)) => some (.v (.int .i64 b.size))
    | _ => none
   | _ => none
  | none => none
 | _ => none
def Wl (E : Env) (s : Aq) : Op → Option T
 | .move x => A5 s x
 | .assign x => A5 s x
 | .pick c a b => match A5 s c with
  | some (.v (.bool true)) => A5 s a
  | some (.v (.bool false)) => A5 s b
  | _ => none
 | .nilCheck x => match A5 s x with
  | some (.v (.pointer (some b))) => some (.v (.pointer (some b)))
  | some (.eptr cs) => some (.eptr cs)
  | _ => none
 | .extract x i => match A5 s x with
  | some (.tup l) => l[i]?
  | _ => none
 | .unOp .not _ x => match A5 s x with
  | some (.v (.bool b)) => some (.v (.bool (!b)))
  | _ => none
 | .unOp .neg _ x => match A5 s x with
  | some (.v (.int .i64 a)) => some (.v (.int .i64 (wr (0 - a))))
  | _ => none
 | .binOp op _ x y _ => nT s op x y
 | .fieldAddr t x f => Yq E s t x f
 | .call c => fI E s c
 | _ => none
section
variable {E : Env} {n : Nat} {C : Ctx} {s : Aq} {ob : List Ob} {ops : Array Oper} {R : St → Prop} {dst : Option Tmp} {ty : TypeId} {pos : String} {aft : Array Edge} {g : Option (Nat × Bool)}
theorem R1 {x y : Operand} {k G : IntKind} {a b : Int} (h : Wn s x y = some (k, a, G, b)) : A5 s x = some (.v (.int k a)) ∧ A5 s y = some (.v (.int G b)) := by
 unfold Wn at h
 split at h
 ·rename_i M
  split at h
  ·rename_i W
   cases h
   exact ⟨M, W⟩
  ·cases h
 ·cases h
theorem mG {W : BinOp} {t t' : TypeId} {x y : Operand} {z : T} (h : nT s W x y = some z) : Yp E.P n s ⟨dst, .binOp W t x y t', ty, pos, aft, g⟩ z := by
 unfold nT at h
 split at h <;> first | cases h | skip
 rename_i Z
 obtain ⟨G, M⟩ := R1 Z
 split at h <;> first | cases h | skip
 ·exact qZ G M rfl
 ·exact qZ G M rfl
 ·exact qZ G M rfl
 ·exact qZ G M rfl
 ·exact qZ G M rfl
 ·exact qZ G M rfl
 ·exact Iu G M rfl
 ·exact Iu G M rfl
 ·exact Iu G M rfl
theorem bM {t : TypeId} {x : Operand} {f : Nat} {z : T} (h : Yq E s t x f = some z) : Yp E.P n s ⟨dst, .fieldAddr t x f, ty, pos, aft, g⟩ z := by
 unfold Yq at h
 split at h <;> first | cases h | skip
 rename_i ti ht
 split at h <;> first | cases h | skip
 rename_i fs hk
 split at h <;> first | cases h | skip
 rename_i W ft Z
 split at h <;> first | cases h | skip
 rename_i fi G
 cases hz : Nat.beq fi.size 0 with
 | true => rw [hz] at h; cases h
 | false =>
  rw [hz, cond_false] at h
  split at h <;> first | cases h | skip
  ·rename_i M
   exact D4 ht hk Z G hz M
  ·rename_i cs M
   cases hle : Nat.ble W cs.length with
   | true => rw [hle, cond_true] at h; cases h; exact bS ht hk Z G hz M hle
   | false => rw [hle] at h; cases h
theorem iN {c : Call} {z : T} (h : fI E s c = some z) : Yp E.P n s ⟨dst, .call c, ty, pos, aft, g⟩ z := by
 unfold fI at h
 split at h <;> first | cases h | skip
 ·split at h <;> first | cases h | skip
  rename_i M
  obtain ⟨G, W⟩ := R1 M
  exact mI G W
 ·split at h <;> first | cases h | skip
  rename_i M
  obtain ⟨G, W⟩ := R1 M
  exact mJ G W
 ·split at h <;> first | cases h | skip
  rename_i ti ht
  split at h <;> first | cases h | skip
  rename_i Z
  split at h <;> first | cases h | skip
  rename_i G
  exact Wg ht Z G
theorem Ro {W : Op} {z : T} (h : Wl E s W = some z) : Yp E.P n s ⟨dst, W, ty, pos, aft, g⟩ z := by
 unfold Wl at h
 split at h <;> first | cases h | skip
 ·exact Yp.move h
 ·exact Yp.assign h
 ·split at h <;> first | cases h | skip
  ·rename_i M; exact iQ M h
  ·rename_i M; exact iR M h
 ·split at h <;> first | cases h | skip
  ·rename_i G; exact Eg G
  ·rename_i G; exact Wf G
 ·split at h <;> first | cases h | skip
  rename_i G; exact Yp.extract G h
 ·split at h <;> first | cases h | skip
  rename_i G; exact Yp.not G
 ·split at h <;> first | cases h | skip
  rename_i G; exact Yp.neg G rfl
 ·exact mG h
 ·exact bM h
 ·exact iN h
end
def Zp (G : TI) (cs : List T) (off : Nat) : Option T :=
 bif G.isAgg then (bif Nat.beq off 0 && Nat.beq G.size cs.length then some (.agg cs) else none) else cs[off]?
theorem W8 {G : TI} {cs : List T} {off : Nat} {y : T} (h : Zp G cs off = some y) : Et G cs off = some y := by
 unfold Zp at h
 unfold Et
 cases ha : G.isAgg with
 | false => rw [ha, cond_false] at h; rw [cond_false]; exact h
 | true =>
  rw [ha, cond_true] at h
  rw [cond_true]
  cases hb : (Nat.beq off 0 && Nat.beq G.size cs.length) with
  | true => rw [hb, cond_true] at h; rw [cond_true]; exact h
  | false => rw [hb] at h; cases h
def Wm (E : Env) (s : Aq) : Op → Option T
 | .load t x => match A5 s x with
  | some (.eptr cs) => match E.tab t with
   | some fi => Zp fi cs 0
   | none => none
  | _ => none
 | op => Wl E s op
inductive Hn where
 | o (i k : Nat)
 | f (i : Nat) (x : T)
 | l (i : Nat) (c : Int)
 | x (i : Nat) (m : Nat) (e : List T)
 | k (i : Nat) (c : Int)
def Hn.at : Hn → Nat
 | .o i _ => i
 | .f i _ => i
 | .l i _ => i
 | .x i _ _ => i
 | .k i _ => i
def nB (E : Env) (s : Aq) (ob : List Ob) (k : Nat) : Op → Option (T × Prop)
 | .load t x => match A5 s x with
  | some (.v (.pointer (some ⟨b, off, none⟩))) => match ob[k]? with
   | some (.arr b' _ _ _ [e]) => match E.tab t with
    | some fi => match Zp fi e off with
     | some y => some (y, b = b')
     | none => none
    | none => none
   | _ => none
  | _ => none
 | _ => none
def pG (E : Env) (s : Aq) (c : Int) : Op → Option (T × Prop)
 | .call ⟨.builtin .len, ⟨[x]⟩, ⟨[t]⟩⟩ => match E.tab t with
  | some ti => match ti.kind with
   | .slice _ => match A5 s x with
    | some (.list _ es) => some (.v (.int .i64 c), (es.length : Int) = c)
    | _ => none
   | _ => none
  | none => none
 | _ => none
def pH (E : Env) (s : Aq) (m : Nat) (e : List T) : Op → Option (T × Prop)
 | .indexAddr t x y => match E.tab t with
  | some ti => match ti.kind with
   | .slice el => match E.tab el with
    | some fi => match A5 s x with
     | some (.list sz es) => bif Nat.beq fi.size sz then
      (match A5 s y with
      | some (.v (.int _ i)) => some (.eptr e, i = (m : Int) ∧ es[m]? = some e)
      | _ => none) else none
     | _ => none
    | none => none
   | _ => none
  | none => none
 | _ => none
def Zo (E : Env) (n : Nat) (s : Aq) (ob : List Ob) (d : Nat) (o : Oper) : Hn → Option (T × Prop)
 | .o _ k => nB E s ob k o.op
 | .f _ x => some (x, Yd E.P n s ob ⟨some d, o.op, o.type, o.pos, o.after, none⟩ x)
 | .l _ c => pG E s c o.op
 | .x _ m e => pH E s m e o.op
 | .k _ c => match Wl E s o.op with
  | some (.v (.int kk e)) => some (.v (.int kk c), e = c)
  | _ => none
section
variable {E : Env} {n : Nat} {C : Ctx} {s : Aq} {ob : List Ob} {ops : Array Oper} {R : St → Prop} {dst : Option Tmp} {ty : TypeId} {pos : String} {aft : Array Edge} {g : Option (Nat × Bool)}
theorem Rq {G : Op} {z : T} (h : Wm E s G = some z) : Yd E.P n s ob ⟨dst, G, ty, pos, aft, g⟩ z := by
 unfold Wm at h
 split at h
 ·split at h <;> first | cases h | skip
  rename_i W
  split at h <;> first | cases h | skip
  rename_i M
  exact iW M W (W8 h)
 ·exact (Ro h).yd
theorem Ww {d : Nat} {o : Oper} {hn : Hn} {z : T} {p : Prop} (h : Zo E n s ob d o hn = some (z, p)) (M : p) : Yd E.P n s ob ⟨some d, o.op, o.type, o.pos, o.after, none⟩ z := by
 unfold Zo at h
 split at h
 ·unfold nB at h
  split at h <;> first | cases h | skip
  rename_i Z
  split at h <;> first | cases h | skip
  rename_i G
  split at h <;> first | cases h | skip
  rename_i W
  split at h <;> first | cases h | skip
  rename_i ht
  split at h <;> first | cases h | skip
  rename_i hy
  subst M
  rw [Z]
  exact Ck _ 0 _ ht G W rfl (by omega) (W8 hy)
 ·cases h; exact M
 ·unfold pG at h
  split at h <;> first | cases h | skip
  rename_i Z
  split at h <;> first | cases h | skip
  rename_i ht
  split at h <;> first | cases h | skip
  rename_i W
  split at h <;> first | cases h | skip
  rename_i G
  subst M
  rw [Z]
  exact (So ht W G).yd
 ·unfold pH at h
  split at h <;> first | cases h | skip
  rename_i Z
  split at h <;> first | cases h | skip
  rename_i ht
  split at h <;> first | cases h | skip
  rename_i W
  split at h <;> first | cases h | skip
  split at h <;> first | cases h | skip
  rename_i fi hel _ sz es G
  cases hb : Nat.beq fi.size sz with
  | false => rw [hb] at h; cases h
  | true =>
   rw [hb, cond_true] at h
   split at h <;> first | cases h | skip
   rename_i hy
   rw [Z]
   exact (H9 ht W hel (nq hb) G hy M.1 M.2).yd
 ·split at h <;> first | cases h | skip
  rename_i G
  subst M
  exact (Ro G).yd
end
def G3 (ops : Array Oper) (s : Aq) : Option (Nat × Bool) → Option Bool
 | none => some true
 | some (j, want) => match ops[j]? with
  | some o => match o.dst with
   | some t => match get s t with
    | some (.v (.bool true)) => some want
    | some (.v (.bool false)) => some (!want)
    | _ => none
   | none => none
  | none => none
def Ph (E : Env) (n : Nat) (ops : Array Oper) (ob : List Ob) : Nat → Nat → List Oper → Aq → List Hn → Prop → Option (Prop × List Oper × Aq)
 | 0, _, l, s, _, p => some (p, l, s)
 | _ + 1, _, [], _, _, _ => none
 | m + 1, i, o :: l, s, hs, p => match o.dst with
  | none => none
  | some d => bif Nat.blt d n then
   (match G3 ops s o.guard with
   | none => none
   | some false => Ph E n ops ob m (i + 1) l ((d, .v undef) :: s) hs p
   | some true => match hs with
    | [] => match Wm E s o.op with
     | some x => Ph E n ops ob m (i + 1) l ((d, x) :: s) [] p
     | none => none
    | h :: hs => bif Nat.beq h.at i then
      (match Zo E n s ob d o h with
      | some (x, q) => Ph E n ops ob m (i + 1) l ((d, x) :: s) hs (q ∧ p)
      | none => none)
     else
      (match Wm E s o.op with
      | some x => Ph E n ops ob m (i + 1) l ((d, x) :: s) (h :: hs) p
      | none => none)) else none
section
variable {E : Env} {n : Nat} {C : Ctx} {s : Aq} {ob : List Ob} {ops : Array Oper} {R : St → Prop}
theorem H7 {j : Nat} {G v : Bool} (h : G3 ops s (some (j, G)) = some v) : ∃ t b, (ops[j]?).bind (·.dst) = some t ∧ get s t = some (.v (.bool b)) ∧ (v = true → b = G) ∧ (v = false → b = !G) := by
 simp only [G3] at h
 split at h
 ·rename_i o ho
  split at h
  ·rename_i t Z
   have W : (ops[j]?).bind (·.dst) = some t := by rw [ho]; exact Z
   split at h
   ·rename_i M
    cases h
    exact ⟨t, true, W, M, by cases G <;> simp, by cases G <;> simp⟩
   ·rename_i M
    cases h
    exact ⟨t, false, W, M, by cases G <;> simp, by cases G <;> simp⟩
   ·cases h
  ·cases h
 ·cases h
theorem Y1 {d : Nat} {o : Oper} {l : List Oper} {x : T} (hg : G3 ops s o.guard = some true) (G : o.dst = some d) (Z : Yd E.P n s ob ⟨some d, o.op, o.type, o.pos, o.after, none⟩ x) (W : Nat.blt d n = true)
  (k : AO E n C ops l ⟨(d, x) :: s, ob⟩ R) : AO E n C ops (o :: l) ⟨s, ob⟩ R := by
 obtain ⟨dst, op, ty, pos, aft, g⟩ := o
 cases G
 cases g with
 | none => exact qN Z W k
 | some g =>
  obtain ⟨j, M⟩ := g
  obtain ⟨t, b, h1, h2, h3, _⟩ := H7 hg
  have := h3 rfl
  exact AO.guard h1 h2 (Bq W) (fun _ => qN Z W k) (fun h => by rw [this] at h; cases M <;> cases h)
theorem pA {d : Nat} {o : Oper} {l : List Oper} (hg : G3 ops s o.guard = some false) (G : o.dst = some d) (hd : Nat.blt d n = true)
  (k : AO E n C ops l ⟨(d, .v undef) :: s, ob⟩ R) : AO E n C ops (o :: l) ⟨s, ob⟩ R := by
 obtain ⟨dst, op, ty, pos, aft, g⟩ := o
 cases G
 cases g with
 | none => cases hg
 | some g =>
  obtain ⟨j, M⟩ := g
  obtain ⟨t, b, W, Z, _, h3⟩ := H7 hg
  have := h3 rfl
  exact AO.guard W Z (Bq hd) (fun h => by rw [this] at h; cases M <;> cases h) (fun _ => k)
theorem F9 : ∀ (m i : Nat) (l : List Oper) (s : Aq) (Z : List Hn) (p : Prop) {P : Prop} {l' : List Oper} {s' : Aq}, Ph E n ops ob m i l s Z p = some (P, l', s') → P →
  p ∧ (AO E n C ops l' ⟨s', ob⟩ R → AO E n C ops l ⟨s, ob⟩ R)
 | 0, i, l, s, Z, p, P, l', s', h, hP => by cases h; exact ⟨hP, id⟩
 | m + 1, i, [], s, Z, p, P, l', s', h, hP => by cases h
 | m + 1, i, o :: l, s, Z, p, P, l', s', h, hP => by
  simp only [Ph] at h
  split at h
  ·cases h
  ·rename_i d G
   cases hd : Nat.blt d n with
   | false => rw [hd] at h; cases h
   | true =>
    rw [hd, cond_true] at h
    split at h
    ·cases h
    ·rename_i hg
     obtain ⟨M, W⟩ := F9 m (i + 1) l _ Z p h hP
     exact ⟨M, fun k => pA hg G hd (W k)⟩
    ·rename_i hg
     split at h
     ·split at h
      ·rename_i x hx
       obtain ⟨M, W⟩ := F9 m (i + 1) l _ _ p h hP
       exact ⟨M, fun k => Y1 hg G (Rq hx) hd (W k)⟩
      ·cases h
     ·rename_i hn Z
      cases hb : Nat.beq hn.at i with
      | true =>
       rw [hb, cond_true] at h
       split at h
       ·rename_i x q hx
        obtain ⟨M, W⟩ := F9 m (i + 1) l _ _ _ h hP
        exact ⟨M.2, fun k => Y1 hg G (Ww hx M.1) hd (W k)⟩
       ·cases h
      | false =>
       rw [hb, cond_false] at h
       split at h
       ·rename_i x hx
        obtain ⟨M, W⟩ := F9 m (i + 1) l _ _ p h hP
        exact ⟨M, fun k => Y1 hg G (Rq hx) hd (W k)⟩
       ·cases h
theorem bz : (∀ b, (true && b) = b) ∧ (∀ b, (false && b) = false) ∧ (∀ b, (true || b) = true) ∧ (∀ b, (false || b) = b) ∧ (!true) = false ∧ (!false) = true ∧ (∀ a b : Bool, cond true a b = a) ∧ (∀ a b : Bool, cond false a b = b) := by simp
theorem A6 {α : Type} {f : α → List T} {l : List α} : ((l.map f).length : Int) = (l.length : Int) := by rw [List.length_map]
theorem Af (m : Nat) {l G : List Oper} {s' : Aq} (h : Ph E n ops ob m 0 l s [] True = some (True, G, s')) (k : AO E n C ops G ⟨s', ob⟩ R) : AO E n C ops l ⟨s, ob⟩ R :=
 (F9 m 0 l s [] True h trivial).2 k
theorem Ai {id : Nat} {y : Code} {Q : Exit → St → Prop} {s' : Aq} (h : Ph E n ops ob ops.size 0 ops.toList s [] True = some (True, [], s')) (k : AW E n C y ⟨s', ob⟩ Q) : AW E n C (.seq (.region id ops false) y) ⟨s, ob⟩ Q :=
 qJ (qD ((F9 _ 0 _ s [] True h trivial).2 (qE k)))
theorem Bk {id : Nat} {y : Code} {Q : Exit → St → Prop} {s' : Aq} {P : Prop} (G : List Hn) (h : Ph E n ops ob ops.size 0 ops.toList s G True = some (P, [], s')) (M : P) (k : AW E n C y ⟨s', ob⟩ Q) :
  AW E n C (.seq (.region id ops false) y) ⟨s, ob⟩ Q :=
 qJ (qD ((F9 _ 0 _ s G True h M).2 (qE k)))
theorem Uz {id : Nat} {Q : Exit → St → Prop} {s' : Aq} (h : Ph E n ops ob ops.size 0 ops.toList s [] True = some (True, [], s')) (k : Q .normal ⟨s', ob⟩) : AW E n C (.region id ops false) ⟨s, ob⟩ Q :=
 qD ((F9 _ 0 _ s [] True h trivial).2 (qE k))
theorem Lb {id : Nat} {Q : Exit → St → Prop} {s' : Aq} {P : Prop} (G : List Hn) (h : Ph E n ops ob ops.size 0 ops.toList s G True = some (P, [], s')) (M : P) (k : Q .normal ⟨s', ob⟩) :
  AW E n C (.region id ops false) ⟨s, ob⟩ Q :=
 qD ((F9 _ 0 _ s G True h M).2 (qE k))
theorem Ao (m : Nat) (G : List Hn) {l M : List Oper} {s' : Aq} {P : Prop} (h : Ph E n ops ob m 0 l s G True = some (P, M, s')) (W : P) (k : AO E n C ops M ⟨s', ob⟩ R) : AO E n C ops l ⟨s, ob⟩ R :=
 (F9 m 0 l s G True h W).2 k
def Zn (E : Env) (so s : Aq) (d : Nat) (G : Op) : Option (T × Bool) :=
 match (match G with
  | .pick .. => none
  | G => Wm E so G) with
 | some x => some (x, true)
 | none => match Wl E s G with
  | some x => bif free so (some d) then some (x, false) else none
  | none => none
def nO (b : Bool) (so : Aq) (d : Nat) (x : T) : Aq := bif b then (d, x) :: so else so
def pd : Nat → Nat → List Nat → PL
 | 0, _, _ => .nil
 | m + 1, i, a => bif a.contains i then .act i (pd m (i + 1) a) else .still i (pd m (i + 1) a)
def Hl (E : Env) (n : Nat) (ops : Array Oper) (pobjs : List Ob) : Nat → Nat → PL → Aq → Aq → List Hn → Prop → Option (Prop × PL × Aq × Aq)
 | 0, _, l, so, s, _, p => some (p, l, so, s)
 | m + 1, i, .still j l, so, s, hs, p => match ops[j]? with
  | none => none
  | some o => match o.dst with
   | none => none
   | some d => bif Nat.blt d n then
    (match G3 ops s o.guard with
    | none => none
    | some false => bif free so (some d) then Hl E n ops pobjs m (i + 1) l so ((d, .v undef) :: s) hs p else none
    | some true => match hs with
     | [] => match Zn E so s d o.op with
      | some (x, b) => Hl E n ops pobjs m (i + 1) l (nO b so d x) ((d, x) :: s) [] p
      | none => none
     | h :: hs => bif Nat.beq h.at i then
       (match Zo E n so pobjs d o h with
       | some (x, q) => Hl E n ops pobjs m (i + 1) l ((d, x) :: so) ((d, x) :: s) hs (q ∧ p)
       | none => none)
      else
       (match Zn E so s d o.op with
       | some (x, b) => Hl E n ops pobjs m (i + 1) l (nO b so d x) ((d, x) :: s) (h :: hs) p
       | none => none)) else none
 | m + 1, i, .act j l, so, s, hs, p => match ops[j]? with
  | none => none
  | some o => match o.dst with
   | none => none
   | some d => bif Nat.blt d n && free so (some d) then
    (match G3 ops s o.guard with
    | some false => Hl E n ops pobjs m (i + 1) l so ((d, .v undef) :: s) hs p
    | _ => none) else none
 | _ + 1, _, _, _, _, _, _ => none
section
variable {prot : List Nat} {pobjs : List Ob} {so : Aq}
theorem Xu {j d : Nat} {o : Oper} {l : PL} {x : T} (W : ops[j]? = some o) (hg : G3 ops s o.guard = some true) (G : o.dst = some d)
  (Z : Yd E.P n so pobjs ⟨some d, o.op, o.type, o.pos, o.after, none⟩ x) (M : Nat.blt d n = true)
  (k : AP E n C ops prot pobjs l ((d, x) :: so) ⟨(d, x) :: s, ob⟩ R) : AP E n C ops prot pobjs (.still j l) so ⟨s, ob⟩ R := by
 obtain ⟨dst, op, ty, pos, aft, g⟩ := o
 cases G
 cases g with
 | none => exact Y0 W Z rfl (Bq M) k
 | some g =>
  obtain ⟨i, aa⟩ := g
  obtain ⟨t, b, h1, h2, h3, _⟩ := H7 hg
  exact Dl W h1 h2 (h3 rfl) Z (Bq M) k
theorem kL {j d : Nat} {o : Oper} {l : PL} {x : T} (W : ops[j]? = some o) (hg : G3 ops s o.guard = some true) (G : o.dst = some d)
  (Z : Yp E.P n s ⟨some d, o.op, o.type, o.pos, o.after, none⟩ x) (M : Nat.blt d n = true) (hf : free so (some d) = true)
  (k : AP E n C ops prot pobjs l so ⟨(d, x) :: s, ob⟩ R) : AP E n C ops prot pobjs (.still j l) so ⟨s, ob⟩ R := by
 obtain ⟨dst, op, ty, pos, aft, g⟩ := o
 cases G
 cases g with
 | none => exact AP.new W Z rfl (Bq M) k hf
 | some g =>
  obtain ⟨i, aa⟩ := g
  obtain ⟨t, b, h1, h2, h3, _⟩ := H7 hg
  exact mT W h1 h2 (h3 rfl) Z (Bq M) k hf
theorem Uv {j d : Nat} {o : Oper} {l : PL} (ho : ops[j]? = some o) (hg : G3 ops s o.guard = some false) (G : o.dst = some d) (hd : Nat.blt d n = true) (hf : free so (some d) = true)
  (k : AP E n C ops prot pobjs l so ⟨(d, .v undef) :: s, ob⟩ R) : AP E n C ops prot pobjs (.still j l) so ⟨s, ob⟩ R ∧ AP E n C ops prot pobjs (.act j l) so ⟨s, ob⟩ R := by
 obtain ⟨dst, op, ty, pos, aft, g⟩ := o
 cases G
 cases g with
 | none => cases hg
 | some g =>
  obtain ⟨i, want⟩ := g
  obtain ⟨t, b, M, W, _, Z⟩ := H7 hg
  exact ⟨AP.skip ho rfl M W (Z rfl) (Bq hd) k hf, kK ho rfl M W (Z rfl) (Bq hd) k hf⟩
theorem Uu {j d : Nat} {o : Oper} {l : PL} {x : T} {b : Bool} (Z : ops[j]? = some o) (hg : G3 ops s o.guard = some true) (M : o.dst = some d) (W : Nat.blt d n = true)
  (G : Zn E so s d o.op = some (x, b)) (k : AP E n C ops prot pobjs l (nO b so d x) ⟨(d, x) :: s, ob⟩ R) : AP E n C ops prot pobjs (.still j l) so ⟨s, ob⟩ R := by
 unfold Zn at G
 split at G
 ·rename_i h
  cases G
  split at h
  ·cases h
  ·exact Xu Z hg M (Rq h) W k
 ·split at G
  ·rename_i h
   cases hf : free so (some d) with
   | false => rw [hf] at G; cases G
   | true =>
    rw [hf, cond_true] at G
    cases G
    exact kL Z hg M (Ro h) W hf k
  ·cases G
theorem Gt : ∀ (m i : Nat) (l : PL) (so s : Aq) (W : List Hn) (p : Prop) {P : Prop} {Z : PL} {G s' : Aq}, Hl E n ops pobjs m i l so s W p = some (P, Z, G, s') → P →
  p ∧ (AP E n C ops prot pobjs Z G ⟨s', ob⟩ R → AP E n C ops prot pobjs l so ⟨s, ob⟩ R)
 | 0, i, l, so, s, W, p, P, Z, G, s', h, hP => by
  cases l <;> (simp only [Hl] at h; cases h; exact ⟨hP, id⟩)
 | m + 1, i, .still j l, so, s, W, p, P, Z, G, s', h, hP => by
  simp only [Hl] at h
  split at h
  ·cases h
  ·rename_i o ho
   split at h
   ·cases h
   ·rename_i d M
    cases hd : Nat.blt d n with
    | false => rw [hd] at h; cases h
    | true =>
     rw [hd, cond_true] at h
     split at h
     ·cases h
     ·rename_i hg
      cases hf : free so (some d) with
      | false => rw [hf] at h; cases h
      | true =>
       rw [hf, cond_true] at h
       obtain ⟨h1, h2⟩ := Gt m (i + 1) l so _ W p h hP
       exact ⟨h1, fun k => (Uv ho hg M hd hf (h2 k)).1⟩
     ·rename_i hg
      split at h
      ·split at h
       ·rename_i x b hx
        obtain ⟨h1, h2⟩ := Gt m (i + 1) l _ _ _ p h hP
        exact ⟨h1, fun k => Uu ho hg M hd hx (h2 k)⟩
       ·cases h
      ·rename_i hn W
       cases hb : Nat.beq hn.at i with
       | true =>
        rw [hb, cond_true] at h
        split at h
        ·rename_i x q hx
         obtain ⟨h1, h2⟩ := Gt m (i + 1) l _ _ _ _ h hP
         exact ⟨h1.2, fun k => Xu ho hg M (Ww hx h1.1) hd (h2 k)⟩
        ·cases h
       | false =>
        rw [hb, cond_false] at h
        split at h
        ·rename_i x b hx
         obtain ⟨h1, h2⟩ := Gt m (i + 1) l _ _ _ p h hP
         exact ⟨h1, fun k => Uu ho hg M hd hx (h2 k)⟩
        ·cases h
 | m + 1, i, .act j l, so, s, W, p, P, Z, G, s', h, hP => by
  simp only [Hl] at h
  split at h
  ·cases h
  ·rename_i o ho
   split at h
   ·cases h
   ·rename_i d M
    cases hd : Nat.blt d n with
    | false => rw [hd] at h; cases h
    | true =>
     cases hf : free so (some d) with
     | false => rw [hd, hf] at h; cases h
     | true =>
      rw [hd, hf] at h
      simp only [Bool.and_true, cond_true] at h
      split at h
      ·rename_i hg
       obtain ⟨h1, h2⟩ := Gt m (i + 1) l so _ W p h hP
       exact ⟨h1, fun k => (Uv ho hg M hd hf (h2 k)).2⟩
      ·cases h
 | m + 1, i, .nil, so, s, W, p, P, Z, G, s', h, hP => by simp [Hl] at h
 | m + 1, i, .two .., so, s, W, p, P, Z, G, s', h, hP => by simp [Hl] at h
 | m + 1, i, .three .., so, s, W, p, P, Z, G, s', h, hP => by simp [Hl] at h
 | m + 1, i, .four .., so, s, W, p, P, Z, G, s', h, hP => by simp [Hl] at h
 | m + 1, i, .five .., so, s, W, p, P, Z, G, s', h, hP => by simp [Hl] at h
 | m + 1, i, .par .., so, s, W, p, P, Z, G, s', h, hP => by simp [Hl] at h
 | m + 1, i, .parS .., so, s, W, p, P, Z, G, s', h, hP => by simp [Hl] at h
 | m + 1, i, .drop .., so, s, W, p, P, Z, G, s', h, hP => by simp [Hl] at h
theorem A9 (m : Nat) {l M : PL} {G s' : Aq} (h : Hl E n ops pobjs m 0 l so s [] True = some (True, M, G, s')) (k : AP E n C ops prot pobjs M G ⟨s', ob⟩ R) :
  AP E n C ops prot pobjs l so ⟨s, ob⟩ R :=
 (Gt m 0 l so s [] True h trivial).2 k
theorem Cf (m : Nat) (M : List Hn) {l W : PL} {G s' : Aq} {P : Prop} (h : Hl E n ops pobjs m 0 l so s M True = some (P, W, G, s')) (Z : P) (k : AP E n C ops prot pobjs W G ⟨s', ob⟩ R) :
  AP E n C ops prot pobjs l so ⟨s, ob⟩ R :=
 (Gt m 0 l so s M True h Z).2 k
theorem fP {d : Nat} {c : Operand} {args : Array Operand} {aa : Array TypeId} {ty : TypeId} {pos : String} {aft : Array Edge} {f : FuncId} {xs G M ys : List T} {y X : T}
  (h : ACalls E f ys [] (fun x new => x = X ∧ new = [])) (k : R ⟨(d, X) :: s, ob⟩)
  (hc : A5 s c = some y) (hf : Kz y = some (f, G, M)) (hx : Fv s args.toList = some xs) (Z : G ++ xs ++ M = ys)
  (hd : Nat.blt d n = true) (W : Fk X = true) :
  AX E n C [] ⟨some d, .call { callee := .value c, args := args, argTypes := aa }, ty, pos, aft, none⟩ ⟨s, ob⟩ R :=
 Cz hc (.refl _) hf hx (.rest _) Z h (Bq hd) (fun _ _ h => by rw [h.1]; exact W) (fun x h => by obtain ⟨_, rfl, _⟩ := h; exact k)
theorem AO.c {d : Nat} {c : Operand} {args : Array Operand} {aa : Array TypeId} {ty : TypeId} {pos : String} {aft : Array Edge} {f : FuncId} {xs G M ys : List T} {y X : T} {l : List Oper}
  (h : ACalls E f ys [] (fun x new => x = X ∧ new = [])) (k : AO E n C ops l ⟨(d, X) :: s, ob⟩ R)
  (hc : A5 s c = some y := by exact rfl) (hf : Kz y = some (f, G, M) := by exact rfl) (hx : Fv s args.toList = some xs := by exact rfl) (Z : G ++ xs ++ M = ys := by exact rfl)
  (hd : Nat.blt d n = true := by exact rfl) (W : Fk X = true := by exact rfl) :
  AO E n C ops (⟨some d, .call { callee := .value c, args := args, argTypes := aa }, ty, pos, aft, none⟩ :: l) ⟨s, ob⟩ R :=
 qF [] rfl (fP h k hc hf hx Z hd W)
def qR := @AO.c
theorem AP.c {i d : Nat} {c : Operand} {args : Array Operand} {ab : Array TypeId} {ty : TypeId} {pos : String} {aft : Array Edge} {f : FuncId} {xs G M ys : List T} {y X : T} {l : PL}
  (ho : ops[i]? = some ⟨some d, .call { callee := .value c, args := args, argTypes := ab }, ty, pos, aft, none⟩) (h : ACalls E f ys [] (fun x new => x = X ∧ new = [])) (k : AP E n C ops prot pobjs l so ⟨(d, X) :: s, ob⟩ R)
  (hc : A5 s c = some y := by exact rfl) (hf : Kz y = some (f, G, M) := by exact rfl) (hx : Fv s args.toList = some xs := by exact rfl) (aa : G ++ xs ++ M = ys := by exact rfl)
  (hd : Nat.blt d n = true := by exact rfl) (W : Fk X = true := by exact rfl) (Z : free so (some d) = true := by exact rfl) :
  AP E n C ops prot pobjs (.act i l) so ⟨s, ob⟩ R :=
 qG [] ho rfl (by simp) (fP h k hc hf hx aa hd W) Z
def rD := @AP.c
theorem I4 {i d j t : Nat} {want b : Bool} {c : Operand} {args : Array Operand} {ab : Array TypeId} {ty : TypeId} {pos : String} {aft : Array Edge} {f : FuncId} {xs G M ys : List T} {y X : T} {l : PL}
  (ho : ops[i]? = some ⟨some d, .call { callee := .value c, args := args, argTypes := ab }, ty, pos, aft, some (j, want)⟩) (h : ACalls E f ys [] (fun x new => x = X ∧ new = [])) (k : AP E n C ops prot pobjs l so ⟨(d, X) :: s, ob⟩ R)
  (hj : (ops[j]?).bind (·.dst) = some t := by exact rfl) (hs : get s t = some (.v (.bool b)) := by exact rfl) (hb : b = want := by exact rfl)
  (hc : A5 s c = some y := by exact rfl) (hf : Kz y = some (f, G, M) := by exact rfl) (hx : Fv s args.toList = some xs := by exact rfl) (aa : G ++ xs ++ M = ys := by exact rfl)
  (hd : Nat.blt d n = true := by exact rfl) (W : Fk X = true := by exact rfl) (Z : free so (some d) = true := by exact rfl) :
  AP E n C ops prot pobjs (.act i l) so ⟨s, ob⟩ R :=
 mU [] ho hj hs hb (by simp) (fP h k hc hf hx aa hd W) Z
end
theorem Tc {id : Nat} {y : Code} {Q : Exit → St → Prop} {s' G : Aq} {P : Prop} (pl : PL) (prot : List Nat) (pobjs : List Ob) (M : List Hn) (hp : prot.map (fun i => ob[i]?) = pobjs.map some)
  (h : Hl E n ops pobjs ops.size 0 pl s s M True = some (P, .nil, G, s')) (Z : P) (k : AW E n C y ⟨s', ob⟩ Q) (W : Pv ops pl = true := by kernel_rfl) :
  AW E n C (.seq (.region id ops true) y) ⟨s, ob⟩ Q :=
 qJ (L8 pl prot pobjs W hp ((Gt _ 0 pl s s M True h Z).2 (AP.nil k)))
theorem Zw {id : Nat} {Q : Exit → St → Prop} {s' G : Aq} {P : Prop} (pl : PL) (prot : List Nat) (pobjs : List Ob) (M : List Hn) (hp : prot.map (fun i => ob[i]?) = pobjs.map some)
  (h : Hl E n ops pobjs ops.size 0 pl s s M True = some (P, .nil, G, s')) (Z : P) (k : Q .normal ⟨s', ob⟩) (W : Pv ops pl = true := by kernel_rfl) :
  AW E n C (.region id ops true) ⟨s, ob⟩ Q :=
 L8 pl prot pobjs W hp ((Gt _ 0 pl s s M True h Z).2 (AP.nil k))
theorem Bv {id : Nat} {Q : Exit → St → Prop} (pl : PL) (prot : List Nat) (pobjs : List Ob) (M : prot.map (fun i => ob[i]?) = pobjs.map some)
  (h : AP E n C ops prot pobjs pl s ⟨s, ob⟩ (fun σ' => Q .normal σ')) (G : Pv ops pl = true := by kernel_rfl) : AW E n C (.region id ops true) ⟨s, ob⟩ Q := L8 pl prot pobjs G M h
theorem lf {M : Aq → List Ob → Prop} {G s' : Aq} {ob' : List Ob} (W : M s' ob') (hs : Sub (s' ++ G) s) (ks : List Nat) (Z : Cu ob ks = some ob') (hn : ks.Nodup := by decide) :
  ∃ s' ob', M s' ob' ∧ Left (s' ++ G) ob' ⟨s, ob⟩ := ⟨_, _, W, hs, ks, Z, hn⟩
theorem pF {s : Aq} : ∀ {l : Aq}, l.map (fun p => get s p.1) = l.map (fun p => some p.2) → Sub l s
 | [], _ => trivial
 | (i, x) :: l, h => by
  simp only [List.map_cons, List.cons.injEq] at h
  exact ⟨h.1, pF h.2⟩
theorem lg {M : Aq → List Ob → Prop} {G s' : Aq} {ob' : List Ob} (W : M s' ob') (ks : List Nat) (hs : (s' ++ G).map (fun p => get s p.1) = (s' ++ G).map (fun p => some p.2) := by exact rfl)
  (Z : Cu ob ks = some ob' := by exact rfl) (hn : ks.Nodup := by decide) :
  ∃ s' ob', M s' ob' ∧ Left (s' ++ G) ob' ⟨s, ob⟩ := ⟨_, _, W, pF hs, ks, Z, hn⟩
theorem Av {t : Nat} {x y : Code} {Q : Exit → St → Prop} {b : Bool} {α : Type} {A B r : α} (h : (if b = true then A else B) = r) (M : get s t = some (.v (.bool b)))
  (h1 : b = true → A = r → AW E n C x ⟨s, ob⟩ Q) (h2 : b = false → B = r → AW E n C y ⟨s, ob⟩ Q) : AW E n C (.cond (.tmp t) x y) ⟨s, ob⟩ Q :=
 AW.cond rfl M (fun G => h1 G (Cb G h)) (fun G => h2 G (Cc G h))
section
variable {σ : St} {dst : Option Tmp} {ty : TypeId} {pos : String} {aft : Array Edge} {g : Option (Nat × Bool)}
theorem AX.lt {d : Nat} {t : TypeId} {m : Nat} {G : Array (Nat × Operand)} {ti ei : TI} {e : Nat} {z : Value} {l : List T} (sz : Nat) (es : List (List T)) (k : R ⟨(d, .list sz es) :: s, ob⟩)
  (ht : E.tab t = some ti := by exact rfl) (Z : ti.kind = .slice e := by exact rfl) (he : E.tab e = some ei := by exact rfl) (hz : ei.zero = some z := by exact rfl) (h1 : z.cells.toList.all (·.oneCell') = true := by exact rfl)
  (hsz : ei.size = sz := by exact rfl) (M : z.cells.size = sz := by exact rfl) (hb : Nat.ble (m * sz) 16777216 = true := by exact rfl)
  (hm : Nat.ble m 16777216 = true := by exact rfl) (hf : Gc s (fun i => some (i * sz, sz)) (Mb (E7 z) m) G.toList = some l := by exact rfl) (hr : rows sz m l = es := by exact rfl) (W : Nat.blt d n = true := by exact rfl) :
  AX E n C [] ⟨some d, .buildSlice t m G, ty, pos, aft, g⟩ ⟨s, ob⟩ R := mR ht Z he hz h1 hsz M hb hm hf hr (Bq W) k
def qO := @AX.lt
theorem E8 (ks : List Nat) {d : Nat} {c : Operand} {args : Array Operand} {aa : Array TypeId} {f : FuncId} {G M xs ys : List T} {fp : List Ob} {Rc : T → List Ob → List Ob → Prop} {R : St → Prop}
  (h : ACalls E f ys fp (fun x fp' => ∃ os new, fp' = os ++ new ∧ os.length = fp.length ∧ Rc x os new)) (k : ∀ x os new, os.length = fp.length → Rc x os new → R ⟨E5 σ.slots (some d) x, Fl σ.objs ks os ++ new⟩)
  (hc : (A5 σ.slots c).bind Kz = some (f, G, M) := by exact rfl) (hx : Fv σ.slots args.toList = some xs := by exact rfl) (Z : G ++ xs ++ M = ys := by exact rfl)
  (hk : Cu σ.objs ks = some fp := by exact rfl) (W : ks.Nodup := by decide) (hd : Nat.blt d n = true := by exact rfl) :
  AX E n C ks ⟨some d, .call { callee := .value c, args := args, argTypes := aa }, ty, pos, aft, g⟩ σ R := Xs ks hc hx Z hk W h (Bq hd) k
theorem AX.ap {α : Type} {fr : α → List T} {la lm lr : List α} (ks : Nat) {d : Nat} {so x : Operand} {t : TypeId} {ti ei : TI} {e sz : Nat} {z v : Value} {R : St → Prop}
  (M : σ.objs[ks]? = some (.us v e sz (la.map fr))) (Z : Cy la lm = some lr)
  (k : ∀ v', R ⟨E5 σ.slots (some d) (.v v'), σ.objs.set ks (.us v' e sz (lr.map fr))⟩)
  (hx : A5 σ.slots x = some (.list sz (lm.map fr)) := by exact rfl) (hs : A5 σ.slots so = some (.v v) := by exact rfl)
  (ht : E.tab t = some ti := by exact rfl) (hk : ti.kind = .slice e := by exact rfl) (he : E.tab e = some ei := by exact rfl) (hz : ei.zero = some z := by exact rfl) (hsz : ei.size = sz := by exact rfl)
  (W : z.cells.size = sz := by exact rfl) (G : Nat.ble ei.bytes 2048 = true := by exact rfl) (hd : Nat.blt d n = true := by exact rfl) :
  AX E n C [ks] ⟨some d, .call { callee := .builtin .append, args := #[so, x], argTypes := #[t, t] }, ty, pos, aft, g⟩ σ R :=
 Hc ks ht hk he hz hsz W G hs M (.list hx) (Pt (Ez Z).1) (Ps (Ez Z).2) (Bq hd) k
def qU := @AX.ap
end
def kb (s s' : Aq) : Prop := s'.drop (s'.length - s.length) = s ∧ ((s'.take (s'.length - s.length)).all fun p => (get s p.1).isNone) = true
theorem aA {s : Aq} {i : Nat} {x : T} : ∀ {l : Aq}, (l.all fun p => (get s p.1).isNone) = true → get s i = some x → get (l ++ s) i = some x
 | [], _, h => h
 | (j, y) :: l, ha, h => by
  simp only [List.all_cons, Bool.and_eq_true] at ha
  simp only [List.cons_append, get]
  cases hb : Nat.beq j i with
  | true =>
   rw [nq hb, h] at ha
   simp at ha
  | false => rw [cond_false]; exact aA ha.2 h
theorem oO {s s' : Aq} (h : kb s s') (i : Nat) (x : T) (W : get s i = some x) : get s' i = some x := by
 obtain ⟨G, M⟩ := h
 rw [← List.take_append_drop (s'.length - s.length) s', G]
 exact aA M W
theorem E9 {x y : Code} {Q : Exit → St → Prop} (d : Nat) (e : Bool) (h : AW E n C x ⟨s, ob⟩ (Kx (fun σ' => get σ'.slots d = some (.v (.bool e)) ∧ σ'.objs = ob ∧ kb s σ'.slots) Q)) (k : AW E n C y ⟨(d, .v (.bool e)) :: s, ob⟩ Q) : AW E n C (.seq x y) ⟨s, ob⟩ Q :=
 gJ _ h fun σ' ⟨Z, W, h3⟩ H a w G => k H a w { G with
  slots := fun i z M => by
   simp only [get] at M
   cases hb : Nat.beq d i with
   | true => rw [hb, cond_true] at M; cases M; rw [← nq hb]; exact G.slots d _ Z
   | false => rw [hb, cond_false] at M; exact G.slots i z (oO h3 i z M)
  objs := by rw [← W]; exact G.objs
  free := by rw [← W]; exact G.free
  new := by rw [← W]; exact G.new
  nodup := by rw [← W]; exact G.nodup }
theorem jf {d : Nat} {a e : Bool} {s s' : Aq} {ob ob' : List Ob} (h : a = e) (h1 : get s' d = some (.v (.bool a))) (h2 : ob' = ob) (G : kb s s') : get s' d = some (.v (.bool e)) ∧ ob' = ob ∧ kb s s' := ⟨h ▸ h1, h2, G⟩
theorem rt {E : Env} {fn : Func} {Rc : T → List Ob → Prop} {t : Nat} {x : T} (hf : fn.results.toList = [.tmp t]) (M : get s t = some x) (G : Rc x []) : aS E fn Rc .ret ⟨s, ob⟩ := ⟨.inr rfl, [x], [], by rw [hf]; exact ⟨M, trivial⟩, List.nil_sublist _, G⟩
end
theorem A7 {E : Env} {n : Nat} {C : Ctx} {σ : St} {ty : TypeId} {pos : String} {aft : Array Edge} {g : Option (Nat × Bool)} (ks : List Nat) {d : Nat} {c : Operand} {args : Array Operand} {aa : Array TypeId} {f : FuncId} {G M xs ys : List T} {fp : List Ob} {X : T} {O N : List Ob} {R : St → Prop}
  (h : ACalls E f ys fp (Fh fp.length (fun x os new => x = X ∧ os = O ∧ new = N))) (k : R ⟨E5 σ.slots (some d) X, Fl σ.objs ks O ++ N⟩)
  (hc : (A5 σ.slots c).bind Kz = some (f, G, M) := by exact rfl) (hx : Fv σ.slots args.toList = some xs := by exact rfl) (Z : G ++ xs ++ M = ys := by exact rfl)
  (hk : Cu σ.objs ks = some fp := by exact rfl) (W : ks.Nodup := by decide) (hd : Nat.blt d n = true := by exact rfl) :
  AX E n C ks ⟨some d, .call { callee := .value c, args := args, argTypes := aa }, ty, pos, aft, g⟩ σ R :=
 E8 ks h (by rintro _ _ _ _ ⟨rfl, rfl, rfl⟩; exact k) hc hx Z hk W hd
theorem pr {E : Env} {fn : Func} {σ : St} {X : T} (h : aR E σ.slots σ.objs fn.results.toList [X] := by exact ⟨rfl, True.intro⟩) : aS E fn (fun x new => x = X ∧ new = []) .ret σ := ⟨.inr rfl, [X], [], h, Cv, rfl, rfl⟩
theorem g0 {n : Nat} {C : Ctx} {s : Aq} {ob : List Ob} : Ghost n C s ob s [] := Ghost.pick [] (K := []) rfl (by decide)
theorem Dd {E : Env} {n : Nat} {C : Ctx} {Q : Exit → St → Prop} {s : Aq} {ob : List Ob} {c : Code} (ks : List Nat) {K : List Ob} (G : Cu ob ks = some K) (k : AW E n C c ⟨s, K⟩ Q) (M : ks.Nodup := by decide) : AW E n C c ⟨s, ob⟩ Q := qL (Ghost.pick ks G M) k
theorem By {E : Env} {n : Nat} {C : Ctx} {σ : St} {ty : TypeId} {pos : String} {aft : Array Edge} {g : Option (Nat × Bool)} (k i j : Nat) (es' : List (List T)) {t : TypeId} {x y : Operand} {ti : TI} {c : T} {cs : List T} {b off tt sz cap : Nat} {es : List (List T)} {e : List T} {R : St → Prop}
  (W : σ.objs[k]? = some (.arr b tt sz cap es)) (kk : R ⟨σ.slots, σ.objs.set k (.arr b tt sz cap es')⟩)
  (hx : A5 σ.slots x = some (.v (.pointer (some ⟨b, off, none⟩))) := by exact rfl) (ht : E.tab t = some ti := by exact rfl) (he : es[i]? = some e := by exact rfl) (Z : off = i * sz + j := by exact rfl)
  (hy : A5 σ.slots y = some c := by exact rfl) (hc : Ej c = some cs := by exact rfl) (hsz : ti.size = cs.length := by exact rfl) (M : Nat.ble (j + cs.length) e.length = true := by exact rfl) (G : es.set i (Ex e j cs) = es' := by exact rfl) :
  AX E n C [k] ⟨none, .store t x y, ty, pos, aft, g⟩ σ R := qT k i j ht hx W he Z hy hc hsz (Nat.le_of_ble_eq_true M) rfl G kk
theorem Bc {α β : Type} {l : List α} {i : Int} {f : Nat × α → Option β} {r : β} (h : (ix l i).bind f = some r) : ∃ p, (i = (p.1 : Int) ∧ l[p.1]? = some p.2) ∧ f p = some r := by
 obtain ⟨p, G, M⟩ := Ad h
 exact ⟨p, V4 G, M⟩
theorem G0 {α β : Type} {n : Int} {z : α} {f : List α → Option β} {r : β} (h : (Su n z).bind f = some r) : ∃ l, (∃ m : Nat, n = (m : Int) ∧ m ≤ 68719476736 ∧ List.replicate m z = l) ∧ f l = some r := by
 obtain ⟨p, G, M⟩ := Ad h
 exact ⟨p, lW G, M⟩
theorem I2 {α β : Type} {a : α} {b : β} : a = a ∧ b = b := ⟨rfl, rfl⟩
theorem I3 {α β γ : Type} {a : α} {b : β} {c : γ} : a = a ∧ b = b ∧ c = c := ⟨rfl, rfl, rfl⟩
theorem I5 {α β γ δ ε : Type} {a : α} {b : β} {c : γ} {d : δ} {e : ε} : a = a ∧ b = b ∧ c = c ∧ d = d ∧ e = e := ⟨rfl, rfl, rfl, rfl, rfl⟩
theorem I7 {α β γ δ ε ζ η : Type} {a : α} {b : β} {c : γ} {d : δ} {e : ε} {f : ζ} {g : η} : a = a ∧ b = b ∧ c = c ∧ d = d ∧ e = e ∧ f = f ∧ g = g := ⟨rfl, rfl, rfl, rfl, rfl, rfl, rfl⟩
theorem J1 {α : Type} {a : α} : a = a ∧ True := ⟨rfl, J⟩
theorem J2 {α β : Type} {a : α} {b : β} : a = a ∧ b = b ∧ True := ⟨rfl, J1⟩
theorem J3 {α β γ : Type} {a : α} {b : β} {c : γ} : a = a ∧ b = b ∧ c = c ∧ True := ⟨rfl, J2⟩
theorem J4 {α β γ δ : Type} {a : α} {b : β} {c : γ} {d : δ} : a = a ∧ b = b ∧ c = c ∧ d = d ∧ True := ⟨rfl, J3⟩
theorem J5 {α β γ δ ε : Type} {a : α} {b : β} {c : γ} {d : δ} {e : ε} : a = a ∧ b = b ∧ c = c ∧ d = d ∧ e = e ∧ True := ⟨rfl, J4⟩
theorem J6 {α β γ δ ε ζ : Type} {a : α} {b : β} {c : γ} {d : δ} {e : ε} {f : ζ} : a = a ∧ b = b ∧ c = c ∧ d = d ∧ e = e ∧ f = f ∧ True := ⟨rfl, J5⟩
theorem J7 {α β γ δ ε ζ η : Type} {a : α} {b : β} {c : γ} {d : δ} {e : ε} {f : ζ} {g : η} : a = a ∧ b = b ∧ c = c ∧ d = d ∧ e = e ∧ f = f ∧ g = g ∧ True := ⟨rfl, J6⟩
theorem J8 {α β γ δ ε ζ η θ : Type} {a : α} {b : β} {c : γ} {d : δ} {e : ε} {f : ζ} {g : η} {h : θ} : a = a ∧ b = b ∧ c = c ∧ d = d ∧ e = e ∧ f = f ∧ g = g ∧ h = h ∧ True := ⟨rfl, J7⟩
theorem J9 {α β γ δ ε ζ η θ ι : Type} {a : α} {b : β} {c : γ} {d : δ} {e : ε} {f : ζ} {g : η} {h : θ} {i : ι} : a = a ∧ b = b ∧ c = c ∧ d = d ∧ e = e ∧ f = f ∧ g = g ∧ h = h ∧ i = i ∧ True := ⟨rfl, J8⟩
theorem pE {α β γ δ ε ζ η θ ι κ : Type} {a : α} {b : β} {c : γ} {d : δ} {e : ε} {f : ζ} {g : η} {h : θ} {i : ι} {j : κ} : a = a ∧ b = b ∧ c = c ∧ d = d ∧ e = e ∧ f = f ∧ g = g ∧ h = h ∧ i = i ∧ j = j ∧ True := ⟨rfl, J9⟩
theorem nN {α β γ δ ε ζ η θ ι κ μ : Type} {a : α} {b : β} {c : γ} {d : δ} {e : ε} {f : ζ} {g : η} {h : θ} {i : ι} {j : κ} {k : μ} : a = a ∧ b = b ∧ c = c ∧ d = d ∧ e = e ∧ f = f ∧ g = g ∧ h = h ∧ i = i ∧ j = j ∧ k = k ∧ True := ⟨rfl, pE⟩
theorem pU {α β γ δ ε ζ η θ ι κ μ ν : Type} {a : α} {b : β} {c : γ} {d : δ} {e : ε} {f : ζ} {g : η} {h : θ} {i : ι} {j : κ} {k : μ} {l : ν} : a = a ∧ b = b ∧ c = c ∧ d = d ∧ e = e ∧ f = f ∧ g = g ∧ h = h ∧ i = i ∧ j = j ∧ k = k ∧ l = l ∧ True := ⟨rfl, nN⟩
theorem mY {α β γ δ ε ζ η θ ι κ μ ν ξ : Type} {a : α} {b : β} {c : γ} {d : δ} {e : ε} {f : ζ} {g : η} {h : θ} {i : ι} {j : κ} {k : μ} {l : ν} {m : ξ} : a = a ∧ b = b ∧ c = c ∧ d = d ∧ e = e ∧ f = f ∧ g = g ∧ h = h ∧ i = i ∧ j = j ∧ k = k ∧ l = l ∧ m = m ∧ True := ⟨rfl, pU⟩
theorem mX {α β γ δ ε ζ η θ ι κ μ ν ξ ο : Type} {a : α} {b : β} {c : γ} {d : δ} {e : ε} {f : ζ} {g : η} {h : θ} {i : ι} {j : κ} {k : μ} {l : ν} {m : ξ} {n : ο} : a = a ∧ b = b ∧ c = c ∧ d = d ∧ e = e ∧ f = f ∧ g = g ∧ h = h ∧ i = i ∧ j = j ∧ k = k ∧ l = l ∧ m = m ∧ n = n ∧ True := ⟨rfl, mY⟩
theorem pQ {α β γ δ ε ζ η θ ι κ μ ν ξ ο π : Type} {a : α} {b : β} {c : γ} {d : δ} {e : ε} {f : ζ} {g : η} {h : θ} {i : ι} {j : κ} {k : μ} {l : ν} {m : ξ} {n : ο} {o : π} : a = a ∧ b = b ∧ c = c ∧ d = d ∧ e = e ∧ f = f ∧ g = g ∧ h = h ∧ i = i ∧ j = j ∧ k = k ∧ l = l ∧ m = m ∧ n = n ∧ o = o ∧ True := ⟨rfl, mX⟩
theorem B0 {E : Env} {n : Nat} {C : Ctx} {σ : St} {dst : Option Tmp} {ty : TypeId} {pos : String} {aft : Array Edge} {g : Option (Nat × Bool)} {t : TypeId} {z : Value} (cs : List T) (m : Nat) {R : St → Prop} (k : ∀ b, R ⟨E5 σ.slots dst (.v (.pointer (some ⟨b, 0, none⟩))), σ.objs ++ [(.arr b t m 1 [cs])]⟩)
  (G : (E.tab t).bind (fun i => i.zero) = some z := by exact rfl) (hc : z.cells.toList.map T.v = cs := by exact rfl) (h1 : z.cells.toList.all (·.oneCell') = true := by exact rfl) (W : cs.length = m := by exact rfl) (M : ∀ d, dst = some d → d < n := by exact dS) :
  AX E n C [] ⟨dst, .alloc t, ty, pos, aft, g⟩ σ R := by
 obtain ⟨i, hi, G⟩ := Option.bind_eq_some_iff.1 G
 exact AX.alloc hi G hc h1 W M k
theorem Cp {E : Env} {n : Nat} {C : Ctx} {σ : St} {dst : Option Tmp} {ty : TypeId} {pos : String} {aft : Array Edge} {g : Option (Nat × Bool)} {t : TypeId} {x : Operand} (cs : List T) (m : Nat) {R : St → Prop} (k : ∀ b, R ⟨E5 σ.slots dst (.v (.pointer (some ⟨b, 0, none⟩))), σ.objs ++ [(.arr b t m 1 [cs])]⟩)
  (W : (A5 σ.slots x).bind Ej = some cs := by exact rfl) (M : cs.length = m := by exact rfl) (G : ∀ d, dst = some d → d < n := by exact dS) :
  AX E n C [] ⟨dst, .box t x, ty, pos, aft, g⟩ σ R := by
 obtain ⟨y, Z, hc⟩ := Option.bind_eq_some_iff.1 W
 exact AX.box Z hc M G k
theorem Bl {E : Env} {n : Nat} {C : Ctx} {s : Aq} {ob : List Ob} {Q : Exit → St → Prop} {c : Operand} {x y : Code} {t : Nat} {b : Bool} (G : get s t = some (.v (.bool b))) (hb : b = true) (h : AW E n C x ⟨s, ob⟩ Q) (hc : c = .tmp t := by rfl) : AW E n C (.cond c x y) ⟨s, ob⟩ Q := Xt (v := true) G hb h hc
theorem Bm {E : Env} {n : Nat} {C : Ctx} {s : Aq} {ob : List Ob} {Q : Exit → St → Prop} {c : Operand} {x y : Code} {t : Nat} {b : Bool} (G : get s t = some (.v (.bool b))) (hb : b = false) (h : AW E n C y ⟨s, ob⟩ Q) (hc : c = .tmp t := by rfl) : AW E n C (.cond c x y) ⟨s, ob⟩ Q := Xt (v := false) G hb h hc
def sl : Nat → Nat → PL → PL
 | 0, _, r => r
 | m + 1, i, r => .still i (sl m (i + 1) r)
theorem io {α : Type _} {a b : α} (h : some a = some b) : b = a := (Option.some.inj h).symm
abbrev RV (t : T) (x : T) (new : List Ob) : Prop := x = t ∧ new = []
abbrev RB (r : Bool) (x : T) (new : List Ob) : Prop := x = .v (.bool r) ∧ new = []
abbrev N3 : List Nat := [0, 1, 2]
abbrev N4 : List Nat := [0, 1, 2, 3]
abbrev N5 : List Nat := [0, 1, 2, 3, 4]
abbrev N6 : List Nat := [0, 1, 2, 3, 4, 5]
abbrev N7 : List Nat := [0, 1, 2, 3, 4, 5, 6]
abbrev N8 : List Nat := [0, 1, 2, 3, 4, 5, 6, 7]
abbrev N9 : List Nat := [0, 1, 2, 3, 4, 5, 6, 7, 8]
abbrev Zm : List Nat := [0, 1, 2, 3, 4, 5, 6, 7, 8, 9]
abbrev K2 (a b : Nat) {xa xb : T} : Aq := [(a, xa), (b, xb)]
abbrev K3 (a b c : Nat) {xa xb xc : T} : Aq := [(a, xa), (b, xb), (c, xc)]
abbrev K4 (a b c d : Nat) {xa xb xc xd : T} : Aq := [(a, xa), (b, xb), (c, xc), (d, xd)]
abbrev K5 (a b c d e : Nat) {xa xb xc xd xe : T} : Aq := [(a, xa), (b, xb), (c, xc), (d, xd), (e, xe)]
abbrev K6 (a b c d e f : Nat) {xa xb xc xd xe xf : T} : Aq := [(a, xa), (b, xb), (c, xc), (d, xd), (e, xe), (f, xf)]
abbrev K7 (a b c d e f g : Nat) {xa xb xc xd xe xf xg : T} : Aq := [(a, xa), (b, xb), (c, xc), (d, xd), (e, xe), (f, xf), (g, xg)]
abbrev K8 (a b c d e f g h : Nat) {xa xb xc xd xe xf xg xh : T} : Aq := [(a, xa), (b, xb), (c, xc), (d, xd), (e, xe), (f, xf), (g, xg), (h, xh)]
abbrev K9 (a b c d e f g h i : Nat) {xa xb xc xd xe xf xg xh xi : T} : Aq := [(a, xa), (b, xb), (c, xc), (d, xd), (e, xe), (f, xf), (g, xg), (h, xh), (i, xi)]
abbrev pT (a b c d e f g h i j : Nat) {xa xb xc xd xe xf xg xh xi xj : T} : Aq := [(a, xa), (b, xb), (c, xc), (d, xd), (e, xe), (f, xf), (g, xg), (h, xh), (i, xi), (j, xj)]
abbrev T.P (b : Nat) : T := .v (.pointer (some ⟨b, 0, none⟩))
abbrev nS : Value := .slice none 0 0
theorem pk {ob o : List Ob} (k : List Nat) (h : Cu ob k = some o := by exact rfl) (n : k.Nodup := by decide) : ∃ p, Cu ob p = some o ∧ p.Nodup := ⟨k, h, n⟩
structure Yl where
 l : Nat
 fn : FuncId
 tmps : Array Value
 ps : Array Tmp
 assign : Code
 body : Code
 D : Nat
def Yl.lp (Y : Yl) (st : LoopState) (G : Option Code) : Loop := { state := st, pending := G, fn := Y.fn, tmps := Y.tmps, params := Y.ps, assign := Y.assign, body := Y.body, defers := Y.D }
def Yl.ob (Y : Yl) (st : LoopState) (G : Option Code) : Ob := .raw Y.l (.loop (Y.lp st G))
def Md : Exit → Option Code
 | .ret => some .ret
 | .exit id => some (.exit id)
 | _ => none
def Ye : List Tmp → List T → Aq → Aq
 | t :: ts, x :: xs, s => Ye ts xs ((t, x) :: s)
 | _, _, s => s
section
variable {E : Env} {n : Nat} {C : Ctx} {s : Aq} {ob : List Ob} {Q : Exit → St → Prop} {R : St → Prop} {Y : Yl}
def nL (H : GH) (w : World) (fp : List Ob) : Prop := ((∀ b o, H b = some o → w.heap[b]? = some o) ∧ fF H) ∧ (∀ p, p ∈ fp → OR H w p ∧ ∀ b, b ∈ p.fp → H b = none) ∧ (fp.flatMap Ob.fp).Nodup
def Round (E : Env) (H0 : GH) (Y : Yl) (v : List T) (ob : List Ob) (K : List Ob → Prop) (X : Exit → List Ob → Prop) : Prop :=
 ∀ (H : GH) (w : World) (Z : Array Value), Z.size = v.length → (∀ (i : Nat) (x : T), v[i]? = some x → VR H (Z.getD i undef) x) → (∀ b o, H0 b = some o → H b = some o) → nL H w (Y.ob .ready none :: ob) →
  ∃ M, (Instr.yield Y.l Z).run E.P w = .ok (.round Y.l Y.fn M Y.assign Y.body) w ∧ RoundIn Fence.wide 0 E.P Y.l Y.fn M Y.assign Y.body w fun e w' => ∃ b H' W, e = .returned (.bool b) ∧
   Vc H w (Y.ob .ready none :: ob) w' H' W ∧ ((b = true ∧ ∃ G, K G ∧ W = Y.ob .ready none :: G) ∨ (b = false ∧ ∃ x c G, Md x = some c ∧ X x G ∧ W = Y.ob .done (some c) :: G))
theorem Se {H : GH} : ∀ (ps : List Tmp) (v : List T) (vs : List Value) (G : Array Value) (S : Aq), ps.length = v.length → vs.length = v.length → ps.all (fun t => Nat.blt t n) = true → G.size = n →
  (∀ (i : Nat) (x : T), v[i]? = some x → VR H (vs.getD i undef) x) → (∀ i x, get S i = some x → VR H (G.getD i undef) x) →
  ((ps.zip vs).foldl (fun t (p : Tmp × Value) => t.setIfInBounds p.1 p.2) G).size = n ∧ ∀ i x, get (Ye ps v S) i = some x → VR H (((ps.zip vs).foldl (fun t (p : Tmp × Value) => t.setIfInBounds p.1 p.2) G).getD i undef) x
 | [], [], [], G, S, _, _, _, hn, _, hS => ⟨by simpa using hn, by simpa [Ye] using hS⟩
 | t :: ts, x :: xs, y :: ys, G, S, h1, h2, h3, hn, hv, hS => by
  simp only [List.all_cons, Bool.and_eq_true] at h3
  have ht : t < n := Nat.le_of_ble_eq_true h3.1
  refine Se ts xs ys (G.setIfInBounds t y) ((t, x) :: S) (by simpa using h1) (by simpa using h2) h3.2 (by simpa using hn) (fun i z M => by simpa using hv (i + 1) z (by simpa using M)) ?_
  intro i z M
  simp only [get] at M
  cases hb : Nat.beq t i with
  | true =>
   have := nq hb
   subst this
   rw [hb, cond_true] at M
   cases M
   have Z := hv 0 x (by simp)
   have : t < G.size := by rw [hn]; exact ht
   simpa [Array.getD, this] using Z
  | false =>
   rw [hb, cond_false] at M
   have W : t ≠ i := fun h => by rw [h] at hb; simp at hb
   have he : (G.setIfInBounds t y).getD i undef = G.getD i undef := by simp [Array.getD_eq_getD_getElem?, Array.getElem?_setIfInBounds_ne W]
   rw [he]; exact hS i z M
 | [], _ :: _, _, _, _, h1, _, _, _, _, _ => by simp at h1
 | _ :: _, [], _, _, _, h1, _, _, _, _, _ => by simp at h1
 | [], [], _ :: _, _, _, _, h2, _, _, _, _ => by simp at h2
 | _ :: _, _ :: _, [], _, _, _, h2, _, _, _, _ => by simp at h2
def OL (ob' : List Ob) (σ : St) : Prop := ∃ ks, Cu σ.objs ks = some ob' ∧ ks.Nodup
theorem OL.gam {H : GH} {a : Act} {w : World} {σ : St} {ob' : List Ob} (h : OL ob' σ) (Z : Gam n C σ H a w) : Gam n C ⟨[], ob'⟩ H a w := by
 obtain ⟨ks, h1, h2⟩ := h
 obtain ⟨p1, p2⟩ := Gh h1
 have hm : ∀ (i : Nat) (p : Ob), ob'[i]? = some p → ∃ k, ks[i]? = some k ∧ σ.objs[k]? = some p := by
  intro i p M
  have hil := (gs M).1
  obtain ⟨o, q1, q2⟩ := p2 i ks[i] (gq (by omega))
  rw [M] at q2; cases q2
  exact ⟨_, gq (by omega), q1⟩
 have G : ∀ p, p ∈ ob' → p ∈ σ.objs := fun p W => by
  obtain ⟨i, M⟩ := List.mem_iff_getElem?.1 W
  obtain ⟨k, _, hk⟩ := hm i p M
  exact mg hk
 refine { Z with slots := fun i x h => by simp [get] at h, objs := fun p W => Z.objs p (G p W), free := fun p W => Z.free p (G p W), new := fun p W => Z.new p (G p W), nodup := ?_ }
 refine C0.2 ⟨fun i p M => ?_, fun i j p q M hj hne b hb => ?_⟩
 ·obtain ⟨k, _, hk⟩ := hm i p M
  exact (C0.1 Z.nodup).1 k p hk
 ·obtain ⟨k, k1, k2⟩ := hm i p M
  obtain ⟨k', k1', k2'⟩ := hm j q hj
  refine Py Z.nodup k2 k2' (fun he => hne ?_) b hb
  exact (List.getElem?_inj (gs k1).1 h2).1 (by rw [k1, k1', he])
theorem S4 {H0 : GH} {S S1 : Aq} {v : List T} {K : List Ob → Prop} {X : Exit → List Ob → Prop} (hY : Y.tmps.size = n) (hS : ∀ i x, get S i = some x → VR H0 (Y.tmps.getD i undef) x)
  (hps : Y.ps.toList.length = v.length) (hpn : Y.ps.toList.all (fun t => Nat.blt t n) = true) (hn1 : nd Y.assign = true) (hn2 : nd Y.body = true)
  (ha : ∀ C : Ctx, AW E n C Y.assign ⟨Ye Y.ps.toList v S, ob⟩ (fun e σ' => e = .normal ∧ σ' = ⟨S1, ob⟩))
  (hb : ∀ C : Ctx, C.fp = ob.flatMap Ob.fp → AW E n C Y.body ⟨S1, ob⟩ (fun e σ' => ∃ ob', OL ob' σ' ∧ ((e = .normal ∧ K ob') ∨ ∃ c, Md e = some c ∧ X e ob'))) : Round E H0 Y v ob K X := by
 intro H w vs hvs hv h0 ⟨⟨hheld, hg⟩, hfp, hnd⟩
 have hl : w.heap[Y.l]? = some (.loop (Y.lp .ready none)) := (hfp (Y.ob .ready none) (by simp)).1
 have hlH : H Y.l = none := (hfp (Y.ob .ready none) (by simp)).2 _ (by simp [Yl.ob, Ob.fp])
 have ac : Y.l < w.heap.size := (Array.getElem?_eq_some_iff.1 hl).1
 have hlo : ∀ p, p ∈ ob → ∀ b, b ∈ p.fp → b ≠ Y.l := by
  intro p Z b hb he
  rw [List.flatMap_cons, List.nodup_append] at hnd
  exact hnd.2.2 Y.l (by simp [Yl.ob, Ob.fp]) b (List.mem_flatMap.2 ⟨p, Z, hb⟩) he.symm
 have aa : Y.l ∉ ob.flatMap Ob.fp := fun h => by obtain ⟨p, Z, hb⟩ := List.mem_flatMap.1 h; exact hlo p Z _ hb rfl
 have hnd' : (ob.flatMap Ob.fp).Nodup := by rw [List.flatMap_cons, List.nodup_append] at hnd; exact hnd.2.1
 have hyr := run_yield (P := E.P) (args := vs) hl (by rw [hvs, ← hps]; simp [Yl.lp])
 refine ⟨_, hyr, roundIn_of_wpIn trivial ?_⟩
 have htm : ((Y.ps.zip vs).foldl (fun t (p : Tmp × Value) => t.setIfInBounds p.1 p.2) Y.tmps) = ((Y.ps.toList.zip vs.toList).foldl (fun t (p : Tmp × Value) => t.setIfInBounds p.1 p.2) Y.tmps) := by
  rw [← Array.foldl_toList, Array.toList_zip]
 obtain ⟨t1, t2⟩ := Se (n := n) (H := H) Y.ps.toList v vs.toList Y.tmps S hps (by simpa using hvs) hpn hY (fun i x hx => by simpa [Array.getD_eq_getD_getElem?, List.getD] using hv i x hx) (fun i x hx => (hS i x hx).mono h0)
 rw [← htm] at t1 t2
 have gm1 : Gam n ⟨w, H, ob.flatMap Ob.fp, hg⟩ ⟨Ye Y.ps.toList v S, ob⟩ H { tmps := (Y.ps.zip vs).foldl (fun t (p : Tmp × Value) => t.setIfInBounds p.1 p.2) Y.tmps, defers := [] } w :=
  ⟨.nil, t1, t2, fun p Z => (hfp p (by simp [Z])).1, fun p Z => (hfp p (by simp [Z])).2, fun p Z b hb => .inr (List.mem_flatMap.2 ⟨p, Z, hb⟩), hnd', hheld, fun _ _ h => h, Nat.le_refl _, fun _ _ _ => ⟨rfl, rfl⟩, ⟨rfl, rfl, rfl⟩⟩
 refine wpIn_mono (ha _ H _ w gm1 (some Y.l) (fun _ => hn1)) ?_
 rintro e a1 w1 ⟨σ1, H2, ⟨rfl, rfl⟩, M⟩
 have hl1 : w1.heap[Y.l]? = some (.loop (Y.lp .ready none)) := ((M.frame Y.l ac aa).1).trans hl
 have hl1H : H2 Y.l = none := ((M.frame Y.l ac aa).2).trans hlH
 have hl1l : Y.l < w1.heap.size := (Array.getElem?_eq_some_iff.1 hl1).1
 refine ⟨_, run_beginRound hl1 rfl, ?_⟩
 obtain ⟨bz, hbz⟩ : ∃ bz, bz = Obj.loop { Y.lp .ready none with state := .busy } := ⟨_, rfl⟩
 rw [← hbz]
 have ho1 : ∀ b, b ≠ Y.l → (w1.putObj Y.l bz).heap[b]? = w1.heap[b]? := fun b hb => World.putObj_heap_other hb
 have ho0 : ∀ b, b ≠ Y.l → (w.putObj Y.l bz).heap[b]? = w.heap[b]? := fun b hb => World.putObj_heap_other hb
 have gm4 : Gam n ⟨w.putObj Y.l bz, H, ob.flatMap Ob.fp, hg⟩ ⟨S1, ob⟩ H2 a1 (w1.putObj Y.l bz) := by
  refine ⟨by have := M.defers; simpa using this, M.size, M.slots, fun p Z => (M.objs p Z).mono (fun _ _ h => h) (fun b hb => ho1 b (hlo p Z b hb)), M.free, fun p Z b hb => .inr (List.mem_flatMap.2 ⟨p, Z, hb⟩), M.nodup, fun b o hb => ?_, M.grow, by simpa using M.heap, fun b hb hf => ?_, M.env⟩
  ·have : b ≠ Y.l := fun he => by rw [he, hl1H] at hb; cases hb
   rw [ho1 b this]; exact M.held b o hb
  ·by_cases ab : b = Y.l
   ·subst ab
    refine ⟨?_, hl1H.trans hlH.symm⟩
    rw [World.putObj_heap_same hl1l, World.putObj_heap_same ac]
   ·have := M.frame b (by simpa using hb) hf
    exact ⟨(ho1 b ab).trans (this.1.trans (ho0 b ab).symm), this.2⟩
 refine wpIn_mono (hb ⟨w.putObj Y.l bz, H, ob.flatMap Ob.fp, hg⟩ rfl H2 a1 _ gm4 (some Y.l) (fun _ => hn2)) ?_
 rintro e a2 w2 ⟨σ2, H3, ⟨ob', hol, hq⟩, gm5⟩
 have W := hol.gam gm5
 have hf2 := W.frame Y.l (by simpa using ac) aa
 have hl2 : w2.heap[Y.l]? = some bz := hf2.1.trans (World.putObj_heap_same ac)
 have hl2H : H3 Y.l = none := hf2.2.trans hlH
 have hl2l : Y.l < w2.heap.size := (Array.getElem?_eq_some_iff.1 hl2).1
 rw [hbz] at hl2
 have fin : ∀ (G : Option Code), (Instr.endRound Y.l G).run E.P w2 = .ok (.bool G.isNone) (w2.putObj Y.l (.loop (Y.lp (if G.isNone then .ready else .done) G))) ∧
   Vc H w (Y.ob .ready none :: ob) (w2.putObj Y.l (.loop (Y.lp (if G.isNone then .ready else .done) G))) H3 (Y.ob (if G.isNone then .ready else .done) G :: ob') := by
  intro G
  refine ⟨run_endRound G hl2, W.grow, fun b o hb => ?_, fun p Z => ?_, ?_, by have := W.heap; simpa using this, W.env, fun b hb hf => ?_⟩
  ·have : b ≠ Y.l := fun he => by rw [he, hl2H] at hb; cases hb
   rw [World.putObj_heap_other this]; exact W.held b o hb
  ·rcases List.mem_cons.1 Z with rfl | Z
   ·refine ⟨World.putObj_heap_same hl2l, fun b hb => ?_⟩
    simp only [Yl.ob, Ob.fp, List.mem_singleton] at hb
    subst hb
    exact ⟨hl2H, .inr (by simp [Yl.ob, Ob.fp])⟩
   ·have hne : ∀ b, b ∈ p.fp → b ≠ Y.l := by
     intro b hb he
     rcases W.new p Z b hb with h | h
     ·have h' : w.heap.size ≤ b := by simpa using h
      omega
     ·exact aa (he ▸ h)
    refine ⟨(W.objs p Z).mono (fun _ _ h => h) (fun b hb => World.putObj_heap_other (hne b hb)), fun b hb => ⟨W.free p Z b hb, ?_⟩⟩
    rcases W.new p Z b hb with h | h
    ·exact .inl (by simpa using h)
    ·exact .inr (by rw [List.flatMap_cons]; exact List.mem_append_right _ h)
  ·rw [List.flatMap_cons, List.nodup_append]
   refine ⟨by simp [Yl.ob, Ob.fp], W.nodup, ?_⟩
   intro x hx y hy hxy
   simp only [Yl.ob, Ob.fp, List.mem_singleton] at hx
   subst hx hxy
   obtain ⟨p, Z, hb⟩ := List.mem_flatMap.1 hy
   rcases W.new p Z _ hb with h | h
   ·have h' : w.heap.size ≤ Y.l := by simpa using h
    omega
   ·exact aa h
  ·rw [List.flatMap_cons, List.mem_append, not_or] at hf
   have ab : b ≠ Y.l := fun he => hf.1 (by simp [Yl.ob, Ob.fp, he])
   have := W.frame b (by simpa using hb) hf.2
   exact ⟨(World.putObj_heap_other ab).trans (this.1.trans (ho0 b ab)), this.2⟩
 rcases hq with ⟨rfl, hK⟩ | ⟨c, hc, hX⟩
 ·obtain ⟨f1, f2⟩ := fin none
  exact ⟨_, _, f1, true, H3, _, rfl, f2, .inl ⟨rfl, ob', hK, rfl⟩⟩
 ·cases e with
  | ret =>
   obtain ⟨f1, f2⟩ := fin (some .ret)
   exact ⟨_, _, f1, false, H3, _, rfl, f2, .inr ⟨rfl, _, _, ob', rfl, hX, rfl⟩⟩
  | exit id =>
   obtain ⟨f1, f2⟩ := fin (some (.exit id))
   exact ⟨_, _, f1, false, H3, _, rfl, f2, .inr ⟨rfl, _, _, ob', rfl, hX, rfl⟩⟩
  | _ => simp [Md] at hc
theorem AO.yield {ops : Array Oper} {l : List Oper} {d : Nat} {c : Operand} {args : Array Operand} {ab : Array TypeId} {ty : TypeId} {pos : String} {aft : Array Edge} {v : List T} {its : List Ob} {K : List Ob → Prop} {X : Exit → List Ob → Prop} (hR : Round E C.H0 Y v ob K X)
  (hc : A5 s c = some (.v (.func (.yield Y.l) #[] #[]))) (hx : Fv s args.toList = some v) (hd : Nat.blt d n = true)
  (k1 : ∀ ob', K ob' → AO E n C ops l ⟨(d, .v (.bool true)) :: s, Y.ob .ready none :: (ob' ++ its)⟩ R)
  (k2 : ∀ x c ob', Md x = some c → X x ob' → AO E n C ops l ⟨(d, .v (.bool false)) :: s, Y.ob .done (some c) :: (ob' ++ its)⟩ R) :
  AO E n C ops (⟨some d, .call { callee := .value c, args := args, argTypes := ab }, ty, pos, aft, none⟩ :: l) ⟨s, Y.ob .ready none :: (ob ++ its)⟩ R := by
 intro H a w Z
 simp only [Ya]
 rw [if_pos (by simp [Region.wanted])]
 refine ⟨fun _ _ => trivial, ?_⟩
 obtain ⟨q1, q2⟩ := F3 Z.sr hx
 have hev : a.eval c = .func (.yield Y.l) #[] #[] := (Z.sr.eval hc).v_eq
 have W : ∀ p, p ∈ Y.ob .ready none :: ob → p ∈ Y.ob .ready none :: (ob ++ its) := fun p G => by
  rcases List.mem_cons.1 G with h | h
  ·exact List.mem_cons.2 (.inl h)
  ·exact List.mem_cons.2 (.inr (List.mem_append_left _ h))
 have M := Z.nodup
 have hnd1 : ((Y.ob .ready none :: ob).flatMap Ob.fp).Nodup := (Dc (List.Sublist.cons_cons _ (List.sublist_append_left ob its))).nodup M
 have aa : ∀ p, p ∈ its → ∀ b, b ∈ p.fp → b ∉ (Y.ob .ready none :: ob).flatMap Ob.fp := by
  intro p G b hb hm
  have h1 : ((Y.ob .ready none :: (ob ++ its)).flatMap Ob.fp) = (Y.ob .ready none :: ob).flatMap Ob.fp ++ its.flatMap Ob.fp := by simp
  dsimp only at M
  rw [h1, List.nodup_append] at M
  exact M.2.2 b hm b (List.mem_flatMap.2 ⟨p, G, hb⟩) rfl
 obtain ⟨tmps, y1, y2⟩ := hR H w (args.map a.eval) (by simpa using q1) (fun i x hi => by
  have := q2 i x hi
  simpa [Array.getD_eq_getD_getElem?, List.getD] using this) Z.grow ⟨⟨Z.held, fun b l h => (C.hg b l h).mono Z.grow⟩, fun p G => ⟨Z.objs p (W p G), Z.free p (W p G)⟩, hnd1⟩
 have hrun : (Oper.semAt Fence.wide.round a.eval ⟨some d, .call { callee := .value c, args := args, argTypes := ab }, ty, pos, aft, none⟩).run E.P w = .ok (.round Y.l Y.fn tmps Y.assign Y.body) w := by
  change (execOp a.eval ⟨some d, .call { callee := .value c, args := args, argTypes := ab }, ty, pos, aft, none⟩).run E.P w = _
  simp [execOp, resolve, hev, Deferred.ofValue, invoke, y1]
 rw [hrun]
 refine ⟨fun h => (by cases h), y2.mono ?_⟩
 rintro e w' ⟨b, H', fp', rfl, ⟨l1, l2, l3, l4, l5, l6, l7⟩, hq⟩
 have hnd2 : ∀ p, p ∈ its → ∀ b, b ∈ p.fp → b ∉ fp'.flatMap Ob.fp := by
  intro p G b hb hm
  obtain ⟨q, hq, hbq⟩ := List.mem_flatMap.1 hm
  have hpm : p ∈ Y.ob .ready none :: (ob ++ its) := by simp [G]
  rcases ((l3 q hq).2 b hbq).2 with h | h
  ·have := (Z.objs p hpm).lt b hb; omega
  ·exact aa p G b hb h
 have g2 : Gam n C ⟨s, fp' ++ its⟩ H' a w' := by
  refine Gam.called (σ := ⟨s, Y.ob .ready none :: (ob ++ its)⟩) Z (fp := Y.ob .ready none :: ob) (fp' := fp') W l1 l2 l3 l5 l6 l7 (fun p G => ?_) ?_
  ·rcases List.mem_append.1 G with h | h
   ·exact .inl h
   ·exact .inr ⟨by simp [h], aa p h⟩
  ·rw [List.flatMap_append, List.nodup_append]
   refine ⟨l4, ?_, fun x hx y hy hxy => ?_⟩
   ·have : its.Sublist (Y.ob .ready none :: (ob ++ its)) := (List.sublist_append_right ob its).cons _
    exact (Dc this).nodup M
   ·subst hxy
    obtain ⟨p, G, hb⟩ := List.mem_flatMap.1 hy
    exact hnd2 p G x hb hx
 have hd' : ∀ d', some d = some d' → d' < n := Bq hd
 rcases hq with ⟨rfl, ob', hK, rfl⟩ | ⟨rfl, x, c', ob', hj, hX, rfl⟩
 ·have := g2.put (dst := some d) (v := .bool true) (x := .v (.bool true)) (.v _) hd'
  exact k1 ob' hK H' _ w' this
 ·have := g2.put (dst := some d) (v := .bool false) (x := .v (.bool false)) (.v _) hd'
  exact k2 x c' ob' hj hX H' _ w' this
def VS (n : Nat) (C : Ctx) (σ : St) (P : St → Prop) : Prop := ∀ H a w, Gam n C σ H a w → ∃ σ' H', P σ' ∧ Gam n C σ' H' a w
theorem VS.ret {σ : St} {P : St → Prop} (h : P σ) : VS n C σ P := fun H a w G => ⟨σ, H, h, G⟩
theorem VS.ghost {s' : Aq} {ob' : List Ob} {P : St → Prop} (g : Ghost n C s ob s' ob') (k : VS n C ⟨s', ob'⟩ P) : VS n C ⟨s, ob⟩ P := fun H a w G => let ⟨H', _, gm'⟩ := g H a w G; k H' a w gm'
theorem AW.range {g : Operand} {ps : Array Tmp} {assign body : Code} {f : FuncId} {caps : List T} {fn : Func} {c : Code} (hg : (A5 s g).bind Kz = some (f, [], caps)) (hf : E.P.funcs[f]? = some fn) (hb : fn.body = some c) (hname : (fn.name == "runtime.NumGoroutine") = false)
  (hn : Nat.ble (caps.length + 1) fn.ntmps = true) (X : Exit → List Ob → Prop) (Z : List Ob → Prop)
  (walk : ∀ (Y : Yl) (C : Ctx), Y.ps = ps → Y.assign = assign → Y.body = body → Y.tmps.size = n → (∀ i x, get s i = some x → VR C.H0 (Y.tmps.getD i undef) x) →
   AW E fn.ntmps C c ⟨Uy 0 (.v (.func (.yield Y.l) #[] #[]) :: caps), Y.ob .ready none :: ob⟩ (aS E fn (fun _ fp' => (∃ ob', Z ob' ∧ fp' = Y.ob .ready none :: ob') ∨ ∃ x c ob', Md x = some c ∧ X x ob' ∧ fp' = Y.ob .done (some c) :: ob')))
  (kz : ∀ ob', Z ob' → VS n C ⟨s, ob'⟩ (Q .normal)) (kx : ∀ x ob', X x ob' → Q x ⟨s, ob'⟩) : AW E n C (.rangeFunc g ps assign body) ⟨s, ob⟩ Q := by
 intro H a w M ro hro
 cases ro with
 | some l => exact absurd (hro rfl) (by simp [nd])
 | none =>
 refine wpIn_rangeFunc ?_
 intro fid _
 obtain ⟨y, hy, hfn⟩ := Option.bind_eq_some_iff.1 hg
 obtain ⟨first, G, hev, z1, z2, z3, z4⟩ := R6 (M.sr.eval hy) hfn
 have hfirst : first = #[] := by simpa using z1
 subst hfirst
 obtain ⟨Y, hY⟩ : ∃ Y : Yl, Y = ⟨w.heap.size + 1, fid, a.tmps, ps, assign, body, w.heap.size⟩ := ⟨_, rfl⟩
 obtain ⟨wD, hwD⟩ : ∃ wD, wD = w.alloc (.deferred (some [])) := ⟨_, rfl⟩
 obtain ⟨w1, hw1⟩ : ∃ w1, w1 = wD.alloc (.loop (Y.lp .ready none)) := ⟨_, rfl⟩
 have hsD : wD.heap.size = w.heap.size + 1 := by rw [hwD]; simp
 have hs1 : w1.heap.size = w.heap.size + 2 := by rw [hw1]; simp [hsD]
 have hDold : ∀ b, b < w.heap.size → w1.heap[b]? = w.heap[b]? := fun b hb => by
  rw [hw1, heap_alloc_old wD _ (by omega), hwD, heap_alloc_old w _ hb]
 have hDD : w1.heap[w.heap.size]? = some (.deferred (some [])) := by
  rw [hw1, heap_alloc_old wD _ (by omega), hwD]; exact World.alloc_heap_new w _
 have hll : w1.heap[Y.l]? = some (.loop (Y.lp .ready none)) := by
  have : Y.l = wD.heap.size := by rw [hY, hsD]
  rw [hw1, this]; exact World.alloc_heap_new wD _
 have hYl : Y.l = w.heap.size + 1 := by rw [hY]
 have hYt : Y.tmps = a.tmps := by rw [hY]
 obtain ⟨HD, hHD⟩ : ∃ HD : GH, HD = fun b => if b = w.heap.size then some (.deferred (some [])) else H b := ⟨_, rfl⟩
 have hlt : ∀ b o, H b = some o → b < w.heap.size := fun b o h => (Array.getElem?_eq_some_iff.1 (M.held b o h)).1
 have W : ∀ b o, H b = some o → HD b = some o := fun b o h => by
  have := hlt b o h
  rw [hHD]; simp only [show b ≠ w.heap.size by omega, if_false]; exact h
 have hHDlt : ∀ b, b ≠ w.heap.size → HD b = H b := fun b hb => by rw [hHD]; simp only [hb, if_false]
 have hheldD : ∀ b o, HD b = some o → w1.heap[b]? = some o := fun b o h => by
  by_cases hb : b = w.heap.size
  ·rw [hHD] at h; simp only [hb, if_true] at h; rw [hb]; rw [hDD]; exact h
  ·rw [hHDlt b hb] at h; rw [hDold b (hlt b o h)]; exact M.held b o h
 have hHl : ∀ b, w.heap.size < b → HD b = none := fun b hb => by
  rw [hHDlt b (by omega)]
  cases h : H b with
  | none => rfl
  | some o => have := hlt b o h; omega
 have hobl : ∀ p, p ∈ ob → ∀ b, b ∈ p.fp → b < w.heap.size := fun p hp b hb => (M.objs p hp).lt b hb
 have hent : nL HD w1 (Y.ob .ready none :: ob) := by
  refine ⟨⟨hheldD, fun b l h => (C.hg b l h).mono (fun b o h => W b o (M.grow b o h))⟩, fun p hp => ?_, ?_⟩
  ·rcases List.mem_cons.1 hp with rfl | hp
   ·refine ⟨hll, fun b hb => ?_⟩
    simp only [Yl.ob, Ob.fp, List.mem_singleton] at hb
    exact hHl b (by omega)
   ·refine ⟨(M.objs p hp).mono W (fun b hb => hDold b (hobl p hp b hb)), fun b hb => ?_⟩
    rw [hHDlt b (by have := hobl p hp b hb; omega)]; exact M.free p hp b hb
  ·rw [List.flatMap_cons, List.nodup_append]
   refine ⟨by simp [Yl.ob, Ob.fp], M.nodup, fun x hx y hy hxy => ?_⟩
   simp only [Yl.ob, Ob.fp, List.mem_singleton] at hx
   obtain ⟨p, hp, hb⟩ := List.mem_flatMap.1 hy
   have := hobl p hp y hb
   omega
 have hcall := Kj (E := E) hf hb (xs := .v (.func (.yield Y.l) #[] #[]) :: caps) (by simpa using hn) (H := HD) (w := w1) (vs := #[.func (.yield Y.l) #[] #[]] ++ G) (by simp [z2]; omega)
  (fun i x hi => by
   cases i with
   | zero => simp at hi; subst hi; simpa [Array.getD_eq_getD_getElem?, Array.getElem?_append] using VR.v _
   | succ i =>
    have := (z4 i x (by simpa using hi)).mono W
    simpa [Array.getD_eq_getD_getElem?, Array.getElem?_append, List.getD] using this)
  hent.1 hent.2.1 hent.2.2 (walk Y ⟨w1, HD, _, hent.1.2⟩ (by rw [hY]) (by rw [hY]) (by rw [hY]) (by rw [hY]; exact M.size) (fun i x hx => hYt.symm ▸ (M.slots i x hx).mono W))
 refine ⟨Y.l, [{ target := .collected w.heap.size, args := #[] }], w1, { target := .fn (.func f) G, args := #[.func (.yield Y.l) #[] #[]] }, w1, f, #[.func (.yield Y.l) #[] #[]] ++ G, w1, ?_, ?_, fun _ _ => trivial, ?_, fun h => (by cases h), ?_⟩
 ·have := run_enterLoop_outer (P := E.P) (w := w) fid a.tmps ps assign body
  rw [hYl, hw1, hwD, hY]; exact this
 ·simp [resolve, hev, Deferred.ofValue]; rfl
 ·have f3 : ¬ fn.body = none := by rw [hb]; simp
  have f2 : ¬ fn.name = "runtime.NumGoroutine" := by simpa using hname
  simp [invoke, callFunc, hf, f2, f3]
 ·refine (callsIn_wide.2 hcall).mono ?_
  rintro e w3 ⟨v, x, fp', H3, rfl, hq, _, ⟨l1, l2, l3, l4, l5, l6, l7⟩⟩
  have fin : ∀ (st : LoopState) (pe : Option Code) (ob' : List Ob), st ≠ .busy → fp' = Y.ob st pe :: ob' → (Instr.endLoop Y.l).run E.P w3 = .ok pe (w3.putObj Y.l (.loop { Y.lp st pe with state := .exhausted })) ∧
    Gam n C ⟨s, ob'⟩ H3 { a with defers := { target := .collected w.heap.size, args := #[] } :: a.defers } (w3.putObj Y.l (.loop { Y.lp st pe with state := .exhausted })) := by
   intro st pe ob' hst he
   subst he
   have hl3 : w3.heap[Y.l]? = some (.loop (Y.lp st pe)) := (l3 (Y.ob st pe) (by simp)).1
   have hl3H : H3 Y.l = none := ((l3 (Y.ob st pe) (by simp)).2 Y.l (by simp [Yl.ob, Ob.fp])).1
   have hoth : ∀ b, b ≠ Y.l → (w3.putObj Y.l (.loop { Y.lp st pe with state := .exhausted })).heap[b]? = w3.heap[b]? := fun b hb => World.putObj_heap_other hb
   have hne : ∀ p, p ∈ ob' → ∀ b, b ∈ p.fp → b ≠ Y.l := fun p hp b hb he => by
    rw [List.flatMap_cons, List.nodup_append] at l4
    exact l4.2.2 Y.l (by simp [Yl.ob, Ob.fp]) b (List.mem_flatMap.2 ⟨p, hp, hb⟩) he.symm
   refine ⟨run_endLoop hl3 hst, ⟨?_, M.size, fun i x hx => (M.slots i x hx).mono (fun b o h => l1 _ _ (W _ _ h)), fun p hp => (l3 p (by simp [hp])).1.mono (fun _ _ h => h) (fun b hb => hoth b (hne p hp b hb)), fun p hp b hb => ((l3 p (by simp [hp])).2 b hb).1, fun p hp b hb => ?_, ?_, fun b o hb => ?_, fun b o hb => l1 _ _ (W _ _ (M.grow _ _ hb)), ?_, fun b hb hf => ?_, ?_⟩⟩
   ·refine ⟨List.nodup_cons.2 ⟨fun hm => ?_, M.defers.1⟩, fun d hd => ?_⟩
    ·obtain ⟨b, e1, e2, e3⟩ := M.defers.2 _ hm
     have := hlt b _ e2
     simp only [Deferred.mk.injEq, Target.collected.injEq] at e1
     omega
    ·rcases List.mem_cons.1 hd with rfl | hd
     ·exact ⟨w.heap.size, rfl, l1 _ _ (by rw [hHD]; simp), M.heap⟩
     ·obtain ⟨b, e1, e2, e3⟩ := M.defers.2 d hd
      exact ⟨b, e1, l1 _ _ (W _ _ e2), e3⟩
   ·rcases ((l3 p (by simp [hp])).2 b hb).2 with h | h
    ·exact .inl (Nat.le_trans M.heap (by omega))
    ·rw [List.flatMap_cons, List.mem_append] at h
     rcases h with h | h
     ·simp only [Yl.ob, Ob.fp, List.mem_singleton] at h
      exact absurd h (hne p hp b hb)
     ·obtain ⟨q, hq, hbq⟩ := List.mem_flatMap.1 h
      exact M.new q hq b hbq
   ·rw [List.flatMap_cons, List.nodup_append] at l4; exact l4.2.1
   ·have : b ≠ Y.l := fun he => by rw [he, hl3H] at hb; cases hb
    rw [hoth b this]; exact l2 _ _ hb
   ·have := M.heap; simp; omega
   ·have hb' : b < w.heap.size := Nat.lt_of_lt_of_le hb M.heap
    have hbl : b ≠ Y.l := by omega
    have hnf : b ∉ (Y.ob .ready none :: ob).flatMap Ob.fp := fun hm => by
     rw [List.flatMap_cons, List.mem_append] at hm
     rcases hm with h | h
     ·simp only [Yl.ob, Ob.fp, List.mem_singleton] at h; exact hbl h
     ·obtain ⟨q, hq, hbq⟩ := List.mem_flatMap.1 h
      rcases M.new q hq b hbq with h | h
      ·omega
      ·exact hf h
    have h7 := l7 b (by omega) hnf
    have hfr := M.frame b hb hf
    refine ⟨(hoth b hbl).trans (h7.1.trans ((hDold b hb').trans hfr.1)), h7.2.trans ((hHDlt b (by omega)).trans hfr.2)⟩
   ·have e := M.env
    obtain ⟨e1, e2, e3⟩ := l6
    rw [hw1, hwD] at e1 e2 e3
    exact ⟨e1.trans e.1, e2.trans e.2.1, e3.trans e.2.2⟩
  rcases hq with ⟨ob', hZ, he⟩ | ⟨x, c', ob', hj, hX, he⟩
  ·obtain ⟨f1, f2⟩ := fin _ _ ob' (by simp) he
   exact ⟨none, _, f1, kz ob' hZ H3 _ _ f2⟩
  ·obtain ⟨f1, f2⟩ := fin _ _ ob' (by simp) he
   refine ⟨some c', _, f1, ?_⟩
   cases x with
   | ret => simp only [Md, Option.some.injEq] at hj; subst hj; exact wpIn_ret ⟨_, H3, kx _ ob' hX, f2⟩
   | exit id => simp only [Md, Option.some.injEq] at hj; subst hj; exact wpIn_exit ⟨_, H3, kx _ ob' hX, f2⟩
   | _ => simp [Md] at hj
def pR (E : Env) (f : FuncId) (caps : List T) (Z : List Ob → Prop) (vals : List (List T)) : Prop :=
 ∃ M c, E.P.funcs[f]? = some M ∧ M.body = some c ∧ (M.name == "runtime.NumGoroutine") = false ∧ Nat.ble (caps.length + 1) M.ntmps = true ∧
  ∀ (C : Ctx) (Y : Yl) (J : Nat → List Ob → Prop) (X : Exit → List Ob → Prop) (ob : List Ob), J 0 ob → (∀ k ob, J k ob → Z ob) →
   (∀ k v ob, vals[k]? = some v → J k ob → Round E C.H0 Y v ob (J (k + 1)) X) →
   AW E M.ntmps C c ⟨Uy 0 (.v (.func (.yield Y.l) #[] #[]) :: caps), Y.ob .ready none :: ob⟩
    (aS E M (fun _ W => (∃ G, J vals.length G ∧ W = Y.ob .ready none :: G) ∨ ∃ x c G, Md x = some c ∧ X x G ∧ W = Y.ob .done (some c) :: G))
def nJ (s : Aq) (M : St → Prop) (Q : Exit → St → Prop) : Exit → St → Prop
 | .normal, σ => M σ
 | .ret, σ => ∃ G, OL G σ ∧ Q .ret ⟨s, G⟩
 | .exit id, σ => ∃ G, OL G σ ∧ Q (.exit id) ⟨s, G⟩
 | _, _ => False
theorem OL.all {σ : St} : OL σ.objs σ := ⟨List.range σ.objs.length, by
 have : ∀ (l G : List Ob), Cu (G ++ l) (List.range' G.length l.length) = some l := by
  intro l
  induction l with
  | nil => intro G; simp [Cu]
  | cons a l ih =>
   intro G
   have := ih (G ++ [a])
   simp only [List.length_append, List.length_cons, List.length_nil, List.append_assoc, List.cons_append, List.nil_append] at this
   simp only [List.length_cons, List.range'_succ, Cu, List.getElem?_append_right (Nat.le_refl _), Nat.sub_self, List.getElem?_cons_zero, this]
 have h := this σ.objs []
 rw [List.range_eq_range']; exact h, List.nodup_range⟩
theorem OL.app {s : Aq} {l its : List Ob} : OL l ⟨s, l ++ its⟩ := ⟨List.range l.length, by
 have : ∀ (l G : List Ob), Cu (G ++ l ++ its) (List.range' G.length l.length) = some l := by
  intro l
  induction l with
  | nil => intro G; simp [Cu]
  | cons a l ih =>
   intro G
   have := ih (G ++ [a])
   simp only [List.length_append, List.length_cons, List.length_nil, List.append_assoc, List.cons_append, List.nil_append] at this
   have M : (G ++ (a :: l) ++ its)[G.length]? = some a := by simp
   simp only [List.length_cons, List.range'_succ, Cu, M]
   simp only [List.append_assoc, List.cons_append] at this ⊢
   rw [this]
 have h := this l []
 rw [List.range_eq_range']; simpa using h, List.nodup_range⟩
theorem Nc {t : TypeId} {x y : Operand} {ti : TI} {c : T} {cs : List T} {b off tt sz cap : Nat} {es es' : List (List T)} (i j : Nat) {e : List T} {ty : TypeId} {pos : String} {aft : Array Edge} {g : Option (Nat × Bool)}
  (Z : E.tab t = some ti) (hx : A5 s x = some (.v (.pointer (some ⟨b, off, none⟩)))) (he : es[i]? = some e) (W : off = i * sz + j)
  (hy : A5 s y = some c) (hc : Ej c = some cs) (hsz : ti.size = cs.length) (M : j + cs.length ≤ e.length) (G : es.set i (Ex e j cs) = es')
  (kk : R ⟨s, ob ++ [.arr b tt sz cap es']⟩) :
  AX E n C [ob.length] ⟨none, .store t x y, ty, pos, aft, g⟩ ⟨s, ob ++ [.arr b tt sz cap es]⟩ R := by
 refine qT ob.length (tt := tt) (sz := sz) (cap := cap) i j Z hx (by simp) he W hy hc hsz M rfl G ?_
 have : (ob ++ [Ob.arr b tt sz cap es]).set ob.length (Ob.arr b tt sz cap es') = ob ++ [Ob.arr b tt sz cap es'] := by simp
 dsimp only; rw [this]; exact kk
theorem Mr {M : TI} {cs : List T} {j : Nat} {y : T} (G : M.isAgg = false) (h : cs[j]? = some y) : Et M cs j = some y := by simp [Et, G, h]
def nK (b i j : Nat) (x y : T) (ob : List Ob) : Prop := ∃ (k ty sz : Nat) (cs : List T), ob[k]? = some (Ob.arr b ty sz 1 [cs]) ∧ cs[i]? = some x ∧ cs[j]? = some y
theorem aB {α S : Type} {f : Nat → α → S → Option S} {l : List α} {k : Nat} {x : α} {o : S} (M : l[k]? = some x) {st : S} (h : forS f k (l.drop k) st = some o) : ∃ G, f k x st = some G ∧ forS f (k + 1) (l.drop (k + 1)) G = some o := by
 have Z := (gs M).1
 rw [List.drop_eq_getElem_cons Z] at h
 have W : l[k] = x := (gs M).2
 rw [W] at h
 simp only [forS] at h
 split at h
 ·cases h
 ·rename_i s' hs; exact ⟨s', hs, h⟩
theorem Yn {α β : Type} {f : Nat → α → List β → Option (List β)} (hf : ∀ k x a r, f k x a = some r → ∃ t, r = a ++ t) : ∀ (l : List α) (k : Nat) (a r : List β), forS f k l a = some r → ∃ t, r = a ++ t
 | [], k, a, r, h => ⟨[], by simp only [forS, Option.some.injEq] at h; simp [h]⟩
 | x :: l, k, a, r, h => by
  simp only [forS] at h
  split at h
  ·cases h
  ·rename_i W G
   obtain ⟨t, rfl⟩ := hf _ _ _ _ G
   obtain ⟨M, rfl⟩ := Yn hf l (k + 1) _ _ h
   exact ⟨t ++ M, by simp⟩
theorem Ut {g : Operand} {ps : Array Tmp} {assign body : Code} {f : FuncId} {caps : List T} {Z : List Ob → Prop} {vals : List (List T)} {α S B : Type} {F : Nat → α → S → Option (S ⊕ B)} {l : List α} {st0 : S} {o : S ⊕ B} (h : forL F 0 l st0 = some o)
  (hI : pR E f caps Z vals) (enc : α → List T) (hv : vals = l.map enc) (hg : (A5 s g).bind Kz = some (f, [], caps)) (hps : ∀ x, ps.toList.length = (enc x).length) (hpn : ps.toList.all (fun t => Nat.blt t n) = true) (hn1 : nd assign = true) (hn2 : nd body = true)
  (Φ : Nat → S → List Ob → Prop) {ab : List Ob} (h0 : Φ 0 st0 ab) (ho : ∃ p, Cu ob p = some ab ∧ p.Nodup) (aa : ∀ k st ob, Φ k st ob → Z ob) {S1 : α → Aq}
  (ha : ∀ (C : Ctx) (x : α) (ob : List Ob), AW E n C assign ⟨Ye ps.toList (enc x) s, ob⟩ (fun e σ' => e = .normal ∧ σ' = ⟨S1 x, ob⟩))
  (round : ∀ (C : Ctx) (k : Nat) (x : α) (st : S) (r : S ⊕ B) ob, l[k]? = some x → k < l.length → Φ k st ob → F k x st = some r → (∀ b', r = .inr b' → .inr b' = o) →
   AW E n C body ⟨S1 x, ob⟩ (nJ s (fun σ' => ∃ W ob', r = .inl W ∧ Φ (k + 1) W ob' ∧ OL ob' σ') Q))
  (fin : ∀ (st : S) ob, Φ l.length st ob → .inl st = o → VS n C ⟨s, ob⟩ (Q .normal)) : AW E n C (.rangeFunc g ps assign body) ⟨s, ob⟩ Q := by
 obtain ⟨p, hp1, hp2⟩ := ho
 refine qL (Ghost.pick p hp1 hp2) ?_
 obtain ⟨fn, c, i1, i2, i3, i4, i5⟩ := hI
 have hvl : vals.length = l.length := by rw [hv]; simp
 refine AW.range hg i1 i2 i3 i4 (fun x ob' => Q x ⟨s, ob'⟩) (fun ob' => ∃ st, Φ l.length st ob' ∧ .inl st = o) ?_ ?_ (fun x ob' hx => hx)
 ·intro Y C' y1 y2 y3 y4 y5
  have := i5 C' Y (fun k ob' => ∃ st, Φ k st ob' ∧ forL F k (l.drop k) st = some o) (fun x ob' => Q x ⟨s, ob'⟩) ab ⟨st0, h0, h⟩ (fun k ob' ⟨st, hΦ, _⟩ => aa k st ob' hΦ) ?_
  ·refine AW.mono this ?_
   rintro e σ' ⟨q1, xs, fp', M, q3, q4⟩
   refine ⟨q1, xs, fp', M, q3, ?_⟩
   rcases q4 with ⟨ob', ⟨st, q5, q6⟩, q7⟩ | q4
   ·rw [hvl] at q5 q6
    rw [List.drop_length] at q6
    simp only [forL, Option.some.injEq] at q6
    exact .inl ⟨ob', ⟨st, q5, q6⟩, q7⟩
   ·exact .inr q4
  ·rintro k v ob' hk ⟨st, hΦ, hl⟩
   rw [hv, List.getElem?_map] at hk
   obtain ⟨x, hx, rfl⟩ := Option.map_eq_some_iff.1 hk
   have hkl := (gs hx).1
   rw [aC hx] at hl
   cases hf : F k x st with
   | none => rw [hf] at hl; cases hl
   | some r =>
    rw [hf] at hl
    refine S4 (S := s) (S1 := S1 x) y4 y5 (by rw [y1]; exact hps x) (by rw [y1]; exact hpn) (by rw [y2]; exact hn1) (by rw [y3]; exact hn2) ?_ ?_
    ·intro C2
     rw [y1, y2]
     exact ha C2 x ob'
    ·intro C2 _
     rw [y3]
     refine AW.mono (round C2 k x st r ob' hx hkl hΦ hf (fun b' hb => by subst hb; simpa using hl)) ?_
     intro e σ' hq
     cases e with
     | normal =>
      obtain ⟨W, G, rfl, M, q3⟩ := hq
      exact ⟨G, q3, .inl ⟨rfl, W, M, hl⟩⟩
     | ret => obtain ⟨G, q1, M⟩ := hq; exact ⟨G, q1, .inr ⟨_, rfl, M⟩⟩
     | exit id => obtain ⟨G, q1, M⟩ := hq; exact ⟨G, q1, .inr ⟨_, rfl, M⟩⟩
     | _ => exact hq.elim
 ·rintro ob' ⟨st, q1, M⟩
  exact fin st ob' q1 M
theorem Ib {g : Operand} {ps : Array Tmp} {assign body : Code} {f : FuncId} {caps : List T} {G : List Ob → Prop} {vals : List (List T)} {α S : Type} {F : Nat → α → S → Option S} {l : List α} {st0 : S} {o : S} (h : forS F 0 l st0 = some o)
  (hI : pR E f caps G vals) (enc : α → List T) (hv : vals = l.map enc) (hg : (A5 s g).bind Kz = some (f, [], caps)) (af : ∀ x, ps.toList.length = (enc x).length) (ae : ps.toList.all (fun t => Nat.blt t n) = true) (ac : nd assign = true) (ad : nd body = true)
  (Φ : Nat → S → List Ob → Prop) {Z : List Ob} (h0 : Φ 0 st0 Z) (ho : ∃ p, Cu ob p = some Z ∧ p.Nodup) (M : ∀ k st ob, Φ k st ob → G ob) {S1 : α → Aq}
  (ha : ∀ (C : Ctx) (x : α) (ob : List Ob), AW E n C assign ⟨Ye ps.toList (enc x) s, ob⟩ (fun e σ' => e = .normal ∧ σ' = ⟨S1 x, ob⟩))
  (W : ∀ (C : Ctx) (k : Nat) (x : α) (st : S) (r : S) ob, l[k]? = some x → k < l.length → Φ k st ob → F k x st = some r →
   AW E n C body ⟨S1 x, ob⟩ (nJ s (fun σ' => ∃ ob', Φ (k + 1) r ob' ∧ OL ob' σ') Q))
  (aa : ∀ (st : S) ob, Φ l.length st ob → st = o → VS n C ⟨s, ob⟩ (Q .normal)) : AW E n C (.rangeFunc g ps assign body) ⟨s, ob⟩ Q := by
 refine Ut (Yo l 0 st0 o h) hI enc hv hg af ae ac ad Φ h0 ho M ha ?_ ?_
 ·intro C k x st r ob hx ab hΦ hr _
  obtain ⟨r', ag, rfl⟩ := Option.map_eq_some_iff.1 hr
  refine AW.mono (W C k x st r' ob hx ab hΦ ag) ?_
  intro e σ' hq
  cases e with
  | normal => obtain ⟨ob', q1, q2⟩ := hq; exact ⟨r', ob', rfl, q1, q2⟩
  | _ => exact hq
 ·intro st ob hΦ he
  exact aa st ob hΦ (by cases he; rfl)
end
def rA {α : Type} {m : Nat} (f : α → T) (x : Arr α m) : List T := x.l.map f
section
variable {E : Env} {n : Nat} {C : Ctx} {σ : St} {s : Aq} {ob : List Ob} {ops : Array Oper} {b0 : Nat} {F : List (Nat × T)} {so : Aq} {R : St → Prop} {Q : Exit → St → Prop} {i : Nat} {r : PL}
def aT (Hs : GH) (b0 : Nat) (F : List (Nat × T)) (G : Nat → Value) (w : World) : Prop := (∀ b o, Hs b = some o → w.heap[b]? = some o) ∧ ∀ p, p ∈ F → w.cell? ⟨b0, p.1, none⟩ = some (G p.1)
theorem Tv {w w' : World} {b o : Nat} (h : w'.heap[b]? = w.heap[b]?) : w'.cell? ⟨b, o, none⟩ = w.cell? ⟨b, o, none⟩ := by simp only [World.cell?, h]
def AQ (E : Env) (n : Nat) (C : Ctx) (ops : Array Oper) (b0 : Nat) (F : List (Nat × T)) (pl : PL) (so : Aq) (σ : St) (R : St → Prop) : Prop :=
 ∀ Hs (G : Nat → Value) H a w, SR n so Hs a → (∀ p, p ∈ F → VR Hs (G p.1) p.2) → aT Hs b0 F G w → (∀ b o, Hs b = some o → H b = some o) → Gam n C σ H a w →
  Da E.P ops (fun e M W => e = .normal ∧ ∃ σ' H', R σ' ∧ Gam n C σ' H' M W) (aT Hs b0 F G) pl a w
theorem Wb (h : AO E n C ops [] σ R) : AQ E n C ops b0 F .nil so σ R := fun _ _ H a w _ _ _ _ G => h H a w G
theorem AQ.two {i j : Nat} {r1 r2 : PL} (h1 : AQ E n C ops b0 F (.act i r1) so σ R) (h2 : AQ E n C ops b0 F (.act j r2) so σ R) : AQ E n C ops b0 F (.two i j r1 r2) so σ R :=
 fun Hs M H a w sr hv G Z W => ⟨h1 Hs M H a w sr hv G Z W, h2 Hs M H a w sr hv G Z W⟩
theorem AQ.three {i j k : Nat} {r1 r2 r3 : PL} (h1 : AQ E n C ops b0 F (.act i r1) so σ R) (h2 : AQ E n C ops b0 F (.act j r2) so σ R) (h3 : AQ E n C ops b0 F (.act k r3) so σ R) : AQ E n C ops b0 F (.three i j k r1 r2 r3) so σ R :=
 fun Hs M H a w sr hv G Z W => ⟨h1 Hs M H a w sr hv G Z W, h2 Hs M H a w sr hv G Z W, h3 Hs M H a w sr hv G Z W⟩
theorem AQ.ghost {s' : Aq} {ob' : List Ob} (h : Ghost n C s ob s' ob') (k : AQ E n C ops b0 F r so ⟨s', ob'⟩ R) : AQ E n C ops b0 F r so ⟨s, ob⟩ R := by
 intro Hs M H a w sr hv G hH W
 obtain ⟨H', Z, g⟩ := h H a w W
 exact k Hs M H' a w sr hv G (fun b o hb => Z _ _ (hH _ _ hb)) g
theorem AQ.one (q : Nat) {v : Value} {tt sz : Nat} {es : List (List T)} (hq : ob[q]? = some (.us v tt sz es)) (k : v.oneCell' = true → AQ E n C ops b0 F r so ⟨s, ob⟩ R) : AQ E n C ops b0 F r so ⟨s, ob⟩ R :=
 fun Hs W H a w sr hv M Z G => k (UsR.one (show UsR H w v tt sz es from G.objs _ (mg hq))) Hs W H a w sr hv M Z G
theorem AQ.o {d : Nat} {op : Op} {ty : TypeId} {pos : String} {aft : Array Edge} {x : T} (ho : ops[i]? = some ⟨some d, op, ty, pos, aft, none⟩) (hy : Yd E.P n so [] ⟨some d, op, ty, pos, aft, none⟩ x) (hd : Nat.blt d n = true)
  (k : AQ E n C ops b0 F r ((d, x) :: so) ⟨(d, x) :: s, ob⟩ R) : AQ E n C ops b0 F (.still i r) so ⟨s, ob⟩ R := by
 intro Hs fv H a w sr hv Z hH gm
 obtain ⟨v, W, M⟩ := hy Hs a w sr ⟨by simp, Z.1⟩
 have G : ∀ d', some d = some d' → d' < n := Bq hd
 refine ⟨_, v, ho, .inl ⟨by simp [Region.wanted], fun w' hw => M w' ⟨hw.1, by simp⟩⟩, Z, ?_⟩
 exact k Hs fv H _ w (sr.put (dst := some d) W G) hv Z hH (gm.put (dst := some d) (W.mono hH) G)
theorem AQ.p {d : Nat} {G : Op} {ty : TypeId} {pos : String} {aft : Array Edge} {x : T} (W : ops[i]? = some ⟨some d, G, ty, pos, aft, none⟩) (Z : Yp E.P n so ⟨some d, G, ty, pos, aft, none⟩ x) (M : Nat.blt d n = true)
  (k : AQ E n C ops b0 F r ((d, x) :: so) ⟨(d, x) :: s, ob⟩ R) : AQ E n C ops b0 F (.still i r) so ⟨s, ob⟩ R := AQ.o W Z.yd M k
theorem AQ.new {d : Nat} {op : Op} {ty : TypeId} {pos : String} {aft : Array Edge} {x : T} (ho : ops[i]? = some ⟨some d, op, ty, pos, aft, none⟩) (hy : Yp E.P n s ⟨some d, op, ty, pos, aft, none⟩ x) (hd : Nat.blt d n = true)
  (k : AQ E n C ops b0 F r so ⟨(d, x) :: s, ob⟩ R) (hf : free so (some d) = true := by rfl) : AQ E n C ops b0 F (.still i r) so ⟨s, ob⟩ R := by
 intro Hs fv H a w sr hv W hH Z
 obtain ⟨v, M, G⟩ := hy H a Z.sr
 refine ⟨_, v, ho, .inl ⟨by simp [Region.wanted], fun w' _ => G w'⟩, W, ?_⟩
 exact k Hs fv H _ w (sr.free _ _ hf) hv W hH (Z.put (dst := some d) M (Bq hd))
theorem nM (j : Nat) {d : Nat} {t : TypeId} {x : Operand} {ty : TypeId} {pos : String} {aft : Array Edge} {off : Nat} {y : T} {fi : TI} (ho : ops[i]? = some ⟨some d, .load t x, ty, pos, aft, none⟩) (ht : E.tab t = some fi) (W : fi.isAgg = false)
  (hx : A5 so x = some (.v (.pointer (some ⟨b0, off, none⟩)))) (hF : F[j]? = some (off, y)) (hd : Nat.blt d n = true)
  (k : AQ E n C ops b0 F r ((d, y) :: so) ⟨(d, y) :: s, ob⟩ R) : AQ E n C ops b0 F (.still i r) so ⟨s, ob⟩ R := by
 intro Hs fv H a w sr hv ag hH gm
 have hm := mg hF
 have M := hv _ hm
 have G : ∀ d', some d = some d' → d' < n := Bq hd
 have Z := sr.evalv hx
 refine ⟨_, fv off, ho, .inl ⟨by simp [Region.wanted], fun w' hw => ?_⟩, ag, ?_⟩
 ·have hc := hw.2 _ hm
  simp [execOp, Z, Instr.loadAt, Instr.sureAddr, loadVar, Ft (E.ok _ _ ht), W, hc]
 ·exact k Hs fv H _ w (sr.put (dst := some d) M G) hv ag hH (gm.put (dst := some d) (M.mono hH) G)
theorem AQ.act {σ : St} {o : Oper} (md : List Nat) (kb : Nat) {tt sz cap : Nat} {es : List (List T)} (ho : ops[i]? = some o) (hg : o.guard = none) (hk : σ.objs[kb]? = some (.arr b0 tt sz cap es)) (hm : md.contains kb = false)
  (h : AX E n C md o σ (fun σ' => AQ E n C ops b0 F r so σ' R)) (hf : free so o.dst = true := by rfl) : AQ E n C ops b0 F (.act i r) so σ R := by
 intro Hs fv H a w sr hv ag hH gm
 simp only [Da, wpOp, ho]
 rw [if_pos (by simp [Region.wanted, hg])]
 refine .inl (Cx ?_ (fun _ _ _ h => h.elim) (h H a w gm))
 rintro a' w' ⟨σ', H', v, hr, M, Z, W, aa⟩
 have G : aT Hs b0 F fv w' := ⟨fun b o hb => M.held _ _ (W _ _ (hH _ _ hb)), fun p hp => (Tv ((aa kb _ hk hm).2 b0 (by simp [Ob.fp]))).trans (ag.2 p hp)⟩
 exact ⟨G, hr Hs fv H' a' w' (by rw [Z]; exact sr.free _ _ hf) hv G (fun b o hb => W _ _ (hH _ _ hb)) M⟩
theorem Td (k : Nat) {t : TypeId} {x y : Operand} {ty : TypeId} {pos : String} {aft : Array Edge} {ti : TI} {c : T} {cs : List T} {off tt sz : Nat} {e e' : List T} (ho : ops[i]? = some ⟨none, .store t x y, ty, pos, aft, none⟩)
  (ht : E.tab t = some ti) (hx : A5 s x = some (.v (.pointer (some ⟨b0, off, none⟩)))) (hk : ob[k]? = some (.arr b0 tt sz 1 [e]))
  (hy : A5 s y = some c) (hc : Ej c = some cs) (hsz : ti.size = cs.length) (hj : off + cs.length ≤ e.length) (hes : Ex e off cs = e') (hF : (F.all fun p => Nat.blt p.1 off || Nat.ble (off + cs.length) p.1) = true)
  (kk : AQ E n C ops b0 F r so ⟨s, ob.set k (.arr b0 tt sz 1 [e'])⟩ R) : AQ E n C ops b0 F (.act i r) so ⟨s, ob⟩ R := by
 subst hes
 intro Hs fv H a w sr hv ag hH gm
 simp only [Da, wpOp, ho]
 rw [if_pos (by simp [Region.wanted])]
 have ah : ArrR H w b0 tt sz 1 [e] := gm.objs _ (mg hk)
 have ai := ah
 obtain ⟨G, a1, a2, a3, a4, a5, a6⟩ := ai
 have M := Hh (gm.sr.eval hy) hc
 have hel : e.length = sz := a5 0 e (by simp)
 obtain ⟨w', h1, h2, h3, h4, h5⟩ := Ic (E := E) (off := off) 0 off ah (by simp) (by simp) (news := (a.eval y).cells.toList) (by simpa using M.1) M.all1 (fun i x hx => by
  have := (M.2 i x hx).2
  simpa [Array.getD_eq_getD_getElem?, List.getD] using this) hj
 have aa : (a.eval y).cells.toList.length = cs.length := by simpa using M.1
 have Z := run_storeCells_at (P := E.P) b0 off tt (a.eval y).cells.toList 0 G w a1 (by rw [aa]; omega) M.all1
 simp only [Nat.add_zero] at Z
 rw [Z] at h1
 have al : w' = w.setRow b0 (G.toList.take off ++ (a.eval y).cells.toList ++ G.toList.drop (off + (a.eval y).cells.toList.length)).toArray := by
  injection h1 with _ h; exact h.symm
 have ak : (execOp a.eval ⟨none, .store t x y, ty, pos, aft, none⟩).run E.P w = .ok .skip w' := by
  have hev := gm.sr.evalv hx
  rw [al]
  simp [execOp, Instr.storeAt, Instr.sureAddr, hev, storeVar, Bw (E.ok _ _ ht), hsz, show (a.eval y).cells.size = cs.length from M.1] at Z ⊢
  simp [Z]
 refine .inl ?_
 simp only [Oper.wp, ak, Oper.upon]
 have ae : Gam n C ⟨s, ob.set k (.arr b0 tt sz 1 [Ex e off cs])⟩ H (a.put none undef) w' :=
  gm.set hk h3 (by omega) (fun i _ hi => h5 i (by simpa [Ob.fp] using hi)) (o' := .arr b0 tt sz 1 [Ex e off cs]) h2 (fun b hb => .inr hb) (by simp [Ob.fp])
 have ad : aT Hs b0 F fv w' := by
  refine ⟨fun b o hb => ae.held _ _ (hH _ _ hb), fun p hp => ?_⟩
  have aj := List.all_eq_true.1 hF p hp
  simp only [Bool.or_eq_true] at aj
  have W := ag.2 p hp
  have af : p.1 < G.size := by
   simp only [World.cell?, a1] at W
   exact (Array.getElem?_eq_some_iff.1 (by simpa using W)).1
  have ac : G.getD p.1 undef = fv p.1 := by
   have := Ka a1 af
   rw [W] at this; exact (Option.some.inj this).symm
  have ab := setRow_heap w b0 G (G.toList.take off ++ (a.eval y).cells.toList ++ G.toList.drop (off + (a.eval y).cells.toList.length)).toArray tt (0, 0) a1
  rw [← al] at ab
  have hns : (G.toList.take off ++ (a.eval y).cells.toList ++ G.toList.drop (off + (a.eval y).cells.toList.length)).toArray.size = G.size := by
   simp only [List.size_toArray, List.length_append, List.length_take, List.length_drop, Array.length_toList, aa]; omega
  rw [Ka ab (by rw [hns]; exact af), Jy (by rw [aa]; omega), if_neg ?_, ac]
  rintro ⟨q1, q2⟩
  rw [aa] at q2
  rcases aj with h | h
  ·have := Nat.le_of_ble_eq_true h; omega
  ·have := Nat.le_of_ble_eq_true h; omega
 exact ⟨ad, kk Hs fv H _ w' sr hv ad hH ae⟩
theorem pL {id : Nat} (pl : PL) (k b0 : Nat) {tt sz : Nat} {G : List T} (F : List (Nat × T)) (hk : ob[k]? = some (.arr b0 tt sz 1 [G])) (hF : F.map (fun p => G[p.1]?) = F.map (fun p => some p.2))
  (h : AQ E n C ops b0 F pl s ⟨s, ob⟩ (fun σ' => Q .normal σ')) (hB : Pv ops pl = true := by kernel_rfl) : AW E n C (.region id ops true) ⟨s, ob⟩ Q := by
 intro H a w gm
 have hor : ArrR H w b0 tt sz 1 [G] := gm.objs _ (mg hk)
 obtain ⟨cur, a1, a2, a3, a4, a5, a6⟩ := hor
 have hel : G.length = sz := a5 0 G (by simp)
 have M : ∀ p, p ∈ F → G[p.1]? = some p.2 := fun p hp => List.map_inj_left.1 hF p hp
 obtain ⟨W, Z⟩ : ∃ W : Nat → Value, W = fun o => cur.getD o undef := ⟨_, rfl⟩
 have ag : aT H b0 F W w.drew := by
  refine ⟨gm.held, fun p hp => ?_⟩
  have hlt := (gs (M p hp)).1
  rw [Z]
  exact (Tv rfl).trans (Ka a1 (by omega))
 refine Is (Kh (S := aT H b0 F W) E.mixed pl hB (Q := fun e a' w' => e = .normal ∧ ∃ σ' H', Q .normal σ' ∧ Gam n C σ' H' a' w') ?_ ?_ ?_) ?_
 ·rintro c a w ⟨h, _⟩; cases h
 ·rintro ⟨a, w, h, _⟩; cases h
 ·have gd := gm.drew
  exact h H W H a w.drew gd.sr (fun p hp => by
   have := (a6 0 G (by simp) p.1 p.2 (M p hp)).2
   rw [Z]; simpa using this) ag (fun _ _ h => h) gd
 ·rintro e a' w' ⟨rfl, σ', H', q, g'⟩
  exact ⟨σ', H', q, g'⟩
end
open Go.Sem
variable {E : Env} {n : Nat} {C : Ctx} {σ : St} {dst : Option Tmp} {ty : TypeId} {pos : String} {aft : Array Edge} {g : Option (Nat × Bool)}
theorem oZ (ks m : Nat) {x hi : Operand} {t : TypeId} {ti ei : TI} {e tt sz : Nat} {v : Value} {es : List (List T)} {R : St → Prop}
  (hx : A5 σ.slots x = some (.v v)) (W : σ.objs[ks]? = some (.us v tt sz es)) (hh : A5 σ.slots hi = some (.v (.int .i64 (m : Int)))) (Z : m ≤ es.length)
  (k : ∀ M, R ⟨E5 σ.slots dst (.v M), σ.objs.set ks (.us M tt sz (es.take m))⟩)
  (ht : E.tab t = some ti := by exact rfl) (hk : ti.kind = .slice e := by exact rfl) (he : E.tab e = some ei := by exact rfl) (hd : ∀ d, dst = some d → d < n := by exact Bq rfl) :
  AX E n C [ks] ⟨dst, .slice t x none (some hi) none, ty, pos, aft, g⟩ σ R := by
 refine AX.value fun H a w gm => ?_
 have hu := Ec (E.ok _ _ ht) hk
 have r := gm.sr
 have aa := mg W
 have hex : ∀ w, (execOp a.eval ⟨dst, .slice t x none (some hi) none, ty, pos, aft, g⟩).run E.P w = ((Instr.sliceAt t v none (some (a.eval hi)) none).run E.P w).andThen fun a w => .ok (.value a) w := by
  intro w
  simp only [execOp, r.evalv hx, Sem.run_bind, Option.map_none, Option.map_some]
  rfl
 have ac : ∀ (i : Nat) (e' : List T), (es.take m)[i]? = some e' → es[i]? = some e' := fun i e' G => by
  rw [List.getElem?_take_of_lt (by have := (gs G).1; simp at this; omega)] at G; exact G
 have ab : ∃ M, (Instr.sliceAt t v none (some (a.eval hi)) none).run E.P w = .ok M w ∧ UsR H w M tt sz (es.take m) ∧ ∀ b, b ∈ Hk M → b ∈ Hk v := by
  rcases gm.objs _ aa with ⟨rfl, rfl⟩ | ⟨b, c, cap, rfl, p1, p2, cs, a1, a2, a3, a4, a5, a6⟩
  ·have : m = 0 := by simpa using Z
   subst this
   have hb := Dy (P := E.P) (w := w) r (isS := true) (len := 0) (cap := 0) (l := 0) (h := 0) (m := 0) (lo := none) (hi := some hi) (mx := none) rfl ⟨_, _, hh, rfl⟩ rfl (fun h => by cases h) (Nat.le_refl _) (Nat.le_refl _) (Nat.le_refl _)
   simp only [Option.map_none, Option.map_some] at hb
   refine ⟨.slice none 0 0, ?_, .inl ⟨rfl, by simp⟩, fun b hb => hb⟩
   simp [Instr.sliceAt, Instr.slice, run_underlying hu, hb, Bw (E.ok _ _ he)]
  ·have hb := Dy (P := E.P) (w := w) r (isS := true) (len := es.length) (cap := c) (l := 0) (h := m) (m := c) (lo := none) (hi := some hi) (mx := none) rfl ⟨_, _, hh, rfl⟩ rfl (fun h => by cases h) (Nat.zero_le _) (by omega) (Nat.le_refl _)
   simp only [Option.map_none, Option.map_some] at hb
   refine ⟨.slice (some ⟨b, 0, none⟩) m c, ?_, .inr ⟨b, c, cap, by rw [List.length_take, Nat.min_eq_left Z], by rw [List.length_take, Nat.min_eq_left Z]; omega, p2, cs, a1, a2, by rw [List.length_take, Nat.min_eq_left Z]; omega, by rw [List.length_take, Nat.min_eq_left Z]; omega, fun i e' G => a5 i e' (ac i e' G), fun i e' G => a6 i e' (ac i e' G)⟩, fun b' hb' => by simpa [Hk] using hb'⟩
   simp only [Instr.sliceAt, Instr.slice, Sem.run_bind, run_underlying hu, Result.andThen_ok, hb, Bw (E.ok _ _ he), Sem.run_pure]
   by_cases hml : c = 0 <;> simp [hml, Dh]
 obtain ⟨M, h1, h2, h3⟩ := ab
 refine ⟨M, w, _, H, by rw [hex, h1]; rfl, k M, ?_, fun _ _ h => h, fun i p hp hmd => ?_⟩
 ·have := (gm.set (o' := .us M tt sz (es.take m)) W ⟨rfl, rfl, rfl⟩ (Nat.le_refl _) (fun _ _ _ => rfl) h2 (fun b hb => .inr (h3 b hb)) (H8 M)).put (dst := dst) (.v M) hd
  cases dst <;> exact this
 ·have hne : ks ≠ i := fun h => by subst h; simp at hmd
  exact ⟨H6 hp hne, fun b hb => rfl⟩
theorem mS {α : Type} {fr : α → List T} {la Z : List α} {b : Int} (ks : Nat) {d : Nat} {x hi : Operand} {t : TypeId} {ti ei : TI} {e tt sz : Nat} {v : Value} {R : St → Prop}
  (M : σ.objs[ks]? = some (.us v tt sz (la.map fr))) (ha : Yc la 0 b = some Z) (k : ∀ G, R ⟨E5 σ.slots (some d) (.v G), σ.objs.set ks (.us G tt sz (Z.map fr))⟩)
  (hx : A5 σ.slots x = some (.v v) := by exact rfl) (hh : A5 σ.slots hi = some (.v (.int .i64 b)) := by exact rfl)
  (ht : E.tab t = some ti := by exact rfl) (hk : ti.kind = .slice e := by exact rfl) (he : E.tab e = some ei := by exact rfl) (hd : Nat.blt d n = true := by exact rfl) :
  AX E n C [ks] ⟨some d, .slice t x none (some hi) none, ty, pos, aft, g⟩ σ R := by
 obtain ⟨p, q, h1, rfl, h2, h3, W⟩ := Rm ha
 have : p = 0 := by omega
 subst this
 rw [List.drop_zero, Nat.sub_zero] at W
 subst W
 refine oZ ks q hx M hh (by rw [List.length_map]; exact h3) (fun G => ?_) ht hk he (Bq hd)
 rw [← List.map_take]
 exact k G
def Tl (v G : Value) (len i sz : Nat) : Prop :=
 (v = .slice none 0 0 ∧ G = .slice none 0 0) ∨ ∃ b c a, v = .slice (some ⟨b, 0, none⟩) len c ∧ G = .slice a (len - i) (c - i) ∧ (i < len → a = some ⟨b, i * sz, none⟩)
theorem AX.tail (ks i : Nat) {d : Nat} {x lo : Operand} {t : TypeId} {ti ei : TI} {e tt sz : Nat} {v : Value} {es : List (List T)} {R : St → Prop}
  (hi : i ≤ es.length) (k : ∀ G, Tl v G es.length i sz → R ⟨E5 σ.slots (some d) (.v G), σ.objs⟩) (ab : σ.objs[ks]? = some (.us v tt sz es) := by exact rfl)
  (hx : A5 σ.slots x = some (.v v) := by exact rfl) (hl : A5 σ.slots lo = some (.v (.int .i64 (i : Int))) := by exact rfl)
  (ht : E.tab t = some ti := by exact rfl) (hk : ti.kind = .slice e := by exact rfl) (he : E.tab e = some ei := by exact rfl) (hsz : ei.size = sz := by exact rfl) (hd : Nat.blt d n = true := by exact rfl) :
  AX E n C [] ⟨some d, .slice t x (some lo) none none, ty, pos, aft, g⟩ σ R := by
 refine AX.value fun H a w Z => ?_
 have hu := Ec (E.ok _ _ ht) hk
 have r := Z.sr
 have M := mg ab
 have aa : ∀ w, (execOp a.eval ⟨some d, .slice t x (some lo) none none, ty, pos, aft, g⟩).run E.P w = ((Instr.sliceAt t v (some (a.eval lo)) none none).run E.P w).andThen fun a w => .ok (.value a) w := by
  intro w
  simp only [execOp, r.evalv hx, Sem.run_bind, Option.map_none, Option.map_some]
  rfl
 have W : ∃ G, (Instr.sliceAt t v (some (a.eval lo)) none none).run E.P w = .ok G w ∧ Tl v G es.length i sz := by
  rcases Z.objs _ M with ⟨rfl, rfl⟩ | ⟨b, c, cap, rfl, p1, p2, -⟩
  ·have : i = 0 := by simpa using hi
   subst this
   have hb := Dy (P := E.P) (w := w) r (isS := true) (len := 0) (cap := 0) (l := 0) (h := 0) (m := 0) (lo := some lo) (hi := none) (mx := none) ⟨_, _, hl, rfl⟩ rfl rfl (fun _ => rfl) (Nat.le_refl _) (Nat.le_refl _) (Nat.le_refl _)
   simp only [Option.map_none, Option.map_some] at hb
   refine ⟨.slice none 0 0, ?_, .inl ⟨rfl, rfl⟩⟩
   simp [Instr.sliceAt, Instr.slice, run_underlying hu, hb, Bw (E.ok _ _ he)]
  ·have hb := Dy (P := E.P) (w := w) r (isS := true) (len := es.length) (cap := c) (l := i) (h := es.length) (m := c) (lo := some lo) (hi := none) (mx := none) ⟨_, _, hl, rfl⟩ rfl rfl (fun _ => rfl) hi (by omega) (Nat.le_refl _)
   simp only [Option.map_none, Option.map_some] at hb
   refine ⟨.slice (if c = i then some ⟨b, 0, none⟩ else some ⟨b, i * sz, none⟩) (es.length - i) (c - i), ?_, .inr ⟨b, c, _, rfl, rfl, fun h => if_neg (by omega)⟩⟩
   simp only [Instr.sliceAt, Instr.slice, Sem.run_bind, run_underlying hu, Result.andThen_ok, hb, Bw (E.ok _ _ he), Sem.run_pure]
   by_cases ac : c = i <;> simp [ac, Dh, hsz]
 obtain ⟨G, h1, h2⟩ := W
 exact ⟨G, w, _, H, by rw [aa, h1]; rfl, k G h2, Z.put (dst := some d) (.v G) (Bq hd), fun _ _ h => h, fun i p hp _ => ⟨hp, fun b hb => rfl⟩⟩
end Go.Aw
