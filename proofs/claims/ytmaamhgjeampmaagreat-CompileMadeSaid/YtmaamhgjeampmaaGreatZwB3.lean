/- A program logic over the model. No condition. -/
import Derived.Test.YtmaamhgjeampmaaGreatZwB2
import Derived.KernelRfl
set_option maxRecDepth 100000
namespace Go.Aw
set_option linter.unusedVariables false
set_option linter.defProp false
set_option linter.unusedSimpArgs false
def Yo (s : Ar) (x y : Operand) : Option (IntKind × Int × IntKind × Int) :=
 match Be s x with
 | some (.v (.int k a)) => match Be s y with
  | some (.v (.int k' b)) => some (k, a, k', b)
  | _ => none
 | _ => none
def rR (s : Ar) (G : BinOp) (x y : Operand) : Option T :=
 match Yo s x y with
 | some (.i64, a, .i64, b) => match G with
  | .lss => some (.v (.bool (decide (a < b))))
  | .leq => some (.v (.bool (decide (a ≤ b))))
  | .gtr => some (.v (.bool (decide (a > b))))
  | .geq => some (.v (.bool (decide (a ≥ b))))
  | .eql => some (.v (.bool (a == b)))
  | .neq => some (.v (.bool (a != b)))
  | .add => some (.v (.int .i64 (wr (a + b))))
  | .sub => some (.v (.int .i64 (wr (a - b))))
  | .mul => some (.v (.int .i64 (wr (a * b))))
  | _ => none
 | _ => none
def aW (E : Env) (s : Ar) (t : TypeId) (x : Operand) (f : Nat) : Option T :=
 match E.tab t with
 | some ti => match ti.kind with
  | .struct fs => match fs[f]? with
   | some (off, ft) => match E.tab ft with
    | some fi => bif Nat.beq fi.size 0 then none else
     match Be s x with
     | some (.v (.pointer (some ⟨b, o, none⟩))) => some (.v (.pointer (some ⟨b, o + off, none⟩)))
     | some (.eptr cs) => bif Nat.ble off cs.length then some (.eptr (cs.drop off)) else none
     | _ => none
    | none => none
   | none => none
  | _ => none
 | none => none
def jX (E : Env) (s : Ar) (c : Call) : Option T :=
 match c with
 | ⟨.builtin .min, ⟨[x, y]⟩, _⟩ => match Yo s x y with
  | some (.i64, a, .i64, b) => some (.v (.int .i64 (min a b)))
  | _ => none
 | ⟨.builtin .max, ⟨[x, y]⟩, _⟩ => match Yo s x y with
  | some (.i64, a, .i64, b) => some (.v (.int .i64 (max a b)))
  | _ => none
 | ⟨.builtin .len, ⟨[x]⟩, ⟨[t]⟩⟩ => match E.tab t with
  | some ti => match ti.kind with
   | .string => match Be s x with
    | some (.v (.string b)) => some (.v (.int .i64 b.size))
    | _ => none
   | _ => none
  | none => none
 | _ => none
def Ym (E : Env) (s : Ar) : Op → Option T
 | .move x => Be s x
 | .assign x => Be s x
 | .pick c a b => match Be s c with
  | some (.v (.bool true)) => Be s a
  | some (.v (.bool false)) => Be s b
  | _ => none
 | .nilCheck x => match Be s x with
  | some (.v (.pointer (some b))) => some (.v (.pointer (some b)))
  | some (.eptr cs) => some (.eptr cs)
  | _ => none
 | .extract x i => match Be s x with
  | some (.tup l) => l[i]?
  | _ => none
 | .unOp .not _ x => match Be s x with
  | some (.v (.bool b)) => some (.v (.bool (!b)))
  | _ => none
 | .unOp .neg _ x => match Be s x with
  | some (.v (.int .i64 a)) => some (.v (.int .i64 (wr (0 - a))))
  | _ => none
 | .binOp op _ x y _ => rR s op x y
 | .fieldAddr t x f => aW E s t x f
 | .call c => jX E s c
 | _ => none
section
variable {E : Env} {n : Nat} {C : Ctx} {s : Ar} {ob : List Ob} {ops : Array Oper} {R : St → Prop} {dst : Option Tmp} {ty : TypeId} {pos : String} {aft : Array Edge} {g : Option (Nat × Bool)}
theorem Sw {x y : Operand} {k G : IntKind} {a b : Int} (h : Yo s x y = some (k, a, G, b)) : Be s x = some (.v (.int k a)) ∧ Be s y = some (.v (.int G b)) := by
 unfold Yo at h
 split at h
 ·rename_i M
  split at h
  ·rename_i O
   cases h
   exact ⟨M, O⟩
  ·cases h
 ·cases h
theorem pX {O : BinOp} {t X : TypeId} {x y : Operand} {z : T} (h : rR s O x y = some z) : Yp E.P n s ⟨dst, .binOp O t x y X, ty, pos, aft, g⟩ z := by
 unfold rR at h
 split at h <;> first | cases h | skip
 rename_i W
 obtain ⟨G, M⟩ := Sw W
 split at h <;> first | cases h | skip
 ·exact wF G M rfl
 ·exact wF G M rfl
 ·exact wF G M rfl
 ·exact wF G M rfl
 ·exact wF G M rfl
 ·exact wF G M rfl
 ·exact Km G M rfl
 ·exact Km G M rfl
 ·exact Km G M rfl
theorem eY {t : TypeId} {x : Operand} {f : Nat} {z : T} (h : aW E s t x f = some z) : Yp E.P n s ⟨dst, .fieldAddr t x f, ty, pos, aft, g⟩ z := by
 unfold aW at h
 split at h <;> first | cases h | skip
 rename_i ti Y
 split at h <;> first | cases h | skip
 rename_i fs X
 split at h <;> first | cases h | skip
 rename_i O ft W
 split at h <;> first | cases h | skip
 rename_i fi G
 cases hz : Nat.beq fi.size 0 with
 | true => rw [hz] at h; cases h
 | false =>
  rw [hz, cond_false] at h
  split at h <;> first | cases h | skip
  ·rename_i M
   exact aE Y X W G hz M
  ·rename_i Z M
   cases hle : Nat.ble O Z.length with
   | true => rw [hle, cond_true] at h; cases h; exact fF Y X W G hz M hle
   | false => rw [hle] at h; cases h
theorem mV {c : Call} {z : T} (h : jX E s c = some z) : Yp E.P n s ⟨dst, .call c, ty, pos, aft, g⟩ z := by
 unfold jX at h
 split at h <;> first | cases h | skip
 ·split at h <;> first | cases h | skip
  rename_i M
  obtain ⟨G, O⟩ := Sw M
  exact pZ G O
 ·split at h <;> first | cases h | skip
  rename_i M
  obtain ⟨G, O⟩ := Sw M
  exact qA G O
 ·split at h <;> first | cases h | skip
  rename_i Y X
  split at h <;> first | cases h | skip
  rename_i W
  split at h <;> first | cases h | skip
  rename_i G
  exact Yc X W G
theorem Sq {O : Op} {z : T} (h : Ym E s O = some z) : Yp E.P n s ⟨dst, O, ty, pos, aft, g⟩ z := by
 unfold Ym at h
 split at h <;> first | cases h | skip
 ·exact Yp.move h
 ·exact wH h
 ·split at h <;> first | cases h | skip
  ·rename_i M; exact mX M h
  ·rename_i M; exact mY M h
 ·split at h <;> first | cases h | skip
  ·rename_i G; exact Ya G
  ·rename_i G; exact Yb G
 ·split at h <;> first | cases h | skip
  rename_i G; exact Yp.extract G h
 ·split at h <;> first | cases h | skip
  rename_i G; exact Yp.not G
 ·split at h <;> first | cases h | skip
  rename_i G; exact Yp.neg G rfl
 ·exact pX h
 ·exact eY h
 ·exact mV h
end
def cK (G : TI) (cs : List T) (off : Nat) : Option T :=
 bif G.isAgg then (bif Nat.beq off 0 && Nat.beq G.size cs.length then some (.agg cs) else none) else cs[off]?
theorem Y6 {G : TI} {cs : List T} {off : Nat} {y : T} (h : cK G cs off = some y) : E1 G cs off = some y := by
 unfold cK at h
 unfold E1
 cases ha : G.isAgg with
 | false => rw [ha, cond_false] at h; rw [cond_false]; exact h
 | true =>
  rw [ha, cond_true] at h
  rw [cond_true]
  cases hb : (Nat.beq off 0 && Nat.beq G.size cs.length) with
  | true => rw [hb, cond_true] at h; rw [cond_true]; exact h
  | false => rw [hb] at h; cases h
def Qq (E : Env) (s : Ar) : Op → Option T
 | .load t x => match Be s x with
  | some (.eptr cs) => match E.tab t with
   | some fi => cK fi cs 0
   | none => none
  | _ => none
 | op => Ym E s op
inductive Hn where
 | o (i k : Nat)
 | f (i : Nat) (x : T)
 | l (i : Nat) (c : Int)
 | x (i : Nat) (m : Nat) (e : List T)
 | k (i : Nat) (c : Int)
def Hn.at : Hn → Nat
 | .o i _ => i
 | .f i _ => i
 | .l i _ => i
 | .x i _ _ => i
 | .k i _ => i
def qV (E : Env) (s : Ar) (ob : List Ob) (k : Nat) : Op → Option (T × Prop)
 | .load t x => match Be s x with
  | some (.v (.pointer (some ⟨b, off, none⟩))) => match ob[k]? with
   | some (.arr b' _ _ _ [e]) => match E.tab t with
    | some fi => match cK fi e off with
     | some y => some (y, b = b')
     | none => none
    | none => none
   | _ => none
  | _ => none
 | _ => none
def tU (E : Env) (s : Ar) (c : Int) : Op → Option (T × Prop)
 | .call ⟨.builtin .len, ⟨[x]⟩, ⟨[t]⟩⟩ => match E.tab t with
  | some ti => match ti.kind with
   | .slice _ => match Be s x with
    | some (.list _ es) => some (.v (.int .i64 c), (es.length : Int) = c)
    | _ => none
   | _ => none
  | none => none
 | _ => none
def tV (E : Env) (s : Ar) (m : Nat) (e : List T) : Op → Option (T × Prop)
 | .indexAddr t x y => match E.tab t with
  | some ti => match ti.kind with
   | .slice el => match E.tab el with
    | some fi => match Be s x with
     | some (.list sz es) => bif Nat.beq fi.size sz then
      (match Be s y with
      | some (.v (.int _ i)) => some (.eptr e, i = (m : Int) ∧ es[m]? = some e)
      | _ => none) else none
     | _ => none
    | none => none
   | _ => none
  | none => none
 | _ => none
def cH (E : Env) (n : Nat) (s : Ar) (ob : List Ob) (d : Nat) (o : Oper) : Hn → Option (T × Prop)
 | .o _ k => qV E s ob k o.op
 | .f _ x => some (x, Yd E.P n s ob ⟨some d, o.op, o.type, o.pos, o.after, none⟩ x)
 | .l _ c => tU E s c o.op
 | .x _ m e => tV E s m e o.op
 | .k _ c => match Ym E s o.op with
  | some (.v (.int kk e)) => some (.v (.int kk c), e = c)
  | _ => none
section
variable {E : Env} {n : Nat} {C : Ctx} {s : Ar} {ob : List Ob} {ops : Array Oper} {R : St → Prop} {dst : Option Tmp} {ty : TypeId} {pos : String} {aft : Array Edge} {g : Option (Nat × Bool)}
theorem Sr {G : Op} {z : T} (h : Qq E s G = some z) : Yd E.P n s ob ⟨dst, G, ty, pos, aft, g⟩ z := by
 unfold Qq at h
 split at h
 ·split at h <;> first | cases h | skip
  rename_i O
  split at h <;> first | cases h | skip
  rename_i M
  exact S2 M O (Y6 h)
 ·exact (Sq h).yd
theorem Yz {d : Nat} {o : Oper} {hn : Hn} {z : T} {p : Prop} (h : cH E n s ob d o hn = some (z, p)) (M : p) : Yd E.P n s ob ⟨some d, o.op, o.type, o.pos, o.after, none⟩ z := by
 unfold cH at h
 split at h
 ·unfold qV at h
  split at h <;> first | cases h | skip
  rename_i W
  split at h <;> first | cases h | skip
  rename_i G
  split at h <;> first | cases h | skip
  rename_i O
  split at h <;> first | cases h | skip
  rename_i X
  split at h <;> first | cases h | skip
  rename_i Z
  subst M
  rw [W]
  exact Bv _ 0 _ X G O rfl (by omega) (Y6 Z)
 ·cases h; exact M
 ·unfold tU at h
  split at h <;> first | cases h | skip
  rename_i W
  split at h <;> first | cases h | skip
  rename_i X
  split at h <;> first | cases h | skip
  rename_i O
  split at h <;> first | cases h | skip
  rename_i G
  subst M
  rw [W]
  exact (bU X O G).yd
 ·unfold tV at h
  split at h <;> first | cases h | skip
  rename_i W
  split at h <;> first | cases h | skip
  rename_i X
  split at h <;> first | cases h | skip
  rename_i O
  split at h <;> first | cases h | skip
  split at h <;> first | cases h | skip
  rename_i fi Y _ sz es G
  cases hb : Nat.beq fi.size sz with
  | false => rw [hb] at h; cases h
  | true =>
   rw [hb, cond_true] at h
   split at h <;> first | cases h | skip
   rename_i Z
   rw [W]
   exact (fE X O Y (nq hb) G Z M.1 M.2).yd
 ·split at h <;> first | cases h | skip
  rename_i G
  subst M
  exact (Sq G).yd
end
def G0 (ops : Array Oper) (s : Ar) : Option (Nat × Bool) → Option Bool
 | none => some true
 | some (j, Db) => match ops[j]? with
  | some o => match o.dst with
   | some t => match get s t with
    | some (.v (.bool true)) => some Db
    | some (.v (.bool false)) => some (!Db)
    | _ => none
   | none => none
  | none => none
def Qc (E : Env) (n : Nat) (ops : Array Oper) (ob : List Ob) : Nat → Nat → List Oper → Ar → List Hn → Prop → Option (Prop × List Oper × Ar)
 | 0, _, l, s, _, p => some (p, l, s)
 | _ + 1, _, [], _, _, _ => none
 | m + 1, i, o :: l, s, hs, p => match o.dst with
  | none => none
  | some d => bif Nat.blt d n then
   (match G0 ops s o.guard with
   | none => none
   | some false => Qc E n ops ob m (i + 1) l ((d, .v undef) :: s) hs p
   | some true => match hs with
    | [] => match Qq E s o.op with
     | some x => Qc E n ops ob m (i + 1) l ((d, x) :: s) [] p
     | none => none
    | h :: hs => bif Nat.beq h.at i then
      (match cH E n s ob d o h with
      | some (x, q) => Qc E n ops ob m (i + 1) l ((d, x) :: s) hs (q ∧ p)
      | none => none)
     else
      (match Qq E s o.op with
      | some x => Qc E n ops ob m (i + 1) l ((d, x) :: s) (h :: hs) p
      | none => none)) else none
section
variable {E : Env} {n : Nat} {C : Ctx} {s : Ar} {ob : List Ob} {ops : Array Oper} {R : St → Prop}
theorem Ih {j : Nat} {Db v : Bool} (h : G0 ops s (some (j, Db)) = some v) : ∃ t b, (ops[j]?).bind (·.dst) = some t ∧ get s t = some (.v (.bool b)) ∧ (v = true → b = Db) ∧ (v = false → b = !Db) := by
 simp only [G0] at h
 split at h
 ·rename_i o W
  split at h
  ·rename_i t O
   have M : (ops[j]?).bind (·.dst) = some t := by rw [W]; exact O
   split at h
   ·rename_i G
    cases h
    exact ⟨t, true, M, G, by cases Db <;> simp, by cases Db <;> simp⟩
   ·rename_i G
    cases h
    exact ⟨t, false, M, G, by cases Db <;> simp, by cases Db <;> simp⟩
   ·cases h
  ·cases h
 ·cases h
theorem bG {d : Nat} {o : Oper} {l : List Oper} {x : T} (hg : G0 ops s o.guard = some true) (G : o.dst = some d) (hy : Yd E.P n s ob ⟨some d, o.op, o.type, o.pos, o.after, none⟩ x) (M : Nat.blt d n = true)
  (k : AO E n C ops l ⟨(d, x) :: s, ob⟩ R) : AO E n C ops (o :: l) ⟨s, ob⟩ R := by
 obtain ⟨dst, Y, ty, pos, aft, g⟩ := o
 cases G
 cases g with
 | none => exact vS hy M k
 | some g =>
  obtain ⟨j, Db⟩ := g
  obtain ⟨t, b, O, W, X, _⟩ := Ih hg
  have := X rfl
  exact AO.guard O W (Cn M) (fun _ => vS hy M k) (fun h => by rw [this] at h; cases Db <;> cases h)
theorem tN {d : Nat} {o : Oper} {l : List Oper} (hg : G0 ops s o.guard = some false) (G : o.dst = some d) (X : Nat.blt d n = true)
  (k : AO E n C ops l ⟨(d, .v undef) :: s, ob⟩ R) : AO E n C ops (o :: l) ⟨s, ob⟩ R := by
 obtain ⟨dst, Y, ty, pos, aft, g⟩ := o
 cases G
 cases g with
 | none => cases hg
 | some g =>
  obtain ⟨j, Db⟩ := g
  obtain ⟨t, b, M, O, _, W⟩ := Ih hg
  have := W rfl
  exact AO.guard M O (Cn X) (fun h => by rw [this] at h; cases Db <;> cases h) (fun _ => k)
theorem Gb : ∀ (m i : Nat) (l : List Oper) (s : Ar) (W : List Hn) (p : Prop) {P : Prop} {Z : List Oper} {s' : Ar}, Qc E n ops ob m i l s W p = some (P, Z, s') → P →
  p ∧ (AO E n C ops Z ⟨s', ob⟩ R → AO E n C ops l ⟨s, ob⟩ R)
 | 0, i, l, s, W, p, P, Z, s', h, hP => by cases h; exact ⟨hP, id⟩
 | m + 1, i, [], s, W, p, P, Z, s', h, hP => by cases h
 | m + 1, i, o :: l, s, W, p, P, Z, s', h, hP => by
  simp only [Qc] at h
  split at h
  ·cases h
  ·rename_i d G
   cases hd : Nat.blt d n with
   | false => rw [hd] at h; cases h
   | true =>
    rw [hd, cond_true] at h
    split at h
    ·cases h
    ·rename_i X
     obtain ⟨M, O⟩ := Gb m (i + 1) l _ W p h hP
     exact ⟨M, fun k => tN X G hd (O k)⟩
    ·rename_i X
     split at h
     ·split at h
      ·rename_i x Y
       obtain ⟨M, O⟩ := Gb m (i + 1) l _ _ p h hP
       exact ⟨M, fun k => bG X G (Sr Y) hd (O k)⟩
      ·cases h
     ·rename_i hn W
      cases hb : Nat.beq hn.at i with
      | true =>
       rw [hb, cond_true] at h
       split at h
       ·rename_i x q Y
        obtain ⟨M, O⟩ := Gb m (i + 1) l _ _ _ h hP
        exact ⟨M.2, fun k => bG X G (Yz Y M.1) hd (O k)⟩
       ·cases h
      | false =>
       rw [hb, cond_false] at h
       split at h
       ·rename_i x Y
        obtain ⟨M, O⟩ := Gb m (i + 1) l _ _ p h hP
        exact ⟨M, fun k => bG X G (Sr Y) hd (O k)⟩
       ·cases h
theorem bz : (∀ b, (true && b) = b) ∧ (∀ b, (false && b) = false) ∧ (∀ b, (true || b) = true) ∧ (∀ b, (false || b) = b) ∧ (!true) = false ∧ (!false) = true ∧ (∀ a b : Bool, cond true a b = a) ∧ (∀ a b : Bool, cond false a b = b) := by simp
theorem A8 {α : Type} {f : α → List T} {l : List α} : ((l.map f).length : Int) = (l.length : Int) := by rw [List.length_map]
theorem Af (m : Nat) {l G : List Oper} {s' : Ar} (h : Qc E n ops ob m 0 l s [] True = some (True, G, s')) (k : AO E n C ops G ⟨s', ob⟩ R) : AO E n C ops l ⟨s, ob⟩ R :=
 (Gb m 0 l s [] True h trivial).2 k
theorem Aj {id : Nat} {y : Code} {Q : Exit → St → Prop} {s' : Ar} (h : Qc E n ops ob ops.size 0 ops.toList s [] True = some (True, [], s')) (k : AW E n C y ⟨s', ob⟩ Q) : AW E n C (.seq (.region id ops false) y) ⟨s, ob⟩ Q :=
 vM (vH ((Gb _ 0 _ s [] True h trivial).2 (vI k)))
theorem Bl {id : Nat} {y : Code} {Q : Exit → St → Prop} {s' : Ar} {P : Prop} (G : List Hn) (h : Qc E n ops ob ops.size 0 ops.toList s G True = some (P, [], s')) (M : P) (k : AW E n C y ⟨s', ob⟩ Q) :
  AW E n C (.seq (.region id ops false) y) ⟨s, ob⟩ Q :=
 vM (vH ((Gb _ 0 _ s G True h M).2 (vI k)))
theorem Yl {id : Nat} {Q : Exit → St → Prop} {s' : Ar} (h : Qc E n ops ob ops.size 0 ops.toList s [] True = some (True, [], s')) (k : Q .normal ⟨s', ob⟩) : AW E n C (.region id ops false) ⟨s, ob⟩ Q :=
 vH ((Gb _ 0 _ s [] True h trivial).2 (vI k))
theorem Hm {id : Nat} {Q : Exit → St → Prop} {s' : Ar} {P : Prop} (G : List Hn) (h : Qc E n ops ob ops.size 0 ops.toList s G True = some (P, [], s')) (M : P) (k : Q .normal ⟨s', ob⟩) :
  AW E n C (.region id ops false) ⟨s, ob⟩ Q :=
 vH ((Gb _ 0 _ s G True h M).2 (vI k))
theorem Al (m : Nat) (G : List Hn) {l M : List Oper} {s' : Ar} {P : Prop} (h : Qc E n ops ob m 0 l s G True = some (P, M, s')) (O : P) (k : AO E n C ops M ⟨s', ob⟩ R) : AO E n C ops l ⟨s, ob⟩ R :=
 (Gb m 0 l s G True h O).2 k
def cF (E : Env) (so s : Ar) (d : Nat) (G : Op) : Option (T × Bool) :=
 match (match G with
  | .pick .. => none
  | G => Qq E so G) with
 | some x => some (x, true)
 | none => match Ym E s G with
  | some x => bif free so (some d) then some (x, false) else none
  | none => none
def rN (b : Bool) (so : Ar) (d : Nat) (x : T) : Ar := bif b then (d, x) :: so else so
def pd : Nat → Nat → List Nat → PL
 | 0, _, _ => .nil
 | m + 1, i, a => bif a.contains i then .act i (pd m (i + 1) a) else .still i (pd m (i + 1) a)
def Hx (E : Env) (n : Nat) (ops : Array Oper) (pobjs : List Ob) : Nat → Nat → PL → Ar → Ar → List Hn → Prop → Option (Prop × PL × Ar × Ar)
 | 0, _, l, so, s, _, p => some (p, l, so, s)
 | m + 1, i, .still j l, so, s, hs, p => match ops[j]? with
  | none => none
  | some o => match o.dst with
   | none => none
   | some d => bif Nat.blt d n then
    (match G0 ops s o.guard with
    | none => none
    | some false => bif free so (some d) then Hx E n ops pobjs m (i + 1) l so ((d, .v undef) :: s) hs p else none
    | some true => match hs with
     | [] => match cF E so s d o.op with
      | some (x, b) => Hx E n ops pobjs m (i + 1) l (rN b so d x) ((d, x) :: s) [] p
      | none => none
     | h :: hs => bif Nat.beq h.at i then
       (match cH E n so pobjs d o h with
       | some (x, q) => Hx E n ops pobjs m (i + 1) l ((d, x) :: so) ((d, x) :: s) hs (q ∧ p)
       | none => none)
      else
       (match cF E so s d o.op with
       | some (x, b) => Hx E n ops pobjs m (i + 1) l (rN b so d x) ((d, x) :: s) (h :: hs) p
       | none => none)) else none
 | m + 1, i, .act j l, so, s, hs, p => match ops[j]? with
  | none => none
  | some o => match o.dst with
   | none => none
   | some d => bif Nat.blt d n && free so (some d) then
    (match G0 ops s o.guard with
    | some false => Hx E n ops pobjs m (i + 1) l so ((d, .v undef) :: s) hs p
    | _ => none) else none
 | _ + 1, _, _, _, _, _, _ => none
section
variable {prot : List Nat} {pobjs : List Ob} {so : Ar}
theorem Z4 {j d : Nat} {o : Oper} {l : PL} {x : T} (O : ops[j]? = some o) (hg : G0 ops s o.guard = some true) (G : o.dst = some d)
  (hy : Yd E.P n so pobjs ⟨some d, o.op, o.type, o.pos, o.after, none⟩ x) (M : Nat.blt d n = true)
  (k : AP E n C ops prot pobjs l ((d, x) :: so) ⟨(d, x) :: s, ob⟩ R) : AP E n C ops prot pobjs (.still j l) so ⟨s, ob⟩ R := by
 obtain ⟨dst, op, ty, pos, aft, g⟩ := o
 cases G
 cases g with
 | none => exact bF O hy rfl (Cn M) k
 | some g =>
  obtain ⟨i, Db⟩ := g
  obtain ⟨t, b, W, X, Y, _⟩ := Ih hg
  exact Ko O W X (Y rfl) hy (Cn M) k
theorem oE {j d : Nat} {o : Oper} {l : PL} {x : T} (O : ops[j]? = some o) (hg : G0 ops s o.guard = some true) (G : o.dst = some d)
  (hy : Yp E.P n s ⟨some d, o.op, o.type, o.pos, o.after, none⟩ x) (M : Nat.blt d n = true) (hf : free so (some d) = true)
  (k : AP E n C ops prot pobjs l so ⟨(d, x) :: s, ob⟩ R) : AP E n C ops prot pobjs (.still j l) so ⟨s, ob⟩ R := by
 obtain ⟨dst, op, ty, pos, aft, g⟩ := o
 cases G
 cases g with
 | none => exact AP.new O hy rfl (Cn M) k hf
 | some g =>
  obtain ⟨i, Db⟩ := g
  obtain ⟨t, b, W, X, Y, _⟩ := Ih hg
  exact qM O W X (Y rfl) hy (Cn M) k hf
theorem Wo {j d : Nat} {o : Oper} {l : PL} (Y : ops[j]? = some o) (hg : G0 ops s o.guard = some false) (G : o.dst = some d) (X : Nat.blt d n = true) (hf : free so (some d) = true)
  (k : AP E n C ops prot pobjs l so ⟨(d, .v undef) :: s, ob⟩ R) : AP E n C ops prot pobjs (.still j l) so ⟨s, ob⟩ R ∧ AP E n C ops prot pobjs (.act j l) so ⟨s, ob⟩ R := by
 obtain ⟨dst, op, ty, pos, aft, g⟩ := o
 cases G
 cases g with
 | none => cases hg
 | some g =>
  obtain ⟨i, Db⟩ := g
  obtain ⟨t, b, M, O, _, W⟩ := Ih hg
  exact ⟨AP.skip Y rfl M O (W rfl) (Cn X) k hf, oD Y rfl M O (W rfl) (Cn X) k hf⟩
theorem Wn {j d : Nat} {o : Oper} {l : PL} {x : T} {b : Bool} (O : ops[j]? = some o) (hg : G0 ops s o.guard = some true) (G : o.dst = some d) (M : Nat.blt d n = true)
  (hx : cF E so s d o.op = some (x, b)) (k : AP E n C ops prot pobjs l (rN b so d x) ⟨(d, x) :: s, ob⟩ R) : AP E n C ops prot pobjs (.still j l) so ⟨s, ob⟩ R := by
 unfold cF at hx
 split at hx
 ·rename_i h
  cases hx
  split at h
  ·cases h
  ·exact Z4 O hg G (Sr h) M k
 ·split at hx
  ·rename_i h
   cases hf : free so (some d) with
   | false => rw [hf] at hx; cases hx
   | true =>
    rw [hf, cond_true] at hx
    cases hx
    exact oE O hg G (Sq h) M hf k
  ·cases hx
theorem Gs : ∀ (m i : Nat) (l : PL) (so s : Ar) (O : List Hn) (p : Prop) {P : Prop} {W : PL} {G s' : Ar}, Hx E n ops pobjs m i l so s O p = some (P, W, G, s') → P →
  p ∧ (AP E n C ops prot pobjs W G ⟨s', ob⟩ R → AP E n C ops prot pobjs l so ⟨s, ob⟩ R)
 | 0, i, l, so, s, O, p, P, W, G, s', h, hP => by
  cases l <;> (simp only [Hx] at h; cases h; exact ⟨hP, id⟩)
 | m + 1, i, .still j l, so, s, O, p, P, W, G, s', h, hP => by
  simp only [Hx] at h
  split at h
  ·cases h
  ·rename_i o ho
   split at h
   ·cases h
   ·rename_i d M
    cases hd : Nat.blt d n with
    | false => rw [hd] at h; cases h
    | true =>
     rw [hd, cond_true] at h
     split at h
     ·cases h
     ·rename_i Z
      cases hf : free so (some d) with
      | false => rw [hf] at h; cases h
      | true =>
       rw [hf, cond_true] at h
       obtain ⟨X, Y⟩ := Gs m (i + 1) l so _ O p h hP
       exact ⟨X, fun k => (Wo ho Z M hd hf (Y k)).1⟩
     ·rename_i Z
      split at h
      ·split at h
       ·rename_i x b hx
        obtain ⟨X, Y⟩ := Gs m (i + 1) l _ _ _ p h hP
        exact ⟨X, fun k => Wn ho Z M hd hx (Y k)⟩
       ·cases h
      ·rename_i hn O
       cases hb : Nat.beq hn.at i with
       | true =>
        rw [hb, cond_true] at h
        split at h
        ·rename_i x q hx
         obtain ⟨X, Y⟩ := Gs m (i + 1) l _ _ _ _ h hP
         exact ⟨X.2, fun k => Z4 ho Z M (Yz hx X.1) hd (Y k)⟩
        ·cases h
       | false =>
        rw [hb, cond_false] at h
        split at h
        ·rename_i x b hx
         obtain ⟨X, Y⟩ := Gs m (i + 1) l _ _ _ p h hP
         exact ⟨X, fun k => Wn ho Z M hd hx (Y k)⟩
        ·cases h
 | m + 1, i, .act j l, so, s, O, p, P, W, G, s', h, hP => by
  simp only [Hx] at h
  split at h
  ·cases h
  ·rename_i o ho
   split at h
   ·cases h
   ·rename_i d M
    cases hd : Nat.blt d n with
    | false => rw [hd] at h; cases h
    | true =>
     cases hf : free so (some d) with
     | false => rw [hd, hf] at h; cases h
     | true =>
      rw [hd, hf] at h
      simp only [Bool.and_true, cond_true] at h
      split at h
      ·rename_i Z
       obtain ⟨X, Y⟩ := Gs m (i + 1) l so _ O p h hP
       exact ⟨X, fun k => (Wo ho Z M hd hf (Y k)).2⟩
      ·cases h
 | m + 1, i, .nil, so, s, O, p, P, W, G, s', h, hP => by simp [Hx] at h
 | m + 1, i, .two .., so, s, O, p, P, W, G, s', h, hP => by simp [Hx] at h
 | m + 1, i, .three .., so, s, O, p, P, W, G, s', h, hP => by simp [Hx] at h
 | m + 1, i, .four .., so, s, O, p, P, W, G, s', h, hP => by simp [Hx] at h
 | m + 1, i, .five .., so, s, O, p, P, W, G, s', h, hP => by simp [Hx] at h
 | m + 1, i, .par .., so, s, O, p, P, W, G, s', h, hP => by simp [Hx] at h
 | m + 1, i, .parS .., so, s, O, p, P, W, G, s', h, hP => by simp [Hx] at h
 | m + 1, i, .drop .., so, s, O, p, P, W, G, s', h, hP => by simp [Hx] at h
theorem A9 (m : Nat) {l M : PL} {G s' : Ar} (h : Hx E n ops pobjs m 0 l so s [] True = some (True, M, G, s')) (k : AP E n C ops prot pobjs M G ⟨s', ob⟩ R) :
  AP E n C ops prot pobjs l so ⟨s, ob⟩ R :=
 (Gs m 0 l so s [] True h trivial).2 k
theorem Br (m : Nat) (M : List Hn) {l O : PL} {G s' : Ar} {P : Prop} (h : Hx E n ops pobjs m 0 l so s M True = some (P, O, G, s')) (W : P) (k : AP E n C ops prot pobjs O G ⟨s', ob⟩ R) :
  AP E n C ops prot pobjs l so ⟨s, ob⟩ R :=
 (Gs m 0 l so s M True h W).2 k
theorem kH {d : Nat} {c : Operand} {args : Array Operand} {Y : Array TypeId} {ty : TypeId} {pos : String} {aft : Array Edge} {f : FuncId} {Z G M ys : List T} {y X : T}
  (h : ACalls E f ys [] (fun x new => x = X ∧ new = [])) (k : R ⟨(d, X) :: s, ob⟩)
  (hc : Be s c = some y) (hf : Nl y = some (f, G, M)) (hx : Gg s args.toList = some Z) (W : G ++ Z ++ M = ys)
  (hd : Nat.blt d n = true) (O : Fh X = true) :
  AX E n C [] ⟨some d, .call { callee := .value c, args := args, argTypes := Y }, ty, pos, aft, none⟩ ⟨s, ob⟩ R :=
 Cw hc (.refl _) hf hx (.rest _) W h (Cn hd) (fun _ _ h => by rw [h.1]; exact O) (fun x h => by obtain ⟨_, rfl, _⟩ := h; exact k)
theorem AO.c {d : Nat} {c : Operand} {args : Array Operand} {Y : Array TypeId} {ty : TypeId} {pos : String} {aft : Array Edge} {f : FuncId} {xs G M ys : List T} {y X : T} {l : List Oper}
  (h : ACalls E f ys [] (fun x new => x = X ∧ new = [])) (k : AO E n C ops l ⟨(d, X) :: s, ob⟩ R)
  (hc : Be s c = some y := by exact rfl) (hf : Nl y = some (f, G, M) := by exact rfl) (hx : Gg s args.toList = some xs := by exact rfl) (W : G ++ xs ++ M = ys := by exact rfl)
  (Z : Nat.blt d n = true := by exact rfl) (O : Fh X = true := by exact rfl) :
  AO E n C ops (⟨some d, .call { callee := .value c, args := args, argTypes := Y }, ty, pos, aft, none⟩ :: l) ⟨s, ob⟩ R :=
 vJ [] rfl (kH h k hc hf hx W Z O)
def vU := @AO.c
theorem AP.c {i d : Nat} {c : Operand} {args : Array Operand} {Z : Array TypeId} {ty : TypeId} {pos : String} {aft : Array Edge} {f : FuncId} {xs G M ys : List T} {y X : T} {l : PL}
  (ho : ops[i]? = some ⟨some d, .call { callee := .value c, args := args, argTypes := Z }, ty, pos, aft, none⟩) (h : ACalls E f ys [] (fun x new => x = X ∧ new = [])) (k : AP E n C ops prot pobjs l so ⟨(d, X) :: s, ob⟩ R)
  (hc : Be s c = some y := by exact rfl) (hf : Nl y = some (f, G, M) := by exact rfl) (hx : Gg s args.toList = some xs := by exact rfl) (Y : G ++ xs ++ M = ys := by exact rfl)
  (hd : Nat.blt d n = true := by exact rfl) (O : Fh X = true := by exact rfl) (W : free so (some d) = true := by exact rfl) :
  AP E n C ops prot pobjs (.act i l) so ⟨s, ob⟩ R :=
 vK [] ho rfl (by simp) (kH h k hc hf hx Y hd O) W
def wE := @AP.c
theorem H8 {i d j t : Nat} {Db b : Bool} {c : Operand} {args : Array Operand} {Z : Array TypeId} {ty : TypeId} {pos : String} {aft : Array Edge} {f : FuncId} {xs G M ys : List T} {y X : T} {l : PL}
  (ho : ops[i]? = some ⟨some d, .call { callee := .value c, args := args, argTypes := Z }, ty, pos, aft, some (j, Db)⟩) (h : ACalls E f ys [] (fun x new => x = X ∧ new = [])) (k : AP E n C ops prot pobjs l so ⟨(d, X) :: s, ob⟩ R)
  (hj : (ops[j]?).bind (·.dst) = some t := by exact rfl) (hs : get s t = some (.v (.bool b)) := by exact rfl) (hb : b = Db := by exact rfl)
  (hc : Be s c = some y := by exact rfl) (hf : Nl y = some (f, G, M) := by exact rfl) (hx : Gg s args.toList = some xs := by exact rfl) (Y : G ++ xs ++ M = ys := by exact rfl)
  (hd : Nat.blt d n = true := by exact rfl) (O : Fh X = true := by exact rfl) (W : free so (some d) = true := by exact rfl) :
  AP E n C ops prot pobjs (.act i l) so ⟨s, ob⟩ R :=
 X4 [] ho hj hs hb (by simp) (kH h k hc hf hx Y hd O) W
end
theorem Qw {id : Nat} {y : Code} {Q : Exit → St → Prop} {s' G : Ar} {P : Prop} (pl : PL) (prot : List Nat) (pobjs : List Ob) (M : List Hn) (X : prot.map (fun i => ob[i]?) = pobjs.map some)
  (h : Hx E n ops pobjs ops.size 0 pl s s M True = some (P, .nil, G, s')) (W : P) (k : AW E n C y ⟨s', ob⟩ Q) (O : T6 ops pl = true := by kernel_rfl) :
  AW E n C (.seq (.region id ops true) y) ⟨s, ob⟩ Q :=
 vM (Md pl prot pobjs O X ((Gs _ 0 pl s s M True h W).2 (AP.nil k)))
theorem Ys {id : Nat} {Q : Exit → St → Prop} {s' G : Ar} {P : Prop} (pl : PL) (prot : List Nat) (pobjs : List Ob) (M : List Hn) (X : prot.map (fun i => ob[i]?) = pobjs.map some)
  (h : Hx E n ops pobjs ops.size 0 pl s s M True = some (P, .nil, G, s')) (W : P) (k : Q .normal ⟨s', ob⟩) (O : T6 ops pl = true := by kernel_rfl) :
  AW E n C (.region id ops true) ⟨s, ob⟩ Q :=
 Md pl prot pobjs O X ((Gs _ 0 pl s s M True h W).2 (AP.nil k))
theorem Bi {id : Nat} {Q : Exit → St → Prop} (pl : PL) (prot : List Nat) (pobjs : List Ob) (M : prot.map (fun i => ob[i]?) = pobjs.map some)
  (h : AP E n C ops prot pobjs pl s ⟨s, ob⟩ (fun σ' => Q .normal σ')) (G : T6 ops pl = true := by kernel_rfl) : AW E n C (.region id ops true) ⟨s, ob⟩ Q := Md pl prot pobjs G M h
theorem lf {M : Ar → List Ob → Prop} {G s' : Ar} {ob' : List Ob} (O : M s' ob') (Y : Sub (s' ++ G) s) (ks : List Nat) (W : Ds ob ks = some ob') (X : ks.Nodup := by decide) :
  ∃ s' ob', M s' ob' ∧ Left (s' ++ G) ob' ⟨s, ob⟩ := ⟨_, _, O, Y, ks, W, X⟩
theorem tT {s : Ar} : ∀ {l : Ar}, l.map (fun p => get s p.1) = l.map (fun p => some p.2) → Sub l s
 | [], _ => trivial
 | (i, x) :: l, h => by
  simp only [List.map_cons, List.cons.injEq] at h
  exact ⟨h.1, tT h.2⟩
theorem lg {M : Ar → List Ob → Prop} {G s' : Ar} {ob' : List Ob} (O : M s' ob') (ks : List Nat) (Y : (s' ++ G).map (fun p => get s p.1) = (s' ++ G).map (fun p => some p.2) := by exact rfl)
  (W : Ds ob ks = some ob' := by exact rfl) (X : ks.Nodup := by decide) :
  ∃ s' ob', M s' ob' ∧ Left (s' ++ G) ob' ⟨s, ob⟩ := ⟨_, _, O, tT Y, ks, W, X⟩
theorem Ao {t : Nat} {x y : Code} {Q : Exit → St → Prop} {b : Bool} {α : Type} {A B r : α} (h : (if b = true then A else B) = r) (M : get s t = some (.v (.bool b)))
  (h1 : b = true → A = r → AW E n C x ⟨s, ob⟩ Q) (h2 : b = false → B = r → AW E n C y ⟨s, ob⟩ Q) : AW E n C (.cond (.tmp t) x y) ⟨s, ob⟩ Q :=
 AW.cond rfl M (fun G => h1 G (B0 G h)) (fun G => h2 G (B8 G h))
section
variable {σ : St} {dst : Option Tmp} {ty : TypeId} {pos : String} {aft : Array Edge} {g : Option (Nat × Bool)}
theorem AX.lt {d : Nat} {t : TypeId} {m : Nat} {G : Array (Nat × Operand)} {ti ei : TI} {e : Nat} {z : Value} {l : List T} (sz : Nat) (es : List (List T)) (k : R ⟨(d, .list sz es) :: s, ob⟩)
  (Z : E.tab t = some ti := by exact rfl) (W : ti.kind = .slice e := by exact rfl) (he : E.tab e = some ei := by exact rfl) (hz : ei.zero = some z := by exact rfl) (h1 : z.cells.toList.all (·.oneCell') = true := by exact rfl)
  (hsz : ei.size = sz := by exact rfl) (M : z.cells.size = sz := by exact rfl) (hb : Nat.ble (m * sz) 16777216 = true := by exact rfl)
  (X : Nat.ble m 16777216 = true := by exact rfl) (hf : Gr s (fun i => some (i * sz, sz)) (Me (Fg z) m) G.toList = some l := by exact rfl) (Y : rows sz m l = es := by exact rfl) (O : Nat.blt d n = true := by exact rfl) :
  AX E n C [] ⟨some d, .buildSlice t m G, ty, pos, aft, g⟩ ⟨s, ob⟩ R := qL Z W he hz h1 hsz M hb X hf Y (Cn O) k
def vR := @AX.lt
theorem Es (ks : List Nat) {d : Nat} {c : Operand} {args : Array Operand} {Y : Array TypeId} {f : FuncId} {G M xs ys : List T} {fp : List Ob} {Rc : T → List Ob → List Ob → Prop} {R : St → Prop}
  (h : ACalls E f ys fp (fun x O => ∃ os new, O = os ++ new ∧ os.length = fp.length ∧ Rc x os new)) (k : ∀ x os new, os.length = fp.length → Rc x os new → R ⟨Fa σ.slots (some d) x, C3 σ.objs ks os ++ new⟩)
  (hc : (Be σ.slots c).bind Nl = some (f, G, M) := by exact rfl) (hx : Gg σ.slots args.toList = some xs := by exact rfl) (X : G ++ xs ++ M = ys := by exact rfl)
  (hk : Ds σ.objs ks = some fp := by exact rfl) (W : ks.Nodup := by decide) (Z : Nat.blt d n = true := by exact rfl) :
  AX E n C ks ⟨some d, .call { callee := .value c, args := args, argTypes := Y }, ty, pos, aft, g⟩ σ R := Z1 ks hc hx X hk W h (Cn Z) k
theorem AX.ap {α : Type} {fr : α → List T} {la X Y : List α} (ks : Nat) {d : Nat} {so x : Operand} {t : TypeId} {ti ei : TI} {e sz : Nat} {z v : Value} {R : St → Prop}
  (M : σ.objs[ks]? = some (.us v e sz (la.map fr))) (W : Cp la X = some Y)
  (k : ∀ Z, R ⟨Fa σ.slots (some d) (.v Z), σ.objs.set ks (.us Z e sz (Y.map fr))⟩)
  (hx : Be σ.slots x = some (.list sz (X.map fr)) := by exact rfl) (hs : Be σ.slots so = some (.v v) := by exact rfl)
  (ht : E.tab t = some ti := by exact rfl) (hk : ti.kind = .slice e := by exact rfl) (he : E.tab e = some ei := by exact rfl) (hz : ei.zero = some z := by exact rfl) (hsz : ei.size = sz := by exact rfl)
  (O : z.cells.size = sz := by exact rfl) (G : Nat.ble ei.bytes 2048 = true := by exact rfl) (hd : Nat.blt d n = true := by exact rfl) :
  AX E n C [ks] ⟨some d, .call { callee := .builtin .append, args := #[so, x], argTypes := #[t, t] }, ty, pos, aft, g⟩ σ R :=
 F7 ks ht hk he hz hsz O G hs M (.list hx) (X0 (Ep W).1) (Xz (Ep W).2) (Cn hd) k
def vV := @AX.ap
end
def kb (s s' : Ar) : Prop := s'.drop (s'.length - s.length) = s ∧ ((s'.take (s'.length - s.length)).all fun p => (get s p.1).isNone) = true
theorem dJ {s : Ar} {i : Nat} {x : T} : ∀ {l : Ar}, (l.all fun p => (get s p.1).isNone) = true → get s i = some x → get (l ++ s) i = some x
 | [], _, h => h
 | (j, y) :: l, ha, h => by
  simp only [List.all_cons, Bool.and_eq_true] at ha
  simp only [List.cons_append, get]
  cases hb : Nat.beq j i with
  | true =>
   rw [nq hb, h] at ha
   simp at ha
  | false => rw [cond_false]; exact dJ ha.2 h
theorem sR {s s' : Ar} (h : kb s s') (i : Nat) (x : T) (hx : get s i = some x) : get s' i = some x := by
 obtain ⟨G, M⟩ := h
 rw [← List.take_append_drop (s'.length - s.length) s', G]
 exact dJ M hx
theorem D2 {x y : Code} {Q : Exit → St → Prop} (d : Nat) (e : Bool) (h : AW E n C x ⟨s, ob⟩ (Ky (fun σ' => get σ'.slots d = some (.v (.bool e)) ∧ σ'.objs = ob ∧ kb s σ'.slots) Q)) (k : AW E n C y ⟨(d, .v (.bool e)) :: s, ob⟩ Q) : AW E n C (.seq x y) ⟨s, ob⟩ Q :=
 lM _ h fun σ' ⟨W, O, X⟩ H a w G => k H a w { G with
  slots := fun i z M => by
   simp only [get] at M
   cases hb : Nat.beq d i with
   | true => rw [hb, cond_true] at M; cases M; rw [← nq hb]; exact G.slots d _ W
   | false => rw [hb, cond_false] at M; exact G.slots i z (sR X i z M)
  objs := by rw [← O]; exact G.objs
  free := by rw [← O]; exact G.free
  new := by rw [← O]; exact G.new
  nodup := by rw [← O]; exact G.nodup }
theorem jf {d : Nat} {a e : Bool} {s s' : Ar} {ob ob' : List Ob} (h : a = e) (h1 : get s' d = some (.v (.bool a))) (h2 : ob' = ob) (G : kb s s') : get s' d = some (.v (.bool e)) ∧ ob' = ob ∧ kb s s' := ⟨h ▸ h1, h2, G⟩
theorem rt {E : Env} {fn : Func} {Rc : T → List Ob → Prop} {t : Nat} {x : T} (hf : fn.results.toList = [.tmp t]) (hx : get s t = some x) (G : Rc x []) : oN E fn Rc .ret ⟨s, ob⟩ := ⟨.inr rfl, [x], [], by rw [hf]; exact ⟨hx, trivial⟩, List.nil_sublist _, G⟩
end
theorem A1 {E : Env} {n : Nat} {C : Ctx} {σ : St} {ty : TypeId} {pos : String} {aft : Array Edge} {g : Option (Nat × Bool)} (ks : List Nat) {d : Nat} {c : Operand} {args : Array Operand} {Z : Array TypeId} {f : FuncId} {G M xs ys : List T} {fp : List Ob} {X : T} {O N : List Ob} {R : St → Prop}
  (h : ACalls E f ys fp (E7 fp.length (fun x os new => x = X ∧ os = O ∧ new = N))) (k : R ⟨Fa σ.slots (some d) X, C3 σ.objs ks O ++ N⟩)
  (hc : (Be σ.slots c).bind Nl = some (f, G, M) := by exact rfl) (hx : Gg σ.slots args.toList = some xs := by exact rfl) (Y : G ++ xs ++ M = ys := by exact rfl)
  (hk : Ds σ.objs ks = some fp := by exact rfl) (W : ks.Nodup := by decide) (hd : Nat.blt d n = true := by exact rfl) :
  AX E n C ks ⟨some d, .call { callee := .value c, args := args, argTypes := Z }, ty, pos, aft, g⟩ σ R :=
 Es ks h (by rintro _ _ _ _ ⟨rfl, rfl, rfl⟩; exact k) hc hx Y hk W hd
theorem pr {E : Env} {fn : Func} {σ : St} {X : T} (h : eG E σ.slots σ.objs fn.results.toList [X] := by exact ⟨rfl, True.intro⟩) : oN E fn (fun x new => x = X ∧ new = []) .ret σ := ⟨.inr rfl, [X], [], h, Cf, rfl, rfl⟩
theorem g0 {n : Nat} {C : Ctx} {s : Ar} {ob : List Ob} : Ghost n C s ob s [] := Ghost.pick [] (K := []) rfl (by decide)
theorem Cd {E : Env} {n : Nat} {C : Ctx} {Q : Exit → St → Prop} {s : Ar} {ob : List Ob} {c : Code} (ks : List Nat) {K : List Ob} (G : Ds ob ks = some K) (k : AW E n C c ⟨s, K⟩ Q) (M : ks.Nodup := by decide) : AW E n C c ⟨s, ob⟩ Q := vP (Ghost.pick ks G M) k
theorem A3 {E : Env} {n : Nat} {C : Ctx} {σ : St} {ty : TypeId} {pos : String} {aft : Array Edge} {g : Option (Nat × Bool)} (k i j : Nat) (es' : List (List T)) {t : TypeId} {x y : Operand} {ti : TI} {c : T} {cs : List T} {b off M sz cap : Nat} {es : List (List T)} {e : List T} {R : St → Prop}
  (W : σ.objs[k]? = some (.arr b M sz cap es)) (Z : R ⟨σ.slots, σ.objs.set k (.arr b M sz cap es')⟩)
  (hx : Be σ.slots x = some (.v (.pointer (some ⟨b, off, none⟩))) := by exact rfl) (Y : E.tab t = some ti := by exact rfl) (he : es[i]? = some e := by exact rfl) (X : off = i * sz + j := by exact rfl)
  (hy : Be σ.slots y = some c := by exact rfl) (hc : Ev c = some cs := by exact rfl) (hsz : ti.size = cs.length := by exact rfl) (O : Nat.ble (j + cs.length) e.length = true := by exact rfl) (G : es.set i (Fz e j cs) = es' := by exact rfl) :
  AX E n C [k] ⟨none, .store t x y, ty, pos, aft, g⟩ σ R := vT k i j Y hx W he X hy hc hsz (Nat.le_of_ble_eq_true O) rfl G Z
theorem Ba {α β : Type} {l : List α} {i : Int} {f : Nat × α → Option β} {r : β} (h : (ix l i).bind f = some r) : ∃ p, (i = (p.1 : Int) ∧ l[p.1]? = some p.2) ∧ f p = some r := by
 obtain ⟨p, G, M⟩ := Ac h
 exact ⟨p, pL G, M⟩
theorem Fo {α β : Type} {n : Int} {z : α} {f : List α → Option β} {r : β} (h : (Qb n z).bind f = some r) : ∃ l, (∃ m : Nat, n = (m : Int) ∧ m ≤ 68719476736 ∧ List.replicate m z = l) ∧ f l = some r := by
 obtain ⟨p, G, M⟩ := Ac h
 exact ⟨p, pK G, M⟩
theorem I2 {α β : Type} {a : α} {b : β} : a = a ∧ b = b := ⟨rfl, rfl⟩
theorem I3 {α β γ : Type} {a : α} {b : β} {c : γ} : a = a ∧ b = b ∧ c = c := ⟨rfl, rfl, rfl⟩
theorem I5 {α β γ δ ε : Type} {a : α} {b : β} {c : γ} {d : δ} {e : ε} : a = a ∧ b = b ∧ c = c ∧ d = d ∧ e = e := ⟨rfl, rfl, rfl, rfl, rfl⟩
theorem I7 {α β γ δ ε ζ η : Type} {a : α} {b : β} {c : γ} {d : δ} {e : ε} {f : ζ} {g : η} : a = a ∧ b = b ∧ c = c ∧ d = d ∧ e = e ∧ f = f ∧ g = g := ⟨rfl, rfl, rfl, rfl, rfl, rfl, rfl⟩
theorem J1 {α : Type} {a : α} : a = a ∧ True := ⟨rfl, J⟩
theorem J2 {α β : Type} {a : α} {b : β} : a = a ∧ b = b ∧ True := ⟨rfl, J1⟩
theorem J3 {α β γ : Type} {a : α} {b : β} {c : γ} : a = a ∧ b = b ∧ c = c ∧ True := ⟨rfl, J2⟩
theorem J4 {α β γ δ : Type} {a : α} {b : β} {c : γ} {d : δ} : a = a ∧ b = b ∧ c = c ∧ d = d ∧ True := ⟨rfl, J3⟩
theorem J5 {α β γ δ ε : Type} {a : α} {b : β} {c : γ} {d : δ} {e : ε} : a = a ∧ b = b ∧ c = c ∧ d = d ∧ e = e ∧ True := ⟨rfl, J4⟩
theorem J6 {α β γ δ ε ζ : Type} {a : α} {b : β} {c : γ} {d : δ} {e : ε} {f : ζ} : a = a ∧ b = b ∧ c = c ∧ d = d ∧ e = e ∧ f = f ∧ True := ⟨rfl, J5⟩
theorem J7 {α β γ δ ε ζ η : Type} {a : α} {b : β} {c : γ} {d : δ} {e : ε} {f : ζ} {g : η} : a = a ∧ b = b ∧ c = c ∧ d = d ∧ e = e ∧ f = f ∧ g = g ∧ True := ⟨rfl, J6⟩
theorem J8 {α β γ δ ε ζ η θ : Type} {a : α} {b : β} {c : γ} {d : δ} {e : ε} {f : ζ} {g : η} {h : θ} : a = a ∧ b = b ∧ c = c ∧ d = d ∧ e = e ∧ f = f ∧ g = g ∧ h = h ∧ True := ⟨rfl, J7⟩
theorem J9 {α β γ δ ε ζ η θ ι : Type} {a : α} {b : β} {c : γ} {d : δ} {e : ε} {f : ζ} {g : η} {h : θ} {i : ι} : a = a ∧ b = b ∧ c = c ∧ d = d ∧ e = e ∧ f = f ∧ g = g ∧ h = h ∧ i = i ∧ True := ⟨rfl, J8⟩
theorem oF {α β γ δ ε ζ η θ ι κ : Type} {a : α} {b : β} {c : γ} {d : δ} {e : ε} {f : ζ} {g : η} {h : θ} {i : ι} {j : κ} : a = a ∧ b = b ∧ c = c ∧ d = d ∧ e = e ∧ f = f ∧ g = g ∧ h = h ∧ i = i ∧ j = j ∧ True := ⟨rfl, J9⟩
theorem qR {α β γ δ ε ζ η θ ι κ μ : Type} {a : α} {b : β} {c : γ} {d : δ} {e : ε} {f : ζ} {g : η} {h : θ} {i : ι} {j : κ} {k : μ} : a = a ∧ b = b ∧ c = c ∧ d = d ∧ e = e ∧ f = f ∧ g = g ∧ h = h ∧ i = i ∧ j = j ∧ k = k ∧ True := ⟨rfl, oF⟩
theorem uW {α β γ δ ε ζ η θ ι κ μ ν : Type} {a : α} {b : β} {c : γ} {d : δ} {e : ε} {f : ζ} {g : η} {h : θ} {i : ι} {j : κ} {k : μ} {l : ν} : a = a ∧ b = b ∧ c = c ∧ d = d ∧ e = e ∧ f = f ∧ g = g ∧ h = h ∧ i = i ∧ j = j ∧ k = k ∧ l = l ∧ True := ⟨rfl, qR⟩
theorem uN {α β γ δ ε ζ η θ ι κ μ ν ξ : Type} {a : α} {b : β} {c : γ} {d : δ} {e : ε} {f : ζ} {g : η} {h : θ} {i : ι} {j : κ} {k : μ} {l : ν} {m : ξ} : a = a ∧ b = b ∧ c = c ∧ d = d ∧ e = e ∧ f = f ∧ g = g ∧ h = h ∧ i = i ∧ j = j ∧ k = k ∧ l = l ∧ m = m ∧ True := ⟨rfl, uW⟩
theorem uP {α β γ δ ε ζ η θ ι κ μ ν ξ ο : Type} {a : α} {b : β} {c : γ} {d : δ} {e : ε} {f : ζ} {g : η} {h : θ} {i : ι} {j : κ} {k : μ} {l : ν} {m : ξ} {n : ο} : a = a ∧ b = b ∧ c = c ∧ d = d ∧ e = e ∧ f = f ∧ g = g ∧ h = h ∧ i = i ∧ j = j ∧ k = k ∧ l = l ∧ m = m ∧ n = n ∧ True := ⟨rfl, uN⟩
theorem uV {α β γ δ ε ζ η θ ι κ μ ν ξ ο π : Type} {a : α} {b : β} {c : γ} {d : δ} {e : ε} {f : ζ} {g : η} {h : θ} {i : ι} {j : κ} {k : μ} {l : ν} {m : ξ} {n : ο} {o : π} : a = a ∧ b = b ∧ c = c ∧ d = d ∧ e = e ∧ f = f ∧ g = g ∧ h = h ∧ i = i ∧ j = j ∧ k = k ∧ l = l ∧ m = m ∧ n = n ∧ o = o ∧ True := ⟨rfl, uP⟩
theorem Bm {E : Env} {n : Nat} {C : Ctx} {σ : St} {dst : Option Tmp} {ty : TypeId} {pos : String} {aft : Array Edge} {g : Option (Nat × Bool)} {t : TypeId} {z : Value} (cs : List T) (m : Nat) {R : St → Prop} (k : ∀ b, R ⟨Fa σ.slots dst (.v (.pointer (some ⟨b, 0, none⟩))), σ.objs ++ [(.arr b t m 1 [cs])]⟩)
  (G : (E.tab t).bind (fun i => i.zero) = some z := by exact rfl) (hc : z.cells.toList.map T.v = cs := by exact rfl) (h1 : z.cells.toList.all (·.oneCell') = true := by exact rfl) (O : cs.length = m := by exact rfl) (M : ∀ d, dst = some d → d < n := by exact dS) :
  AX E n C [] ⟨dst, .alloc t, ty, pos, aft, g⟩ σ R := by
 obtain ⟨i, hi, G⟩ := Option.bind_eq_some_iff.1 G
 exact AX.alloc hi G hc h1 O M k
theorem Bh {E : Env} {n : Nat} {C : Ctx} {σ : St} {dst : Option Tmp} {ty : TypeId} {pos : String} {aft : Array Edge} {g : Option (Nat × Bool)} {t : TypeId} {x : Operand} (cs : List T) (m : Nat) {R : St → Prop} (k : ∀ b, R ⟨Fa σ.slots dst (.v (.pointer (some ⟨b, 0, none⟩))), σ.objs ++ [(.arr b t m 1 [cs])]⟩)
  (hx : (Be σ.slots x).bind Ev = some cs := by exact rfl) (M : cs.length = m := by exact rfl) (G : ∀ d, dst = some d → d < n := by exact dS) :
  AX E n C [] ⟨dst, .box t x, ty, pos, aft, g⟩ σ R := by
 obtain ⟨y, hy, hc⟩ := Option.bind_eq_some_iff.1 hx
 exact AX.box hy hc M G k
theorem Cl {E : Env} {n : Nat} {C : Ctx} {s : Ar} {ob : List Ob} {Q : Exit → St → Prop} {c : Operand} {x y : Code} {t : Nat} {b : Bool} (G : get s t = some (.v (.bool b))) (hb : b = true) (h : AW E n C x ⟨s, ob⟩ Q) (hc : c = .tmp t := by rfl) : AW E n C (.cond c x y) ⟨s, ob⟩ Q := Z3 (v := true) G hb h hc
theorem Cm {E : Env} {n : Nat} {C : Ctx} {s : Ar} {ob : List Ob} {Q : Exit → St → Prop} {c : Operand} {x y : Code} {t : Nat} {b : Bool} (G : get s t = some (.v (.bool b))) (hb : b = false) (h : AW E n C y ⟨s, ob⟩ Q) (hc : c = .tmp t := by rfl) : AW E n C (.cond c x y) ⟨s, ob⟩ Q := Z3 (v := false) G hb h hc
def sl : Nat → Nat → PL → PL
 | 0, _, r => r
 | m + 1, i, r => .still i (sl m (i + 1) r)
theorem io {α : Type _} {a b : α} (h : some a = some b) : b = a := (Option.some.inj h).symm
abbrev RV (t : T) (x : T) (new : List Ob) : Prop := x = t ∧ new = []
abbrev RB (r : Bool) (x : T) (new : List Ob) : Prop := x = .v (.bool r) ∧ new = []
abbrev N3 : List Nat := [0, 1, 2]
abbrev N4 : List Nat := [0, 1, 2, 3]
abbrev N5 : List Nat := [0, 1, 2, 3, 4]
abbrev N6 : List Nat := [0, 1, 2, 3, 4, 5]
abbrev N7 : List Nat := [0, 1, 2, 3, 4, 5, 6]
abbrev N8 : List Nat := [0, 1, 2, 3, 4, 5, 6, 7]
abbrev N9 : List Nat := [0, 1, 2, 3, 4, 5, 6, 7, 8]
abbrev tS : List Nat := [0, 1, 2, 3, 4, 5, 6, 7, 8, 9]
abbrev K2 (a b : Nat) {xa xb : T} : Ar := [(a, xa), (b, xb)]
abbrev K3 (a b c : Nat) {xa xb xc : T} : Ar := [(a, xa), (b, xb), (c, xc)]
abbrev K4 (a b c d : Nat) {xa xb xc xd : T} : Ar := [(a, xa), (b, xb), (c, xc), (d, xd)]
abbrev K5 (a b c d e : Nat) {xa xb xc xd xe : T} : Ar := [(a, xa), (b, xb), (c, xc), (d, xd), (e, xe)]
abbrev K6 (a b c d e f : Nat) {xa xb xc xd xe xf : T} : Ar := [(a, xa), (b, xb), (c, xc), (d, xd), (e, xe), (f, xf)]
abbrev K7 (a b c d e f g : Nat) {xa xb xc xd xe xf xg : T} : Ar := [(a, xa), (b, xb), (c, xc), (d, xd), (e, xe), (f, xf), (g, xg)]
abbrev K8 (a b c d e f g h : Nat) {xa xb xc xd xe xf xg xh : T} : Ar := [(a, xa), (b, xb), (c, xc), (d, xd), (e, xe), (f, xf), (g, xg), (h, xh)]
abbrev K9 (a b c d e f g h i : Nat) {xa xb xc xd xe xf xg xh xi : T} : Ar := [(a, xa), (b, xb), (c, xc), (d, xd), (e, xe), (f, xf), (g, xg), (h, xh), (i, xi)]
abbrev rM (a b c d e f g h i j : Nat) {xa xb xc xd xe xf xg xh xi xj : T} : Ar := [(a, xa), (b, xb), (c, xc), (d, xd), (e, xe), (f, xf), (g, xg), (h, xh), (i, xi), (j, xj)]
abbrev T.P (b : Nat) : T := .v (.pointer (some ⟨b, 0, none⟩))
abbrev nS : Value := .slice none 0 0
theorem pk {ob o : List Ob} (k : List Nat) (h : Ds ob k = some o := by exact rfl) (n : k.Nodup := by decide) : ∃ p, Ds ob p = some o ∧ p.Nodup := ⟨k, h, n⟩
section
variable {E : Env} {n : Nat} {C : Ctx} {σ : St} {s : Ar} {ob : List Ob} {ops : Array Oper} {b0 : Nat} {F : List (Nat × T)} {so : Ar} {R : St → Prop} {Q : Exit → St → Prop} {i : Nat} {r : PL}
def oQ (Hs : GH) (b0 : Nat) (F : List (Nat × T)) (G : Nat → Value) (w : World) : Prop := (∀ b o, Hs b = some o → w.heap[b]? = some o) ∧ ∀ p, p ∈ F → w.cell? ⟨b0, p.1, none⟩ = some (G p.1)
theorem fC {w w' : World} {b o : Nat} (h : w'.heap[b]? = w.heap[b]?) : w'.cell? ⟨b, o, none⟩ = w.cell? ⟨b, o, none⟩ := by simp only [World.cell?, h]
def AQ (E : Env) (n : Nat) (C : Ctx) (ops : Array Oper) (b0 : Nat) (F : List (Nat × T)) (pl : PL) (so : Ar) (σ : St) (R : St → Prop) : Prop :=
 ∀ Hs (G : Nat → Value) H a w, SR n so Hs a → (∀ p, p ∈ F → VR Hs (G p.1) p.2) → oQ Hs b0 F G w → (∀ b o, Hs b = some o → H b = some o) → Gam n C σ H a w →
  Dh E.P ops (fun e M O => e = .normal ∧ ∃ σ' H', R σ' ∧ Gam n C σ' H' M O) (oQ Hs b0 F G) pl a w
theorem AQ.two {i j : Nat} {r1 r2 : PL} (h1 : AQ E n C ops b0 F (.act i r1) so σ R) (h2 : AQ E n C ops b0 F (.act j r2) so σ R) : AQ E n C ops b0 F (.two i j r1 r2) so σ R :=
 fun Hs M H a w Y X G W O => ⟨h1 Hs M H a w Y X G W O, h2 Hs M H a w Y X G W O⟩
theorem AQ.three {i j k : Nat} {r1 r2 r3 : PL} (h1 : AQ E n C ops b0 F (.act i r1) so σ R) (h2 : AQ E n C ops b0 F (.act j r2) so σ R) (Z : AQ E n C ops b0 F (.act k r3) so σ R) : AQ E n C ops b0 F (.three i j k r1 r2 r3) so σ R :=
 fun Hs M H a w Y X G W O => ⟨h1 Hs M H a w Y X G W O, h2 Hs M H a w Y X G W O, Z Hs M H a w Y X G W O⟩
theorem AQ.ghost {s' : Ar} {ob' : List Ob} (h : Ghost n C s ob s' ob') (k : AQ E n C ops b0 F r so ⟨s', ob'⟩ R) : AQ E n C ops b0 F r so ⟨s, ob⟩ R := by
 intro Hs M H a w sr Z G X O
 obtain ⟨H', W, g⟩ := h H a w O
 exact k Hs M H' a w sr Z G (fun b o Y => W _ _ (X _ _ Y)) g
theorem AQ.one (q : Nat) {v : Value} {M sz : Nat} {es : List (List T)} (Y : ob[q]? = some (.us v M sz es)) (k : v.oneCell' = true → AQ E n C ops b0 F r so ⟨s, ob⟩ R) : AQ E n C ops b0 F r so ⟨s, ob⟩ R :=
 fun Hs W H a w sr Z O X G => k (UsR.one (show UsR H w v M sz es from G.objs _ (mg Y))) Hs W H a w sr Z O X G
theorem AQ.o {d : Nat} {Z : Op} {ty : TypeId} {pos : String} {aft : Array Edge} {x : T} (ho : ops[i]? = some ⟨some d, Z, ty, pos, aft, none⟩) (hy : Yd E.P n so [] ⟨some d, Z, ty, pos, aft, none⟩ x) (hd : Nat.blt d n = true)
  (k : AQ E n C ops b0 F r ((d, x) :: so) ⟨(d, x) :: s, ob⟩ R) : AQ E n C ops b0 F (.still i r) so ⟨s, ob⟩ R := by
 intro Hs fv H a w sr hv W Y gm
 obtain ⟨v, O, M⟩ := hy Hs a w sr ⟨by simp, W.1⟩
 have G : ∀ X, some d = some X → X < n := Cn hd
 refine ⟨_, v, ho, .inl ⟨by simp [Region.wanted], fun w' hw => M w' ⟨hw.1, by simp⟩⟩, W, ?_⟩
 exact k Hs fv H _ w (sr.put (dst := some d) O G) hv W Y (gm.put (dst := some d) (O.mono Y) G)
theorem vD {d : Nat} {G : Op} {ty : TypeId} {pos : String} {aft : Array Edge} {x : T} (O : ops[i]? = some ⟨some d, G, ty, pos, aft, none⟩) (hy : Yp E.P n so ⟨some d, G, ty, pos, aft, none⟩ x) (M : Nat.blt d n = true)
  (k : AQ E n C ops b0 F r ((d, x) :: so) ⟨(d, x) :: s, ob⟩ R) : AQ E n C ops b0 F (.still i r) so ⟨s, ob⟩ R := AQ.o O hy.yd M k
theorem AQ.new {d : Nat} {X : Op} {ty : TypeId} {pos : String} {aft : Array Edge} {x : T} (ho : ops[i]? = some ⟨some d, X, ty, pos, aft, none⟩) (hy : Yp E.P n s ⟨some d, X, ty, pos, aft, none⟩ x) (hd : Nat.blt d n = true)
  (k : AQ E n C ops b0 F r so ⟨(d, x) :: s, ob⟩ R) (hf : free so (some d) = true := by rfl) : AQ E n C ops b0 F (.still i r) so ⟨s, ob⟩ R := by
 intro Hs Y H a w sr hv O Z W
 obtain ⟨v, M, G⟩ := hy H a W.sr
 refine ⟨_, v, ho, .inl ⟨by simp [Region.wanted], fun w' _ => G w'⟩, O, ?_⟩
 exact k Hs Y H _ w (sr.free _ _ hf) hv O Z (W.put (dst := some d) M (Cn hd))
theorem AQ.act {σ : St} {o : Oper} (md : List Nat) (kb : Nat) {tt sz cap : Nat} {es : List (List T)} (ho : ops[i]? = some o) (hg : o.guard = none) (hk : σ.objs[kb]? = some (.arr b0 tt sz cap es)) (hm : md.contains kb = false)
  (h : AX E n C md o σ (fun σ' => AQ E n C ops b0 F r so σ' R)) (hf : free so o.dst = true := by rfl) : AQ E n C ops b0 F (.act i r) so σ R := by
 intro Hs Y H a w sr hv ag Z gm
 simp only [Dh, wpOp, ho]
 rw [if_pos (by simp [Region.wanted, hg])]
 refine .inl (C6 ?_ (fun _ _ _ h => h.elim) (h H a w gm))
 rintro a' w' ⟨σ', H', v, hr, M, W, O, X⟩
 have G : oQ Hs b0 F Y w' := ⟨fun b o hb => M.held _ _ (O _ _ (Z _ _ hb)), fun p hp => (fC ((X kb _ hk hm).2 b0 (by simp [Ob.fp]))).trans (ag.2 p hp)⟩
 exact ⟨G, hr Hs Y H' a' w' (by rw [W]; exact sr.free _ _ hf) hv G (fun b o hb => O _ _ (Z _ _ hb)) M⟩
theorem uX (k : Nat) {t : TypeId} {x y : Operand} {ty : TypeId} {pos : String} {aft : Array Edge} {ti : TI} {c : T} {cs : List T} {off tt sz : Nat} {e e' : List T} (ho : ops[i]? = some ⟨none, .store t x y, ty, pos, aft, none⟩)
  (ht : E.tab t = some ti) (hx : Be s x = some (.v (.pointer (some ⟨b0, off, none⟩)))) (hk : ob[k]? = some (.arr b0 tt sz 1 [e]))
  (hy : Be s y = some c) (hc : Ev c = some cs) (hsz : ti.size = cs.length) (hj : off + cs.length ≤ e.length) (hes : Fz e off cs = e') (hF : (F.all fun p => Nat.blt p.1 off || Nat.ble (off + cs.length) p.1) = true)
  (kk : AQ E n C ops b0 F r so ⟨s, ob.set k (.arr b0 tt sz 1 [e'])⟩ R) : AQ E n C ops b0 F (.act i r) so ⟨s, ob⟩ R := by
 subst hes
 intro Hs fv H a w sr hv ag hH gm
 simp only [Dh, wpOp, ho]
 rw [if_pos (by simp [Region.wanted])]
 have hor : ArrR H w b0 tt sz 1 [e] := gm.objs _ (mg hk)
 have hor' := hor
 obtain ⟨G, a1, a2, a3, a4, a5, a6⟩ := hor'
 have M := Hu (gm.sr.eval hy) hc
 have hel : e.length = sz := a5 0 e (by simp)
 obtain ⟨w', h1, h2, h3, h4, h5⟩ := Py (E := E) (off := off) 0 off hor (by simp) (by simp) (news := (a.eval y).cells.toList) (by simpa using M.1) M.all1 (fun i x hx => by
  have := (M.2 i x hx).2
  simpa [Array.getD_eq_getD_getElem?, List.getD] using this) hj
 have X : (a.eval y).cells.toList.length = cs.length := by simpa using M.1
 have W := run_storeCells_at (P := E.P) b0 off tt (a.eval y).cells.toList 0 G w a1 (by rw [X]; omega) M.all1
 simp only [Nat.add_zero] at W
 rw [W] at h1
 have hw' : w' = w.setRow b0 (G.toList.take off ++ (a.eval y).cells.toList ++ G.toList.drop (off + (a.eval y).cells.toList.length)).toArray := by
  injection h1 with _ h; exact h.symm
 have hrun : (execOp a.eval ⟨none, .store t x y, ty, pos, aft, none⟩).run E.P w = .ok .skip w' := by
  have hev := gm.sr.evalv hx
  rw [hw']
  simp [execOp, Instr.storeAt, Instr.sureAddr, hev, storeVar, Ck (E.ok _ _ ht), hsz, show (a.eval y).cells.size = cs.length from M.1] at W ⊢
  simp [W]
 refine .inl ?_
 simp only [Oper.wp, hrun, Oper.upon]
 have gm' : Gam n C ⟨s, ob.set k (.arr b0 tt sz 1 [Fz e off cs])⟩ H (a.put none undef) w' :=
  gm.set hk h3 (by omega) (fun i _ hi => h5 i (by simpa [Ob.fp] using hi)) (o' := .arr b0 tt sz 1 [Fz e off cs]) h2 (fun b hb => .inr hb) (by simp [Ob.fp])
 have ag' : oQ Hs b0 F fv w' := by
  refine ⟨fun b o hb => gm'.held _ _ (hH _ _ hb), fun p hp => ?_⟩
  have hpF := List.all_eq_true.1 hF p hp
  simp only [Bool.or_eq_true] at hpF
  have O := ag.2 p hp
  have hlt : p.1 < G.size := by
   simp only [World.cell?, a1] at O
   exact (Array.getElem?_eq_some_iff.1 (by simpa using O)).1
  have Z : G.getD p.1 undef = fv p.1 := by
   have := M1 a1 hlt
   rw [O] at this; exact (Option.some.inj this).symm
  have Y := setRow_heap w b0 G (G.toList.take off ++ (a.eval y).cells.toList ++ G.toList.drop (off + (a.eval y).cells.toList.length)).toArray tt (0, 0) a1
  rw [← hw'] at Y
  have hns : (G.toList.take off ++ (a.eval y).cells.toList ++ G.toList.drop (off + (a.eval y).cells.toList.length)).toArray.size = G.size := by
   simp only [List.size_toArray, List.length_append, List.length_take, List.length_drop, Array.length_toList, X]; omega
  rw [M1 Y (by rw [hns]; exact hlt), Jt (by rw [X]; omega), if_neg ?_, Z]
  rintro ⟨q1, q2⟩
  rw [X] at q2
  rcases hpF with h | h
  ·have := Nat.le_of_ble_eq_true h; omega
  ·have := Nat.le_of_ble_eq_true h; omega
 exact ⟨ag', kk Hs fv H _ w' sr hv ag' hH gm'⟩
end
open Go.Sem
variable {E : Env} {n : Nat} {C : Ctx} {σ : St} {dst : Option Tmp} {ty : TypeId} {pos : String} {aft : Array Edge} {g : Option (Nat × Bool)}
theorem tM (ks m : Nat) {x hi : Operand} {t : TypeId} {ti ei : TI} {e tt sz : Nat} {v : Value} {es : List (List T)} {R : St → Prop}
  (hx : Be σ.slots x = some (.v v)) (O : σ.objs[ks]? = some (.us v tt sz es)) (hh : Be σ.slots hi = some (.v (.int .i64 (m : Int)))) (W : m ≤ es.length)
  (k : ∀ M, R ⟨Fa σ.slots dst (.v M), σ.objs.set ks (.us M tt sz (es.take m))⟩)
  (ht : E.tab t = some ti := by exact rfl) (hk : ti.kind = .slice e := by exact rfl) (he : E.tab e = some ei := by exact rfl) (hd : ∀ d, dst = some d → d < n := by exact Cn rfl) :
  AX E n C [ks] ⟨dst, .slice t x none (some hi) none, ty, pos, aft, g⟩ σ R := by
 refine AX.value fun H a w gm => ?_
 have hu := Er (E.ok _ _ ht) hk
 have r := gm.sr
 have X := mg O
 have hex : ∀ w, (execOp a.eval ⟨dst, .slice t x none (some hi) none, ty, pos, aft, g⟩).run E.P w = ((Instr.sliceAt t v none (some (a.eval hi)) none).run E.P w).andThen fun a w => .ok (.value a) w := by
  intro w
  simp only [execOp, r.evalv hx, Sem.run_bind, Option.map_none, Option.map_some]
  rfl
 have Z : ∀ (i : Nat) (e' : List T), (es.take m)[i]? = some e' → es[i]? = some e' := fun i e' G => by
  rw [List.getElem?_take_of_lt (by have := (gs G).1; simp at this; omega)] at G; exact G
 have Y : ∃ M, (Instr.sliceAt t v none (some (a.eval hi)) none).run E.P w = .ok M w ∧ UsR H w M tt sz (es.take m) ∧ ∀ b, b ∈ Ke M → b ∈ Ke v := by
  rcases gm.objs _ X with ⟨rfl, rfl⟩ | ⟨b, c, cap, rfl, p1, p2, cs, a1, a2, a3, a4, a5, a6⟩
  ·have : m = 0 := by simpa using W
   subst this
   have hb := Ee (P := E.P) (w := w) r (isS := true) (len := 0) (cap := 0) (l := 0) (h := 0) (m := 0) (lo := none) (hi := some hi) (mx := none) rfl ⟨_, _, hh, rfl⟩ rfl (fun h => by cases h) (Nat.le_refl _) (Nat.le_refl _) (Nat.le_refl _)
   simp only [Option.map_none, Option.map_some] at hb
   refine ⟨.slice none 0 0, ?_, .inl ⟨rfl, by simp⟩, fun b hb => hb⟩
   simp [Instr.sliceAt, Instr.slice, run_underlying hu, hb, Ck (E.ok _ _ he)]
  ·have hb := Ee (P := E.P) (w := w) r (isS := true) (len := es.length) (cap := c) (l := 0) (h := m) (m := c) (lo := none) (hi := some hi) (mx := none) rfl ⟨_, _, hh, rfl⟩ rfl (fun h => by cases h) (Nat.zero_le _) (by omega) (Nat.le_refl _)
   simp only [Option.map_none, Option.map_some] at hb
   refine ⟨.slice (some ⟨b, 0, none⟩) m c, ?_, .inr ⟨b, c, cap, by rw [List.length_take, Nat.min_eq_left W], by rw [List.length_take, Nat.min_eq_left W]; omega, p2, cs, a1, a2, by rw [List.length_take, Nat.min_eq_left W]; omega, by rw [List.length_take, Nat.min_eq_left W]; omega, fun i e' G => a5 i e' (Z i e' G), fun i e' G => a6 i e' (Z i e' G)⟩, fun b' hb' => by simpa [Ke] using hb'⟩
   simp only [Instr.sliceAt, Instr.slice, Sem.run_bind, run_underlying hu, Result.andThen_ok, hb, Ck (E.ok _ _ he), Sem.run_pure]
   by_cases hml : c = 0 <;> simp [hml, Dw]
 obtain ⟨M, h1, h2, h3⟩ := Y
 refine ⟨M, w, _, H, by rw [hex, h1]; rfl, k M, ?_, fun _ _ h => h, fun i p hp hmd => ?_⟩
 ·have := (gm.set (o' := .us M tt sz (es.take m)) O ⟨rfl, rfl, rfl⟩ (Nat.le_refl _) (fun _ _ _ => rfl) h2 (fun b hb => .inr (h3 b hb)) (Kt M)).put (dst := dst) (.v M) hd
  cases dst <;> exact this
 ·have hne : ks ≠ i := fun h => by subst h; simp at hmd
  exact ⟨Kq hp hne, fun b hb => rfl⟩
theorem dX {α : Type} {fr : α → List T} {la W : List α} {b : Int} (ks : Nat) {d : Nat} {x hi : Operand} {t : TypeId} {ti ei : TI} {e X sz : Nat} {v : Value} {R : St → Prop}
  (M : σ.objs[ks]? = some (.us v X sz (la.map fr))) (Z : aM la 0 b = some W) (k : ∀ G, R ⟨Fa σ.slots (some d) (.v G), σ.objs.set ks (.us G X sz (W.map fr))⟩)
  (hx : Be σ.slots x = some (.v v) := by exact rfl) (hh : Be σ.slots hi = some (.v (.int .i64 b)) := by exact rfl)
  (ht : E.tab t = some ti := by exact rfl) (hk : ti.kind = .slice e := by exact rfl) (he : E.tab e = some ei := by exact rfl) (hd : Nat.blt d n = true := by exact rfl) :
  AX E n C [ks] ⟨some d, .slice t x none (some hi) none, ty, pos, aft, g⟩ σ R := by
 obtain ⟨p, q, h1, rfl, h2, Y, O⟩ := Yx Z
 have : p = 0 := by omega
 subst this
 rw [List.drop_zero, Nat.sub_zero] at O
 subst O
 refine tM ks q hx M hh (by rw [List.length_map]; exact Y) (fun G => ?_) ht hk he (Cn hd)
 rw [← List.map_take]
 exact k G
def Tl (v G : Value) (len i sz : Nat) : Prop :=
 (v = .slice none 0 0 ∧ G = .slice none 0 0) ∨ ∃ b c a, v = .slice (some ⟨b, 0, none⟩) len c ∧ G = .slice a (len - i) (c - i) ∧ (i < len → a = some ⟨b, i * sz, none⟩)
theorem AX.tail (ks i : Nat) {d : Nat} {x lo : Operand} {t : TypeId} {ti ei : TI} {e tt sz : Nat} {v : Value} {es : List (List T)} {R : St → Prop}
  (hi : i ≤ es.length) (k : ∀ G, Tl v G es.length i sz → R ⟨Fa σ.slots (some d) (.v G), σ.objs⟩) (Y : σ.objs[ks]? = some (.us v tt sz es) := by exact rfl)
  (hx : Be σ.slots x = some (.v v) := by exact rfl) (hl : Be σ.slots lo = some (.v (.int .i64 (i : Int))) := by exact rfl)
  (ht : E.tab t = some ti := by exact rfl) (hk : ti.kind = .slice e := by exact rfl) (he : E.tab e = some ei := by exact rfl) (hsz : ei.size = sz := by exact rfl) (hd : Nat.blt d n = true := by exact rfl) :
  AX E n C [] ⟨some d, .slice t x (some lo) none none, ty, pos, aft, g⟩ σ R := by
 refine AX.value fun H a w W => ?_
 have hu := Er (E.ok _ _ ht) hk
 have r := W.sr
 have M := mg Y
 have X : ∀ w, (execOp a.eval ⟨some d, .slice t x (some lo) none none, ty, pos, aft, g⟩).run E.P w = ((Instr.sliceAt t v (some (a.eval lo)) none none).run E.P w).andThen fun a w => .ok (.value a) w := by
  intro w
  simp only [execOp, r.evalv hx, Sem.run_bind, Option.map_none, Option.map_some]
  rfl
 have O : ∃ G, (Instr.sliceAt t v (some (a.eval lo)) none none).run E.P w = .ok G w ∧ Tl v G es.length i sz := by
  rcases W.objs _ M with ⟨rfl, rfl⟩ | ⟨b, c, cap, rfl, p1, p2, -⟩
  ·have : i = 0 := by simpa using hi
   subst this
   have hb := Ee (P := E.P) (w := w) r (isS := true) (len := 0) (cap := 0) (l := 0) (h := 0) (m := 0) (lo := some lo) (hi := none) (mx := none) ⟨_, _, hl, rfl⟩ rfl rfl (fun _ => rfl) (Nat.le_refl _) (Nat.le_refl _) (Nat.le_refl _)
   simp only [Option.map_none, Option.map_some] at hb
   refine ⟨.slice none 0 0, ?_, .inl ⟨rfl, rfl⟩⟩
   simp [Instr.sliceAt, Instr.slice, run_underlying hu, hb, Ck (E.ok _ _ he)]
  ·have hb := Ee (P := E.P) (w := w) r (isS := true) (len := es.length) (cap := c) (l := i) (h := es.length) (m := c) (lo := some lo) (hi := none) (mx := none) ⟨_, _, hl, rfl⟩ rfl rfl (fun _ => rfl) hi (by omega) (Nat.le_refl _)
   simp only [Option.map_none, Option.map_some] at hb
   refine ⟨.slice (if c = i then some ⟨b, 0, none⟩ else some ⟨b, i * sz, none⟩) (es.length - i) (c - i), ?_, .inr ⟨b, c, _, rfl, rfl, fun h => if_neg (by omega)⟩⟩
   simp only [Instr.sliceAt, Instr.slice, Sem.run_bind, run_underlying hu, Result.andThen_ok, hb, Ck (E.ok _ _ he), Sem.run_pure]
   by_cases Z : c = i <;> simp [Z, Dw, hsz]
 obtain ⟨G, h1, h2⟩ := O
 exact ⟨G, w, _, H, by rw [X, h1]; rfl, k G h2, W.put (dst := some d) (.v G) (Cn hd), fun _ _ h => h, fun i p hp _ => ⟨hp, fun b hb => rfl⟩⟩
end Go.Aw
