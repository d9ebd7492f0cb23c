/- A program logic over the model. No condition. -/
import Derived.Test.YtaoclefkknloiaaGreatZvB2
import Derived.KernelRfl
set_option maxRecDepth 100000
namespace Go.Aw
set_option linter.unusedVariables false
set_option linter.defProp false
set_option linter.unusedSimpArgs false
def X7 (s : Au) (x y : Operand) : Option (IntKind × Int × IntKind × Int) :=
 match A7 s x with
 | some (.v (.int k a)) => match A7 s y with
  | some (.v (.int k' b)) => some (k, a, k', b)
  | _ => none
 | _ => none
def rN (s : Au) (G : BinOp) (x y : Operand) : Option T :=
 match X7 s x y with
 | some (.i64, a, .i64, b) => match G with
  | .lss => some (.v (.bool (decide (a < b))))
  | .leq => some (.v (.bool (decide (a ≤ b))))
  | .gtr => some (.v (.bool (decide (a > b))))
  | .geq => some (.v (.bool (decide (a ≥ b))))
  | .eql => some (.v (.bool (a == b)))
  | .neq => some (.v (.bool (a != b)))
  | .add => some (.v (.int .i64 (wr (a + b))))
  | .sub => some (.v (.int .i64 (wr (a - b))))
  | .mul => some (.v (.int .i64 (wr (a * b))))
  | _ => none
 | _ => none
def aH (E : Env) (s : Au) (t : TypeId) (x : Operand) (f : Nat) : Option T :=
 match E.tab t with
 | some ti => match ti.kind with
  | .struct fs => match fs[f]? with
   | some (off, ft) => match E.tab ft with
    | some fi => bif Nat.beq fi.size 0 then none else
     match A7 s x with
     | some (.v (.pointer (some ⟨b, o, none⟩))) => some (.v (.pointer (some ⟨b, o + off, none⟩)))
     | some (.eptr cs) => bif Nat.ble off cs.length then some (.eptr (cs.drop off)) else none
     | _ => none
    | none => none
   | none => none
  | _ => none
 | none => none
def kC (E : Env) (s : Au) (c : Call) : Option T :=
 match c with
 | ⟨.builtin .min, ⟨[x, y]⟩, _⟩ => match X7 s x y with
  | some (.i64, a, .i64, b) => some (.v (.int .i64 (min a b)))
  | _ => none
 | ⟨.builtin .max, ⟨[x, y]⟩, _⟩ => match X7 s x y with
  | some (.i64, a, .i64, b) => some (.v (.int .i64 (max a b)))
  | _ => none
 | ⟨.builtin .len, ⟨[x]⟩, ⟨[t]⟩⟩ => match E.tab t with
  | some ti => match ti.kind with
   | .string => match A7 s x with
    | some (.v (.string b)) => some (.v (.int .i64 b.size))
    | _ => none
   | _ => none
  | none => none
 | _ => none
def X5 (E : Env) (s : Au) : Op → Option T
 | .move x => A7 s x
 | .assign x => A7 s x
 | .pick c a b => match A7 s c with
  | some (.v (.bool true)) => A7 s a
  | some (.v (.bool false)) => A7 s b
  | _ => none
 | .nilCheck x => match A7 s x with
  | some (.v (.pointer (some b))) => some (.v (.pointer (some b)))
  | some (.eptr cs) => some (.eptr cs)
  | _ => none
 | .extract x i => match A7 s x with
  | some (.tup l) => l[i]?
  | _ => none
 | .unOp .not _ x => match A7 s x with
  | some (.v (.bool b)) => some (.v (.bool (!b)))
  | _ => none
 | .unOp .neg _ x => match A7 s x with
  | some (.v (.int .i64 a)) => some (.v (.int .i64 (wr (0 - a))))
  | _ => none
 | .binOp op _ x y _ => rN s op x y
 | .fieldAddr t x f => aH E s t x f
 | .call c => kC E s c
 | _ => none
section
variable {E : Env} {n : Nat} {C : Ctx} {s : Au} {ob : List Ob} {ops : Array Oper} {R : St → Prop} {dst : Option Tmp} {ty : TypeId} {pos : String} {aft : Array Edge} {g : Option (Nat × Bool)}
theorem Sw {x y : Operand} {k G : IntKind} {a b : Int} (h : X7 s x y = some (k, a, G, b)) : A7 s x = some (.v (.int k a)) ∧ A7 s y = some (.v (.int G b)) := by
 unfold X7 at h
 split at h
 ·rename_i M
  split at h
  ·rename_i O
   cases h
   exact ⟨M, O⟩
  ·cases h
 ·cases h
theorem pX {O : BinOp} {t Z : TypeId} {x y : Operand} {z : T} (h : rN s O x y = some z) : Yp E.P n s ⟨dst, .binOp O t x y Z, ty, pos, aft, g⟩ z := by
 unfold rN at h
 split at h <;> first | cases h | skip
 rename_i W
 obtain ⟨G, M⟩ := Sw W
 split at h <;> first | cases h | skip
 ·exact uT G M rfl
 ·exact uT G M rfl
 ·exact uT G M rfl
 ·exact uT G M rfl
 ·exact uT G M rfl
 ·exact uT G M rfl
 ·exact Ga G M rfl
 ·exact Ga G M rfl
 ·exact Ga G M rfl
theorem eS {t : TypeId} {x : Operand} {f : Nat} {z : T} (h : aH E s t x f = some z) : Yp E.P n s ⟨dst, .fieldAddr t x f, ty, pos, aft, g⟩ z := by
 unfold aH at h
 split at h <;> first | cases h | skip
 rename_i ti ht
 split at h <;> first | cases h | skip
 rename_i fs Z
 split at h <;> first | cases h | skip
 rename_i O ft W
 split at h <;> first | cases h | skip
 rename_i fi G
 cases hz : Nat.beq fi.size 0 with
 | true => rw [hz] at h; cases h
 | false =>
  rw [hz, cond_false] at h
  split at h <;> first | cases h | skip
  ·rename_i M
   exact D7 ht Z W G hz M
  ·rename_i cs M
   cases hle : Nat.ble O cs.length with
   | true => rw [hle, cond_true] at h; cases h; exact eZ ht Z W G hz M hle
   | false => rw [hle] at h; cases h
theorem mR {c : Call} {z : T} (h : kC E s c = some z) : Yp E.P n s ⟨dst, .call c, ty, pos, aft, g⟩ z := by
 unfold kC at h
 split at h <;> first | cases h | skip
 ·split at h <;> first | cases h | skip
  rename_i M
  obtain ⟨G, O⟩ := Sw M
  exact pZ G O
 ·split at h <;> first | cases h | skip
  rename_i M
  obtain ⟨G, O⟩ := Sw M
  exact qA G O
 ·split at h <;> first | cases h | skip
  rename_i ti Z
  split at h <;> first | cases h | skip
  rename_i W
  split at h <;> first | cases h | skip
  rename_i G
  exact Xy Z W G
theorem Sk {O : Op} {z : T} (h : X5 E s O = some z) : Yp E.P n s ⟨dst, O, ty, pos, aft, g⟩ z := by
 unfold X5 at h
 split at h <;> first | cases h | skip
 ·exact Yp.move h
 ·exact Yp.assign h
 ·split at h <;> first | cases h | skip
  ·rename_i M; exact mV M h
  ·rename_i M; exact mW M h
 ·split at h <;> first | cases h | skip
  ·rename_i G; exact Ee G
  ·rename_i G; exact Xx G
 ·split at h <;> first | cases h | skip
  rename_i G; exact Yp.extract G h
 ·split at h <;> first | cases h | skip
  rename_i G; exact Yp.not G
 ·split at h <;> first | cases h | skip
  rename_i G; exact Yp.neg G rfl
 ·exact pX h
 ·exact eS h
 ·exact mR h
end
def cC (G : TI) (cs : List T) (off : Nat) : Option T :=
 bif G.isAgg then (bif Nat.beq off 0 && Nat.beq G.size cs.length then some (.agg cs) else none) else cs[off]?
theorem Yr {G : TI} {cs : List T} {off : Nat} {y : T} (h : cC G cs off = some y) : Er G cs off = some y := by
 unfold cC at h
 unfold Er
 cases ha : G.isAgg with
 | false => rw [ha, cond_false] at h; rw [cond_false]; exact h
 | true =>
  rw [ha, cond_true] at h
  rw [cond_true]
  cases hb : (Nat.beq off 0 && Nat.beq G.size cs.length) with
  | true => rw [hb, cond_true] at h; rw [cond_true]; exact h
  | false => rw [hb] at h; cases h
def X6 (E : Env) (s : Au) : Op → Option T
 | .load t x => match A7 s x with
  | some (.eptr cs) => match E.tab t with
   | some fi => cC fi cs 0
   | none => none
  | _ => none
 | op => X5 E s op
inductive Hn where
 | o (i k : Nat)
 | f (i : Nat) (x : T)
 | l (i : Nat) (c : Int)
 | x (i : Nat) (m : Nat) (e : List T)
 | k (i : Nat) (c : Int)
def Hn.at : Hn → Nat
 | .o i _ => i
 | .f i _ => i
 | .l i _ => i
 | .x i _ _ => i
 | .k i _ => i
def qO (E : Env) (s : Au) (ob : List Ob) (k : Nat) : Op → Option (T × Prop)
 | .load t x => match A7 s x with
  | some (.v (.pointer (some ⟨b, off, none⟩))) => match ob[k]? with
   | some (.arr b' _ _ _ [e]) => match E.tab t with
    | some fi => match cC fi e off with
     | some y => some (y, b = b')
     | none => none
    | none => none
   | _ => none
  | _ => none
 | _ => none
def sX (E : Env) (s : Au) (c : Int) : Op → Option (T × Prop)
 | .call ⟨.builtin .len, ⟨[x]⟩, ⟨[t]⟩⟩ => match E.tab t with
  | some ti => match ti.kind with
   | .slice _ => match A7 s x with
    | some (.list _ es) => some (.v (.int .i64 c), (es.length : Int) = c)
    | _ => none
   | _ => none
  | none => none
 | _ => none
def sY (E : Env) (s : Au) (m : Nat) (e : List T) : Op → Option (T × Prop)
 | .indexAddr t x y => match E.tab t with
  | some ti => match ti.kind with
   | .slice el => match E.tab el with
    | some fi => match A7 s x with
     | some (.list sz es) => bif Nat.beq fi.size sz then
      (match A7 s y with
      | some (.v (.int _ i)) => some (.eptr e, i = (m : Int) ∧ es[m]? = some e)
      | _ => none) else none
     | _ => none
    | none => none
   | _ => none
  | none => none
 | _ => none
def cB (E : Env) (n : Nat) (s : Au) (ob : List Ob) (d : Nat) (o : Oper) : Hn → Option (T × Prop)
 | .o _ k => qO E s ob k o.op
 | .f _ x => some (x, Yd E.P n s ob ⟨some d, o.op, o.type, o.pos, o.after, none⟩ x)
 | .l _ c => sX E s c o.op
 | .x _ m e => sY E s m e o.op
 | .k _ c => match X5 E s o.op with
  | some (.v (.int kk e)) => some (.v (.int kk c), e = c)
  | _ => none
section
variable {E : Env} {n : Nat} {C : Ctx} {s : Au} {ob : List Ob} {ops : Array Oper} {R : St → Prop} {dst : Option Tmp} {ty : TypeId} {pos : String} {aft : Array Edge} {g : Option (Nat × Bool)}
theorem Sl {G : Op} {z : T} (h : X6 E s G = some z) : Yd E.P n s ob ⟨dst, G, ty, pos, aft, g⟩ z := by
 unfold X6 at h
 split at h
 ·split at h <;> first | cases h | skip
  rename_i O
  split at h <;> first | cases h | skip
  rename_i M
  exact mZ M O (Yr h)
 ·exact (Sk h).yd
theorem Yi {d : Nat} {o : Oper} {hn : Hn} {z : T} {p : Prop} (h : cB E n s ob d o hn = some (z, p)) (M : p) : Yd E.P n s ob ⟨some d, o.op, o.type, o.pos, o.after, none⟩ z := by
 unfold cB at h
 split at h
 ·unfold qO at h
  split at h <;> first | cases h | skip
  rename_i W
  split at h <;> first | cases h | skip
  rename_i G
  split at h <;> first | cases h | skip
  rename_i O
  split at h <;> first | cases h | skip
  rename_i Z
  split at h <;> first | cases h | skip
  rename_i hy
  subst M
  rw [W]
  exact Cq _ 0 _ Z G O rfl (by omega) (Yr hy)
 ·cases h; exact M
 ·unfold sX at h
  split at h <;> first | cases h | skip
  rename_i W
  split at h <;> first | cases h | skip
  rename_i Z
  split at h <;> first | cases h | skip
  rename_i O
  split at h <;> first | cases h | skip
  rename_i G
  subst M
  rw [W]
  exact (Tm Z O G).yd
 ·unfold sY at h
  split at h <;> first | cases h | skip
  rename_i W
  split at h <;> first | cases h | skip
  rename_i Z
  split at h <;> first | cases h | skip
  rename_i O
  split at h <;> first | cases h | skip
  split at h <;> first | cases h | skip
  rename_i fi aa _ sz es G
  cases hb : Nat.beq fi.size sz with
  | false => rw [hb] at h; cases h
  | true =>
   rw [hb, cond_true] at h
   split at h <;> first | cases h | skip
   rename_i hy
   rw [W]
   exact (Ie Z O aa (nq hb) G hy M.1 M.2).yd
 ·split at h <;> first | cases h | skip
  rename_i G
  subst M
  exact (Sk G).yd
end
def G0 (ops : Array Oper) (s : Au) : Option (Nat × Bool) → Option Bool
 | none => some true
 | some (j, want) => match ops[j]? with
  | some o => match o.dst with
   | some t => match get s t with
    | some (.v (.bool true)) => some want
    | some (.v (.bool false)) => some (!want)
    | _ => none
   | none => none
  | none => none
def Pv (E : Env) (n : Nat) (ops : Array Oper) (ob : List Ob) : Nat → Nat → List Oper → Au → List Hn → Prop → Option (Prop × List Oper × Au)
 | 0, _, l, s, _, p => some (p, l, s)
 | _ + 1, _, [], _, _, _ => none
 | m + 1, i, o :: l, s, hs, p => match o.dst with
  | none => none
  | some d => bif Nat.blt d n then
   (match G0 ops s o.guard with
   | none => none
   | some false => Pv E n ops ob m (i + 1) l ((d, .v undef) :: s) hs p
   | some true => match hs with
    | [] => match X6 E s o.op with
     | some x => Pv E n ops ob m (i + 1) l ((d, x) :: s) [] p
     | none => none
    | h :: hs => bif Nat.beq h.at i then
      (match cB E n s ob d o h with
      | some (x, q) => Pv E n ops ob m (i + 1) l ((d, x) :: s) hs (q ∧ p)
      | none => none)
     else
      (match X6 E s o.op with
      | some x => Pv E n ops ob m (i + 1) l ((d, x) :: s) (h :: hs) p
      | none => none)) else none
section
variable {E : Env} {n : Nat} {C : Ctx} {s : Au} {ob : List Ob} {ops : Array Oper} {R : St → Prop}
theorem Ib {j : Nat} {G v : Bool} (h : G0 ops s (some (j, G)) = some v) : ∃ t b, (ops[j]?).bind (·.dst) = some t ∧ get s t = some (.v (.bool b)) ∧ (v = true → b = G) ∧ (v = false → b = !G) := by
 simp only [G0] at h
 split at h
 ·rename_i o Z
  split at h
  ·rename_i t W
   have O : (ops[j]?).bind (·.dst) = some t := by rw [Z]; exact W
   split at h
   ·rename_i M
    cases h
    exact ⟨t, true, O, M, by cases G <;> simp, by cases G <;> simp⟩
   ·rename_i M
    cases h
    exact ⟨t, false, O, M, by cases G <;> simp, by cases G <;> simp⟩
   ·cases h
  ·cases h
 ·cases h
theorem aV {d : Nat} {o : Oper} {l : List Oper} {x : T} (hg : G0 ops s o.guard = some true) (G : o.dst = some d) (W : Yd E.P n s ob ⟨some d, o.op, o.type, o.pos, o.after, none⟩ x) (O : Nat.blt d n = true)
  (k : AO E n C ops l ⟨(d, x) :: s, ob⟩ R) : AO E n C ops (o :: l) ⟨s, ob⟩ R := by
 obtain ⟨dst, op, ty, pos, aft, g⟩ := o
 cases G
 cases g with
 | none => exact uI W O k
 | some g =>
  obtain ⟨j, M⟩ := g
  obtain ⟨t, b, Z, h2, h3, _⟩ := Ib hg
  have := h3 rfl
  exact AO.guard Z h2 (By O) (fun _ => uI W O k) (fun h => by rw [this] at h; cases M <;> cases h)
theorem sS {d : Nat} {o : Oper} {l : List Oper} (hg : G0 ops s o.guard = some false) (G : o.dst = some d) (hd : Nat.blt d n = true)
  (k : AO E n C ops l ⟨(d, .v undef) :: s, ob⟩ R) : AO E n C ops (o :: l) ⟨s, ob⟩ R := by
 obtain ⟨dst, op, ty, pos, aft, g⟩ := o
 cases G
 cases g with
 | none => cases hg
 | some g =>
  obtain ⟨j, M⟩ := g
  obtain ⟨t, b, O, W, _, Z⟩ := Ib hg
  have := Z rfl
  exact AO.guard O W (By hd) (fun h => by rw [this] at h; cases M <;> cases h) (fun _ => k)
theorem F8 : ∀ (m i : Nat) (l : List Oper) (s : Au) (W : List Hn) (p : Prop) {P : Prop} {l' : List Oper} {s' : Au}, Pv E n ops ob m i l s W p = some (P, l', s') → P →
  p ∧ (AO E n C ops l' ⟨s', ob⟩ R → AO E n C ops l ⟨s, ob⟩ R)
 | 0, i, l, s, W, p, P, l', s', h, hP => by cases h; exact ⟨hP, id⟩
 | m + 1, i, [], s, W, p, P, l', s', h, hP => by cases h
 | m + 1, i, o :: l, s, W, p, P, l', s', h, hP => by
  simp only [Pv] at h
  split at h
  ·cases h
  ·rename_i d G
   cases hd : Nat.blt d n with
   | false => rw [hd] at h; cases h
   | true =>
    rw [hd, cond_true] at h
    split at h
    ·cases h
    ·rename_i Z
     obtain ⟨M, O⟩ := F8 m (i + 1) l _ W p h hP
     exact ⟨M, fun k => sS Z G hd (O k)⟩
    ·rename_i Z
     split at h
     ·split at h
      ·rename_i x hx
       obtain ⟨M, O⟩ := F8 m (i + 1) l _ _ p h hP
       exact ⟨M, fun k => aV Z G (Sl hx) hd (O k)⟩
      ·cases h
     ·rename_i hn W
      cases hb : Nat.beq hn.at i with
      | true =>
       rw [hb, cond_true] at h
       split at h
       ·rename_i x q hx
        obtain ⟨M, O⟩ := F8 m (i + 1) l _ _ _ h hP
        exact ⟨M.2, fun k => aV Z G (Yi hx M.1) hd (O k)⟩
       ·cases h
      | false =>
       rw [hb, cond_false] at h
       split at h
       ·rename_i x hx
        obtain ⟨M, O⟩ := F8 m (i + 1) l _ _ p h hP
        exact ⟨M, fun k => aV Z G (Sl hx) hd (O k)⟩
       ·cases h
theorem bz : (∀ b, (true && b) = b) ∧ (∀ b, (false && b) = false) ∧ (∀ b, (true || b) = true) ∧ (∀ b, (false || b) = b) ∧ (!true) = false ∧ (!false) = true ∧ (∀ a b : Bool, cond true a b = a) ∧ (∀ a b : Bool, cond false a b = b) := by simp
theorem A4 {α : Type} {f : α → List T} {l : List α} : ((l.map f).length : Int) = (l.length : Int) := by rw [List.length_map]
theorem Af (m : Nat) {l G : List Oper} {s' : Au} (h : Pv E n ops ob m 0 l s [] True = some (True, G, s')) (k : AO E n C ops G ⟨s', ob⟩ R) : AO E n C ops l ⟨s, ob⟩ R :=
 (F8 m 0 l s [] True h trivial).2 k
theorem Ai {id : Nat} {y : Code} {Q : Exit → St → Prop} {s' : Au} (h : Pv E n ops ob ops.size 0 ops.toList s [] True = some (True, [], s')) (k : AW E n C y ⟨s', ob⟩ Q) : AW E n C (.seq (.region id ops false) y) ⟨s, ob⟩ Q :=
 uD (tX ((F8 _ 0 _ s [] True h trivial).2 (tY k)))
theorem Bg {id : Nat} {y : Code} {Q : Exit → St → Prop} {s' : Au} {P : Prop} (G : List Hn) (h : Pv E n ops ob ops.size 0 ops.toList s G True = some (P, [], s')) (M : P) (k : AW E n C y ⟨s', ob⟩ Q) :
  AW E n C (.seq (.region id ops false) y) ⟨s, ob⟩ Q :=
 uD (tX ((F8 _ 0 _ s G True h M).2 (tY k)))
theorem Lj {id : Nat} {Q : Exit → St → Prop} {s' : Au} (h : Pv E n ops ob ops.size 0 ops.toList s [] True = some (True, [], s')) (k : Q .normal ⟨s', ob⟩) : AW E n C (.region id ops false) ⟨s, ob⟩ Q :=
 tX ((F8 _ 0 _ s [] True h trivial).2 (tY k))
theorem Gd {id : Nat} {Q : Exit → St → Prop} {s' : Au} {P : Prop} (G : List Hn) (h : Pv E n ops ob ops.size 0 ops.toList s G True = some (P, [], s')) (M : P) (k : Q .normal ⟨s', ob⟩) :
  AW E n C (.region id ops false) ⟨s, ob⟩ Q :=
 tX ((F8 _ 0 _ s G True h M).2 (tY k))
theorem Am (m : Nat) (G : List Hn) {l M : List Oper} {s' : Au} {P : Prop} (h : Pv E n ops ob m 0 l s G True = some (P, M, s')) (O : P) (k : AO E n C ops M ⟨s', ob⟩ R) : AO E n C ops l ⟨s, ob⟩ R :=
 (F8 m 0 l s G True h O).2 k
def cA (E : Env) (so s : Au) (d : Nat) (G : Op) : Option (T × Bool) :=
 match (match G with
  | .pick .. => none
  | G => X6 E so G) with
 | some x => some (x, true)
 | none => match X5 E s G with
  | some x => bif free so (some d) then some (x, false) else none
  | none => none
def rH (b : Bool) (so : Au) (d : Nat) (x : T) : Au := bif b then (d, x) :: so else so
def pd : Nat → Nat → List Nat → PL
 | 0, _, _ => .nil
 | m + 1, i, a => bif a.contains i then .act i (pd m (i + 1) a) else .still i (pd m (i + 1) a)
def Hk (E : Env) (n : Nat) (ops : Array Oper) (pobjs : List Ob) : Nat → Nat → PL → Au → Au → List Hn → Prop → Option (Prop × PL × Au × Au)
 | 0, _, l, so, s, _, p => some (p, l, so, s)
 | m + 1, i, .still j l, so, s, hs, p => match ops[j]? with
  | none => none
  | some o => match o.dst with
   | none => none
   | some d => bif Nat.blt d n then
    (match G0 ops s o.guard with
    | none => none
    | some false => bif free so (some d) then Hk E n ops pobjs m (i + 1) l so ((d, .v undef) :: s) hs p else none
    | some true => match hs with
     | [] => match cA E so s d o.op with
      | some (x, b) => Hk E n ops pobjs m (i + 1) l (rH b so d x) ((d, x) :: s) [] p
      | none => none
     | h :: hs => bif Nat.beq h.at i then
       (match cB E n so pobjs d o h with
       | some (x, q) => Hk E n ops pobjs m (i + 1) l ((d, x) :: so) ((d, x) :: s) hs (q ∧ p)
       | none => none)
      else
       (match cA E so s d o.op with
       | some (x, b) => Hk E n ops pobjs m (i + 1) l (rH b so d x) ((d, x) :: s) (h :: hs) p
       | none => none)) else none
 | m + 1, i, .act j l, so, s, hs, p => match ops[j]? with
  | none => none
  | some o => match o.dst with
   | none => none
   | some d => bif Nat.blt d n && free so (some d) then
    (match G0 ops s o.guard with
    | some false => Hk E n ops pobjs m (i + 1) l so ((d, .v undef) :: s) hs p
    | _ => none) else none
 | _ + 1, _, _, _, _, _, _ => none
section
variable {prot : List Nat} {pobjs : List Ob} {so : Au}
theorem Zk {j d : Nat} {o : Oper} {l : PL} {x : T} (O : ops[j]? = some o) (hg : G0 ops s o.guard = some true) (G : o.dst = some d)
  (W : Yd E.P n so pobjs ⟨some d, o.op, o.type, o.pos, o.after, none⟩ x) (M : Nat.blt d n = true)
  (k : AP E n C ops prot pobjs l ((d, x) :: so) ⟨(d, x) :: s, ob⟩ R) : AP E n C ops prot pobjs (.still j l) so ⟨s, ob⟩ R := by
 obtain ⟨dst, op, ty, pos, aft, g⟩ := o
 cases G
 cases g with
 | none => exact aU O W rfl (By M) k
 | some g =>
  obtain ⟨i, Z⟩ := g
  obtain ⟨t, b, h1, h2, h3, _⟩ := Ib hg
  exact Dd O h1 h2 (h3 rfl) W (By M) k
theorem oK {j d : Nat} {o : Oper} {l : PL} {x : T} (O : ops[j]? = some o) (hg : G0 ops s o.guard = some true) (G : o.dst = some d)
  (W : Yp E.P n s ⟨some d, o.op, o.type, o.pos, o.after, none⟩ x) (M : Nat.blt d n = true) (hf : free so (some d) = true)
  (k : AP E n C ops prot pobjs l so ⟨(d, x) :: s, ob⟩ R) : AP E n C ops prot pobjs (.still j l) so ⟨s, ob⟩ R := by
 obtain ⟨dst, op, ty, pos, aft, g⟩ := o
 cases G
 cases g with
 | none => exact AP.new O W rfl (By M) k hf
 | some g =>
  obtain ⟨i, Z⟩ := g
  obtain ⟨t, b, h1, h2, h3, _⟩ := Ib hg
  exact qJ O h1 h2 (h3 rfl) W (By M) k hf
theorem V2 {j d : Nat} {o : Oper} {l : PL} (ho : ops[j]? = some o) (hg : G0 ops s o.guard = some false) (G : o.dst = some d) (Z : Nat.blt d n = true) (hf : free so (some d) = true)
  (k : AP E n C ops prot pobjs l so ⟨(d, .v undef) :: s, ob⟩ R) : AP E n C ops prot pobjs (.still j l) so ⟨s, ob⟩ R ∧ AP E n C ops prot pobjs (.act j l) so ⟨s, ob⟩ R := by
 obtain ⟨dst, op, ty, pos, aft, g⟩ := o
 cases G
 cases g with
 | none => cases hg
 | some g =>
  obtain ⟨i, want⟩ := g
  obtain ⟨t, b, M, O, _, W⟩ := Ib hg
  exact ⟨AP.skip ho rfl M O (W rfl) (By Z) k hf, oJ ho rfl M O (W rfl) (By Z) k hf⟩
theorem V1 {j d : Nat} {o : Oper} {l : PL} {x : T} {b : Bool} (W : ops[j]? = some o) (hg : G0 ops s o.guard = some true) (M : o.dst = some d) (O : Nat.blt d n = true)
  (G : cA E so s d o.op = some (x, b)) (k : AP E n C ops prot pobjs l (rH b so d x) ⟨(d, x) :: s, ob⟩ R) : AP E n C ops prot pobjs (.still j l) so ⟨s, ob⟩ R := by
 unfold cA at G
 split at G
 ·rename_i h
  cases G
  split at h
  ·cases h
  ·exact Zk W hg M (Sl h) O k
 ·split at G
  ·rename_i h
   cases hf : free so (some d) with
   | false => rw [hf] at G; cases G
   | true =>
    rw [hf, cond_true] at G
    cases G
    exact oK W hg M (Sk h) O hf k
  ·cases G
theorem Gs : ∀ (m i : Nat) (l : PL) (so s : Au) (O : List Hn) (p : Prop) {P : Prop} {W : PL} {G s' : Au}, Hk E n ops pobjs m i l so s O p = some (P, W, G, s') → P →
  p ∧ (AP E n C ops prot pobjs W G ⟨s', ob⟩ R → AP E n C ops prot pobjs l so ⟨s, ob⟩ R)
 | 0, i, l, so, s, O, p, P, W, G, s', h, hP => by
  cases l <;> (simp only [Hk] at h; cases h; exact ⟨hP, id⟩)
 | m + 1, i, .still j l, so, s, O, p, P, W, G, s', h, hP => by
  simp only [Hk] at h
  split at h
  ·cases h
  ·rename_i o ho
   split at h
   ·cases h
   ·rename_i d M
    cases hd : Nat.blt d n with
    | false => rw [hd] at h; cases h
    | true =>
     rw [hd, cond_true] at h
     split at h
     ·cases h
     ·rename_i hg
      cases hf : free so (some d) with
      | false => rw [hf] at h; cases h
      | true =>
       rw [hf, cond_true] at h
       obtain ⟨Z, h2⟩ := Gs m (i + 1) l so _ O p h hP
       exact ⟨Z, fun k => (V2 ho hg M hd hf (h2 k)).1⟩
     ·rename_i hg
      split at h
      ·split at h
       ·rename_i x b hx
        obtain ⟨Z, h2⟩ := Gs m (i + 1) l _ _ _ p h hP
        exact ⟨Z, fun k => V1 ho hg M hd hx (h2 k)⟩
       ·cases h
      ·rename_i hn O
       cases hb : Nat.beq hn.at i with
       | true =>
        rw [hb, cond_true] at h
        split at h
        ·rename_i x q hx
         obtain ⟨Z, h2⟩ := Gs m (i + 1) l _ _ _ _ h hP
         exact ⟨Z.2, fun k => Zk ho hg M (Yi hx Z.1) hd (h2 k)⟩
        ·cases h
       | false =>
        rw [hb, cond_false] at h
        split at h
        ·rename_i x b hx
         obtain ⟨Z, h2⟩ := Gs m (i + 1) l _ _ _ p h hP
         exact ⟨Z, fun k => V1 ho hg M hd hx (h2 k)⟩
        ·cases h
 | m + 1, i, .act j l, so, s, O, p, P, W, G, s', h, hP => by
  simp only [Hk] at h
  split at h
  ·cases h
  ·rename_i o ho
   split at h
   ·cases h
   ·rename_i d M
    cases hd : Nat.blt d n with
    | false => rw [hd] at h; cases h
    | true =>
     cases hf : free so (some d) with
     | false => rw [hd, hf] at h; cases h
     | true =>
      rw [hd, hf] at h
      simp only [Bool.and_true, cond_true] at h
      split at h
      ·rename_i hg
       obtain ⟨Z, h2⟩ := Gs m (i + 1) l so _ O p h hP
       exact ⟨Z, fun k => (V2 ho hg M hd hf (h2 k)).2⟩
      ·cases h
 | m + 1, i, .nil, so, s, O, p, P, W, G, s', h, hP => by simp [Hk] at h
 | m + 1, i, .two .., so, s, O, p, P, W, G, s', h, hP => by simp [Hk] at h
 | m + 1, i, .three .., so, s, O, p, P, W, G, s', h, hP => by simp [Hk] at h
 | m + 1, i, .four .., so, s, O, p, P, W, G, s', h, hP => by simp [Hk] at h
 | m + 1, i, .five .., so, s, O, p, P, W, G, s', h, hP => by simp [Hk] at h
 | m + 1, i, .par .., so, s, O, p, P, W, G, s', h, hP => by simp [Hk] at h
 | m + 1, i, .parS .., so, s, O, p, P, W, G, s', h, hP => by simp [Hk] at h
 | m + 1, i, .drop .., so, s, O, p, P, W, G, s', h, hP => by simp [Hk] at h
theorem A3 (m : Nat) {l M : PL} {G s' : Au} (h : Hk E n ops pobjs m 0 l so s [] True = some (True, M, G, s')) (k : AP E n C ops prot pobjs M G ⟨s', ob⟩ R) :
  AP E n C ops prot pobjs l so ⟨s, ob⟩ R :=
 (Gs m 0 l so s [] True h trivial).2 k
theorem Bv (m : Nat) (M : List Hn) {l O : PL} {G s' : Au} {P : Prop} (h : Hk E n ops pobjs m 0 l so s M True = some (P, O, G, s')) (W : P) (k : AP E n C ops prot pobjs O G ⟨s', ob⟩ R) :
  AP E n C ops prot pobjs l so ⟨s, ob⟩ R :=
 (Gs m 0 l so s M True h W).2 k
theorem kK {d : Nat} {c : Operand} {args : Array Operand} {Z : Array TypeId} {ty : TypeId} {pos : String} {aft : Array Edge} {f : FuncId} {xs G M ys : List T} {y X : T}
  (h : ACalls E f ys [] (fun x new => x = X ∧ new = [])) (k : R ⟨(d, X) :: s, ob⟩)
  (hc : A7 s c = some y) (hf : Kw y = some (f, G, M)) (hx : Ft s args.toList = some xs) (W : G ++ xs ++ M = ys)
  (hd : Nat.blt d n = true) (O : Fh X = true) :
  AX E n C [] ⟨some d, .call { callee := .value c, args := args, argTypes := Z }, ty, pos, aft, none⟩ ⟨s, ob⟩ R :=
 Dv hc (.refl _) hf hx (.rest _) W h (By hd) (fun _ _ h => by rw [h.1]; exact O) (fun x h => by obtain ⟨_, rfl, _⟩ := h; exact k)
theorem AO.c {d : Nat} {c : Operand} {args : Array Operand} {Z : Array TypeId} {ty : TypeId} {pos : String} {aft : Array Edge} {f : FuncId} {xs G M ys : List T} {y X : T} {l : List Oper}
  (h : ACalls E f ys [] (fun x new => x = X ∧ new = [])) (k : AO E n C ops l ⟨(d, X) :: s, ob⟩ R)
  (hc : A7 s c = some y := by exact rfl) (hf : Kw y = some (f, G, M) := by exact rfl) (hx : Ft s args.toList = some xs := by exact rfl) (W : G ++ xs ++ M = ys := by exact rfl)
  (hd : Nat.blt d n = true := by exact rfl) (O : Fh X = true := by exact rfl) :
  AO E n C ops (⟨some d, .call { callee := .value c, args := args, argTypes := Z }, ty, pos, aft, none⟩ :: l) ⟨s, ob⟩ R :=
 tZ [] rfl (kK h k hc hf hx W hd O)
def uJ := @AO.c
theorem AP.c {i d : Nat} {c : Operand} {args : Array Operand} {aa : Array TypeId} {ty : TypeId} {pos : String} {aft : Array Edge} {f : FuncId} {xs G M ys : List T} {y X : T} {l : PL}
  (ho : ops[i]? = some ⟨some d, .call { callee := .value c, args := args, argTypes := aa }, ty, pos, aft, none⟩) (h : ACalls E f ys [] (fun x new => x = X ∧ new = [])) (k : AP E n C ops prot pobjs l so ⟨(d, X) :: s, ob⟩ R)
  (hc : A7 s c = some y := by exact rfl) (hf : Kw y = some (f, G, M) := by exact rfl) (hx : Ft s args.toList = some xs := by exact rfl) (Z : G ++ xs ++ M = ys := by exact rfl)
  (hd : Nat.blt d n = true := by exact rfl) (O : Fh X = true := by exact rfl) (W : free so (some d) = true := by exact rfl) :
  AP E n C ops prot pobjs (.act i l) so ⟨s, ob⟩ R :=
 uC [] ho rfl (by simp) (kK h k hc hf hx Z hd O) W
def uU := @AP.c
theorem Ja {i d j t : Nat} {want b : Bool} {c : Operand} {args : Array Operand} {aa : Array TypeId} {ty : TypeId} {pos : String} {aft : Array Edge} {f : FuncId} {xs G M ys : List T} {y X : T} {l : PL}
  (ho : ops[i]? = some ⟨some d, .call { callee := .value c, args := args, argTypes := aa }, ty, pos, aft, some (j, want)⟩) (h : ACalls E f ys [] (fun x new => x = X ∧ new = [])) (k : AP E n C ops prot pobjs l so ⟨(d, X) :: s, ob⟩ R)
  (hj : (ops[j]?).bind (·.dst) = some t := by exact rfl) (hs : get s t = some (.v (.bool b)) := by exact rfl) (hb : b = want := by exact rfl)
  (hc : A7 s c = some y := by exact rfl) (hf : Kw y = some (f, G, M) := by exact rfl) (hx : Ft s args.toList = some xs := by exact rfl) (Z : G ++ xs ++ M = ys := by exact rfl)
  (hd : Nat.blt d n = true := by exact rfl) (O : Fh X = true := by exact rfl) (W : free so (some d) = true := by exact rfl) :
  AP E n C ops prot pobjs (.act i l) so ⟨s, ob⟩ R :=
 qK [] ho hj hs hb (by simp) (kK h k hc hf hx Z hd O) W
end
theorem Me {id : Nat} {y : Code} {Q : Exit → St → Prop} {s' G : Au} {P : Prop} (pl : PL) (prot : List Nat) (pobjs : List Ob) (M : List Hn) (Z : prot.map (fun i => ob[i]?) = pobjs.map some)
  (h : Hk E n ops pobjs ops.size 0 pl s s M True = some (P, .nil, G, s')) (W : P) (k : AW E n C y ⟨s', ob⟩ Q) (O : P9 ops pl = true := by kernel_rfl) :
  AW E n C (.seq (.region id ops true) y) ⟨s, ob⟩ Q :=
 uD (L8 pl prot pobjs O Z ((Gs _ 0 pl s s M True h W).2 (AP.nil k)))
theorem Ya {id : Nat} {Q : Exit → St → Prop} {s' G : Au} {P : Prop} (pl : PL) (prot : List Nat) (pobjs : List Ob) (M : List Hn) (Z : prot.map (fun i => ob[i]?) = pobjs.map some)
  (h : Hk E n ops pobjs ops.size 0 pl s s M True = some (P, .nil, G, s')) (W : P) (k : Q .normal ⟨s', ob⟩) (O : P9 ops pl = true := by kernel_rfl) :
  AW E n C (.region id ops true) ⟨s, ob⟩ Q :=
 L8 pl prot pobjs O Z ((Gs _ 0 pl s s M True h W).2 (AP.nil k))
theorem Bk {id : Nat} {Q : Exit → St → Prop} (pl : PL) (prot : List Nat) (pobjs : List Ob) (M : prot.map (fun i => ob[i]?) = pobjs.map some)
  (h : AP E n C ops prot pobjs pl s ⟨s, ob⟩ (fun σ' => Q .normal σ')) (G : P9 ops pl = true := by kernel_rfl) : AW E n C (.region id ops true) ⟨s, ob⟩ Q := L8 pl prot pobjs G M h
theorem lf {M : Au → List Ob → Prop} {G s' : Au} {ob' : List Ob} (O : M s' ob') (hs : Sub (s' ++ G) s) (ks : List Nat) (W : Cv ob ks = some ob') (Z : ks.Nodup := by decide) :
  ∃ s' ob', M s' ob' ∧ Left (s' ++ G) ob' ⟨s, ob⟩ := ⟨_, _, O, hs, ks, W, Z⟩
theorem sW {s : Au} : ∀ {l : Au}, l.map (fun p => get s p.1) = l.map (fun p => some p.2) → Sub l s
 | [], _ => trivial
 | (i, x) :: l, h => by
  simp only [List.map_cons, List.cons.injEq] at h
  exact ⟨h.1, sW h.2⟩
theorem lg {M : Au → List Ob → Prop} {G s' : Au} {ob' : List Ob} (O : M s' ob') (ks : List Nat) (hs : (s' ++ G).map (fun p => get s p.1) = (s' ++ G).map (fun p => some p.2) := by exact rfl)
  (W : Cv ob ks = some ob' := by exact rfl) (Z : ks.Nodup := by decide) :
  ∃ s' ob', M s' ob' ∧ Left (s' ++ G) ob' ⟨s, ob⟩ := ⟨_, _, O, sW hs, ks, W, Z⟩
theorem Ao {t : Nat} {x y : Code} {Q : Exit → St → Prop} {b : Bool} {α : Type} {A B r : α} (h : (if b = true then A else B) = r) (M : get s t = some (.v (.bool b)))
  (h1 : b = true → A = r → AW E n C x ⟨s, ob⟩ Q) (h2 : b = false → B = r → AW E n C y ⟨s, ob⟩ Q) : AW E n C (.cond (.tmp t) x y) ⟨s, ob⟩ Q :=
 AW.cond rfl M (fun G => h1 G (Cc G h)) (fun G => h2 G (Cd G h))
section
variable {σ : St} {dst : Option Tmp} {ty : TypeId} {pos : String} {aft : Array Edge} {g : Option (Nat × Bool)}
theorem AX.lt {d : Nat} {t : TypeId} {m : Nat} {G : Array (Nat × Operand)} {ti ei : TI} {e : Nat} {z : Value} {l : List T} (sz : Nat) (es : List (List T)) (k : R ⟨(d, .list sz es) :: s, ob⟩)
  (ht : E.tab t = some ti := by exact rfl) (W : ti.kind = .slice e := by exact rfl) (he : E.tab e = some ei := by exact rfl) (hz : ei.zero = some z := by exact rfl) (h1 : z.cells.toList.all (·.oneCell') = true := by exact rfl)
  (hsz : ei.size = sz := by exact rfl) (M : z.cells.size = sz := by exact rfl) (hb : Nat.ble (m * sz) 16777216 = true := by exact rfl)
  (Z : Nat.ble m 16777216 = true := by exact rfl) (hf : Gq s (fun i => some (i * sz, sz)) (Mb (Fg z) m) G.toList = some l := by exact rfl) (hr : rows sz m l = es := by exact rfl) (O : Nat.blt d n = true := by exact rfl) :
  AX E n C [] ⟨some d, .buildSlice t m G, ty, pos, aft, g⟩ ⟨s, ob⟩ R := qI ht W he hz h1 hsz M hb Z hf hr (By O) k
def uH := @AX.lt
theorem Ex (ks : List Nat) {d : Nat} {c : Operand} {args : Array Operand} {Z : Array TypeId} {f : FuncId} {G M xs ys : List T} {fp : List Ob} {Rc : T → List Ob → List Ob → Prop} {R : St → Prop}
  (h : ACalls E f ys fp (fun x fp' => ∃ os new, fp' = os ++ new ∧ os.length = fp.length ∧ Rc x os new)) (k : ∀ x os new, os.length = fp.length → Rc x os new → R ⟨Fb σ.slots (some d) x, Fm σ.objs ks os ++ new⟩)
  (hc : (A7 σ.slots c).bind Kw = some (f, G, M) := by exact rfl) (hx : Ft σ.slots args.toList = some xs := by exact rfl) (W : G ++ xs ++ M = ys := by exact rfl)
  (hk : Cv σ.objs ks = some fp := by exact rfl) (O : ks.Nodup := by decide) (hd : Nat.blt d n = true := by exact rfl) :
  AX E n C ks ⟨some d, .call { callee := .value c, args := args, argTypes := Z }, ty, pos, aft, g⟩ σ R := Zi ks hc hx W hk O h (By hd) k
theorem AX.ap {α : Type} {fr : α → List T} {la Z lr : List α} (ks : Nat) {d : Nat} {so x : Operand} {t : TypeId} {ti ei : TI} {e sz : Nat} {z v : Value} {R : St → Prop}
  (M : σ.objs[ks]? = some (.us v e sz (la.map fr))) (W : Cp la Z = some lr)
  (k : ∀ v', R ⟨Fb σ.slots (some d) (.v v'), σ.objs.set ks (.us v' e sz (lr.map fr))⟩)
  (hx : A7 σ.slots x = some (.list sz (Z.map fr)) := by exact rfl) (hs : A7 σ.slots so = some (.v v) := by exact rfl)
  (ht : E.tab t = some ti := by exact rfl) (hk : ti.kind = .slice e := by exact rfl) (he : E.tab e = some ei := by exact rfl) (hz : ei.zero = some z := by exact rfl) (hsz : ei.size = sz := by exact rfl)
  (O : z.cells.size = sz := by exact rfl) (G : Nat.ble ei.bytes 2048 = true := by exact rfl) (hd : Nat.blt d n = true := by exact rfl) :
  AX E n C [ks] ⟨some d, .call { callee := .builtin .append, args := #[so, x], argTypes := #[t, t] }, ty, pos, aft, g⟩ σ R :=
 L7 ks ht hk he hz hsz O G hs M (.list hx) (dN (G7 W).1) (dL (G7 W).2) (By hd) k
def uO := @AX.ap
end
def kb (s s' : Au) : Prop := s'.drop (s'.length - s.length) = s ∧ ((s'.take (s'.length - s.length)).all fun p => (get s p.1).isNone) = true
theorem dB {s : Au} {i : Nat} {x : T} : ∀ {l : Au}, (l.all fun p => (get s p.1).isNone) = true → get s i = some x → get (l ++ s) i = some x
 | [], _, h => h
 | (j, y) :: l, ha, h => by
  simp only [List.all_cons, Bool.and_eq_true] at ha
  simp only [List.cons_append, get]
  cases hb : Nat.beq j i with
  | true =>
   rw [nq hb, h] at ha
   simp at ha
  | false => rw [cond_false]; exact dB ha.2 h
theorem sH {s s' : Au} (h : kb s s') (i : Nat) (x : T) (O : get s i = some x) : get s' i = some x := by
 obtain ⟨G, M⟩ := h
 rw [← List.take_append_drop (s'.length - s.length) s', G]
 exact dB M O
theorem Ea {x y : Code} {Q : Exit → St → Prop} (d : Nat) (e : Bool) (h : AW E n C x ⟨s, ob⟩ (Kz (fun σ' => get σ'.slots d = some (.v (.bool e)) ∧ σ'.objs = ob ∧ kb s σ'.slots) Q)) (k : AW E n C y ⟨(d, .v (.bool e)) :: s, ob⟩ Q) : AW E n C (.seq x y) ⟨s, ob⟩ Q :=
 lJ _ h fun σ' ⟨W, O, Z⟩ H a w G => k H a w { G with
  slots := fun i z M => by
   simp only [get] at M
   cases hb : Nat.beq d i with
   | true => rw [hb, cond_true] at M; cases M; rw [← nq hb]; exact G.slots d _ W
   | false => rw [hb, cond_false] at M; exact G.slots i z (sH Z i z M)
  objs := by rw [← O]; exact G.objs
  free := by rw [← O]; exact G.free
  new := by rw [← O]; exact G.new
  nodup := by rw [← O]; exact G.nodup }
theorem jf {d : Nat} {a e : Bool} {s s' : Au} {ob ob' : List Ob} (h : a = e) (h1 : get s' d = some (.v (.bool a))) (h2 : ob' = ob) (G : kb s s') : get s' d = some (.v (.bool e)) ∧ ob' = ob ∧ kb s s' := ⟨h ▸ h1, h2, G⟩
theorem rt {E : Env} {fn : Func} {Rc : T → List Ob → Prop} {t : Nat} {x : T} (hf : fn.results.toList = [.tmp t]) (M : get s t = some x) (G : Rc x []) : dX E fn Rc .ret ⟨s, ob⟩ := ⟨.inr rfl, [x], [], by rw [hf]; exact ⟨M, trivial⟩, List.nil_sublist _, G⟩
end
theorem A0 {E : Env} {n : Nat} {C : Ctx} {σ : St} {ty : TypeId} {pos : String} {aft : Array Edge} {g : Option (Nat × Bool)} (ks : List Nat) {d : Nat} {c : Operand} {args : Array Operand} {aa : Array TypeId} {f : FuncId} {G M xs ys : List T} {fp : List Ob} {X : T} {O N : List Ob} {R : St → Prop}
  (h : ACalls E f ys fp (E8 fp.length (fun x os new => x = X ∧ os = O ∧ new = N))) (k : R ⟨Fb σ.slots (some d) X, Fm σ.objs ks O ++ N⟩)
  (hc : (A7 σ.slots c).bind Kw = some (f, G, M) := by exact rfl) (hx : Ft σ.slots args.toList = some xs := by exact rfl) (Z : G ++ xs ++ M = ys := by exact rfl)
  (hk : Cv σ.objs ks = some fp := by exact rfl) (W : ks.Nodup := by decide) (hd : Nat.blt d n = true := by exact rfl) :
  AX E n C ks ⟨some d, .call { callee := .value c, args := args, argTypes := aa }, ty, pos, aft, g⟩ σ R :=
 Ex ks h (by rintro _ _ _ _ ⟨rfl, rfl, rfl⟩; exact k) hc hx Z hk W hd
theorem pr {E : Env} {fn : Func} {σ : St} {X : T} (h : dW E σ.slots σ.objs fn.results.toList [X] := by exact ⟨rfl, True.intro⟩) : dX E fn (fun x new => x = X ∧ new = []) .ret σ := ⟨.inr rfl, [X], [], h, B0, rfl, rfl⟩
theorem g0 {n : Nat} {C : Ctx} {s : Au} {ob : List Ob} : Ghost n C s ob s [] := Ghost.pick [] (K := []) rfl (by decide)
theorem C9 {E : Env} {n : Nat} {C : Ctx} {Q : Exit → St → Prop} {s : Au} {ob : List Ob} {c : Code} (ks : List Nat) {K : List Ob} (G : Cv ob ks = some K) (k : AW E n C c ⟨s, K⟩ Q) (M : ks.Nodup := by decide) : AW E n C c ⟨s, ob⟩ Q := uF (Ghost.pick ks G M) k
theorem Bj {E : Env} {n : Nat} {C : Ctx} {σ : St} {ty : TypeId} {pos : String} {aft : Array Edge} {g : Option (Nat × Bool)} (k i j : Nat) (es' : List (List T)) {t : TypeId} {x y : Operand} {ti : TI} {c : T} {cs : List T} {b off tt sz cap : Nat} {es : List (List T)} {e : List T} {R : St → Prop}
  (O : σ.objs[k]? = some (.arr b tt sz cap es)) (kk : R ⟨σ.slots, σ.objs.set k (.arr b tt sz cap es')⟩)
  (hx : A7 σ.slots x = some (.v (.pointer (some ⟨b, off, none⟩))) := by exact rfl) (Z : E.tab t = some ti := by exact rfl) (he : es[i]? = some e := by exact rfl) (W : off = i * sz + j := by exact rfl)
  (hy : A7 σ.slots y = some c := by exact rfl) (hc : Eh c = some cs := by exact rfl) (hsz : ti.size = cs.length := by exact rfl) (M : Nat.ble (j + cs.length) e.length = true := by exact rfl) (G : es.set i (E3 e j cs) = es' := by exact rfl) :
  AX E n C [k] ⟨none, .store t x y, ty, pos, aft, g⟩ σ R := uL k i j Z hx O he W hy hc hsz (Nat.le_of_ble_eq_true M) rfl G kk
theorem A5 {α β : Type} {l : List α} {i : Int} {f : Nat × α → Option β} {r : β} (h : (ix l i).bind f = some r) : ∃ p, (i = (p.1 : Int) ∧ l[p.1]? = some p.2) ∧ f p = some r := by
 obtain ⟨p, G, M⟩ := Ac h
 exact ⟨p, Xk G, M⟩
theorem I9 {α β : Type} {n : Int} {z : α} {f : List α → Option β} {r : β} (h : (X1 n z).bind f = some r) : ∃ l, (∃ m : Nat, n = (m : Int) ∧ m ≤ 68719476736 ∧ List.replicate m z = l) ∧ f l = some r := by
 obtain ⟨p, G, M⟩ := Ac h
 exact ⟨p, pM G, M⟩
theorem I2 {α β : Type} {a : α} {b : β} : a = a ∧ b = b := ⟨rfl, rfl⟩
theorem I3 {α β γ : Type} {a : α} {b : β} {c : γ} : a = a ∧ b = b ∧ c = c := ⟨rfl, rfl, rfl⟩
theorem I5 {α β γ δ ε : Type} {a : α} {b : β} {c : γ} {d : δ} {e : ε} : a = a ∧ b = b ∧ c = c ∧ d = d ∧ e = e := ⟨rfl, rfl, rfl, rfl, rfl⟩
theorem I7 {α β γ δ ε ζ η : Type} {a : α} {b : β} {c : γ} {d : δ} {e : ε} {f : ζ} {g : η} : a = a ∧ b = b ∧ c = c ∧ d = d ∧ e = e ∧ f = f ∧ g = g := ⟨rfl, rfl, rfl, rfl, rfl, rfl, rfl⟩
theorem J1 {α : Type} {a : α} : a = a ∧ True := ⟨rfl, J⟩
theorem J2 {α β : Type} {a : α} {b : β} : a = a ∧ b = b ∧ True := ⟨rfl, J1⟩
theorem J3 {α β γ : Type} {a : α} {b : β} {c : γ} : a = a ∧ b = b ∧ c = c ∧ True := ⟨rfl, J2⟩
theorem J4 {α β γ δ : Type} {a : α} {b : β} {c : γ} {d : δ} : a = a ∧ b = b ∧ c = c ∧ d = d ∧ True := ⟨rfl, J3⟩
theorem J5 {α β γ δ ε : Type} {a : α} {b : β} {c : γ} {d : δ} {e : ε} : a = a ∧ b = b ∧ c = c ∧ d = d ∧ e = e ∧ True := ⟨rfl, J4⟩
theorem J6 {α β γ δ ε ζ : Type} {a : α} {b : β} {c : γ} {d : δ} {e : ε} {f : ζ} : a = a ∧ b = b ∧ c = c ∧ d = d ∧ e = e ∧ f = f ∧ True := ⟨rfl, J5⟩
theorem J7 {α β γ δ ε ζ η : Type} {a : α} {b : β} {c : γ} {d : δ} {e : ε} {f : ζ} {g : η} : a = a ∧ b = b ∧ c = c ∧ d = d ∧ e = e ∧ f = f ∧ g = g ∧ True := ⟨rfl, J6⟩
theorem J8 {α β γ δ ε ζ η θ : Type} {a : α} {b : β} {c : γ} {d : δ} {e : ε} {f : ζ} {g : η} {h : θ} : a = a ∧ b = b ∧ c = c ∧ d = d ∧ e = e ∧ f = f ∧ g = g ∧ h = h ∧ True := ⟨rfl, J7⟩
theorem J9 {α β γ δ ε ζ η θ ι : Type} {a : α} {b : β} {c : γ} {d : δ} {e : ε} {f : ζ} {g : η} {h : θ} {i : ι} : a = a ∧ b = b ∧ c = c ∧ d = d ∧ e = e ∧ f = f ∧ g = g ∧ h = h ∧ i = i ∧ True := ⟨rfl, J8⟩
theorem oM {α β γ δ ε ζ η θ ι κ : Type} {a : α} {b : β} {c : γ} {d : δ} {e : ε} {f : ζ} {g : η} {h : θ} {i : ι} {j : κ} : a = a ∧ b = b ∧ c = c ∧ d = d ∧ e = e ∧ f = f ∧ g = g ∧ h = h ∧ i = i ∧ j = j ∧ True := ⟨rfl, J9⟩
theorem oL {α β γ δ ε ζ η θ ι κ μ : Type} {a : α} {b : β} {c : γ} {d : δ} {e : ε} {f : ζ} {g : η} {h : θ} {i : ι} {j : κ} {k : μ} : a = a ∧ b = b ∧ c = c ∧ d = d ∧ e = e ∧ f = f ∧ g = g ∧ h = h ∧ i = i ∧ j = j ∧ k = k ∧ True := ⟨rfl, oM⟩
theorem rG {α β γ δ ε ζ η θ ι κ μ ν : Type} {a : α} {b : β} {c : γ} {d : δ} {e : ε} {f : ζ} {g : η} {h : θ} {i : ι} {j : κ} {k : μ} {l : ν} : a = a ∧ b = b ∧ c = c ∧ d = d ∧ e = e ∧ f = f ∧ g = g ∧ h = h ∧ i = i ∧ j = j ∧ k = k ∧ l = l ∧ True := ⟨rfl, oL⟩
theorem rF {α β γ δ ε ζ η θ ι κ μ ν ξ : Type} {a : α} {b : β} {c : γ} {d : δ} {e : ε} {f : ζ} {g : η} {h : θ} {i : ι} {j : κ} {k : μ} {l : ν} {m : ξ} : a = a ∧ b = b ∧ c = c ∧ d = d ∧ e = e ∧ f = f ∧ g = g ∧ h = h ∧ i = i ∧ j = j ∧ k = k ∧ l = l ∧ m = m ∧ True := ⟨rfl, rG⟩
theorem rE {α β γ δ ε ζ η θ ι κ μ ν ξ ο : Type} {a : α} {b : β} {c : γ} {d : δ} {e : ε} {f : ζ} {g : η} {h : θ} {i : ι} {j : κ} {k : μ} {l : ν} {m : ξ} {n : ο} : a = a ∧ b = b ∧ c = c ∧ d = d ∧ e = e ∧ f = f ∧ g = g ∧ h = h ∧ i = i ∧ j = j ∧ k = k ∧ l = l ∧ m = m ∧ n = n ∧ True := ⟨rfl, rF⟩
theorem rD {α β γ δ ε ζ η θ ι κ μ ν ξ ο π : Type} {a : α} {b : β} {c : γ} {d : δ} {e : ε} {f : ζ} {g : η} {h : θ} {i : ι} {j : κ} {k : μ} {l : ν} {m : ξ} {n : ο} {o : π} : a = a ∧ b = b ∧ c = c ∧ d = d ∧ e = e ∧ f = f ∧ g = g ∧ h = h ∧ i = i ∧ j = j ∧ k = k ∧ l = l ∧ m = m ∧ n = n ∧ o = o ∧ True := ⟨rfl, rE⟩
theorem Bs {E : Env} {n : Nat} {C : Ctx} {σ : St} {dst : Option Tmp} {ty : TypeId} {pos : String} {aft : Array Edge} {g : Option (Nat × Bool)} {t : TypeId} {z : Value} (cs : List T) (m : Nat) {R : St → Prop} (k : ∀ b, R ⟨Fb σ.slots dst (.v (.pointer (some ⟨b, 0, none⟩))), σ.objs ++ [(.arr b t m 1 [cs])]⟩)
  (G : (E.tab t).bind (fun i => i.zero) = some z := by exact rfl) (hc : z.cells.toList.map T.v = cs := by exact rfl) (h1 : z.cells.toList.all (·.oneCell') = true := by exact rfl) (O : cs.length = m := by exact rfl) (M : ∀ d, dst = some d → d < n := by exact dS) :
  AX E n C [] ⟨dst, .alloc t, ty, pos, aft, g⟩ σ R := by
 obtain ⟨i, hi, G⟩ := Option.bind_eq_some_iff.1 G
 exact AX.alloc hi G hc h1 O M k
theorem Cf {E : Env} {n : Nat} {C : Ctx} {σ : St} {dst : Option Tmp} {ty : TypeId} {pos : String} {aft : Array Edge} {g : Option (Nat × Bool)} {t : TypeId} {x : Operand} (cs : List T) (m : Nat) {R : St → Prop} (k : ∀ b, R ⟨Fb σ.slots dst (.v (.pointer (some ⟨b, 0, none⟩))), σ.objs ++ [(.arr b t m 1 [cs])]⟩)
  (O : (A7 σ.slots x).bind Eh = some cs := by exact rfl) (M : cs.length = m := by exact rfl) (G : ∀ d, dst = some d → d < n := by exact dS) :
  AX E n C [] ⟨dst, .box t x, ty, pos, aft, g⟩ σ R := by
 obtain ⟨y, W, hc⟩ := Option.bind_eq_some_iff.1 O
 exact AX.box W hc M G k
theorem Bq {E : Env} {n : Nat} {C : Ctx} {s : Au} {ob : List Ob} {Q : Exit → St → Prop} {c : Operand} {x y : Code} {t : Nat} {b : Bool} (G : get s t = some (.v (.bool b))) (hb : b = true) (h : AW E n C x ⟨s, ob⟩ Q) (hc : c = .tmp t := by rfl) : AW E n C (.cond c x y) ⟨s, ob⟩ Q := Zj (v := true) G hb h hc
theorem Br {E : Env} {n : Nat} {C : Ctx} {s : Au} {ob : List Ob} {Q : Exit → St → Prop} {c : Operand} {x y : Code} {t : Nat} {b : Bool} (G : get s t = some (.v (.bool b))) (hb : b = false) (h : AW E n C y ⟨s, ob⟩ Q) (hc : c = .tmp t := by rfl) : AW E n C (.cond c x y) ⟨s, ob⟩ Q := Zj (v := false) G hb h hc
def sl : Nat → Nat → PL → PL
 | 0, _, r => r
 | m + 1, i, r => .still i (sl m (i + 1) r)
theorem io {α : Type _} {a b : α} (h : some a = some b) : b = a := (Option.some.inj h).symm
abbrev RV (t : T) (x : T) (new : List Ob) : Prop := x = t ∧ new = []
abbrev RB (r : Bool) (x : T) (new : List Ob) : Prop := x = .v (.bool r) ∧ new = []
abbrev N3 : List Nat := [0, 1, 2]
abbrev N4 : List Nat := [0, 1, 2, 3]
abbrev N5 : List Nat := [0, 1, 2, 3, 4]
abbrev N6 : List Nat := [0, 1, 2, 3, 4, 5]
abbrev N7 : List Nat := [0, 1, 2, 3, 4, 5, 6]
abbrev N8 : List Nat := [0, 1, 2, 3, 4, 5, 6, 7]
abbrev N9 : List Nat := [0, 1, 2, 3, 4, 5, 6, 7, 8]
abbrev bY : List Nat := [0, 1, 2, 3, 4, 5, 6, 7, 8, 9]
abbrev K2 (a b : Nat) {xa xb : T} : Au := [(a, xa), (b, xb)]
abbrev K3 (a b c : Nat) {xa xb xc : T} : Au := [(a, xa), (b, xb), (c, xc)]
abbrev K4 (a b c d : Nat) {xa xb xc xd : T} : Au := [(a, xa), (b, xb), (c, xc), (d, xd)]
abbrev K5 (a b c d e : Nat) {xa xb xc xd xe : T} : Au := [(a, xa), (b, xb), (c, xc), (d, xd), (e, xe)]
abbrev K6 (a b c d e f : Nat) {xa xb xc xd xe xf : T} : Au := [(a, xa), (b, xb), (c, xc), (d, xd), (e, xe), (f, xf)]
abbrev K7 (a b c d e f g : Nat) {xa xb xc xd xe xf xg : T} : Au := [(a, xa), (b, xb), (c, xc), (d, xd), (e, xe), (f, xf), (g, xg)]
abbrev K8 (a b c d e f g h : Nat) {xa xb xc xd xe xf xg xh : T} : Au := [(a, xa), (b, xb), (c, xc), (d, xd), (e, xe), (f, xf), (g, xg), (h, xh)]
abbrev K9 (a b c d e f g h i : Nat) {xa xb xc xd xe xf xg xh xi : T} : Au := [(a, xa), (b, xb), (c, xc), (d, xd), (e, xe), (f, xf), (g, xg), (h, xh), (i, xi)]
abbrev sV (a b c d e f g h i j : Nat) {xa xb xc xd xe xf xg xh xi xj : T} : Au := [(a, xa), (b, xb), (c, xc), (d, xd), (e, xe), (f, xf), (g, xg), (h, xh), (i, xi), (j, xj)]
abbrev T.P (b : Nat) : T := .v (.pointer (some ⟨b, 0, none⟩))
abbrev nS : Value := .slice none 0 0
theorem pk {ob o : List Ob} (k : List Nat) (h : Cv ob k = some o := by exact rfl) (n : k.Nodup := by decide) : ∃ p, Cv ob p = some o ∧ p.Nodup := ⟨k, h, n⟩
structure Yl where
 l : Nat
 fn : FuncId
 tmps : Array Value
 ps : Array Tmp
 assign : Code
 body : Code
 D : Nat
def Yl.lp (Y : Yl) (st : LoopState) (G : Option Code) : Loop := { state := st, pending := G, fn := Y.fn, tmps := Y.tmps, params := Y.ps, assign := Y.assign, body := Y.body, defers := Y.D }
def Yl.ob (Y : Yl) (st : LoopState) (G : Option Code) : Ob := .raw Y.l (.loop (Y.lp st G))
def Md : Exit → Option Code
 | .ret => some .ret
 | .exit id => some (.exit id)
 | _ => none
def Z4 : List Tmp → List T → Au → Au
 | t :: ts, x :: xs, s => Z4 ts xs ((t, x) :: s)
 | _, _, s => s
section
variable {E : Env} {n : Nat} {C : Ctx} {s : Au} {ob : List Ob} {Q : Exit → St → Prop} {R : St → Prop} {Y : Yl}
def rA (H : GH) (w : World) (fp : List Ob) : Prop := ((∀ b o, H b = some o → w.heap[b]? = some o) ∧ jZ H) ∧ (∀ p, p ∈ fp → OR H w p ∧ ∀ b, b ∈ p.fp → H b = none) ∧ (fp.flatMap Ob.fp).Nodup
def Round (E : Env) (H0 : GH) (Y : Yl) (v : List T) (ob : List Ob) (K : List Ob → Prop) (X : Exit → List Ob → Prop) : Prop :=
 ∀ (H : GH) (w : World) (W : Array Value), W.size = v.length → (∀ (i : Nat) (x : T), v[i]? = some x → VR H (W.getD i undef) x) → (∀ b o, H0 b = some o → H b = some o) → rA H w (Y.ob .ready none :: ob) →
  ∃ M, (Instr.yield Y.l W).run E.P w = .ok (.round Y.l Y.fn M Y.assign Y.body) w ∧ RoundIn Fence.wide 0 E.P Y.l Y.fn M Y.assign Y.body w fun e Z => ∃ b H' O, e = .returned (.bool b) ∧
   Wf H w (Y.ob .ready none :: ob) Z H' O ∧ ((b = true ∧ ∃ G, K G ∧ O = Y.ob .ready none :: G) ∨ (b = false ∧ ∃ x c G, Md x = some c ∧ X x G ∧ O = Y.ob .done (some c) :: G))
theorem Td {H : GH} : ∀ (ps : List Tmp) (v : List T) (vs : List Value) (G : Array Value) (S : Au), ps.length = v.length → vs.length = v.length → ps.all (fun t => Nat.blt t n) = true → G.size = n →
  (∀ (i : Nat) (x : T), v[i]? = some x → VR H (vs.getD i undef) x) → (∀ i x, get S i = some x → VR H (G.getD i undef) x) →
  ((ps.zip vs).foldl (fun t (p : Tmp × Value) => t.setIfInBounds p.1 p.2) G).size = n ∧ ∀ i x, get (Z4 ps v S) i = some x → VR H (((ps.zip vs).foldl (fun t (p : Tmp × Value) => t.setIfInBounds p.1 p.2) G).getD i undef) x
 | [], [], [], G, S, _, _, _, hn, _, hS => ⟨by simpa using hn, by simpa [Z4] using hS⟩
 | t :: ts, x :: xs, y :: ys, G, S, h1, h2, h3, hn, hv, hS => by
  simp only [List.all_cons, Bool.and_eq_true] at h3
  have ht : t < n := Nat.le_of_ble_eq_true h3.1
  refine Td ts xs ys (G.setIfInBounds t y) ((t, x) :: S) (by simpa using h1) (by simpa using h2) h3.2 (by simpa using hn) (fun i z M => by simpa using hv (i + 1) z (by simpa using M)) ?_
  intro i z M
  simp only [get] at M
  cases hb : Nat.beq t i with
  | true =>
   have := nq hb
   subst this
   rw [hb, cond_true] at M
   cases M
   have W := hv 0 x (by simp)
   have : t < G.size := by rw [hn]; exact ht
   simpa [Array.getD, this] using W
  | false =>
   rw [hb, cond_false] at M
   have O : t ≠ i := fun h => by rw [h] at hb; simp at hb
   have Z : (G.setIfInBounds t y).getD i undef = G.getD i undef := by simp [Array.getD_eq_getD_getElem?, Array.getElem?_setIfInBounds_ne O]
   rw [Z]; exact hS i z M
 | [], _ :: _, _, _, _, h1, _, _, _, _, _ => by simp at h1
 | _ :: _, [], _, _, _, h1, _, _, _, _, _ => by simp at h1
 | [], [], _ :: _, _, _, _, h2, _, _, _, _ => by simp at h2
 | _ :: _, _ :: _, [], _, _, _, h2, _, _, _, _ => by simp at h2
def OL (ob' : List Ob) (σ : St) : Prop := ∃ ks, Cv σ.objs ks = some ob' ∧ ks.Nodup
theorem OL.gam {H : GH} {a : Act} {w : World} {σ : St} {ob' : List Ob} (h : OL ob' σ) (W : Gam n C σ H a w) : Gam n C ⟨[], ob'⟩ H a w := by
 obtain ⟨ks, h1, h2⟩ := h
 obtain ⟨p1, p2⟩ := Gl h1
 have Z : ∀ (i : Nat) (p : Ob), ob'[i]? = some p → ∃ k, ks[i]? = some k ∧ σ.objs[k]? = some p := by
  intro i p M
  have hil := (gs M).1
  obtain ⟨o, q1, q2⟩ := p2 i ks[i] (gq (by omega))
  rw [M] at q2; cases q2
  exact ⟨_, gq (by omega), q1⟩
 have G : ∀ p, p ∈ ob' → p ∈ σ.objs := fun p O => by
  obtain ⟨i, M⟩ := List.mem_iff_getElem?.1 O
  obtain ⟨k, _, hk⟩ := Z i p M
  exact mg hk
 refine { W with slots := fun i x h => by simp [get] at h, objs := fun p O => W.objs p (G p O), free := fun p O => W.free p (G p O), new := fun p O => W.new p (G p O), nodup := ?_ }
 refine C6.2 ⟨fun i p M => ?_, fun i j p q M hj hne b hb => ?_⟩
 ·obtain ⟨k, _, hk⟩ := Z i p M
  exact (C6.1 W.nodup).1 k p hk
 ·obtain ⟨k, k1, k2⟩ := Z i p M
  obtain ⟨k', k1', k2'⟩ := Z j q hj
  refine Qc W.nodup k2 k2' (fun he => hne ?_) b hb
  exact (List.getElem?_inj (gs k1).1 h2).1 (by rw [k1, k1', he])
theorem T2 {H0 : GH} {S S1 : Au} {v : List T} {K : List Ob → Prop} {X : Exit → List Ob → Prop} (hY : Y.tmps.size = n) (hS : ∀ i x, get S i = some x → VR H0 (Y.tmps.getD i undef) x)
  (hps : Y.ps.toList.length = v.length) (hpn : Y.ps.toList.all (fun t => Nat.blt t n) = true) (hn1 : nd Y.assign = true) (hn2 : nd Y.body = true)
  (ha : ∀ C : Ctx, AW E n C Y.assign ⟨Z4 Y.ps.toList v S, ob⟩ (fun e σ' => e = .normal ∧ σ' = ⟨S1, ob⟩))
  (hb : ∀ C : Ctx, C.fp = ob.flatMap Ob.fp → AW E n C Y.body ⟨S1, ob⟩ (fun e σ' => ∃ ob', OL ob' σ' ∧ ((e = .normal ∧ K ob') ∨ ∃ c, Md e = some c ∧ X e ob'))) : Round E H0 Y v ob K X := by
 intro H w vs hvs hv h0 ⟨⟨hheld, hg⟩, hfp, hnd⟩
 have hl : w.heap[Y.l]? = some (.loop (Y.lp .ready none)) := (hfp (Y.ob .ready none) (by simp)).1
 have hlH : H Y.l = none := (hfp (Y.ob .ready none) (by simp)).2 _ (by simp [Yl.ob, Ob.fp])
 have ab : Y.l < w.heap.size := (Array.getElem?_eq_some_iff.1 hl).1
 have hlo : ∀ p, p ∈ ob → ∀ b, b ∈ p.fp → b ≠ Y.l := by
  intro p W b hb he
  rw [List.flatMap_cons, List.nodup_append] at hnd
  exact hnd.2.2 Y.l (by simp [Yl.ob, Ob.fp]) b (List.mem_flatMap.2 ⟨p, W, hb⟩) he.symm
 have Z : Y.l ∉ ob.flatMap Ob.fp := fun h => by obtain ⟨p, W, hb⟩ := List.mem_flatMap.1 h; exact hlo p W _ hb rfl
 have hnd' : (ob.flatMap Ob.fp).Nodup := by rw [List.flatMap_cons, List.nodup_append] at hnd; exact hnd.2.1
 have hyr := run_yield (P := E.P) (args := vs) hl (by rw [hvs, ← hps]; simp [Yl.lp])
 refine ⟨_, hyr, roundIn_of_wpIn trivial ?_⟩
 have htm : ((Y.ps.zip vs).foldl (fun t (p : Tmp × Value) => t.setIfInBounds p.1 p.2) Y.tmps) = ((Y.ps.toList.zip vs.toList).foldl (fun t (p : Tmp × Value) => t.setIfInBounds p.1 p.2) Y.tmps) := by
  rw [← Array.foldl_toList, Array.toList_zip]
 obtain ⟨t1, t2⟩ := Td (n := n) (H := H) Y.ps.toList v vs.toList Y.tmps S hps (by simpa using hvs) hpn hY (fun i x hx => by simpa [Array.getD_eq_getD_getElem?, List.getD] using hv i x hx) (fun i x hx => (hS i x hx).mono h0)
 rw [← htm] at t1 t2
 have gm1 : Gam n ⟨w, H, ob.flatMap Ob.fp, hg⟩ ⟨Z4 Y.ps.toList v S, ob⟩ H { tmps := (Y.ps.zip vs).foldl (fun t (p : Tmp × Value) => t.setIfInBounds p.1 p.2) Y.tmps, defers := [] } w :=
  ⟨.nil, t1, t2, fun p W => (hfp p (by simp [W])).1, fun p W => (hfp p (by simp [W])).2, fun p W b hb => .inr (List.mem_flatMap.2 ⟨p, W, hb⟩), hnd', hheld, fun _ _ h => h, Nat.le_refl _, fun _ _ _ => ⟨rfl, rfl⟩, ⟨rfl, rfl, rfl⟩⟩
 refine wpIn_mono (ha _ H _ w gm1 (some Y.l) (fun _ => hn1)) ?_
 rintro e a1 w1 ⟨σ1, H2, ⟨rfl, rfl⟩, M⟩
 have hl1 : w1.heap[Y.l]? = some (.loop (Y.lp .ready none)) := ((M.frame Y.l ab Z).1).trans hl
 have hl1H : H2 Y.l = none := ((M.frame Y.l ab Z).2).trans hlH
 have hl1l : Y.l < w1.heap.size := (Array.getElem?_eq_some_iff.1 hl1).1
 refine ⟨_, run_beginRound hl1 rfl, ?_⟩
 obtain ⟨bz, hbz⟩ : ∃ bz, bz = Obj.loop { Y.lp .ready none with state := .busy } := ⟨_, rfl⟩
 rw [← hbz]
 have ho1 : ∀ b, b ≠ Y.l → (w1.putObj Y.l bz).heap[b]? = w1.heap[b]? := fun b hb => World.putObj_heap_other hb
 have ho0 : ∀ b, b ≠ Y.l → (w.putObj Y.l bz).heap[b]? = w.heap[b]? := fun b hb => World.putObj_heap_other hb
 have gm4 : Gam n ⟨w.putObj Y.l bz, H, ob.flatMap Ob.fp, hg⟩ ⟨S1, ob⟩ H2 a1 (w1.putObj Y.l bz) := by
  refine ⟨by have := M.defers; simpa using this, M.size, M.slots, fun p W => (M.objs p W).mono (fun _ _ h => h) (fun b hb => ho1 b (hlo p W b hb)), M.free, fun p W b hb => .inr (List.mem_flatMap.2 ⟨p, W, hb⟩), M.nodup, fun b o hb => ?_, M.grow, by simpa using M.heap, fun b hb hf => ?_, M.env⟩
  ·have : b ≠ Y.l := fun he => by rw [he, hl1H] at hb; cases hb
   rw [ho1 b this]; exact M.held b o hb
  ·by_cases aa : b = Y.l
   ·subst aa
    refine ⟨?_, hl1H.trans hlH.symm⟩
    rw [World.putObj_heap_same hl1l, World.putObj_heap_same ab]
   ·have := M.frame b (by simpa using hb) hf
    exact ⟨(ho1 b aa).trans (this.1.trans (ho0 b aa).symm), this.2⟩
 refine wpIn_mono (hb ⟨w.putObj Y.l bz, H, ob.flatMap Ob.fp, hg⟩ rfl H2 a1 _ gm4 (some Y.l) (fun _ => hn2)) ?_
 rintro e a2 w2 ⟨σ2, H3, ⟨ob', hol, hq⟩, gm5⟩
 have O := hol.gam gm5
 have hf2 := O.frame Y.l (by simpa using ab) Z
 have hl2 : w2.heap[Y.l]? = some bz := hf2.1.trans (World.putObj_heap_same ab)
 have hl2H : H3 Y.l = none := hf2.2.trans hlH
 have hl2l : Y.l < w2.heap.size := (Array.getElem?_eq_some_iff.1 hl2).1
 rw [hbz] at hl2
 have fin : ∀ (G : Option Code), (Instr.endRound Y.l G).run E.P w2 = .ok (.bool G.isNone) (w2.putObj Y.l (.loop (Y.lp (if G.isNone then .ready else .done) G))) ∧
   Wf H w (Y.ob .ready none :: ob) (w2.putObj Y.l (.loop (Y.lp (if G.isNone then .ready else .done) G))) H3 (Y.ob (if G.isNone then .ready else .done) G :: ob') := by
  intro G
  refine ⟨run_endRound G hl2, O.grow, fun b o hb => ?_, fun p W => ?_, ?_, by have := O.heap; simpa using this, O.env, fun b hb hf => ?_⟩
  ·have : b ≠ Y.l := fun he => by rw [he, hl2H] at hb; cases hb
   rw [World.putObj_heap_other this]; exact O.held b o hb
  ·rcases List.mem_cons.1 W with rfl | W
   ·refine ⟨World.putObj_heap_same hl2l, fun b hb => ?_⟩
    simp only [Yl.ob, Ob.fp, List.mem_singleton] at hb
    subst hb
    exact ⟨hl2H, .inr (by simp [Yl.ob, Ob.fp])⟩
   ·have hne : ∀ b, b ∈ p.fp → b ≠ Y.l := by
     intro b hb he
     rcases O.new p W b hb with h | h
     ·have h' : w.heap.size ≤ b := by simpa using h
      omega
     ·exact Z (he ▸ h)
    refine ⟨(O.objs p W).mono (fun _ _ h => h) (fun b hb => World.putObj_heap_other (hne b hb)), fun b hb => ⟨O.free p W b hb, ?_⟩⟩
    rcases O.new p W b hb with h | h
    ·exact .inl (by simpa using h)
    ·exact .inr (by rw [List.flatMap_cons]; exact List.mem_append_right _ h)
  ·rw [List.flatMap_cons, List.nodup_append]
   refine ⟨by simp [Yl.ob, Ob.fp], O.nodup, ?_⟩
   intro x hx y hy hxy
   simp only [Yl.ob, Ob.fp, List.mem_singleton] at hx
   subst hx hxy
   obtain ⟨p, W, hb⟩ := List.mem_flatMap.1 hy
   rcases O.new p W _ hb with h | h
   ·have h' : w.heap.size ≤ Y.l := by simpa using h
    omega
   ·exact Z h
  ·rw [List.flatMap_cons, List.mem_append, not_or] at hf
   have aa : b ≠ Y.l := fun he => hf.1 (by simp [Yl.ob, Ob.fp, he])
   have := O.frame b (by simpa using hb) hf.2
   exact ⟨(World.putObj_heap_other aa).trans (this.1.trans (ho0 b aa)), this.2⟩
 rcases hq with ⟨rfl, hK⟩ | ⟨c, hc, hX⟩
 ·obtain ⟨f1, f2⟩ := fin none
  exact ⟨_, _, f1, true, H3, _, rfl, f2, .inl ⟨rfl, ob', hK, rfl⟩⟩
 ·cases e with
  | ret =>
   obtain ⟨f1, f2⟩ := fin (some .ret)
   exact ⟨_, _, f1, false, H3, _, rfl, f2, .inr ⟨rfl, _, _, ob', rfl, hX, rfl⟩⟩
  | exit id =>
   obtain ⟨f1, f2⟩ := fin (some (.exit id))
   exact ⟨_, _, f1, false, H3, _, rfl, f2, .inr ⟨rfl, _, _, ob', rfl, hX, rfl⟩⟩
  | _ => simp [Md] at hc
theorem AO.yield {ops : Array Oper} {l : List Oper} {d : Nat} {c : Operand} {args : Array Operand} {aa : Array TypeId} {ty : TypeId} {pos : String} {aft : Array Edge} {v : List T} {its : List Ob} {K : List Ob → Prop} {X : Exit → List Ob → Prop} (hR : Round E C.H0 Y v ob K X)
  (hc : A7 s c = some (.v (.func (.yield Y.l) #[] #[]))) (hx : Ft s args.toList = some v) (hd : Nat.blt d n = true)
  (k1 : ∀ ob', K ob' → AO E n C ops l ⟨(d, .v (.bool true)) :: s, Y.ob .ready none :: (ob' ++ its)⟩ R)
  (k2 : ∀ x c ob', Md x = some c → X x ob' → AO E n C ops l ⟨(d, .v (.bool false)) :: s, Y.ob .done (some c) :: (ob' ++ its)⟩ R) :
  AO E n C ops (⟨some d, .call { callee := .value c, args := args, argTypes := aa }, ty, pos, aft, none⟩ :: l) ⟨s, Y.ob .ready none :: (ob ++ its)⟩ R := by
 intro H a w W
 simp only [Z2]
 rw [if_pos (by simp [Region.wanted])]
 refine ⟨fun _ _ => trivial, ?_⟩
 obtain ⟨q1, q2⟩ := F3 W.sr hx
 have hev : a.eval c = .func (.yield Y.l) #[] #[] := (W.sr.eval hc).v_eq
 have O : ∀ p, p ∈ Y.ob .ready none :: ob → p ∈ Y.ob .ready none :: (ob ++ its) := fun p G => by
  rcases List.mem_cons.1 G with h | h
  ·exact List.mem_cons.2 (.inl h)
  ·exact List.mem_cons.2 (.inr (List.mem_append_left _ h))
 have M := W.nodup
 have hnd1 : ((Y.ob .ready none :: ob).flatMap Ob.fp).Nodup := (Di (List.Sublist.cons_cons _ (List.sublist_append_left ob its))).nodup M
 have Z : ∀ p, p ∈ its → ∀ b, b ∈ p.fp → b ∉ (Y.ob .ready none :: ob).flatMap Ob.fp := by
  intro p G b hb hm
  have h1 : ((Y.ob .ready none :: (ob ++ its)).flatMap Ob.fp) = (Y.ob .ready none :: ob).flatMap Ob.fp ++ its.flatMap Ob.fp := by simp
  dsimp only at M
  rw [h1, List.nodup_append] at M
  exact M.2.2 b hm b (List.mem_flatMap.2 ⟨p, G, hb⟩) rfl
 obtain ⟨tmps, y1, y2⟩ := hR H w (args.map a.eval) (by simpa using q1) (fun i x hi => by
  have := q2 i x hi
  simpa [Array.getD_eq_getD_getElem?, List.getD] using this) W.grow ⟨⟨W.held, fun b l h => (C.hg b l h).mono W.grow⟩, fun p G => ⟨W.objs p (O p G), W.free p (O p G)⟩, hnd1⟩
 have hrun : (Oper.semAt Fence.wide.round a.eval ⟨some d, .call { callee := .value c, args := args, argTypes := aa }, ty, pos, aft, none⟩).run E.P w = .ok (.round Y.l Y.fn tmps Y.assign Y.body) w := by
  change (execOp a.eval ⟨some d, .call { callee := .value c, args := args, argTypes := aa }, ty, pos, aft, none⟩).run E.P w = _
  simp [execOp, resolve, hev, Deferred.ofValue, invoke, y1]
 rw [hrun]
 refine ⟨fun h => (by cases h), y2.mono ?_⟩
 rintro e w' ⟨b, H', fp', rfl, ⟨l1, l2, l3, l4, l5, l6, l7⟩, hq⟩
 have hnd2 : ∀ p, p ∈ its → ∀ b, b ∈ p.fp → b ∉ fp'.flatMap Ob.fp := by
  intro p G b hb hm
  obtain ⟨q, hq, hbq⟩ := List.mem_flatMap.1 hm
  have hpm : p ∈ Y.ob .ready none :: (ob ++ its) := by simp [G]
  rcases ((l3 q hq).2 b hbq).2 with h | h
  ·have := (W.objs p hpm).lt b hb; omega
  ·exact Z p G b hb h
 have g2 : Gam n C ⟨s, fp' ++ its⟩ H' a w' := by
  refine Gam.called (σ := ⟨s, Y.ob .ready none :: (ob ++ its)⟩) W (fp := Y.ob .ready none :: ob) (fp' := fp') O l1 l2 l3 l5 l6 l7 (fun p G => ?_) ?_
  ·rcases List.mem_append.1 G with h | h
   ·exact .inl h
   ·exact .inr ⟨by simp [h], Z p h⟩
  ·rw [List.flatMap_append, List.nodup_append]
   refine ⟨l4, ?_, fun x hx y hy hxy => ?_⟩
   ·have : its.Sublist (Y.ob .ready none :: (ob ++ its)) := (List.sublist_append_right ob its).cons _
    exact (Di this).nodup M
   ·subst hxy
    obtain ⟨p, G, hb⟩ := List.mem_flatMap.1 hy
    exact hnd2 p G x hb hx
 have hd' : ∀ d', some d = some d' → d' < n := By hd
 rcases hq with ⟨rfl, ob', hK, rfl⟩ | ⟨rfl, x, c', ob', hj, hX, rfl⟩
 ·have := g2.put (dst := some d) (v := .bool true) (x := .v (.bool true)) (.v _) hd'
  exact k1 ob' hK H' _ w' this
 ·have := g2.put (dst := some d) (v := .bool false) (x := .v (.bool false)) (.v _) hd'
  exact k2 x c' ob' hj hX H' _ w' this
def VS (n : Nat) (C : Ctx) (σ : St) (P : St → Prop) : Prop := ∀ H a w, Gam n C σ H a w → ∃ σ' H', P σ' ∧ Gam n C σ' H' a w
theorem VS.ret {σ : St} {P : St → Prop} (h : P σ) : VS n C σ P := fun H a w G => ⟨σ, H, h, G⟩
theorem AW.range {g : Operand} {ps : Array Tmp} {assign body : Code} {f : FuncId} {caps : List T} {fn : Func} {c : Code} (hg : (A7 s g).bind Kw = some (f, [], caps)) (hf : E.P.funcs[f]? = some fn) (hb : fn.body = some c) (hname : (fn.name == "runtime.NumGoroutine") = false)
  (hn : Nat.ble (caps.length + 1) fn.ntmps = true) (X : Exit → List Ob → Prop) (Z : List Ob → Prop)
  (walk : ∀ (Y : Yl) (C : Ctx), Y.ps = ps → Y.assign = assign → Y.body = body → Y.tmps.size = n → (∀ i x, get s i = some x → VR C.H0 (Y.tmps.getD i undef) x) →
   AW E fn.ntmps C c ⟨V7 0 (.v (.func (.yield Y.l) #[] #[]) :: caps), Y.ob .ready none :: ob⟩ (dX E fn (fun _ fp' => (∃ ob', Z ob' ∧ fp' = Y.ob .ready none :: ob') ∨ ∃ x c ob', Md x = some c ∧ X x ob' ∧ fp' = Y.ob .done (some c) :: ob')))
  (kz : ∀ ob', Z ob' → VS n C ⟨s, ob'⟩ (Q .normal)) (kx : ∀ x ob', X x ob' → Q x ⟨s, ob'⟩) : AW E n C (.rangeFunc g ps assign body) ⟨s, ob⟩ Q := by
 intro H a w M ro hro
 cases ro with
 | some l => exact absurd (hro rfl) (by simp [nd])
 | none =>
 refine wpIn_rangeFunc ?_
 intro fid _
 obtain ⟨y, hy, hfn⟩ := Option.bind_eq_some_iff.1 hg
 obtain ⟨first, G, hev, z1, z2, z3, z4⟩ := S2 (M.sr.eval hy) hfn
 have hfirst : first = #[] := by simpa using z1
 subst hfirst
 obtain ⟨Y, hY⟩ : ∃ Y : Yl, Y = ⟨w.heap.size + 1, fid, a.tmps, ps, assign, body, w.heap.size⟩ := ⟨_, rfl⟩
 obtain ⟨wD, hwD⟩ : ∃ wD, wD = w.alloc (.deferred (some [])) := ⟨_, rfl⟩
 obtain ⟨w1, ad⟩ : ∃ w1, w1 = wD.alloc (.loop (Y.lp .ready none)) := ⟨_, rfl⟩
 have hsD : wD.heap.size = w.heap.size + 1 := by rw [hwD]; simp
 have hs1 : w1.heap.size = w.heap.size + 2 := by rw [ad]; simp [hsD]
 have ab : ∀ b, b < w.heap.size → w1.heap[b]? = w.heap[b]? := fun b hb => by
  rw [ad, heap_alloc_old wD _ (by omega), hwD, heap_alloc_old w _ hb]
 have hDD : w1.heap[w.heap.size]? = some (.deferred (some [])) := by
  rw [ad, heap_alloc_old wD _ (by omega), hwD]; exact World.alloc_heap_new w _
 have hll : w1.heap[Y.l]? = some (.loop (Y.lp .ready none)) := by
  have : Y.l = wD.heap.size := by rw [hY, hsD]
  rw [ad, this]; exact World.alloc_heap_new wD _
 have hYl : Y.l = w.heap.size + 1 := by rw [hY]
 have hYt : Y.tmps = a.tmps := by rw [hY]
 obtain ⟨HD, hHD⟩ : ∃ HD : GH, HD = fun b => if b = w.heap.size then some (.deferred (some [])) else H b := ⟨_, rfl⟩
 have hlt : ∀ b o, H b = some o → b < w.heap.size := fun b o h => (Array.getElem?_eq_some_iff.1 (M.held b o h)).1
 have O : ∀ b o, H b = some o → HD b = some o := fun b o h => by
  have := hlt b o h
  rw [hHD]; simp only [show b ≠ w.heap.size by omega, if_false]; exact h
 have aa : ∀ b, b ≠ w.heap.size → HD b = H b := fun b hb => by rw [hHD]; simp only [hb, if_false]
 have hheldD : ∀ b o, HD b = some o → w1.heap[b]? = some o := fun b o h => by
  by_cases hb : b = w.heap.size
  ·rw [hHD] at h; simp only [hb, if_true] at h; rw [hb]; rw [hDD]; exact h
  ·rw [aa b hb] at h; rw [ab b (hlt b o h)]; exact M.held b o h
 have hHl : ∀ b, w.heap.size < b → HD b = none := fun b hb => by
  rw [aa b (by omega)]
  cases h : H b with
  | none => rfl
  | some o => have := hlt b o h; omega
 have hobl : ∀ p, p ∈ ob → ∀ b, b ∈ p.fp → b < w.heap.size := fun p W b hb => (M.objs p W).lt b hb
 have ac : rA HD w1 (Y.ob .ready none :: ob) := by
  refine ⟨⟨hheldD, fun b l h => (C.hg b l h).mono (fun b o h => O b o (M.grow b o h))⟩, fun p W => ?_, ?_⟩
  ·rcases List.mem_cons.1 W with rfl | W
   ·refine ⟨hll, fun b hb => ?_⟩
    simp only [Yl.ob, Ob.fp, List.mem_singleton] at hb
    exact hHl b (by omega)
   ·refine ⟨(M.objs p W).mono O (fun b hb => ab b (hobl p W b hb)), fun b hb => ?_⟩
    rw [aa b (by have := hobl p W b hb; omega)]; exact M.free p W b hb
  ·rw [List.flatMap_cons, List.nodup_append]
   refine ⟨by simp [Yl.ob, Ob.fp], M.nodup, fun x hx y hy hxy => ?_⟩
   simp only [Yl.ob, Ob.fp, List.mem_singleton] at hx
   obtain ⟨p, W, hb⟩ := List.mem_flatMap.1 hy
   have := hobl p W y hb
   omega
 have hcall := Ki (E := E) hf hb (xs := .v (.func (.yield Y.l) #[] #[]) :: caps) (by simpa using hn) (H := HD) (w := w1) (vs := #[.func (.yield Y.l) #[] #[]] ++ G) (by simp [z2]; omega)
  (fun i x hi => by
   cases i with
   | zero => simp at hi; subst hi; simpa [Array.getD_eq_getD_getElem?, Array.getElem?_append] using VR.v _
   | succ i =>
    have := (z4 i x (by simpa using hi)).mono O
    simpa [Array.getD_eq_getD_getElem?, Array.getElem?_append, List.getD] using this)
  ac.1 ac.2.1 ac.2.2 (walk Y ⟨w1, HD, _, ac.1.2⟩ (by rw [hY]) (by rw [hY]) (by rw [hY]) (by rw [hY]; exact M.size) (fun i x hx => hYt.symm ▸ (M.slots i x hx).mono O))
 refine ⟨Y.l, [{ target := .collected w.heap.size, args := #[] }], w1, { target := .fn (.func f) G, args := #[.func (.yield Y.l) #[] #[]] }, w1, f, #[.func (.yield Y.l) #[] #[]] ++ G, w1, ?_, ?_, fun _ _ => trivial, ?_, fun h => (by cases h), ?_⟩
 ·have := run_enterLoop_outer (P := E.P) (w := w) fid a.tmps ps assign body
  rw [hYl, ad, hwD, hY]; exact this
 ·simp [resolve, hev, Deferred.ofValue]; rfl
 ·have f3 : ¬ fn.body = none := by rw [hb]; simp
  have f2 : ¬ fn.name = "runtime.NumGoroutine" := by simpa using hname
  simp [invoke, callFunc, hf, f2, f3]
 ·refine (callsIn_wide.2 hcall).mono ?_
  rintro e w3 ⟨v, x, fp', H3, rfl, hq, _, ⟨l1, l2, l3, l4, l5, l6, l7⟩⟩
  have fin : ∀ (st : LoopState) (pe : Option Code) (ob' : List Ob), st ≠ .busy → fp' = Y.ob st pe :: ob' → (Instr.endLoop Y.l).run E.P w3 = .ok pe (w3.putObj Y.l (.loop { Y.lp st pe with state := .exhausted })) ∧
    Gam n C ⟨s, ob'⟩ H3 { a with defers := { target := .collected w.heap.size, args := #[] } :: a.defers } (w3.putObj Y.l (.loop { Y.lp st pe with state := .exhausted })) := by
   intro st pe ob' hst he
   subst he
   have hl3 : w3.heap[Y.l]? = some (.loop (Y.lp st pe)) := (l3 (Y.ob st pe) (by simp)).1
   have hl3H : H3 Y.l = none := ((l3 (Y.ob st pe) (by simp)).2 Y.l (by simp [Yl.ob, Ob.fp])).1
   have hoth : ∀ b, b ≠ Y.l → (w3.putObj Y.l (.loop { Y.lp st pe with state := .exhausted })).heap[b]? = w3.heap[b]? := fun b hb => World.putObj_heap_other hb
   have hne : ∀ p, p ∈ ob' → ∀ b, b ∈ p.fp → b ≠ Y.l := fun p W b hb he => by
    rw [List.flatMap_cons, List.nodup_append] at l4
    exact l4.2.2 Y.l (by simp [Yl.ob, Ob.fp]) b (List.mem_flatMap.2 ⟨p, W, hb⟩) he.symm
   refine ⟨run_endLoop hl3 hst, ⟨?_, M.size, fun i x hx => (M.slots i x hx).mono (fun b o h => l1 _ _ (O _ _ h)), fun p W => (l3 p (by simp [W])).1.mono (fun _ _ h => h) (fun b hb => hoth b (hne p W b hb)), fun p W b hb => ((l3 p (by simp [W])).2 b hb).1, fun p W b hb => ?_, ?_, fun b o hb => ?_, fun b o hb => l1 _ _ (O _ _ (M.grow _ _ hb)), ?_, fun b hb hf => ?_, ?_⟩⟩
   ·refine ⟨List.nodup_cons.2 ⟨fun hm => ?_, M.defers.1⟩, fun d hd => ?_⟩
    ·obtain ⟨b, e1, e2, e3⟩ := M.defers.2 _ hm
     have := hlt b _ e2
     simp only [Deferred.mk.injEq, Target.collected.injEq] at e1
     omega
    ·rcases List.mem_cons.1 hd with rfl | hd
     ·exact ⟨w.heap.size, rfl, l1 _ _ (by rw [hHD]; simp), M.heap⟩
     ·obtain ⟨b, e1, e2, e3⟩ := M.defers.2 d hd
      exact ⟨b, e1, l1 _ _ (O _ _ e2), e3⟩
   ·rcases ((l3 p (by simp [W])).2 b hb).2 with h | h
    ·exact .inl (Nat.le_trans M.heap (by omega))
    ·rw [List.flatMap_cons, List.mem_append] at h
     rcases h with h | h
     ·simp only [Yl.ob, Ob.fp, List.mem_singleton] at h
      exact absurd h (hne p W b hb)
     ·obtain ⟨q, hq, hbq⟩ := List.mem_flatMap.1 h
      exact M.new q hq b hbq
   ·rw [List.flatMap_cons, List.nodup_append] at l4; exact l4.2.1
   ·have : b ≠ Y.l := fun he => by rw [he, hl3H] at hb; cases hb
    rw [hoth b this]; exact l2 _ _ hb
   ·have := M.heap; simp; omega
   ·have hb' : b < w.heap.size := Nat.lt_of_lt_of_le hb M.heap
    have hbl : b ≠ Y.l := by omega
    have hnf : b ∉ (Y.ob .ready none :: ob).flatMap Ob.fp := fun hm => by
     rw [List.flatMap_cons, List.mem_append] at hm
     rcases hm with h | h
     ·simp only [Yl.ob, Ob.fp, List.mem_singleton] at h; exact hbl h
     ·obtain ⟨q, hq, hbq⟩ := List.mem_flatMap.1 h
      rcases M.new q hq b hbq with h | h
      ·omega
      ·exact hf h
    have h7 := l7 b (by omega) hnf
    have hfr := M.frame b hb hf
    refine ⟨(hoth b hbl).trans (h7.1.trans ((ab b hb').trans hfr.1)), h7.2.trans ((aa b (by omega)).trans hfr.2)⟩
   ·have e := M.env
    obtain ⟨e1, e2, e3⟩ := l6
    rw [ad, hwD] at e1 e2 e3
    exact ⟨e1.trans e.1, e2.trans e.2.1, e3.trans e.2.2⟩
  rcases hq with ⟨ob', hZ, he⟩ | ⟨x, c', ob', hj, hX, he⟩
  ·obtain ⟨f1, f2⟩ := fin _ _ ob' (by simp) he
   exact ⟨none, _, f1, kz ob' hZ H3 _ _ f2⟩
  ·obtain ⟨f1, f2⟩ := fin _ _ ob' (by simp) he
   refine ⟨some c', _, f1, ?_⟩
   cases x with
   | ret => simp only [Md, Option.some.injEq] at hj; subst hj; exact wpIn_ret ⟨_, H3, kx _ ob' hX, f2⟩
   | exit id => simp only [Md, Option.some.injEq] at hj; subst hj; exact wpIn_exit ⟨_, H3, kx _ ob' hX, f2⟩
   | _ => simp [Md] at hj
def tO (E : Env) (f : FuncId) (caps : List T) (W : List Ob → Prop) (vals : List (List T)) : Prop :=
 ∃ M c, E.P.funcs[f]? = some M ∧ M.body = some c ∧ (M.name == "runtime.NumGoroutine") = false ∧ Nat.ble (caps.length + 1) M.ntmps = true ∧
  ∀ (C : Ctx) (Y : Yl) (J : Nat → List Ob → Prop) (X : Exit → List Ob → Prop) (ob : List Ob), J 0 ob → (∀ k ob, J k ob → W ob) →
   (∀ k v ob, vals[k]? = some v → J k ob → Round E C.H0 Y v ob (J (k + 1)) X) →
   AW E M.ntmps C c ⟨V7 0 (.v (.func (.yield Y.l) #[] #[]) :: caps), Y.ob .ready none :: ob⟩
    (dX E M (fun _ O => (∃ G, J vals.length G ∧ O = Y.ob .ready none :: G) ∨ ∃ x c G, Md x = some c ∧ X x G ∧ O = Y.ob .done (some c) :: G))
def qY (s : Au) (M : St → Prop) (Q : Exit → St → Prop) : Exit → St → Prop
 | .normal, σ => M σ
 | .ret, σ => ∃ G, OL G σ ∧ Q .ret ⟨s, G⟩
 | .exit id, σ => ∃ G, OL G σ ∧ Q (.exit id) ⟨s, G⟩
 | _, _ => False
theorem OL.all {σ : St} : OL σ.objs σ := ⟨List.range σ.objs.length, by
 have : ∀ (l G : List Ob), Cv (G ++ l) (List.range' G.length l.length) = some l := by
  intro l
  induction l with
  | nil => intro G; simp [Cv]
  | cons a l ih =>
   intro G
   have := ih (G ++ [a])
   simp only [List.length_append, List.length_cons, List.length_nil, List.append_assoc, List.cons_append, List.nil_append] at this
   simp only [List.length_cons, List.range'_succ, Cv, List.getElem?_append_right (Nat.le_refl _), Nat.sub_self, List.getElem?_cons_zero, this]
 have h := this σ.objs []
 rw [List.range_eq_range']; exact h, List.nodup_range⟩
theorem OL.app {s : Au} {l its : List Ob} : OL l ⟨s, l ++ its⟩ := ⟨List.range l.length, by
 have : ∀ (l G : List Ob), Cv (G ++ l ++ its) (List.range' G.length l.length) = some l := by
  intro l
  induction l with
  | nil => intro G; simp [Cv]
  | cons a l ih =>
   intro G
   have := ih (G ++ [a])
   simp only [List.length_append, List.length_cons, List.length_nil, List.append_assoc, List.cons_append, List.nil_append] at this
   have M : (G ++ (a :: l) ++ its)[G.length]? = some a := by simp
   simp only [List.length_cons, List.range'_succ, Cv, M]
   simp only [List.append_assoc, List.cons_append] at this ⊢
   rw [this]
 have h := this l []
 rw [List.range_eq_range']; simpa using h, List.nodup_range⟩
theorem Ng {t : TypeId} {x y : Operand} {ti : TI} {c : T} {cs : List T} {b off tt sz cap : Nat} {es es' : List (List T)} (i j : Nat) {e : List T} {ty : TypeId} {pos : String} {aft : Array Edge} {g : Option (Nat × Bool)}
  (W : E.tab t = some ti) (Z : A7 s x = some (.v (.pointer (some ⟨b, off, none⟩)))) (he : es[i]? = some e) (O : off = i * sz + j)
  (hy : A7 s y = some c) (hc : Eh c = some cs) (hsz : ti.size = cs.length) (M : j + cs.length ≤ e.length) (G : es.set i (E3 e j cs) = es')
  (kk : R ⟨s, ob ++ [.arr b tt sz cap es']⟩) :
  AX E n C [ob.length] ⟨none, .store t x y, ty, pos, aft, g⟩ ⟨s, ob ++ [.arr b tt sz cap es]⟩ R := by
 refine uL ob.length (tt := tt) (sz := sz) (cap := cap) i j W Z (by simp) he O hy hc hsz M rfl G ?_
 have : (ob ++ [Ob.arr b tt sz cap es]).set ob.length (Ob.arr b tt sz cap es') = ob ++ [Ob.arr b tt sz cap es'] := by simp
 dsimp only; rw [this]; exact kk
theorem Mr {M : TI} {cs : List T} {j : Nat} {y : T} (G : M.isAgg = false) (h : cs[j]? = some y) : Er M cs j = some y := by simp [Er, G, h]
def qZ (b i j : Nat) (x y : T) (ob : List Ob) : Prop := ∃ (k ty sz : Nat) (cs : List T), ob[k]? = some (Ob.arr b ty sz 1 [cs]) ∧ cs[i]? = some x ∧ cs[j]? = some y
theorem dD {α S : Type} {f : Nat → α → S → Option S} {l : List α} {k : Nat} {x : α} {o : S} (M : l[k]? = some x) {st : S} (h : forS f k (l.drop k) st = some o) : ∃ G, f k x st = some G ∧ forS f (k + 1) (l.drop (k + 1)) G = some o := by
 have W := (gs M).1
 rw [List.drop_eq_getElem_cons W] at h
 have O : l[k] = x := (gs M).2
 rw [O] at h
 simp only [forS] at h
 split at h
 ·cases h
 ·rename_i s' Z; exact ⟨s', Z, h⟩
theorem aE {α β : Type} {f : Nat → α → List β → Option (List β)} (hf : ∀ k x a r, f k x a = some r → ∃ t, r = a ++ t) : ∀ (l : List α) (k : Nat) (a r : List β), forS f k l a = some r → ∃ t, r = a ++ t
 | [], k, a, r, h => ⟨[], by simp only [forS, Option.some.injEq] at h; simp [h]⟩
 | x :: l, k, a, r, h => by
  simp only [forS] at h
  split at h
  ·cases h
  ·rename_i O G
   obtain ⟨t, rfl⟩ := hf _ _ _ _ G
   obtain ⟨M, rfl⟩ := aE hf l (k + 1) _ _ h
   exact ⟨t ++ M, by simp⟩
theorem V0 {g : Operand} {ps : Array Tmp} {assign body : Code} {f : FuncId} {caps : List T} {W : List Ob → Prop} {vals : List (List T)} {α S B : Type} {F : Nat → α → S → Option (S ⊕ B)} {l : List α} {st0 : S} {o : S ⊕ B} (h : forL F 0 l st0 = some o)
  (hI : tO E f caps W vals) (enc : α → List T) (hv : vals = l.map enc) (hg : (A7 s g).bind Kw = some (f, [], caps)) (hps : ∀ x, ps.toList.length = (enc x).length) (hpn : ps.toList.all (fun t => Nat.blt t n) = true) (hn1 : nd assign = true) (hn2 : nd body = true)
  (Φ : Nat → S → List Ob → Prop) {aa : List Ob} (h0 : Φ 0 st0 aa) (ho : ∃ p, Cv ob p = some aa ∧ p.Nodup) (Z : ∀ k st ob, Φ k st ob → W ob) {S1 : α → Au}
  (ha : ∀ (C : Ctx) (x : α) (ob : List Ob), AW E n C assign ⟨Z4 ps.toList (enc x) s, ob⟩ (fun e σ' => e = .normal ∧ σ' = ⟨S1 x, ob⟩))
  (round : ∀ (C : Ctx) (k : Nat) (x : α) (st : S) (r : S ⊕ B) ob, l[k]? = some x → k < l.length → Φ k st ob → F k x st = some r → (∀ b', r = .inr b' → .inr b' = o) →
   AW E n C body ⟨S1 x, ob⟩ (qY s (fun σ' => ∃ O ob', r = .inl O ∧ Φ (k + 1) O ob' ∧ OL ob' σ') Q))
  (fin : ∀ (st : S) ob, Φ l.length st ob → .inl st = o → VS n C ⟨s, ob⟩ (Q .normal)) : AW E n C (.rangeFunc g ps assign body) ⟨s, ob⟩ Q := by
 obtain ⟨p, hp1, hp2⟩ := ho
 refine uF (Ghost.pick p hp1 hp2) ?_
 obtain ⟨fn, c, i1, i2, i3, i4, i5⟩ := hI
 have hvl : vals.length = l.length := by rw [hv]; simp
 refine AW.range hg i1 i2 i3 i4 (fun x ob' => Q x ⟨s, ob'⟩) (fun ob' => ∃ st, Φ l.length st ob' ∧ .inl st = o) ?_ ?_ (fun x ob' hx => hx)
 ·intro Y C' y1 y2 y3 y4 y5
  have := i5 C' Y (fun k ob' => ∃ st, Φ k st ob' ∧ forL F k (l.drop k) st = some o) (fun x ob' => Q x ⟨s, ob'⟩) aa ⟨st0, h0, h⟩ (fun k ob' ⟨st, hΦ, _⟩ => Z k st ob' hΦ) ?_
  ·refine AW.mono this ?_
   rintro e σ' ⟨q1, xs, fp', M, q3, q4⟩
   refine ⟨q1, xs, fp', M, q3, ?_⟩
   rcases q4 with ⟨ob', ⟨st, q5, q6⟩, q7⟩ | q4
   ·rw [hvl] at q5 q6
    rw [List.drop_length] at q6
    simp only [forL, Option.some.injEq] at q6
    exact .inl ⟨ob', ⟨st, q5, q6⟩, q7⟩
   ·exact .inr q4
  ·rintro k v ob' hk ⟨st, hΦ, hl⟩
   rw [hv, List.getElem?_map] at hk
   obtain ⟨x, hx, rfl⟩ := Option.map_eq_some_iff.1 hk
   have hkl := (gs hx).1
   rw [dE hx] at hl
   cases hf : F k x st with
   | none => rw [hf] at hl; cases hl
   | some r =>
    rw [hf] at hl
    refine T2 (S := s) (S1 := S1 x) y4 y5 (by rw [y1]; exact hps x) (by rw [y1]; exact hpn) (by rw [y2]; exact hn1) (by rw [y3]; exact hn2) ?_ ?_
    ·intro C2
     rw [y1, y2]
     exact ha C2 x ob'
    ·intro C2 _
     rw [y3]
     refine AW.mono (round C2 k x st r ob' hx hkl hΦ hf (fun b' hb => by subst hb; simpa using hl)) ?_
     intro e σ' hq
     cases e with
     | normal =>
      obtain ⟨O, G, rfl, M, q3⟩ := hq
      exact ⟨G, q3, .inl ⟨rfl, O, M, hl⟩⟩
     | ret => obtain ⟨G, q1, M⟩ := hq; exact ⟨G, q1, .inr ⟨_, rfl, M⟩⟩
     | exit id => obtain ⟨G, q1, M⟩ := hq; exact ⟨G, q1, .inr ⟨_, rfl, M⟩⟩
     | _ => exact hq.elim
 ·rintro ob' ⟨st, q1, M⟩
  exact fin st ob' q1 M
theorem Ig {g : Operand} {ps : Array Tmp} {assign body : Code} {f : FuncId} {caps : List T} {G : List Ob → Prop} {vals : List (List T)} {α S : Type} {F : Nat → α → S → Option S} {l : List α} {st0 : S} {o : S} (h : forS F 0 l st0 = some o)
  (hI : tO E f caps G vals) (enc : α → List T) (hv : vals = l.map enc) (hg : (A7 s g).bind Kw = some (f, [], caps)) (ae : ∀ x, ps.toList.length = (enc x).length) (ad : ps.toList.all (fun t => Nat.blt t n) = true) (ab : nd assign = true) (ac : nd body = true)
  (Φ : Nat → S → List Ob → Prop) {W : List Ob} (h0 : Φ 0 st0 W) (ho : ∃ p, Cv ob p = some W ∧ p.Nodup) (M : ∀ k st ob, Φ k st ob → G ob) {S1 : α → Au}
  (ha : ∀ (C : Ctx) (x : α) (ob : List Ob), AW E n C assign ⟨Z4 ps.toList (enc x) s, ob⟩ (fun e σ' => e = .normal ∧ σ' = ⟨S1 x, ob⟩))
  (O : ∀ (C : Ctx) (k : Nat) (x : α) (st : S) (r : S) ob, l[k]? = some x → k < l.length → Φ k st ob → F k x st = some r →
   AW E n C body ⟨S1 x, ob⟩ (qY s (fun σ' => ∃ ob', Φ (k + 1) r ob' ∧ OL ob' σ') Q))
  (Z : ∀ (st : S) ob, Φ l.length st ob → st = o → VS n C ⟨s, ob⟩ (Q .normal)) : AW E n C (.rangeFunc g ps assign body) ⟨s, ob⟩ Q := by
 refine V0 (aF l 0 st0 o h) hI enc hv hg ae ad ab ac Φ h0 ho M ha ?_ ?_
 ·intro C k x st r ob hx aa hΦ hr _
  obtain ⟨r', af, rfl⟩ := Option.map_eq_some_iff.1 hr
  refine AW.mono (O C k x st r' ob hx aa hΦ af) ?_
  intro e σ' hq
  cases e with
  | normal => obtain ⟨ob', q1, q2⟩ := hq; exact ⟨r', ob', rfl, q1, q2⟩
  | _ => exact hq
 ·intro st ob hΦ he
  exact Z st ob hΦ (by cases he; rfl)
end
section
variable {E : Env} {n : Nat} {C : Ctx} {σ : St} {s : Au} {ob : List Ob} {ops : Array Oper} {b0 : Nat} {F : List (Nat × T)} {so : Au} {R : St → Prop} {Q : Exit → St → Prop} {i : Nat} {r : PL}
def dY (Hs : GH) (b0 : Nat) (F : List (Nat × T)) (G : Nat → Value) (w : World) : Prop := (∀ b o, Hs b = some o → w.heap[b]? = some o) ∧ ∀ p, p ∈ F → w.cell? ⟨b0, p.1, none⟩ = some (G p.1)
theorem Un {w w' : World} {b o : Nat} (h : w'.heap[b]? = w.heap[b]?) : w'.cell? ⟨b, o, none⟩ = w.cell? ⟨b, o, none⟩ := by simp only [World.cell?, h]
def AQ (E : Env) (n : Nat) (C : Ctx) (ops : Array Oper) (b0 : Nat) (F : List (Nat × T)) (pl : PL) (so : Au) (σ : St) (R : St → Prop) : Prop :=
 ∀ Hs (G : Nat → Value) H a w, SR n so Hs a → (∀ p, p ∈ F → VR Hs (G p.1) p.2) → dY Hs b0 F G w → (∀ b o, Hs b = some o → H b = some o) → Gam n C σ H a w →
  Dg E.P ops (fun e M O => e = .normal ∧ ∃ σ' H', R σ' ∧ Gam n C σ' H' M O) (dY Hs b0 F G) pl a w
theorem Xs (h : AO E n C ops [] σ R) : AQ E n C ops b0 F .nil so σ R := fun _ _ H a w _ _ _ _ G => h H a w G
theorem AQ.two {i j : Nat} {r1 r2 : PL} (h1 : AQ E n C ops b0 F (.act i r1) so σ R) (h2 : AQ E n C ops b0 F (.act j r2) so σ R) : AQ E n C ops b0 F (.two i j r1 r2) so σ R :=
 fun Hs M H a w sr Z G W O => ⟨h1 Hs M H a w sr Z G W O, h2 Hs M H a w sr Z G W O⟩
theorem AQ.ghost {s' : Au} {ob' : List Ob} (h : Ghost n C s ob s' ob') (k : AQ E n C ops b0 F r so ⟨s', ob'⟩ R) : AQ E n C ops b0 F r so ⟨s, ob⟩ R := by
 intro Hs M H a w sr hv G Z O
 obtain ⟨H', W, g⟩ := h H a w O
 exact k Hs M H' a w sr hv G (fun b o hb => W _ _ (Z _ _ hb)) g
theorem AQ.one (q : Nat) {v : Value} {tt sz : Nat} {es : List (List T)} (Z : ob[q]? = some (.us v tt sz es)) (k : v.oneCell' = true → AQ E n C ops b0 F r so ⟨s, ob⟩ R) : AQ E n C ops b0 F r so ⟨s, ob⟩ R :=
 fun Hs O H a w sr hv M W G => k (UsR.one (show UsR H w v tt sz es from G.objs _ (mg Z))) Hs O H a w sr hv M W G
theorem AQ.o {d : Nat} {op : Op} {ty : TypeId} {pos : String} {aft : Array Edge} {x : T} (ho : ops[i]? = some ⟨some d, op, ty, pos, aft, none⟩) (hy : Yd E.P n so [] ⟨some d, op, ty, pos, aft, none⟩ x) (hd : Nat.blt d n = true)
  (k : AQ E n C ops b0 F r ((d, x) :: so) ⟨(d, x) :: s, ob⟩ R) : AQ E n C ops b0 F (.still i r) so ⟨s, ob⟩ R := by
 intro Hs fv H a w sr hv W hH gm
 obtain ⟨v, O, M⟩ := hy Hs a w sr ⟨by simp, W.1⟩
 have G : ∀ Z, some d = some Z → Z < n := By hd
 refine ⟨_, v, ho, .inl ⟨by simp [Region.wanted], fun w' hw => M w' ⟨hw.1, by simp⟩⟩, W, ?_⟩
 exact k Hs fv H _ w (sr.put (dst := some d) O G) hv W hH (gm.put (dst := some d) (O.mono hH) G)
theorem AQ.p {d : Nat} {G : Op} {ty : TypeId} {pos : String} {aft : Array Edge} {x : T} (O : ops[i]? = some ⟨some d, G, ty, pos, aft, none⟩) (W : Yp E.P n so ⟨some d, G, ty, pos, aft, none⟩ x) (M : Nat.blt d n = true)
  (k : AQ E n C ops b0 F r ((d, x) :: so) ⟨(d, x) :: s, ob⟩ R) : AQ E n C ops b0 F (.still i r) so ⟨s, ob⟩ R := AQ.o O W.yd M k
theorem rC (j : Nat) {d : Nat} {t : TypeId} {x : Operand} {ty : TypeId} {pos : String} {aft : Array Edge} {off : Nat} {y : T} {fi : TI} (ho : ops[i]? = some ⟨some d, .load t x, ty, pos, aft, none⟩) (ht : E.tab t = some fi) (O : fi.isAgg = false)
  (hx : A7 so x = some (.v (.pointer (some ⟨b0, off, none⟩)))) (hF : F[j]? = some (off, y)) (hd : Nat.blt d n = true)
  (k : AQ E n C ops b0 F r ((d, y) :: so) ⟨(d, y) :: s, ob⟩ R) : AQ E n C ops b0 F (.still i r) so ⟨s, ob⟩ R := by
 intro Hs fv H a w sr hv Z hH gm
 have hm := mg hF
 have M := hv _ hm
 have G : ∀ d', some d = some d' → d' < n := By hd
 have W := sr.evalv hx
 refine ⟨_, fv off, ho, .inl ⟨by simp [Region.wanted], fun w' hw => ?_⟩, Z, ?_⟩
 ·have hc := hw.2 _ hm
  simp [execOp, W, Instr.loadAt, Instr.sureAddr, loadVar, Fr (E.ok _ _ ht), O, hc]
 ·exact k Hs fv H _ w (sr.put (dst := some d) M G) hv Z hH (gm.put (dst := some d) (M.mono hH) G)
theorem AQ.act {σ : St} {o : Oper} (md : List Nat) (kb : Nat) {tt sz cap : Nat} {es : List (List T)} (ho : ops[i]? = some o) (hg : o.guard = none) (hk : σ.objs[kb]? = some (.arr b0 tt sz cap es)) (hm : md.contains kb = false)
  (h : AX E n C md o σ (fun σ' => AQ E n C ops b0 F r so σ' R)) (hf : free so o.dst = true := by rfl) : AQ E n C ops b0 F (.act i r) so σ R := by
 intro Hs fv H a w sr hv ag hH gm
 simp only [Dg, wpOp, ho]
 rw [if_pos (by simp [Region.wanted, hg])]
 refine .inl (Dh ?_ (fun _ _ _ h => h.elim) (h H a w gm))
 rintro a' w' ⟨σ', H', v, hr, M, W, O, Z⟩
 have G : dY Hs b0 F fv w' := ⟨fun b o hb => M.held _ _ (O _ _ (hH _ _ hb)), fun p hp => (Un ((Z kb _ hk hm).2 b0 (by simp [Ob.fp]))).trans (ag.2 p hp)⟩
 exact ⟨G, hr Hs fv H' a' w' (by rw [W]; exact sr.free _ _ hf) hv G (fun b o hb => O _ _ (hH _ _ hb)) M⟩
theorem T9 (k : Nat) {t : TypeId} {x y : Operand} {ty : TypeId} {pos : String} {aft : Array Edge} {ti : TI} {c : T} {cs : List T} {off tt sz : Nat} {e e' : List T} (ho : ops[i]? = some ⟨none, .store t x y, ty, pos, aft, none⟩)
  (ht : E.tab t = some ti) (hx : A7 s x = some (.v (.pointer (some ⟨b0, off, none⟩)))) (hk : ob[k]? = some (.arr b0 tt sz 1 [e]))
  (hy : A7 s y = some c) (hc : Eh c = some cs) (hsz : ti.size = cs.length) (hj : off + cs.length ≤ e.length) (hes : E3 e off cs = e') (hF : (F.all fun p => Nat.blt p.1 off || Nat.ble (off + cs.length) p.1) = true)
  (kk : AQ E n C ops b0 F r so ⟨s, ob.set k (.arr b0 tt sz 1 [e'])⟩ R) : AQ E n C ops b0 F (.act i r) so ⟨s, ob⟩ R := by
 subst hes
 intro Hs fv H a w sr hv ag hH gm
 simp only [Dg, wpOp, ho]
 rw [if_pos (by simp [Region.wanted])]
 have af : ArrR H w b0 tt sz 1 [e] := gm.objs _ (mg hk)
 have ah := af
 obtain ⟨G, a1, a2, a3, a4, a5, a6⟩ := ah
 have M := Hf (gm.sr.eval hy) hc
 have hel : e.length = sz := a5 0 e (by simp)
 obtain ⟨w', h1, h2, h3, h4, h5⟩ := Ih (E := E) (off := off) 0 off af (by simp) (by simp) (news := (a.eval y).cells.toList) (by simpa using M.1) M.all1 (fun i x hx => by
  have := (M.2 i x hx).2
  simpa [Array.getD_eq_getD_getElem?, List.getD] using this) hj
 have Z : (a.eval y).cells.toList.length = cs.length := by simpa using M.1
 have W := run_storeCells_at (P := E.P) b0 off tt (a.eval y).cells.toList 0 G w a1 (by rw [Z]; omega) M.all1
 simp only [Nat.add_zero] at W
 rw [W] at h1
 have ak : w' = w.setRow b0 (G.toList.take off ++ (a.eval y).cells.toList ++ G.toList.drop (off + (a.eval y).cells.toList.length)).toArray := by
  injection h1 with _ h; exact h.symm
 have aj : (execOp a.eval ⟨none, .store t x y, ty, pos, aft, none⟩).run E.P w = .ok .skip w' := by
  have hev := gm.sr.evalv hx
  rw [ak]
  simp [execOp, Instr.storeAt, Instr.sureAddr, hev, storeVar, Ch (E.ok _ _ ht), hsz, show (a.eval y).cells.size = cs.length from M.1] at W ⊢
  simp [W]
 refine .inl ?_
 simp only [Oper.wp, aj, Oper.upon]
 have ad : Gam n C ⟨s, ob.set k (.arr b0 tt sz 1 [E3 e off cs])⟩ H (a.put none undef) w' :=
  gm.set hk h3 (by omega) (fun i _ hi => h5 i (by simpa [Ob.fp] using hi)) (o' := .arr b0 tt sz 1 [E3 e off cs]) h2 (fun b hb => .inr hb) (by simp [Ob.fp])
 have ac : dY Hs b0 F fv w' := by
  refine ⟨fun b o hb => ad.held _ _ (hH _ _ hb), fun p hp => ?_⟩
  have ai := List.all_eq_true.1 hF p hp
  simp only [Bool.or_eq_true] at ai
  have O := ag.2 p hp
  have ae : p.1 < G.size := by
   simp only [World.cell?, a1] at O
   exact (Array.getElem?_eq_some_iff.1 (by simpa using O)).1
  have ab : G.getD p.1 undef = fv p.1 := by
   have := Ka a1 ae
   rw [O] at this; exact (Option.some.inj this).symm
  have aa := setRow_heap w b0 G (G.toList.take off ++ (a.eval y).cells.toList ++ G.toList.drop (off + (a.eval y).cells.toList.length)).toArray tt (0, 0) a1
  rw [← ak] at aa
  have hns : (G.toList.take off ++ (a.eval y).cells.toList ++ G.toList.drop (off + (a.eval y).cells.toList.length)).toArray.size = G.size := by
   simp only [List.size_toArray, List.length_append, List.length_take, List.length_drop, Array.length_toList, Z]; omega
  rw [Ka aa (by rw [hns]; exact ae), Jy (by rw [Z]; omega), if_neg ?_, ab]
  rintro ⟨q1, q2⟩
  rw [Z] at q2
  rcases ai with h | h
  ·have := Nat.le_of_ble_eq_true h; omega
  ·have := Nat.le_of_ble_eq_true h; omega
 exact ⟨ac, kk Hs fv H _ w' sr hv ac hH ad⟩
theorem tI {id : Nat} (pl : PL) (k b0 : Nat) {tt sz : Nat} {G : List T} (F : List (Nat × T)) (hk : ob[k]? = some (.arr b0 tt sz 1 [G])) (hF : F.map (fun p => G[p.1]?) = F.map (fun p => some p.2))
  (h : AQ E n C ops b0 F pl s ⟨s, ob⟩ (fun σ' => Q .normal σ')) (hB : P9 ops pl = true := by kernel_rfl) : AW E n C (.region id ops true) ⟨s, ob⟩ Q := by
 intro H a w gm
 have hor : ArrR H w b0 tt sz 1 [G] := gm.objs _ (mg hk)
 obtain ⟨aa, a1, a2, a3, a4, a5, a6⟩ := hor
 have hel : G.length = sz := a5 0 G (by simp)
 have M : ∀ p, p ∈ F → G[p.1]? = some p.2 := fun p Z => List.map_inj_left.1 hF p Z
 obtain ⟨O, W⟩ : ∃ O : Nat → Value, O = fun o => aa.getD o undef := ⟨_, rfl⟩
 have ag : dY H b0 F O w.drew := by
  refine ⟨gm.held, fun p Z => ?_⟩
  have hlt := (gs (M p Z)).1
  rw [W]
  exact (Un rfl).trans (Ka a1 (by omega))
 refine Iv (Kg (S := dY H b0 F O) E.mixed pl hB (Q := fun e a' w' => e = .normal ∧ ∃ σ' H', Q .normal σ' ∧ Gam n C σ' H' a' w') ?_ ?_ ?_) ?_
 ·rintro c a w ⟨h, _⟩; cases h
 ·rintro ⟨a, w, h, _⟩; cases h
 ·have gd := gm.drew
  exact h H O H a w.drew gd.sr (fun p Z => by
   have := (a6 0 G (by simp) p.1 p.2 (M p Z)).2
   rw [W]; simpa using this) ag (fun _ _ h => h) gd
 ·rintro e a' w' ⟨rfl, σ', H', q, g'⟩
  exact ⟨σ', H', q, g'⟩
end
open Go.Sem
variable {E : Env} {n : Nat} {C : Ctx} {σ : St} {dst : Option Tmp} {ty : TypeId} {pos : String} {aft : Array Edge} {g : Option (Nat × Bool)}
theorem sR (ks m : Nat) {x hi : Operand} {t : TypeId} {ti ei : TI} {e tt sz : Nat} {v : Value} {es : List (List T)} {R : St → Prop}
  (hx : A7 σ.slots x = some (.v v)) (O : σ.objs[ks]? = some (.us v tt sz es)) (hh : A7 σ.slots hi = some (.v (.int .i64 (m : Int)))) (W : m ≤ es.length)
  (k : ∀ M, R ⟨Fb σ.slots dst (.v M), σ.objs.set ks (.us M tt sz (es.take m))⟩)
  (ht : E.tab t = some ti := by exact rfl) (hk : ti.kind = .slice e := by exact rfl) (he : E.tab e = some ei := by exact rfl) (hd : ∀ d, dst = some d → d < n := by exact By rfl) :
  AX E n C [ks] ⟨dst, .slice t x none (some hi) none, ty, pos, aft, g⟩ σ R := by
 refine AX.value fun H a w gm => ?_
 have hu := Ep (E.ok _ _ ht) hk
 have r := gm.sr
 have Z := mg O
 have hex : ∀ w, (execOp a.eval ⟨dst, .slice t x none (some hi) none, ty, pos, aft, g⟩).run E.P w = ((Instr.sliceAt t v none (some (a.eval hi)) none).run E.P w).andThen fun a w => .ok (.value a) w := by
  intro w
  simp only [execOp, r.evalv hx, Sem.run_bind, Option.map_none, Option.map_some]
  rfl
 have ab : ∀ (i : Nat) (e' : List T), (es.take m)[i]? = some e' → es[i]? = some e' := fun i e' G => by
  rw [List.getElem?_take_of_lt (by have := (gs G).1; simp at this; omega)] at G; exact G
 have aa : ∃ M, (Instr.sliceAt t v none (some (a.eval hi)) none).run E.P w = .ok M w ∧ UsR H w M tt sz (es.take m) ∧ ∀ b, b ∈ Hj M → b ∈ Hj v := by
  rcases gm.objs _ Z with ⟨rfl, rfl⟩ | ⟨b, c, cap, rfl, p1, p2, cs, a1, a2, a3, a4, a5, a6⟩
  ·have : m = 0 := by simpa using W
   subst this
   have hb := Ey (P := E.P) (w := w) r (isS := true) (len := 0) (cap := 0) (l := 0) (h := 0) (m := 0) (lo := none) (hi := some hi) (mx := none) rfl ⟨_, _, hh, rfl⟩ rfl (fun h => by cases h) (Nat.le_refl _) (Nat.le_refl _) (Nat.le_refl _)
   simp only [Option.map_none, Option.map_some] at hb
   refine ⟨.slice none 0 0, ?_, .inl ⟨rfl, by simp⟩, fun b hb => hb⟩
   simp [Instr.sliceAt, Instr.slice, run_underlying hu, hb, Ch (E.ok _ _ he)]
  ·have hb := Ey (P := E.P) (w := w) r (isS := true) (len := es.length) (cap := c) (l := 0) (h := m) (m := c) (lo := none) (hi := some hi) (mx := none) rfl ⟨_, _, hh, rfl⟩ rfl (fun h => by cases h) (Nat.zero_le _) (by omega) (Nat.le_refl _)
   simp only [Option.map_none, Option.map_some] at hb
   refine ⟨.slice (some ⟨b, 0, none⟩) m c, ?_, .inr ⟨b, c, cap, by rw [List.length_take, Nat.min_eq_left W], by rw [List.length_take, Nat.min_eq_left W]; omega, p2, cs, a1, a2, by rw [List.length_take, Nat.min_eq_left W]; omega, by rw [List.length_take, Nat.min_eq_left W]; omega, fun i e' G => a5 i e' (ab i e' G), fun i e' G => a6 i e' (ab i e' G)⟩, fun b' hb' => by simpa [Hj] using hb'⟩
   simp only [Instr.sliceAt, Instr.slice, Sem.run_bind, run_underlying hu, Result.andThen_ok, hb, Ch (E.ok _ _ he), Sem.run_pure]
   by_cases hml : c = 0 <;> simp [hml, Du]
 obtain ⟨M, h1, h2, h3⟩ := aa
 refine ⟨M, w, _, H, by rw [hex, h1]; rfl, k M, ?_, fun _ _ h => h, fun i p hp hmd => ?_⟩
 ·have := (gm.set (o' := .us M tt sz (es.take m)) O ⟨rfl, rfl, rfl⟩ (Nat.le_refl _) (fun _ _ _ => rfl) h2 (fun b hb => .inr (h3 b hb)) (Ic M)).put (dst := dst) (.v M) hd
  cases dst <;> exact this
 ·have hne : ks ≠ i := fun h => by subst h; simp at hmd
  exact ⟨Ia hp hne, fun b hb => rfl⟩
theorem dQ {α : Type} {fr : α → List T} {la W : List α} {b : Int} (ks : Nat) {d : Nat} {x hi : Operand} {t : TypeId} {ti ei : TI} {e tt sz : Nat} {v : Value} {R : St → Prop}
  (M : σ.objs[ks]? = some (.us v tt sz (la.map fr))) (ha : Tu la 0 b = some W) (k : ∀ G, R ⟨Fb σ.slots (some d) (.v G), σ.objs.set ks (.us G tt sz (W.map fr))⟩)
  (hx : A7 σ.slots x = some (.v v) := by exact rfl) (hh : A7 σ.slots hi = some (.v (.int .i64 b)) := by exact rfl)
  (ht : E.tab t = some ti := by exact rfl) (hk : ti.kind = .slice e := by exact rfl) (he : E.tab e = some ei := by exact rfl) (hd : Nat.blt d n = true := by exact rfl) :
  AX E n C [ks] ⟨some d, .slice t x none (some hi) none, ty, pos, aft, g⟩ σ R := by
 obtain ⟨p, q, h1, rfl, h2, Z, O⟩ := Jw ha
 have : p = 0 := by omega
 subst this
 rw [List.drop_zero, Nat.sub_zero] at O
 subst O
 refine sR ks q hx M hh (by rw [List.length_map]; exact Z) (fun G => ?_) ht hk he (By hd)
 rw [← List.map_take]
 exact k G
end Go.Aw
