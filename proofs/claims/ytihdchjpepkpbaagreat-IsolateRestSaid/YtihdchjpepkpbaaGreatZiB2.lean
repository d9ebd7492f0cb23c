/- A program logic over the model. No condition. -/
import Derived.Test.YtihdchjpepkpbaaGreatZiB1
import Derived.Laws.IdiomStrings
import Derived.Scope
import Derived.Laws.StructEq
import Derived.Lib.LazyBuf
import Derived.KernelRfl
set_option maxRecDepth 100000
namespace Go.Aw
set_option linter.unusedVariables false
set_option linter.defProp false
set_option linter.unusedSimpArgs false
section
variable {E : Env} {n : Nat} {C : Ctx} {ops : Array Oper} {s : Ak} {ob : List Ob} {R : St → Prop} {dst : Option Tmp} {ty : TypeId} {pos : String} {aft : Array Edge} {g : Option (Nat × Bool)} {Q : Exit → St → Prop}
theorem Yp.makeFunc {f : FuncId} {first captured : Array Operand} {fs cs : List T} (h1 : E4 s first.toList = some fs) (h2 : E4 s captured.toList = some cs) :
  Yp E.P n s ⟨dst, .makeFunc (.func f) first captured, ty, pos, aft, g⟩ (.fn f fs cs) := by
 intro H a r
 obtain ⟨O, W⟩ := Fv r h1
 obtain ⟨X, Y⟩ := Fv r h2
 have conv : ∀ (G : Array Operand) (i : Nat), (G.map a.eval).getD i undef = (G.toList.map a.eval).getD i undef := fun G i => by
  simp [Array.getD_eq_getD_getElem?, List.getD]
 refine ⟨_, .fn f (first.map a.eval) (captured.map a.eval) fs cs (by simpa using O) (by simpa using X) (fun j x M => by rw [conv]; exact W j x M) (fun j x M => by rw [conv]; exact Y j x M), fun w => ?_⟩
 simp [execOp, Instr.makeFunc]
def kE := @Yp.makeFunc
theorem Vf {t : TypeId} {x y : Operand} {k : IntKind} {i : Int} {m len W : Nat} {cs : List T} {ti G : TI} {z : T} (ht : E.tab t = some ti) (X : ti.kind = .array len W) (hel : E.tab W = some G)
  (hx : Aq s x = some (.agg cs)) (hy : Aq s y = some (.v (.int k i))) (hi : i = (m : Int)) (Y : m < len) (Z : Dx G cs (m * G.size) = some z) :
  Yp E.P n s ⟨dst, .index t x y, ty, pos, aft, g⟩ z := by
 intro H A r
 subst hi
 have h := r.eval hx
 generalize hv : A.eval x = v at h
 cases h with
 | agg vs cs hl hc hvs =>
  obtain ⟨v, M, O⟩ := Iy (VR.agg vs cs hl hc hvs) (E.ok _ _ hel) Z
  exact ⟨v, M, fun w => by simp [execOp, hv, r.evalv hy, Instr.index, asIntOf, run_underlying (Ld (E.ok _ _ ht) X), Y, Bl (E.ok _ _ hel), O]⟩
theorem Yd.sub (k : Nat) {objs : List Ob} {o : Oper} {x : T} {p q : Ob} (Z : objs[k]? = some p) (ho : ∀ H w, OR H w p → OR H w q) (hf : ∀ b, b ∈ q.fp → b ∈ p.fp) (h : Yd E.P n s [q] o x) : Yd E.P n s objs o x := by
 intro H a w r wr
 have O := mg Z
 obtain ⟨v, W, X⟩ := h H a w r ⟨fun p' G => by simp at G; subst G; exact ho H w (wr.objs _ O), wr.held⟩
 refine ⟨v, W, fun w' M => X w' ⟨M.1, fun p' G b Y => ?_⟩⟩
 simp only [List.mem_singleton] at G
 subst G
 exact M.2 _ O b (hf b Y)
def Eu (l : List UInt8) : List (List T) := l.map fun b => [.v (.int .u8 (b.toNat : Int))]
theorem Oh {P : Program} {t : TypeId} {i : TI} (h : G8 P t = some i) {e : Nat} (O : i.kind = .slice e) : P.underlying t = some (.slice e) := by
 obtain ⟨d, M, G⟩ := Fl h
 rw [O] at G
 cases d <;> simp [Jb] at G
 subst G; exact M
theorem Sw {P : Program} {t : TypeId} {i : TI} (h : G8 P t = some i) {k : IntKind} (O : i.kind = .int k) : P.underlying t = some (.int k) := by
 obtain ⟨d, M, G⟩ := Fl h
 rw [O] at G
 cases d <;> simp [Jb] at G
 subst G; exact M
theorem Ua {t t' : TypeId} {x : Operand} {ti ti' ei : TI} {e : Nat} {l : List UInt8} (ht : E.tab t = some ti) (hk : ti.kind = .slice e) (he : E.tab e = some ei) (X : ei.kind = .int .u8) (aa : E.tab t' = some ti') (W : ti'.kind = .string)
  (hs : AppSrc s ob x 1 (Eu l)) (hd : ∀ d, dst = some d → d < n) (k : R ⟨D3 s dst (.v (.string ⟨l.toArray⟩)), ob⟩) : AX E n C [] ⟨dst, .convert t t' x, ty, pos, aft, g⟩ ⟨s, ob⟩ R := by
 intro H a w gm
 obtain ⟨ad, c, M, h1, h2, h3, h4, h5, h6⟩ := hs n H a w gm.sr gm.wr
 have G : (Eu l).length = l.length := by simp [Eu]
 have Z : (execOp a.eval ⟨dst, .convert t t' x, ty, pos, aft, g⟩).run E.P w = .ok (.value (.string ⟨l.toArray⟩)) w := by
  cases ad with
  | none =>
   have := h4 rfl
   have hl : l = [] := by simpa [Eu] using this
   subst hl
   have hc := run_convert_bytes_string (P := E.P) w t t' e none 0 c (Oh (E.ok _ _ ht) hk) (Sw (E.ok _ _ he) X) (Gw (E.ok _ _ aa) W)
   simp only [Eu, List.map_nil, List.length_nil] at h1
   simp only [execOp, h1, Sem.run_bind, hc]
   simp [Conv.bytesToString]
   rfl
  | some ad =>
   have hb := run_convert_bytes_back (P := E.P) w t t' e ad c l (Oh (E.ok _ _ ht) hk) (Sw (E.ok _ _ he) X) (Gw (E.ok _ _ aa) W) (fun j hj => by
    have Y : (Eu l)[j]? = some [.v (.int .u8 (l[j].toNat : Int))] := by simp [Eu, hj]
    obtain ⟨_, q⟩ := h6 j _ Y
    have q := (q 0 _ rfl).v_eq
    simp only [Nat.mul_one, Nat.add_zero] at q
    have O : j < M.length := by rw [h2, G]; omega
    have := h5 ad rfl j M[j] (gq O)
    rw [this]
    simp only [List.getD, gq O, Option.getD_some] at q
    rw [q])
   rw [G] at h1
   simp only [execOp, h1, Sem.run_bind, hb]
   rfl
 simp only [Oper.wp, Z, Oper.upon]
 refine ⟨_, H, _, k, ?_, rfl, fun _ _ h => h, fun i p hp _ => ⟨hp, by intros; trivial⟩⟩
 have := gm.put (dst := dst) (v := .string ⟨l.toArray⟩) (x := .v (.string ⟨l.toArray⟩)) (.v _) hd
 cases dst <;> exact this
end
def wr (x : Int) : Int := IntKind.i64.wrap x
theorem Bc {x : Int} (h : -9223372036854775808 ≤ x ∧ x ≤ 9223372036854775807) : wr x = x := iQ h
def ix {α : Type} (l : List α) (i : Int) : Option (Nat × α) := if 0 ≤ i then (l[i.toNat]?).map fun x => (i.toNat, x) else none
theorem eH {α : Type} {l : List α} {i : Int} {p : Nat × α} (h : ix l i = some p) : i = (p.1 : Int) ∧ l[p.1]? = some p.2 := by
 unfold ix at h
 split at h
 ·obtain ⟨x, G, rfl⟩ := Option.map_eq_some_iff.1 h
  exact ⟨by dsimp only; omega, G⟩
 ·cases h
theorem Bg {α : Type} {l : List α} {k : Nat} {x : α} (h : l[k]? = some x) : ix l (k : Int) = some (k, x) := by simp [ix, h]
def dJ : Nat := 68719476736
def Dg {α : Type} (l m : List α) : Option (List α) := if l.length + m.length ≤ dJ then some (l ++ m) else none
theorem Ge {α : Type} {l m r : List α} (h : Dg l m = some r) : l.length + m.length ≤ 68719476736 ∧ l ++ m = r := by
 unfold Dg at h
 split at h
 ·rename_i G; exact ⟨G, by cases h; rfl⟩
 ·cases h
theorem Fy {α : Type} {l m : List α} (h : l.length + m.length ≤ 68719476736) : Dg l m = some (l ++ m) := if_pos h
def Wl {α : Type} (n : Int) (z : α) : Option (List α) := if 0 ≤ n ∧ n ≤ (dJ : Int) then some (List.replicate n.toNat z) else none
theorem eG {α : Type} {n : Int} {z : α} {r : List α} (h : Wl n z = some r) : ∃ m : Nat, n = (m : Int) ∧ m ≤ 68719476736 ∧ List.replicate m z = r := by
 unfold Wl at h
 split at h
 ·rename_i G
  refine ⟨n.toNat, by omega, ?_, by cases h; rfl⟩
  have : (dJ : Int) = 68719476736 := rfl
  omega
 ·cases h
theorem gQ {α : Type} {m : Nat} (z : α) (h : m ≤ 68719476736) : Wl (m : Int) z = some (List.replicate m z) := by
 unfold Wl
 have : (dJ : Int) = 68719476736 := rfl
 rw [if_pos (by omega)]; simp
def Qy {α : Type} (l : List α) (a b : Int) : Option (List α) := if 0 ≤ a ∧ a ≤ b ∧ b ≤ (l.length : Int) then some ((l.drop a.toNat).take (b.toNat - a.toNat)) else none
theorem Sx {α : Type} {l r : List α} {a b : Int} (h : Qy l a b = some r) : ∃ x y : Nat, a = (x : Int) ∧ b = (y : Int) ∧ x ≤ y ∧ y ≤ l.length ∧ (l.drop x).take (y - x) = r := by
 unfold Qy at h
 split at h
 ·exact ⟨a.toNat, b.toNat, by omega, by omega, by omega, by omega, by cases h; rfl⟩
 ·cases h
def gA (a b : ByteArray) : Option ByteArray := if a.size + b.size ≤ 68719476736 then some (a ++ b) else none
theorem bR {a b r : ByteArray} (h : gA a b = some r) : a.size + b.size < 9223372036854775807 ∧ a ++ b = r := by
 unfold gA at h
 split at h
 ·rename_i G; exact ⟨by omega, by cases h; rfl⟩
 ·cases h
def fK (b : ByteArray) (i : Int) : Option (Nat × Int) := if 0 ≤ i ∧ i < (b.size : Int) then some (i.toNat, ((b.data.getD i.toNat 0).toNat : Int)) else none
theorem Jo {b : ByteArray} {i : Int} {p : Nat × Int} (h : fK b i = some p) : i = (p.1 : Int) ∧ p.1 < b.size ∧ ((b.data.getD p.1 0).toNat : Int) = p.2 := by
 unfold fK at h
 split at h
 ·cases h; exact ⟨by dsimp only; omega, by dsimp only; omega, rfl⟩
 ·cases h
def iN (a b : Int) : Option Int := if b ≠ 0 then some (wr (a.tdiv b)) else none
def dL (a b : Int) : Option Int := if b ≠ 0 then some (a.tmod b) else none
theorem bE {a b r : Int} (h : dL a b = some r) : b ≠ 0 ∧ a.tmod b = r := by
 unfold dL at h
 split at h
 ·rename_i G; exact ⟨G, by cases h; rfl⟩
 ·cases h
def chk (p : Prop) [Decidable p] : Option Unit := if p then some () else none
theorem bO {p : Prop} [Decidable p] {u : Unit} (h : chk p = some u) : p := by
 unfold chk at h
 split at h
 ·assumption
 ·cases h
theorem gX {p : Prop} [Decidable p] (h : p) : chk p = some () := if_pos h
def Si (a b : ByteArray) : Bool := a.toList == b.toList
theorem Ac {α β : Type} {o : Option α} {f : α → Option β} {r : β} (h : o.bind f = some r) : ∃ x, o = some x ∧ f x = some r := Option.bind_eq_some_iff.1 h
def C5 {S B : Type} (f : S → Option (S ⊕ B)) : Nat → S → Option B
 | 0, _ => none
 | n + 1, s => match f s with
  | none => none
  | some (.inl s') => C5 f n s'
  | some (.inr b) => some b
def El : Nat := 18446744073709551616
def forL {α S B : Type} (f : Nat → α → S → Option (S ⊕ B)) : Nat → List α → S → Option (S ⊕ B)
 | _, [], s => some (.inl s)
 | k, x :: l, s => match f k x s with
  | none => none
  | some (.inl s') => forL f (k + 1) l s'
  | some (.inr b) => some (.inr b)
def forS {α S : Type} (f : Nat → α → S → Option S) : Nat → List α → S → Option S
 | _, [], s => some s
 | k, x :: l, s => match f k x s with
  | none => none
  | some s' => forS f (k + 1) l s'
def forI {S B : Type} (f : Nat → S → Option (S ⊕ B)) : Nat → Nat → S → Option (S ⊕ B)
 | _, 0, s => some (.inl s)
 | k, n + 1, s => match f k s with
  | none => none
  | some (.inl s') => forI f (k + 1) n s'
  | some (.inr b) => some (.inr b)
def forJ {S : Type} (f : Nat → S → Option S) : Nat → Nat → S → Option S
 | _, 0, s => some s
 | k, n + 1, s => match f k s with
  | none => none
  | some s' => forJ f (k + 1) n s'
structure Arr (α : Type) (n : Nat) where
 l : List α
 h : l.length = n
theorem Arr.ext' {α : Type} {n : Nat} {a b : Arr α n} (h : a.l = b.l) : a = b := by cases a; cases b; cases h; rfl
instance {α : Type} {n : Nat} [DecidableEq α] : DecidableEq (Arr α n) := fun a b => if h : a.l = b.l then .isTrue (Arr.ext' h) else .isFalse (fun h' => h (by rw [h']))
instance {α : Type} {n : Nat} [Inhabited α] : Inhabited (Arr α n) := ⟨⟨List.replicate n default, by simp⟩⟩
def Arr.set {α : Type} {n : Nat} (a : Arr α n) (i : Nat) (x : α) : Arr α n := ⟨a.l.set i x, by simp [a.h]⟩
def Arr.rep {α : Type} (n : Nat) (x : α) : Arr α n := ⟨List.replicate n x, by simp⟩
theorem Sz {α : Type} {f : α → T} {l : List α} {post : List T} {i : Nat} {x : α} (h : l[i]? = some x) : (l.map f ++ post)[i]? = some (f x) := by
 have G := (gs h).1
 rw [List.getElem?_append_left (by simpa using G)]; simp [h]
theorem bC {G post : List T} {k i : Nat} {x : T} (M : G.length = k) (h : post[i]? = some x) : (G ++ post)[k + i]? = some x := by
 subst M; rw [List.getElem?_append_right (by omega)]; simpa using h
theorem Jy {α : Type} {f : α → T} {l : List α} {post : List T} {i : Nat} {y : α} (hi : i < l.length) : Ev (l.map f ++ post) i [f y] = (l.set i y).map f ++ post := by
 induction l generalizing i with
 | nil => simp at hi
 | cons a l ih =>
  cases i with
  | zero =>
   simp only [List.map_cons, List.cons_append, Ev, List.set_cons_zero]
   cases h : (l.map f ++ post) <;> rfl
  | succ i => simp only [List.map_cons, List.cons_append, Ev, List.set_cons_succ]; rw [ih (by simpa using hi)]
theorem R6 {G post post' : List T} {k i : Nat} {cs : List T} (M : G.length = k) (h : Ev post i cs = post') : Ev (G ++ post) (k + i) cs = G ++ post' := by
 subst M
 induction G with
 | nil => simpa using h
 | cons a l ih => simp only [List.cons_append, List.length_cons, Nat.add_right_comm, Ev]; rw [ih]
section
variable {E : Env} {n : Nat} {C : Ctx} {s : Ak} {ob : List Ob} {Q : Exit → St → Prop} {ops : Array Oper} {R : St → Prop}
theorem Ghost.pick (ks : List Nat) {K : List Ob} (hK : C0 ob ks = some K) (hn : ks.Nodup) : Ghost n C s ob s K := by
 intro H a w X
 obtain ⟨p1, p2⟩ := F0 hK
 have G : ∀ (i : Nat) (p : Ob), K[i]? = some p → ∃ k, ks[i]? = some k ∧ ob[k]? = some p := by
  intro i p M
  have hil := (gs M).1
  obtain ⟨o, Y, Z⟩ := p2 i ks[i] (gq (by omega))
  rw [M] at Z
  cases Z
  exact ⟨_, gq (by omega), Y⟩
 have O : ∀ p, p ∈ K → p ∈ ob := fun p W => by
  obtain ⟨i, M⟩ := List.mem_iff_getElem?.1 W
  obtain ⟨k, _, h⟩ := G i p M
  exact mg h
 have hl := Dm.1 X.nodup
 refine ⟨H, fun _ _ h => h, { X with objs := fun p W => X.objs p (O p W), free := fun p W => X.free p (O p W), new := fun p W => X.new p (O p W), nodup := ?_ }⟩
 refine Dm.2 ⟨fun i p M => ?_, fun i j p q M hj aa b hb => ?_⟩
 ·obtain ⟨k, _, h⟩ := G i p M
  exact hl.1 k p h
 ·obtain ⟨k, Y, Z⟩ := G i p M
  obtain ⟨k', h3, h4⟩ := G j q hj
  refine hl.2 k k' p q Z h4 (fun he => aa ?_) b hb
  subst he
  exact (List.getElem?_inj (gs Y).1 hn).1 (Y.trans h3.symm)
theorem Ghost.refl : Ghost n C s ob s ob := fun H _ _ G => ⟨H, fun _ _ h => h, G⟩
theorem Ghost.slots {M : Ak} (h : ∀ (H : GH) (a : Act) (w : World), Gam n C ⟨s, ob⟩ H a w → ∀ i x, get M i = some x → VR H (a.tmps.getD i undef) x) : Ghost n C s ob M ob := fun H a w G =>
 ⟨H, fun _ _ h => h, { G with slots := h H a w G }⟩
theorem Ap {so : Ak} {prot : List Nat} {pobjs : List Ob} {σ : St} (h : AO E n C ops [] σ R) : AP E n C ops prot pobjs .nil so σ R := fun _ _ H a w _ _ _ _ _ G => h H a w G
theorem Gm {pl : PL} {so : Ak} {prot : List Nat} {pobjs : List Ob} {X : Ak} {ob' : List Ob} (h : Ghost n C s ob X ob') (hp : prot.map (fun i => ob'[i]?) = prot.map (fun i => ob[i]?))
  (k : AP E n C ops prot pobjs pl so ⟨X, ob'⟩ R) : AP E n C ops prot pobjs pl so ⟨s, ob⟩ R := by
 intro Hs ws H a w sr wr Y hH O Z
 obtain ⟨H', h1, g⟩ := h H a w Z
 refine k Hs ws H' a w sr wr Y (fun b o hb => h1 _ _ (hH _ _ hb)) (fun p M => ?_) g
 obtain ⟨i, W, he⟩ := O p M
 have G : i ∈ prot := by simpa using W
 have : ob'[i]? = ob[i]? := List.map_inj_left.1 hp i G
 exact ⟨i, W, this.trans he⟩
theorem Ff {pl : PL} {so : Ak} {prot : List Nat} {pobjs : List Ob} (d : Nat) (k : AP E n C ops prot pobjs pl (iW so (some d)) ⟨s, ob⟩ R) : AP E n C ops prot pobjs pl so ⟨s, ob⟩ R :=
 fun Hs Y H a w G wr M W X O => k Hs Y H a w ⟨G.size, fun i x h => G.slots i x (Gb h).2⟩ wr M W X O
theorem A4 {pl : PL} {so : Ak} {prot : List Nat} {pobjs : List Ob} {b c : Bool} (t : Nat) (X : get s t = some (.v (.bool b))) (hb : b = c) (k : AP E n C ops prot pobjs pl so ⟨(t, .v (.bool c)) :: s, ob⟩ R) : AP E n C ops prot pobjs pl so ⟨s, ob⟩ R := by
 intro Hs Z H a w Y wr G O W M
 subst hb
 exact k Hs Z H a w Y wr G O W (M.same X)
theorem Bm {o : Oper} {x : T} (hy : Yd E.P n s ob o x) (W : ∀ O, o.dst = some O → O < n) (k : R ⟨D3 s o.dst x, ob⟩) : AX E n C [] o ⟨s, ob⟩ R := by
 intro H a w M
 obtain ⟨v, Y, G⟩ := hy H a w M.sr M.wr
 simp only [Oper.wp, G w ⟨M.held, fun _ _ _ _ => rfl⟩, Oper.upon]
 refine ⟨_, H, v, k, ?_, rfl, fun _ _ h => h, fun i p X _ => ⟨X, by intros; trivial⟩⟩
 have := M.put Y W
 cases h : o.dst <;> simpa [St.put, D3, h] using this
theorem Ie {H : GH} {a : Act} {j : Nat} {t : Tmp} (r : SR n s H a) (M : (ops[j]?).bind (·.dst) = some t) (O : get s t = some (.v undef)) : yielded ops a.tmps j = none := by
 have G := (r.slots t _ O).v_eq
 simp only [yielded, M, Option.bind_some]
 rw [Array.getD_eq_getD_getElem?] at G
 cases h : a.tmps[t]? with
 | none => rfl
 | some x => rw [h] at G; simp only [Option.getD_some] at G; subst G; rfl
theorem E6 {d : Option Nat} {Z : Op} {ty : TypeId} {pos : String} {aft : Array Edge} {l : List Oper} {j : Nat} {G : Bool} {t : Tmp}
  (X : (ops[j]?).bind (·.dst) = some t) (Y : get s t = some (.v undef)) (W : ∀ M, d = some M → M < n) (k : AO E n C ops l ⟨D3 s d (.v undef), ob⟩ R) : AO E n C ops (⟨d, Z, ty, pos, aft, some (j, G)⟩ :: l) ⟨s, ob⟩ R := by
 intro H a w O
 simp only [Vr]
 rw [if_neg (by simp [Region.wanted, Ie O.sr X Y])]
 have := O.put (dst := d) (v := undef) (x := .v undef) (.v _) W
 cases d <;> exact k H _ w this
theorem Cw {prot : List Nat} {pobjs : List Ob} {so : Ak} {i : Nat} {r : PL} {o : Oper} {j : Nat} {G : Bool} {t : Tmp} (ho : ops[i]? = some o)
  (hg : o.guard = some (j, G)) (Y : (ops[j]?).bind (·.dst) = some t) (hs : get s t = some (.v undef)) (X : ∀ d, o.dst = some d → d < n)
  (k : AP E n C ops prot pobjs r so (St.put ⟨s, ob⟩ o.dst (.v undef)) R) (hf : free so o.dst = true := by rfl) : AP E n C ops prot pobjs (.still i r) so ⟨s, ob⟩ R := by
 intro Hs ws H a w sr wr M W hp O
 have hw : Region.wanted o (yielded ops a.tmps) = false := by simp [Region.wanted, hg, Ie O.sr Y hs]
 have Z := k Hs ws H _ w (sr.free o.dst undef hf) wr M W (by cases h : o.dst <;> simpa [St.put, h] using hp) (O.put (.v undef) X)
 exact ⟨o, undef, ho, .inr ⟨hw, rfl⟩, M, Z⟩
theorem Vq {c : Code} (t : Nat) {sz : Nat} {es : List (List T)} (M : get s t = some (.list sz es)) (k : es.length ≤ 140737488355328 → AW E n C c ⟨s, ob⟩ Q) : AW E n C c ⟨s, ob⟩ Q :=
 fun H a w G => k (G.slots _ _ M).list_max H a w G
theorem dG {c : Code} (k : Nat) {v : Value} {O sz : Nat} {es : List (List T)} (W : ob[k]? = some (.us v O sz es)) (X : es.length ≤ 140737488355328 → AW E n C c ⟨s, ob⟩ Q) : AW E n C c ⟨s, ob⟩ Q := by
 intro H a w M
 have G : UsR H w v O sz es := M.objs _ (mg W)
 refine X ?_ H a w M
 rcases G with ⟨_, rfl⟩ | ⟨_, _, _, _, _, _, _, _, _, _, h, _⟩
 ·simp
 ·exact h
theorem Ca {α : Type} {f : α → List T} {l : List α} {c : Code} (t : Nat) {sz : Nat} (G : get s t = some (.list sz (l.map f))) (k : l.length ≤ 9223372036854775806 → AW E n C c ⟨s, ob⟩ Q) : AW E n C c ⟨s, ob⟩ Q :=
 Vq t G fun h => k (by rw [List.length_map] at h; omega)
theorem aJ {α : Type} {f : α → List T} {l : List α} {c : Code} (k : Nat) {v : Value} {O sz : Nat} (G : ob[k]? = some (.us v O sz (l.map f))) (M : l.length ≤ 9223372036854775806 → AW E n C c ⟨s, ob⟩ Q) : AW E n C c ⟨s, ob⟩ Q :=
 dG k G fun h => M (by rw [List.length_map] at h; omega)
theorem Cy {k m : Nat} (h : k < m) : decide ((k : Int) < (m : Int)) = true := decide_eq_true (by omega)
theorem Cz (m : Nat) : decide (((m : Nat) : Int) < (m : Int)) = false := by simp
def iY (Q : Exit → St → Prop) : Exit → St → Prop
 | .goto _, _ => False
 | e, σ => Q e σ
theorem AW.scope {c : Code} {σ : St} (h : AW E n C c σ (iY Q)) : AW E n C (.scope c) σ Q := fun H a w g =>
 Ki (H3 (h H a w g) fun e a' w' ⟨σ', H', q, G⟩ => by
  cases e <;> first | exact ⟨σ', H', q, G⟩ | exact q.elim)
def Left (G : Ak) (ob' : List Ob) (σ : St) : Prop := Sub G σ.slots ∧ ∃ ks, C0 σ.objs ks = some ob' ∧ ks.Nodup
theorem Left.ghost {G : Ak} {ob' : List Ob} {σ : St} (h : Left G ob' σ) : Ghost n C σ.slots σ.objs G ob' := by
 obtain ⟨M, X, O, W⟩ := h
 exact (Ghost.pick X O W).trans (Ghost.weaken M (List.Sublist.refl _))
theorem Wj {c : Code} {G : Ak} {ob' : List Ob} {σ : St} (h : Left G ob' σ) (k : AW E n C c ⟨G, ob'⟩ Q) : AW E n C c σ Q := jO h.ghost k
theorem Ai {x y : Code} (M : Ak → List Ob → Prop) (ks : Ak) (X : Sub ks s)
  (h : AW E n C x ⟨s, ob⟩ (H9 (fun σ' => ∃ G ob', M G ob' ∧ Left (G ++ ks) ob' σ') Q)) (k : ∀ G ob', M G ob' → AW E n C y ⟨G ++ ks, ob'⟩ Q) : AW E n C (.seq x y) ⟨s, ob⟩ Q :=
 aV _ h (fun _ ⟨_, _, O, W⟩ => Wj W (k _ _ O))
theorem Ab {x y : Code} {σ : St} (h : ∀ G, G = y → AW E n C x σ (H9 (fun σ' => AW E n C G σ' Q) Q)) : AW E n C (.seq x y) σ Q := jK (h y rfl)
@[reducible] def jE {α β : Type} (o : Option α) (a : β) (f : α → β) : β := match o with
 | none => a
 | some x => f x
@[reducible] def jA {α : Type} (o : Option α) (A : Prop) (B : α → Prop) : Prop := match o with
 | none => A
 | some x => B x
theorem Tq {c : Code} (J : Nat → Ak → List Ob → Prop) {m : Nat} {s0 : Ak} {M : List Ob} (X : J m s0 M) (hs : Left s0 M ⟨s, ob⟩)
  (O : ∀ m s ob, J m s ob → AW E n C c ⟨s, ob⟩ (H9 (fun σ' => ∃ W G ob', W < m ∧ J W G ob' ∧ Left G ob' σ') Q)) : AW E n C (.loop c) ⟨s, ob⟩ Q := by
 refine AW.loop (fun m σ => ∃ G ob', J m G ob' ∧ Left G ob' σ) (m := m) ⟨s0, M, X, hs⟩ ?_
 rintro m σ ⟨G, ob', Z, Y⟩
 refine Wj Y (AW.mono (O m G ob' Z) ?_)
 intro e σ' q
 cases e with
 | normal => obtain ⟨W, G, ob', q1, q2, q3⟩ := q; exact ⟨W, q1, G, ob', q2, q3⟩
 | _ => exact q
theorem P0 {s0 ks : Ak} {G : List Ob} (h1 : Sub s0 s) (h2 : Sub ks s) (M : ∃ p, C0 ob p = some G ∧ p.Nodup) : Left (s0 ++ ks) G ⟨s, ob⟩ := ⟨Sub.append h1 h2, M⟩
theorem Cg {c : Code} {S B : Type} {f : S → Option (S ⊕ B)} {M : Nat} {Z : S} {b : B} (h : C5 f M Z = some b) (ks : Ak) (hk : Sub ks s) (Φ : S → Ak → List Ob → Prop) {s0 : Ak} {aa : List Ob} (h0 : Φ Z s0 aa) (hs : Sub s0 s) (ho : ∃ p, C0 ob p = some aa ∧ p.Nodup)
  (X : ∀ (st : S) (r : S ⊕ B) s ob, Φ st s ob → f st = some r → (∀ b', r = .inr b' → b' = b) →
   AW E n C c ⟨s ++ ks, ob⟩ (H9 (fun σ' => ∃ G Y ob', r = .inl G ∧ Φ G Y ob' ∧ Left (Y ++ ks) ob' σ') Q)) : AW E n C (.loop c) ⟨s, ob⟩ Q := by
 refine Tq (fun m s1 W => ∃ st Y, Φ st Y W ∧ C5 f m st = some b ∧ s1 = Y ++ ks) (m := M) ⟨Z, s0, h0, h, rfl⟩ (P0 hs hk ho) ?_
 rintro m s1 W ⟨st, Y, hΦ, O, rfl⟩
 cases m with
 | zero => simp [C5] at O
 | succ m =>
  simp only [C5] at O
  cases hf : f st with
  | none => rw [hf] at O; cases O
  | some r =>
   rw [hf] at O
   refine AW.mono (X st r Y W hΦ hf (fun b' hb => ?_)) ?_
   ·subst hb; simpa using O
   ·intro e σ' q
    cases e with
    | normal =>
     obtain ⟨G, s'', ob', rfl, q2, q3⟩ := q
     exact ⟨m, _, ob', Nat.lt_succ_self m, ⟨G, s'', q2, O, rfl⟩, q3⟩
    | _ => exact q
theorem eJ {α S B : Type} {f : Nat → α → S → Option (S ⊕ B)} {l : List α} {k : Nat} {x : α} (G : l[k]? = some x) (st : S) : forL f k (l.drop k) st = (match f k x st with
  | none => none
  | some (.inl s') => forL f (k + 1) (l.drop (k + 1)) s'
  | some (.inr b) => some (.inr b)) := by
 have M := (gs G).1
 have O : l[k] = x := by rw [gq M] at G; cases G; rfl
 rw [List.drop_eq_getElem_cons M, O]; rfl
theorem Bw {c : Code} {α S B : Type} {f : Nat → α → S → Option (S ⊕ B)} {l : List α} {Z : S} {o : S ⊕ B} (h : forL f 0 l Z = some o) (ks : Ak) (hk : Sub ks s) (Φ : Nat → S → Ak → List Ob → Prop) {s0 : Ak} {aa : List Ob} (h0 : Φ 0 Z s0 aa) (hs : Sub s0 s) (ho : ∃ p, C0 ob p = some aa ∧ p.Nodup)
  (Y : ∀ (k : Nat) (x : α) (st : S) (r : S ⊕ B) s ob, l[k]? = some x → k < l.length → Φ k st s ob → f k x st = some r → (∀ b', r = .inr b' → .inr b' = o) →
   AW E n C c ⟨s ++ ks, ob⟩ (H9 (fun σ' => ∃ O W ob', r = .inl O ∧ Φ (k + 1) O W ob' ∧ Left (W ++ ks) ob' σ') Q))
  (fin : ∀ (st : S) s ob, Φ l.length st s ob → .inl st = o → AW E n C c ⟨s ++ ks, ob⟩ (H9 (fun _ => False) Q)) : AW E n C (.loop c) ⟨s, ob⟩ Q := by
 refine Tq (fun m s1 M => ∃ k st W, k + m = l.length ∧ Φ k st W M ∧ forL f k (l.drop k) st = some o ∧ s1 = W ++ ks) (m := l.length) ⟨0, Z, s0, by simp, h0, h, rfl⟩ (P0 hs hk ho) ?_
 rintro m s1 M ⟨k, st, W, hm, hΦ, G, rfl⟩
 rcases Nat.lt_or_ge k l.length with X | X
 ·have hx : l[k]? = some l[k] := gq X
  rw [eJ hx] at G
  cases hf : f k l[k] st with
  | none => rw [hf] at G; cases G
  | some r =>
   rw [hf] at G
   refine AW.mono (Y k _ st r W M hx X hΦ hf (fun b' hb => ?_)) ?_
   ·subst hb; simpa using G
   ·intro e σ' q
    cases e with
    | normal =>
     obtain ⟨O, s'', ob', rfl, q2, q3⟩ := q
     exact ⟨m - 1, _, ob', by omega, ⟨k + 1, O, s'', by omega, q2, G, rfl⟩, q3⟩
    | _ => exact q
 ·have : k = l.length := by omega
  subst this
  rw [List.drop_length] at G
  simp only [forL, Option.some.injEq] at G
  refine AW.mono (fin st W M hΦ G) ?_
  intro e σ' q
  cases e with
  | normal => exact q.elim
  | _ => exact q
theorem aQ {α S : Type} {f : Nat → α → S → Option S} : ∀ (l : List α) (k : Nat) (st : S) (o : S), forS f k l st = some o → forL (B := Empty) (fun k x s => (f k x s).map .inl) k l st = some (.inl o)
 | [], _, _, o, h => by simp only [forS, Option.some.injEq] at h; subst h; rfl
 | x :: l, k, st, o, h => by
  simp only [forS] at h
  simp only [forL]
  cases hf : f k x st with
  | none => rw [hf] at h; cases h
  | some s' => rw [hf] at h; simpa using aQ l (k + 1) s' o h
theorem C1 {c : Code} {α S : Type} {f : Nat → α → S → Option S} {l : List α} {M : S} {o : S} (h : forS f 0 l M = some o) (ks : Ak) (hk : Sub ks s) (Φ : Nat → S → Ak → List Ob → Prop) {s0 : Ak} {O : List Ob} (h0 : Φ 0 M s0 O) (hs : Sub s0 s) (ho : ∃ p, C0 ob p = some O ∧ p.Nodup)
  (G : ∀ (k : Nat) (x : α) (st : S) (r : S) s ob, l[k]? = some x → k < l.length → Φ k st s ob → f k x st = some r →
   AW E n C c ⟨s ++ ks, ob⟩ (H9 (fun σ' => ∃ W ob', Φ (k + 1) r W ob' ∧ Left (W ++ ks) ob' σ') Q))
  (X : ∀ (st : S) s ob, Φ l.length st s ob → st = o → AW E n C c ⟨s ++ ks, ob⟩ (H9 (fun _ => False) Q)) : AW E n C (.loop c) ⟨s, ob⟩ Q := by
 refine Bw (aQ l 0 M o h) ks hk Φ h0 hs ho ?_ ?_
 ·intro k x st r s ob hx Y hΦ hr _
  obtain ⟨r', Z, rfl⟩ := Option.map_eq_some_iff.1 hr
  refine AW.mono (G k x st r' s ob hx Y hΦ Z) ?_
  intro e σ' q
  cases e with
  | normal => obtain ⟨W, ob', q1, q2⟩ := q; exact ⟨r', W, ob', rfl, q1, q2⟩
  | _ => exact q
 ·intro st s ob hΦ he
  exact X st s ob hΦ (by injection he)
theorem aS {S B : Type} {f : Nat → S → Option (S ⊕ B)} : ∀ (m k : Nat) (st : S), forI f k m st = forL (fun k (_ : Unit) s => f k s) k (List.replicate m ()) st
 | 0, _, _ => rfl
 | m + 1, k, st => by
  simp only [forI, List.replicate_succ, forL]
  cases f k st with
  | none => rfl
  | some r => cases r with
   | inl s' => exact aS m (k + 1) s'
   | inr b => rfl
theorem Ft {c : Code} {S B : Type} {f : Nat → S → Option (S ⊕ B)} {m : Nat} {W : S} {o : S ⊕ B} (h : forI f 0 m W = some o) (ks : Ak) (hk : Sub ks s) (Φ : Nat → S → Ak → List Ob → Prop) {s0 : Ak} {M : List Ob} (h0 : Φ 0 W s0 M) (hs : Sub s0 s) (ho : ∃ p, C0 ob p = some M ∧ p.Nodup)
  (G : ∀ (k : Nat) (st : S) (r : S ⊕ B) s ob, k < m → Φ k st s ob → f k st = some r → (∀ Z, r = .inr Z → .inr Z = o) →
   AW E n C c ⟨s ++ ks, ob⟩ (H9 (fun σ' => ∃ O s' ob', r = .inl O ∧ Φ (k + 1) O s' ob' ∧ Left (s' ++ ks) ob' σ') Q))
  (X : ∀ (st : S) s ob, Φ m st s ob → .inl st = o → AW E n C c ⟨s ++ ks, ob⟩ (H9 (fun _ => False) Q)) : AW E n C (.loop c) ⟨s, ob⟩ Q := by
 rw [aS] at h
 exact Bw h ks hk Φ h0 hs ho (fun k _ st r s ob _ Y => G k st r s ob (by simpa using Y)) (fun st s ob hΦ he => X st s ob (by simpa using hΦ) he)
theorem aR {S : Type} {f : Nat → S → Option S} : ∀ (m k : Nat) (st : S) (o : S), forJ f k m st = some o → forI (B := Empty) (fun k s => (f k s).map .inl) k m st = some (.inl o)
 | 0, _, _, o, h => by simp only [forJ, Option.some.injEq] at h; subst h; rfl
 | m + 1, k, st, o, h => by
  simp only [forJ] at h
  simp only [forI]
  cases hf : f k st with
  | none => rw [hf] at h; cases h
  | some s' => rw [hf] at h; simpa using aR m (k + 1) s' o h
theorem Tr {c : Code} {S : Type} {f : Nat → S → Option S} {m : Nat} {M : S} {o : S} (h : forJ f 0 m M = some o) (ks : Ak) (hk : Sub ks s) (Φ : Nat → S → Ak → List Ob → Prop) {s0 : Ak} {O : List Ob} (h0 : Φ 0 M s0 O) (hs : Sub s0 s) (ho : ∃ p, C0 ob p = some O ∧ p.Nodup)
  (G : ∀ (k : Nat) (st : S) (r : S) s ob, k < m → Φ k st s ob → f k st = some r →
   AW E n C c ⟨s ++ ks, ob⟩ (H9 (fun σ' => ∃ W ob', Φ (k + 1) r W ob' ∧ Left (W ++ ks) ob' σ') Q))
  (X : ∀ (st : S) s ob, Φ m st s ob → st = o → AW E n C c ⟨s ++ ks, ob⟩ (H9 (fun _ => False) Q)) : AW E n C (.loop c) ⟨s, ob⟩ Q := by
 refine Ft (aR m 0 M o h) ks hk Φ h0 hs ho ?_ ?_
 ·intro k st r s ob Y hΦ hr _
  obtain ⟨r', Z, rfl⟩ := Option.map_eq_some_iff.1 hr
  refine AW.mono (G k st r' s ob Y hΦ Z) ?_
  intro e σ' q
  cases e with
  | normal => obtain ⟨W, ob', q1, q2⟩ := q; exact ⟨r', W, ob', rfl, q1, q2⟩
  | _ => exact q
 ·intro st s ob hΦ he
  exact X st s ob hΦ (by injection he)
def En (k : Nat) (Rc : T → List Ob → List Ob → Prop) (x : T) (G : List Ob) : Prop := ∃ os new, G = os ++ new ∧ os.length = k ∧ Rc x os new
theorem Ay {k m : Nat} (h : k < m) (G : m ≤ 9223372036854775806) : IntKind.i64.wrap ((k : Int) + 1) = ((k + 1 : Nat) : Int) := by
 rw [iQ (by omega)]; omega
section typed
variable {dst : Option Tmp} {ty : TypeId} {pos : String} {aft : Array Edge} {g : Option (Nat × Bool)} {α : Type} {f : α → List T}
def rI (x : Int) : List T := [.v (.int .i64 x)]
def rK (k : IntKind) (x : Int) : List T := [.v (.int k x)]
def rB (x : Bool) : List T := [.v (.bool x)]
def rS (x : ByteArray) : List T := [.v (.string x)]
def rL {α : Type} (sz : Nat) (f : α → List T) (l : List α) : List T := [.list sz (l.map f)]
def cI (x : Int) : T := .v (.int .i64 x)
def cS (x : ByteArray) : T := .v (.string x)
def cL {α : Type} (sz : Nat) (f : α → List T) (l : List α) : T := .list sz (l.map f)
theorem Cp (k : Nat) {x : Operand} {t : TypeId} {objs : List Ob} {v : Value} {X sz : Nat} {l : List α} {ti : TI} {e : Nat} (O : E.tab t = some ti) (G : ti.kind = .slice e) (W : Aq s x = some (.v v))
  (M : objs[k]? = some (.us v X sz (l.map f))) : Yd E.P n s objs ⟨dst, .call { callee := .builtin .len, args := #[x], argTypes := #[t] }, ty, pos, aft, g⟩ (.v (.int .i64 (l.length : Int))) := by
 have := fA (E := E) (n := n) (dst := dst) (ty := ty) (pos := pos) (aft := aft) (g := g) k O G W M
 rwa [List.length_map] at this
theorem Gz {t : TypeId} {x y : Operand} {k : IntKind} {i : Int} {m : Nat} {b off len : Nat} {ti M : TI} {G : Nat}
  (X : E.tab t = some ti) (O : ti.kind = .array len G) (hel : E.tab G = some M) (h1 : M.size = 1)
  (Y : Aq s x = some (.v (.pointer (some ⟨b, off, none⟩)))) (hy : Aq s y = some (.v (.int k i))) (hi : i = (m : Int)) (W : m < len) :
  Yp E.P n s ⟨dst, .indexAddr t x y, ty, pos, aft, g⟩ (.v (.pointer (some ⟨b, off + m, none⟩))) := by
 have := C6 (E := E) (n := n) (dst := dst) (ty := ty) (pos := pos) (aft := aft) (g := g) X O hel Y hy hi W
 rwa [h1, Nat.mul_one] at this
theorem Ch {t : TypeId} {x y : Operand} {b : ByteArray} {k : IntKind} {i c : Int} {m : Nat} {ti : TI} (O : E.tab t = some ti) (G : ti.kind = .string) (W : Aq s x = some (.v (.string b)))
  (hy : Aq s y = some (.v (.int k i))) (hi : i = (m : Int)) (M : m < b.size) (hc : ((b.data.getD m 0).toNat : Int) = c) : Yp E.P n s ⟨dst, .index t x y, ty, pos, aft, g⟩ (.v (.int .u8 c)) :=
 hc ▸ T2 O G W hy hi M
theorem cA {t M : TypeId} {x y : Operand} {a b r : ByteArray} (G : Aq s x = some (.v (.string a))) (hy : Aq s y = some (.v (.string b)))
  (hc : a.size + b.size < 9223372036854775807 ∧ a ++ b = r) : Yp E.P n s ⟨dst, .binOp .add t x y M, ty, pos, aft, g⟩ (.v (.string r)) := hc.2 ▸ eZ G hy hc.1
theorem Dp {l : List α} {m : Nat} {x : α} {e : List T} (h : e = f x) : (l.map f).set m e = (l.set m x).map f := by rw [h, List.map_set]
theorem eU {l m r : List α} (h : l ++ m = r) : l.map f ++ m.map f = r.map f := by rw [← h, List.map_append]
theorem bU {m r : List α} (h : [] ++ m = r) : m.map f = r.map f := by rw [← h]; rfl
theorem eV {l m : List α} (h : l.length + m.length ≤ 68719476736) : (l.map f).length + (m.map f).length ≤ 68719476736 := by simpa using h
theorem bV {m : List α} (h : ([] : List α).length + m.length ≤ 68719476736) : (m.map f).length ≤ 68719476736 := by simpa using h
theorem Er {m : Nat} {z : α} {r : List α} {G : List T} (h : List.replicate m z = r) (M : G = f z) : List.replicate m G = r.map f := by rw [← h, List.map_replicate, M]
theorem eA {x y : Nat} {l r : List α} (h : (l.drop x).take (y - x) = r) : ((l.map f).drop x).take (y - x) = r.map f := by rw [← h, List.map_take, List.map_drop]
theorem Dy {x y : Operand} {t : TypeId} {k1 k2 : IntKind} {i : Int} {m : Nat} {ti G : TI} {e : Nat} {z : Value} {sz : Nat} {es' : List (List T)}
  (ht : E.tab t = some ti) (Z : ti.kind = .slice e) (he : E.tab e = some G) (hz : G.zero = some z) (h1 : z.cells.toList.all (·.oneCell') = true) (hsz : G.size = sz) (X : z.cells.size = sz) (O : Nat.ble G.bytes 2048 = true)
  (hx : Aq s x = some (.v (.int k1 i))) (hy : Aq s y = some (.v (.int k2 i))) (hi : i = (m : Int)) (hm : m ≤ 68719476736) (W : List.replicate m (Ef z) = es')
  (Y : ∀ d, dst = some d → d < n) (k : ∀ b, R ⟨D3 s dst (.v b), ob ++ [.us b e sz es']⟩) :
  AX E n C [] ⟨dst, .makeSlice t x y, ty, pos, aft, g⟩ ⟨s, ob⟩ R := by
 subst W
 have M := Nat.le_of_ble_eq_true O
 refine AX.makeSlice ht Z he hz h1 hsz X hx hy hi (by simp only [G6]; omega) ?_ Y k
 have h1 : G.bytes * m ≤ 2048 * 68719476736 := Nat.mul_le_mul M hm
 have h2 : ((G.bytes * m : Nat) : Int) = (G.bytes : Int) * (m : Int) := by simp
 omega
theorem eW {x : Operand} {t : TypeId} {lo hi mx : Option Operand} {sz : Nat} {l r : List α} {ti X : TI} {e : Nat} (a b m : Nat)
  (ht : E.tab t = some ti) (Z : ti.kind = .slice e) (he : E.tab e = some X) (hsz : X.size = sz) (hx : Aq s x = some (.list sz (l.map f)))
  (h1 : Vs s lo 0 a) (h2 : Vs s hi l.length b) (W : mx = none) (O : a ≤ b) (Y : b ≤ l.length) (hr : (l.drop a).take (b - a) = r) :
  Yp E.P n s ⟨dst, .slice t x lo hi mx, ty, pos, aft, g⟩ (.list sz (r.map f)) := by
 subst W
 have := Xl (E := E) (n := n) (dst := dst) (ty := ty) (pos := pos) (aft := aft) (g := g) (mx := none) a b m ht Z he hsz hx h1 (by rw [List.length_map]; exact h2)
  (fun M G => ⟨M, rfl, by rw [List.length_map] at G; omega, Nat.le_refl _⟩) (fun _ => rfl) O (by rw [List.length_map]; exact Y)
 rwa [eA hr] at this
end typed
theorem Bp {α : Type} {c : Bool} {a b r : α} (hc : c = true) (h : (if c = true then a else b) = r) : a = r := by rw [if_pos hc] at h; exact h
theorem Bq {α : Type} {c : Bool} {a b r : α} (hc : c = false) (h : (if c = true then a else b) = r) : b = r := by rw [if_neg (by simp [hc])] at h; exact h
theorem De {α β γ : Type} {f : α → γ} {g : β → γ} {x : α} {r : γ} (h : Sum.elim f g (.inl x) = r) : f x = r := h
theorem Db {α β γ : Type} {f : α → γ} {g : β → γ} {x : β} {r : γ} (h : Sum.elim f g (.inr x) = r) : g x = r := h
end
section
variable {P : Program} {n : Nat} {s : Ak} {dst : Option Tmp} {ty : TypeId} {pos : String} {aft : Array Edge} {g : Option (Nat × Bool)}
end
def aA (P : Program) (t : TypeId) : Bool := !(P.eqGuardType P.depth t)
section
variable {E : Env} {n : Nat} {C : Ctx} {s : Ak} {ob : List Ob} {R : St → Prop} {dst : Option Tmp} {ty : TypeId} {pos : String} {aft : Array Edge} {g : Option (Nat × Bool)}
theorem Ma {P : Program} {t : TypeId} {i : TI} {k : IntKind} (h : G8 P t = some i) (O : i.kind = .int k) : P.underlying t = some (.int k) := by
 obtain ⟨d, M, G⟩ := Fl h
 rw [O] at G
 cases d <;> simp [Jb] at G
 subst G; exact M
theorem S2 {t : TypeId} {ti : TI} (W : E.tab t = some ti) (M : ti.isAgg = false) {H : GH} {G : Array Value} {cs : List T} (h : VR H (.agg G) (.agg cs)) {off : Nat} {x : T} (X : cs[off]? = some x) :
  ∃ v, VR H v x ∧ ∀ w, (part t G off).run E.P w = .ok v w := by
 have O : Dx ti cs off = some x := by simp [Dx, M, X]
 exact Iy h (E.ok _ _ W) O
theorem On {H : GH} {xs ys : Array Value} {a b : Li} (hx : VR H (.agg xs) (.agg (a.map cI))) (hy : VR H (.agg ys) (.agg (b.map cI))) {O : Nat} {Y : TI} (he : E.tab O = some Y) (M : Y.kind = .int .i64) (w : World) (d : Nat) (hl : a.length = b.length) :
  ∀ (m k : Nat), k + m = a.length →
  (forIn (List.range' k m) ((none, ()) : Option Bool × Unit) (fun i _ => do
   let p ← part O xs (i * 1)
   let q ← part O ys (i * 1)
   let r ← Op.equalIn (d + 1) O p q
   if !r then pure (ForInStep.done (some false, ())) else pure (ForInStep.yield (none, ()))) : Sem (Option Bool × Unit)).run E.P w =
   .ok (if a.drop k = b.drop k then none else some false, ()) w
 | 0, k, hk => by
  have h1 : a.drop k = [] := List.drop_eq_nil_of_le (by omega)
  have h2 : b.drop k = [] := List.drop_eq_nil_of_le (by omega)
  simp [h1, h2]
 | m + 1, k, hk => by
  have W : Y.isAgg = false := by simp [TI.isAgg, M]
  have ha : a[k]? = some a[k] := gq (by omega)
  have hb : b[k]? = some b[k] := gq (by omega)
  obtain ⟨v, hv, ae⟩ := S2 (E := E) he W hx (off := k) (x := cI a[k]) (by simp [ha])
  obtain ⟨u, hu, ad⟩ := S2 (E := E) he W hy (off := k) (x := cI b[k]) (by simp [hb])
  have := hv.v_eq; subst this
  have := hu.v_eq; subst this
  have ab := run_equalIn_int (P := E.P) w d O .i64 .i64 a[k] b[k] (Ma (E.ok _ _ he) M)
  have ih := On hx hy he M w d hl m (k + 1) (by omega)
  rw [List.range'_succ, List.forIn_cons]
  simp only [Sem.run_bind, Nat.mul_one, ae, ad, Result.andThen_ok, ab]
  have Z : a.drop k = a[k] :: a.drop (k + 1) := List.drop_eq_getElem_cons (by omega)
  have aa : b.drop k = b[k] :: b.drop (k + 1) := List.drop_eq_getElem_cons (by omega)
  rw [Z, aa]
  by_cases h : a[k] = b[k]
  ·have G : (a[k] == b[k]) = true := by simp [h]
   simp only [G, Bool.not_true, Bool.false_eq_true, if_false, Sem.run_pure, Result.andThen_ok]
   simp only [Nat.mul_one] at ih
   have X : (a[k] :: a.drop (k + 1) = b[k] :: b.drop (k + 1)) ↔ (a.drop (k + 1) = b.drop (k + 1)) := by rw [List.cons.injEq]; exact ⟨fun h => h.2, fun h' => ⟨h, h'⟩⟩
   rw [ih]
   simp only [X]
  ·have G : (a[k] == b[k]) = false := by simp [h]
   simp only [G, Bool.not_false, if_true, Sem.run_pure, Result.andThen_ok]
   have ac : ¬ (a[k] :: a.drop (k + 1) = b[k] :: b.drop (k + 1)) := fun he => h (List.cons.inj he).1
   simp only [ac, if_false]
theorem bY {op : BinOp} {t t' : TypeId} {x y : Operand} {ti Y : TI} {len el : Nat} {a b : Arr Int len} {q : Bool} (ht : E.tab t = some ti) (hk : ti.kind = .array len el) (he : E.tab el = some Y) (aa : Y.kind = .int .i64) (hsz : Y.size = 1) (hg : aA E.P t = true)
  (hx : Aq s x = some (.agg (a.l.map cI))) (hy : Aq s y = some (.agg (b.l.map cI))) (hq : (match op with | .eql => some (decide (a = b)) | .neq => some (!decide (a = b)) | _ => none) = some q) :
  Yp E.P n s ⟨dst, .binOp op t x y t', ty, pos, aft, g⟩ (.v (.bool q)) := by
 intro H A sr
 have M : E.P.eqGuardType E.P.depth t = false := by simpa [aA] using hg
 have vx := sr.eval hx
 have vy := sr.eval hy
 generalize W : A.eval x = u at vx
 generalize X : A.eval y = v at vy
 refine ⟨_, .v _, fun w => ?_⟩
 have Z : decide (a.l = b.l) = decide (a = b) := decide_eq_decide.2 ⟨Arr.ext', fun h => by rw [h]⟩
 cases vx with
 | agg xs _ hl1 hc1 hv1 =>
  cases vy with
  | agg ys _ hl2 hc2 hv2 =>
   have G := On (E := E) (.agg xs _ hl1 hc1 hv1) (.agg ys _ hl2 hc2 hv2) he aa w 9998 (by rw [a.h, b.h]) len 0 (by rw [a.h]; omega)
   have O : (Op.equalIn 10000 t (.agg xs) (.agg ys)).run E.P w = .ok (decide (a = b)) w := by
    obtain ⟨D, hD⟩ : ∃ D, D = 9999 := ⟨_, rfl⟩
    rw [show (10000 : Nat) = D + 1 by omega]
    rw [show (9998 : Nat) + 1 = D by omega] at G
    clear hD
    simp only [Op.equalIn, Sem.run_bind, run_underlying (Ld (E.ok _ _ ht) hk), Result.andThen_ok, Bl (E.ok _ _ he), hsz]
    rw [Std.Legacy.Range.forIn_eq_forIn_range']
    simp only [Std.Legacy.Range.size, Nat.sub_zero, Nat.add_sub_cancel, Nat.div_one]
    simp only [List.drop_zero] at G
    refine (congrArg (fun r => Result.andThen r _) G).trans ?_
    rw [← Z]
    by_cases h : a.l = b.l <;> simp [h]
   cases op <;> simp only [Option.some.injEq, reduceCtorEq] at hq <;> subst hq
   ·simp only [execOp, W, X, Sem.run_bind, run_eqGuard_agg w _ t x y xs ys M, Result.andThen_ok, run_eql_struct, O, Sem.run_pure]
   ·simp only [execOp, W, X, Sem.run_bind, run_eqGuard_agg w _ t x y xs ys M, Result.andThen_ok, run_neq_struct, O, Sem.run_pure]
theorem Tn {t t' : TypeId} {x : Operand} {ti : TI} {e sz : Nat} {es : List (List T)} (ht : E.tab t = some ti) (X : ti.kind = .slice e) (hx : Aq s x = some (.list sz es)) (W : ∀ d, dst = some d → d < n)
  (k : ∀ b : Bool, (b = true → es = []) → R ⟨D3 s dst (.v (.bool b)), ob⟩) : AX E n C [] ⟨dst, .binOp .eql t x (.const (.slice none 0 0)) t', ty, pos, aft, g⟩ ⟨s, ob⟩ R := by
 refine AX.value fun H a w M => ?_
 have h := M.sr.eval hx
 generalize hv : a.eval x = v at h
 have hr : ∃ G l c, v = .slice G l c ∧ (G.isNone = true → es = []) := by
  cases h with
  | empty a cap sz => exact ⟨a, 0, cap, rfl, fun _ => rfl⟩
  | list b off cap sz es cs ty fr hb hcap hmax hsz hel h1 hvs => exact ⟨_, _, _, rfl, fun h => by simp at h⟩
 obtain ⟨G, l, c, rfl, Y⟩ := hr
 refine ⟨.bool G.isNone, w, _, H, ?_, k G.isNone Y, ?_, fun _ _ h => h, fun i p Z _ => ⟨Z, fun _ _ => rfl⟩⟩
 ·have := run_eql_slice_nil (P := E.P) w t e G l c (Dk (E.ok _ _ ht) X)
  have O : a.eval (.const (.slice none 0 0)) = .slice none 0 0 := rfl
  simp only [execOp, hv, O, Sem.run_bind, eqGuard, Sem.run_pure, Result.andThen_ok, this]
  simp [this]
 ·have := M.put (dst := dst) (.v (.bool G.isNone)) W
  cases dst <;> exact this
theorem Cn {α : Type} {f : α → List T} {c : Code} {Q : Exit → St → Prop} (q m : Nat) {v : Value} {W sz : Nat} {l : List α} {x : α} (Z : ob[q]? = some (.us v W sz (l.map f))) (Y : l[m]? = some x)
  (k : (∃ c, v = .slice (some ⟨Qx v, 0, none⟩) l.length c) → AW E n C c ⟨s, ob⟩ Q) : AW E n C c ⟨s, ob⟩ Q := by
 intro H a w M
 have G : UsR H w v W sz (l.map f) := M.objs _ (mg Z)
 obtain ⟨c, X, O, _⟩ := G.arr (Ag (f := f) Y)
 rw [List.length_map] at O
 exact k ⟨c, O⟩ H a w M
theorem Ho {α : Type} {f : α → List T} {c : Code} {Q : Exit → St → Prop} (q : Nat) {v : Value} {O sz : Nat} {l : List α} (Y : ob[q]? = some (.us v O sz (l.map f)))
  (k : (∃ a c, v = .slice a l.length c) → AW E n C c ⟨s, ob⟩ Q) : AW E n C c ⟨s, ob⟩ Q := by
 intro H a w M
 have G : UsR H w v O sz (l.map f) := M.objs _ (mg Y)
 refine k ?_ H a w M
 rcases G with ⟨rfl, X⟩ | ⟨b, c, W, rfl, _⟩
 ·have : l = [] := by simpa using X
  subst this; exact ⟨none, 0, rfl⟩
 ·exact ⟨some ⟨b, 0, none⟩, c, by rw [List.length_map]⟩
theorem Bi {α : Type} {t : TypeId} {x y : Operand} {kk : IntKind} {i : Int} {m : Nat} {v : Value} {sz : Nat} {l : List α} {e : α} {ti O : TI} {M : Nat}
  (Y : E.tab t = some ti) (W : ti.kind = .slice M) (hel : E.tab M = some O) (hsz : O.size = sz)
  (Z : Aq s x = some (.v v)) (hv : ∃ c, v = .slice (some ⟨Qx v, 0, none⟩) l.length c) (hy : Aq s y = some (.v (.int kk i))) (hi : i = (m : Int)) (X : l[m]? = some e) :
  Yp E.P n s ⟨dst, .indexAddr t x y, ty, pos, aft, g⟩ (.v (.pointer (some ⟨Qx v, m * sz, none⟩))) := by
 obtain ⟨c, hv⟩ := hv
 have G : Aq s x = some (.v (.slice (some ⟨Qx v, 0, none⟩) l.length c)) := by rw [← hv]; exact Z
 have := Ll (E := E) (n := n) (dst := dst) (ty := ty) (pos := pos) (aft := aft) (g := g) Y W hel G hy hi (gs X).1
 rwa [hsz, Nat.zero_add] at this
theorem Hl {α : Type} {x : Operand} {t : TypeId} {v : Value} {l : List α} {ti : TI} {e : Nat} (M : E.tab t = some ti) (G : ti.kind = .slice e) (O : Aq s x = some (.v v))
  (hv : ∃ a c, v = .slice a l.length c) : Yp E.P n s ⟨dst, .call { callee := .builtin .len, args := #[x], argTypes := #[t] }, ty, pos, aft, g⟩ (.v (.int .i64 (l.length : Int))) := by
 obtain ⟨a, c, rfl⟩ := hv
 exact E8 M G O
def Uj (l : Li) : Option ByteArray := if (l.all fun x => decide (0 ≤ x ∧ x < 256)) = true then some ⟨(l.map fun x => UInt8.ofNat x.toNat).toArray⟩ else none
theorem Vd {l : Li} (h : (l.all fun x => decide (0 ≤ x ∧ x < 256)) = true) : Eu (l.map fun x => UInt8.ofNat x.toNat) = l.map (rK .u8) := by
 unfold Eu
 rw [List.map_map]
 refine List.map_congr_left fun x M => ?_
 have := List.all_eq_true.1 h x M
 have := of_decide_eq_true this
 simp only [Function.comp_apply, rK]
 have G : ((UInt8.ofNat x.toNat).toNat : Int) = x := by
  rw [UInt8.toNat_ofNat']
  omega
 rw [G]
theorem Z0 (q : Nat) {t t' : TypeId} {x : Operand} {ti M Z : TI} {e tt : Nat} {l : Li} {v : Value} {r : ByteArray} (O : Uj l = some r) (ht : E.tab t = some ti) (hk : ti.kind = .slice e) (he : E.tab e = some Z) (X : Z.kind = .int .u8) (Y : E.tab t' = some M) (W : M.kind = .string)
  (hx : Aq s x = some (.v v)) (hq : ob[q]? = some (.us v tt 1 (l.map (rK .u8)))) (hd : ∀ d, dst = some d → d < n) (k : R ⟨D3 s dst (.v (.string r)), ob⟩) : AX E n C [] ⟨dst, .convert t t' x, ty, pos, aft, g⟩ ⟨s, ob⟩ R := by
 unfold Uj at O
 split at O
 ·rename_i G
  cases O
  exact Ua ht hk he X Y W (by rw [Vd G]; exact Vo q hx hq) hd k
 ·cases O
theorem UsR.one {H : GH} {w : World} {v : Value} {G sz : Nat} {es : List (List T)} (h : UsR H w v G sz es) : v.oneCell' = true := by
 rcases h with ⟨rfl, _⟩ | ⟨_, _, _, rfl, _⟩ <;> rfl
theorem AO.one {ops : Array Oper} {l : List Oper} (q : Nat) {v : Value} {M sz : Nat} {es : List (List T)} (O : ob[q]? = some (.us v M sz es)) (k : v.oneCell' = true → AO E n C ops l ⟨s, ob⟩ R) : AO E n C ops l ⟨s, ob⟩ R :=
 fun H a w G => k (UsR.one (show UsR H w v M sz es from G.objs _ (mg O))) H a w G
theorem AP.one {ops : Array Oper} {pl : PL} {so : Ak} {prot : List Nat} {pobjs : List Ob} (q : Nat) {v : Value} {O sz : Nat} {es : List (List T)} (Y : ob[q]? = some (.us v O sz es)) (k : v.oneCell' = true → AP E n C ops prot pobjs pl so ⟨s, ob⟩ R) : AP E n C ops prot pobjs pl so ⟨s, ob⟩ R :=
 fun Hs ws H a w Z wr W X G M => k (UsR.one (show UsR H w v O sz es from M.objs _ (mg Y))) Hs ws H a w Z wr W X G M
def jW := @AP.one
theorem A8 {v : Value} (h : v.oneCell' = true) : Dt (.v v) = some [.v v] := by simp [Dt, h]
theorem Fr {G : Nat → Option (Nat × Nat)} {l : List T} : Fb s G l [] = some l := rfl
theorem Ci {G : Nat → Option (Nat × Nat)} {l l' : List T} {i off size : Nat} {x : Operand} {r : List (Nat × Operand)} {c : T} {cs : List T} (M : G i = some (off, size)) (W : Aq s x = some c) (hc : Dt c = some cs)
  (hb : (Nat.beq cs.length size && Nat.ble (off + cs.length) l.length) = true) (O : Fb s G (Ev l off cs) r = some l') : Fb s G l ((i, x) :: r) = some l' := by
 simp only [Fb, M, W, Option.bind_some, hc, hb, cond_true]; exact O
theorem Jl : ∀ {l cs : List T}, l.length = cs.length → Ev l 0 cs = cs
 | [], [], _ => rfl
 | [], _ :: _, h => by simp at h
 | _ :: _, [], h => by simp at h
 | x :: l, c :: cs, h => by simp only [Ev]; rw [Jl (by simpa using h)]
theorem Q9 {α : Type} {l : List α} {i : Nat} {x : α} (h : l[i]? = some x) : i < l.length := (gs h).1
theorem Ko {α : Type} {k : Nat} {a : Arr α k} {i : Nat} {x : α} (h : a.l[i]? = some x) : i < k := by have := Q9 h; rwa [a.h] at this
theorem V3 {i k : Nat} {off : Nat} {e : List T} (hi : i < k) (he : off + k ≤ e.length) : off + i + 1 ≤ e.length := by omega
theorem Jm {G : TI} {cs : List T} (M : G.isAgg = true) (h : G.size = cs.length) : Dx G cs 0 = some (.agg cs) := by simp [Dx, M, h]
theorem Lf {G : TI} {l post : List T} (M : G.isAgg = true) (h : l.length = G.size) : Dx G (l ++ post) 0 = some (.agg l) := by
 unfold Dx
 rw [M, cond_true]
 cases hb : (Nat.beq 0 0 && Nat.beq G.size (l ++ post).length) with
 | true =>
  simp only [Bool.and_eq_true] at hb
  have := nq hb.2
  rw [List.length_append] at this
  have : post = [] := List.length_eq_zero_iff.1 (by omega)
  subst this
  simp
 | false =>
  rw [cond_false]
  have : Nat.ble (0 + G.size) (l ++ post).length = true := by
   rw [Nat.zero_add]; exact Nat.ble_eq_true_of_le (by simp; omega)
  rw [this, cond_true, List.drop_zero, ← h, List.take_left]
theorem Ww {M : TI} {G post : List T} {k i j : Nat} {l : List T} (X : M.isAgg = true) (Y : j = k + i) (Z : G.length = k) (h : Dx M post i = some (.agg l)) (O : 0 < k := by decide) : Dx M (G ++ post) j = some (.agg l) := by
 subst Y Z
 unfold Dx at h ⊢
 rw [X, cond_true] at h ⊢
 have h1 : Nat.beq (G.length + i) 0 = false := by
  cases hb : Nat.beq (G.length + i) 0 with
  | false => rfl
  | true => have := nq hb; omega
 rw [h1, Bool.false_and, cond_false]
 cases hb : (Nat.beq i 0 && Nat.beq M.size post.length) with
 | true =>
  rw [hb, cond_true] at h
  simp only [Bool.and_eq_true] at hb
  have h2 := nq hb.1
  have W := nq hb.2
  cases h
  have : Nat.ble (G.length + i + M.size) (G ++ post).length = true := Nat.ble_eq_true_of_le (by simp; omega)
  rw [this, cond_true, h2, Nat.add_zero, List.drop_left, W, List.take_length]
 | false =>
  rw [hb, cond_false] at h
  cases hc : Nat.ble (i + M.size) post.length with
  | false => rw [hc] at h; cases h
  | true =>
   rw [hc, cond_true] at h
   cases h
   have := Nat.le_of_ble_eq_true hc
   have : Nat.ble (G.length + i + M.size) (G ++ post).length = true := Nat.ble_eq_true_of_le (by simp; omega)
   rw [this, cond_true]
   rw [List.drop_append, show (G.drop (G.length + i)) = [] from List.drop_eq_nil_of_le (by omega), List.nil_append, Nat.add_sub_cancel_left]
theorem E9 {α : Type} {W : α → T} {t : TypeId} {x y : Operand} {k : IntKind} {i : Int} {m len O : Nat} {l : List α} {z : α} {ti G : TI} (Z : E.tab t = some ti) (Y : ti.kind = .array len O) (hel : E.tab O = some G) (h1 : G.size = 1) (M : G.isAgg = false)
  (hx : Aq s x = some (.agg (l.map W))) (hy : Aq s y = some (.v (.int k i))) (hi : i = (m : Int)) (X : l[m]? = some z) (hlen : l.length = len := by first | rfl | exact Arr.h _) :
  Yp E.P n s ⟨dst, .index t x y, ty, pos, aft, g⟩ (W z) :=
 Vf Z Y hel hx hy hi (by have := Q9 X; omega) (by rw [h1, Nat.mul_one]; simp [Dx, M, X])
theorem iO {x : Nat} (h : (0 : Int) = (x : Int)) : Vs s none 0 x := by show x = 0; omega
end
section
variable {E : Env} {n : Nat} {C : Ctx} {σ : St} {s : Ak} {dst : Option Tmp} {ty : TypeId} {pos : String} {aft : Array Edge} {g : Option (Nat × Bool)}
theorem Lr {H : GH} {w : World} {cs : List T} {b off tt sz cap : Nat} {es : List (List T)} (i j : Nat) {e : List T} (hor : ArrR H w b tt sz cap es) (he : es[i]? = some e) (ho : off = i * sz + j)
  {news : List Value} (M : news.length = cs.length) (W : ∀ v, v ∈ news → v.oneCell' = true) (hvr : ∀ (i : Nat) (x : T), cs[i]? = some x → VR H (news.getD i undef) x) (hj : j + cs.length ≤ e.length) :
  ∃ w', (storeCells ⟨b, off, none⟩ news).run E.P w = .ok () w' ∧ ArrR H w' b tt sz cap (es.set i (Ev e j cs)) ∧ (w'.os = w.os ∧ w'.tape = w.tape ∧ w'.output = w.output) ∧ w'.heap.size = w.heap.size ∧
   ∀ i, i ≠ b → w'.heap[i]? = w.heap[i]? := by
 obtain ⟨O, a1, a2, a3, a4, a5, a6⟩ := hor
 have aa := (gs he).1
 have hel := a5 i e he
 have ab : (i + 1) * sz ≤ cap * sz := Nat.mul_le_mul_right _ (by omega)
 rw [Nat.succ_mul] at ab
 have ac := run_storeCells_at (P := E.P) b off tt news 0 O w a1 (by rw [M]; omega) W
 simp only [Nat.add_zero] at ac
 refine ⟨w.setRow b (O.toList.take off ++ news ++ O.toList.drop (off + news.length)).toArray, ac, ?_, ⟨rfl, rfl, rfl⟩, Fz _ _ _, fun i hi => setRow_other w b i _ hi⟩
 refine ⟨_, setRow_heap w b O _ tt _ a1, ?_, by simpa using a3, by simpa using a4, ?_, ?_⟩
 ·simp only [List.size_toArray, List.length_append, List.length_take, List.length_drop, Array.length_toList, M]
  omega
 ·intro Z e' G
  rw [List.getElem?_set] at G
  split at G
  ·simp only [aa, if_true, Option.some.injEq] at G
   subst G; rw [Ej]; exact hel
  ·exact a5 Z e' G
 ·intro Z e' G j' x' Y
  rw [Gd (by rw [M]; omega)]
  rw [List.getElem?_set] at G
  split at G
  ·rename_i X
   subst X
   simp only [aa, if_true, Option.some.injEq] at G
   subst G
   rcases Hk e j cs j' x' Y with ⟨q1, q2, q3⟩ | ⟨q1, q2⟩
   ·rw [if_pos (by rw [M]; omega)]
    rw [show i * sz + j' - off = j' - j by omega]
    have hlt := (gs q3).1
    refine ⟨?_, hvr _ _ q3⟩
    rw [List.getD, gq (by omega)]
    exact W _ (List.getElem_mem (by omega))
   ·rw [if_neg (by rw [M]; omega)]
    exact a6 i e he j' x' q2
  ·rename_i X
   have hj'l := (gs Y).1
   have hel' := a5 Z e' G
   rw [if_neg ?_]
   ·exact a6 Z e' G j' x' Y
   ·rw [M]
    rintro ⟨q1, q2⟩
    rcases Nat.lt_or_gt_of_ne X with h | h
    ·have : (i + 1) * sz ≤ Z * sz := Nat.mul_le_mul_right _ h
     rw [Nat.succ_mul] at this; omega
    ·have : (Z + 1) * sz ≤ i * sz := Nat.mul_le_mul_right _ h
     rw [Nat.succ_mul] at this; omega
theorem Ghost.lit (t : Nat) {ob : List Ob} {sz : Nat} {es es' : List (List T)} (h : get s t = some (.list sz es)) (hl : LendLL [] es es') : Ghost n C s ob ((t, .list sz es') :: s) ob := Ghost.slots fun H a w M i x G => by
 simp only [get] at G
 cases hb : Nat.beq t i with
 | true =>
  have := nq hb
  subst this
  rw [hb, cond_true] at G
  cases G
  refine VR.rows (M.slots t _ h) hl.length fun i O W => ?_
  obtain ⟨e, Z, q2, q3⟩ := Lo (H := H) (H1 := H) (w := w) (objs := []) (by simp) (by simp) (fun _ _ h => h) hl i O W
  exact ⟨e, Z, q2, fun j y Y v X => q3 j y Y X⟩
 | false =>
  rw [hb, cond_false] at G
  exact M.slots i x G
theorem AX.take (k m : Nat) {md : List Nat} {o : Oper} {ob : List Ob} {R : St → Prop} {v : Value} {ty tyi szi : Nat} {vs : List Value} {L : List (Option (List (List T)))} {es : List (List T)} (hk : ob[k]? = some (.uss v ty tyi szi vs L)) (hm : L[m]? = some (some es))
  (h : AX E n C md o ⟨s, ob.set k (.uss v ty tyi szi vs (L.set m none)) ++ [.us (vs.getD m undef) tyi szi es]⟩ R) : AX E n C (k :: md) o ⟨s, ob⟩ R := by
 intro H a w Z
 obtain ⟨H1, h1, Y⟩ := Ghost.take (n := n) (C := C) (s := s) k m hk hm H a w Z
 refine Cf ?_ (fun _ _ _ h => h) (h H1 a w Y)
 rintro a' w' ⟨σ', H', v, hr, M, ha, O, W⟩
 refine ⟨σ', H', v, hr, M, ha, fun b o hb => O _ _ (h1 _ _ hb), fun i p X G => ?_⟩
 simp only [List.contains_cons, Bool.or_eq_false_iff, beq_eq_false_iff_ne] at G
 refine W i p ?_ G.2
 dsimp only at X ⊢
 rw [List.getElem?_append_left (by simpa using (gs X).1), List.getElem?_set_ne (Ne.symm G.1)]; exact X
end
inductive NewK where
 | us (e z : Nat) (es : List (List T))
 | box (ty m : Nat) (cs : List T)
 | fn (f : List T → T)
 | lt (e z : Nat)
 | ap (q e z : Nat) (es : List (List T))
structure NewOp where
 j : Nat
 ds : List Nat
 d : Nat
 k : NewK
def NewK.obs : NewK → T → List Ob
 | .us e z es, .v v => [.us v e z es]
 | .box ty m cs, .v (.pointer (some a)) => [.arr a.block ty m 1 [cs]]
 | .ap _ e z es, .v v => [.us v e z es]
 | _, _ => []
def NewK.obN : NewK → T → List Ob
 | .lt e z, .v v => [.us v e z []]
 | k, x => k.obs x
def NewK.ok (G : List T) (x : T) : NewK → Prop
 | .us _ _ _ => ∃ v, x = .v v ∧ v.oneCell' = true
 | .box _ _ _ => ∃ b, x = .v (.pointer (some ⟨b, 0, none⟩))
 | .fn f => x = f G
 | .lt _ _ => ∃ v, x = .v v ∧ v.oneCell' = true
 | .ap _ _ _ _ => ∃ v, x = .v v ∧ v.oneCell' = true
def NewK.okW (G : List T) (x : T) : NewK → Prop
 | .us _ _ _ => ∃ v, x = .v v
 | .box _ _ _ => ∃ b, x = .v (.pointer (some ⟨b, 0, none⟩))
 | .fn f => x = f G
 | .lt _ _ => ∃ v, x = .v v
 | .ap _ _ _ _ => ∃ v, x = .v v
def Sh (v : Nat → T) (j : Nat) (x : T) : Nat → T := fun i => bif Nat.beq i j then x else v i
def News : List NewOp → (Nat → T) → Ak → List Ob → (Ak → List Ob → Prop) → Prop
 | [], _, s, ob, F => F s ob
 | ⟨j, _, d, .us e z es⟩ :: l, v, s, ob, F => ∀ x : Value, x.oneCell' = true → News l (Sh v j (.v x)) ((d, .v x) :: s) (ob ++ [.us x e z es]) F
 | ⟨j, _, d, .box ty m cs⟩ :: l, v, s, ob, F => ∀ b : Nat, News l (Sh v j (.v (.pointer (some ⟨b, 0, none⟩)))) ((d, .v (.pointer (some ⟨b, 0, none⟩))) :: s) (ob ++ [.arr b ty m 1 [cs]]) F
 | ⟨j, ds, d, .fn f⟩ :: l, v, s, ob, F => News l (Sh v j (f (ds.map v))) ((d, f (ds.map v)) :: s) ob F
 | ⟨j, _, d, .lt _ _⟩ :: l, v, s, ob, F => ∀ x : Value, x.oneCell' = true → News l (Sh v j (.v x)) ((d, .v x) :: s) ob F
 | ⟨j, _, d, .ap _ e z es⟩ :: l, v, s, ob, F => ∀ x : Value, x.oneCell' = true → News l (Sh v j (.v x)) ((d, .v x) :: s) (ob ++ [.us x e z es]) F
def Sj (v : Nat → T) : List NewOp → Ak → Ak
 | [], s => s
 | p :: l, s => Sj v l ((p.d, v p.j) :: s)
def Pc (v : Nat → T) : List NewOp → List Ob → List Ob
 | [], ob => ob
 | p :: l, ob => Pc v l (ob ++ p.k.obs (v p.j))
def dN : List Nat → List NewOp → Bool
 | _, [] => true
 | P, p :: l => p.ds.all P.contains && dN (p.j :: P) l
theorem News.get (vals : Nat → T) {F : Ak → List Ob → Prop} : ∀ (l : List NewOp) (P : List Nat) (v : Nat → T) (s : Ak) (ob : List Ob), dN P l = true → (∀ i, i ∈ P → v i = vals i) → (∀ p, p ∈ l → p.k.ok (p.ds.map vals) (vals p.j)) → News l v s ob F → F (Sj vals l s) (Pc vals l ob)
 | [], P, v, s, ob, _, _, _, h => h
 | ⟨j, ds, d, k⟩ :: l, P, v, s, ob, hb, hv, ho, h => by
  simp only [dN, Bool.and_eq_true] at hb
  have W := ho _ (.head _)
  have M : ∀ x, x = vals j → ∀ i, i ∈ j :: P → Sh v j x i = vals i := by
   intro x G i Y
   unfold Sh
   cases hij : Nat.beq i j with
   | true => rw [cond_true, G, nq hij]
   | false =>
    rw [cond_false]
    rcases List.mem_cons.1 Y with rfl | Y
    ·simp at hij
    ·exact hv i Y
  cases k with
  | us e z es =>
   obtain ⟨x, G, X⟩ := W
   have := News.get vals l (j :: P) _ _ _ hb.2 (M _ G.symm) (fun p O => ho p (.tail _ O)) (h x X)
   simp only [Sj, Pc, G, NewK.obs]; exact this
  | box ty m cs =>
   obtain ⟨b, G⟩ := W
   have := News.get vals l (j :: P) _ _ _ hb.2 (M _ G.symm) (fun p O => ho p (.tail _ O)) (h b)
   simp only [Sj, Pc, G, NewK.obs]; exact this
  | fn f =>
   have hm : ds.map v = ds.map vals := List.map_congr_left fun i Y => hv i (by have := List.all_eq_true.1 hb.1 i Y; simpa using this)
   have G : vals j = f (ds.map vals) := W
   have Z : News l (Sh v j (f (ds.map v))) ((d, f (ds.map v)) :: s) ob F := h
   rw [hm, ← G] at Z
   have := News.get vals l (j :: P) _ _ _ hb.2 (M _ rfl) (fun p O => ho p (.tail _ O)) Z
   simp only [Sj, Pc, NewK.obs, List.append_nil]; exact this
  | lt e z =>
   obtain ⟨x, G, X⟩ := W
   have := News.get vals l (j :: P) _ _ _ hb.2 (M _ G.symm) (fun p O => ho p (.tail _ O)) (h x X)
   simp only [Sj, Pc, G, NewK.obs, List.append_nil]; exact this
  | ap q e z es =>
   obtain ⟨x, G, X⟩ := W
   have := News.get vals l (j :: P) _ _ _ hb.2 (M _ G.symm) (fun p O => ho p (.tail _ O)) (h x X)
   simp only [Sj, Pc, G, NewK.obs]; exact this
theorem S6 {vals : Nat → T} {i : Nat} {x : T} : ∀ {l : List NewOp} {s : Ak}, Aw.get (Sj vals l s) i = some x → (∃ p, p ∈ l ∧ p.d = i ∧ vals p.j = x) ∨ Aw.get s i = some x
 | [], s, h => .inr h
 | p :: l, s, h => by
  rcases S6 (l := l) h with ⟨q, G, M⟩ | h
  ·exact .inl ⟨q, .tail _ G, M⟩
  ·simp only [Aw.get] at h
   cases hb : Nat.beq p.d i with
   | true => rw [hb, cond_true] at h; cases h; exact .inl ⟨p, .head _, nq hb, rfl⟩
   | false => rw [hb, cond_false] at h; exact .inr h
def H8 (vals : Nat → T) (D : List Nat) (p : NewOp) : List Ob :=
 match p.k with
 | .ap q e z es => bif D.contains p.j then (NewK.ap q e z es).obs (vals p.j) else bif D.contains q then (NewK.us e z []).obs (vals q) else []
 | k => bif D.contains p.j then k.obs (vals p.j) else []
def Eh (vals : Nat → T) (D : List Nat) (l : List NewOp) : List Ob := l.flatMap (H8 vals D)
theorem Lj {vals : Nat → T} {D : List Nat} : ∀ {l : List NewOp} {ob : List Ob}, (∀ p, p ∈ l → p.j ∈ D) → ob ++ Eh vals D l = Pc vals l ob
 | [], ob, _ => by simp [Eh, Pc]
 | p :: l, ob, h => by
  have G : D.contains p.j = true := by simpa using h p (.head _)
  have e : H8 vals D p = p.k.obs (vals p.j) := by
   unfold H8
   cases hk : p.k <;> simp only [G, cond_true]
  unfold Eh
  simp only [Pc, List.flatMap_cons, e]
  rw [← List.append_assoc]
  exact Lj fun q M => h q (.tail _ M)
theorem P6 {vals : Nat → T} : ∀ {l : List NewOp}, Eh vals [] l = []
 | [] => rfl
 | p :: l => by
  have e : H8 vals [] p = [] := by unfold H8; cases p.k <;> rfl
  unfold Eh
  rw [List.flatMap_cons, e]; exact P6 (l := l)
theorem Gy {vals G : Nat → T} {D D' : List Nat} {r : NewOp} {old new : List Ob} : ∀ {l : List NewOp}, r ∈ l → (l.map NewOp.j).Nodup → H8 vals D r = old → H8 G D' r = new → (∀ x, x ∈ l → x.j ≠ r.j → H8 vals D x = H8 G D' x) → ∃ rest, List.Perm (Eh vals D l) (old ++ rest) ∧ List.Perm (Eh G D' l) (new ++ rest)
 | q :: l, W, hn, h1, h2, O => by
  simp only [List.map_cons, List.nodup_cons] at hn
  unfold Eh
  simp only [List.flatMap_cons]
  rcases List.mem_cons.1 W with rfl | W
  ·refine ⟨l.flatMap (H8 vals D), by rw [h1], ?_⟩
   have e : l.flatMap (H8 vals D) = l.flatMap (H8 G D') := by
    have : ∀ m : List NewOp, (∀ x, x ∈ m → H8 vals D x = H8 G D' x) → m.flatMap (H8 vals D) = m.flatMap (H8 G D') := by
     intro m
     induction m with
     | nil => intro _; rfl
     | cons y m ih => intro h; rw [List.flatMap_cons, List.flatMap_cons, h y (.head _), ih fun x O => h x (.tail _ O)]
    exact this l fun x M => O x (.tail _ M) fun X => hn.1 (X ▸ List.mem_map_of_mem M)
   rw [h2, e]
  ·have Y : q.j ≠ r.j := fun X => hn.1 (X ▸ List.mem_map_of_mem W)
   obtain ⟨rest, a, b⟩ := Gy W hn.2 h1 h2 fun x M => O x (.tail _ M)
   have e := O q (.head _) Y
   unfold Eh at a b
   refine ⟨H8 vals D q ++ rest, ?_, ?_⟩
   ·refine (List.Perm.append_left _ a).trans ?_
    rw [← List.append_assoc, ← List.append_assoc]
    exact List.Perm.append_right _ List.perm_append_comm
   ·rw [← e]
    refine (List.Perm.append_left _ b).trans ?_
    rw [← List.append_assoc, ← List.append_assoc]
    exact List.Perm.append_right _ List.perm_append_comm
theorem Xe {l m : List Ob} (h : List.Perm l m) : List.Perm (l.flatMap Ob.fp) (m.flatMap Ob.fp) := by
 induction h with
 | nil => exact .nil
 | cons x _ ih => simp only [List.flatMap_cons]; exact List.Perm.append_left _ ih
 | swap x y l =>
  simp only [List.flatMap_cons, ← List.append_assoc]
  exact List.Perm.append_right _ List.perm_append_comm
 | trans _ _ a b => exact a.trans b
def PAllN (F : NewOp → Prop) : List NewOp → Prop
 | [] => True
 | p :: l => F p ∧ PAllN F l
theorem PAllN.get {F : NewOp → Prop} : ∀ {l : List NewOp}, PAllN F l → ∀ p, p ∈ l → F p
 | q :: l, ⟨h1, h2⟩, p, h => by
  rcases List.mem_cons.1 h with rfl | h
  ·exact h1
  ·exact PAllN.get h2 p h
section
variable {E : Env} {n : Nat} {C : Ctx} {ops : Array Oper} {s : Ak} {ob : List Ob} {R : St → Prop}
theorem Gam.perm {H : GH} {a : Act} {w : World} {ob' : List Ob} (g : Gam n C ⟨s, ob⟩ H a w) (h : List.Perm ob ob') : Gam n C ⟨s, ob'⟩ H a w :=
 { g with objs := fun p G => g.objs p (h.mem_iff.2 G), free := fun p G => g.free p (h.mem_iff.2 G), new := fun p G => g.new p (h.mem_iff.2 G), nodup := (Xe h).nodup_iff.1 g.nodup }
def Wp : List NewOp → Nat → NewOp
 | [], _ => ⟨0, [], 0, .lt 0 0⟩
 | p :: l, j => bif Nat.beq p.j j then p else Wp l j
theorem Me : ∀ {l : List NewOp} {p : NewOp}, p ∈ l → (l.map NewOp.j).Nodup → Wp l p.j = p
 | q :: l, p, G, hn => by
  simp only [List.map_cons, List.nodup_cons] at hn
  simp only [Wp]
  rcases List.mem_cons.1 G with rfl | G
  ·simp
  ·have : Nat.beq q.j p.j = false := by
    cases hb : Nat.beq q.j p.j with
    | false => rfl
    | true => exact absurd (nq hb ▸ List.mem_map_of_mem G) hn.1
   rw [this, cond_false]; exact Me G hn.2
def Ib (A : List NewOp) (j : Nat) : Nat := (Wp A j).d
def Z2 (A : List NewOp) (j : Nat) : NewK := (Wp A j).k
def Wq (A : List NewOp) (j : Nat) : List Nat := (Wp A j).ds
theorem bL {l : List NewOp} {p : NewOp} (h : p ∈ l) (G : (l.map NewOp.j).Nodup) : Ib l p.j = p.d := by unfold Ib; rw [Me h G]
theorem Mr {l : List NewOp} {p : NewOp} (h : p ∈ l) (G : (l.map NewOp.j).Nodup) : Z2 l p.j = p.k := by unfold Z2; rw [Me h G]
theorem eM {l : List NewOp} {p : NewOp} (h : p ∈ l) (G : (l.map NewOp.j).Nodup) : Wq l p.j = p.ds := by unfold Wq; rw [Me h G]
def DepV (A : List NewOp) : List Nat → List T → (List T → Prop) → Prop
 | [], ys, F => F ys
 | j :: ds, ys, F => match Z2 A j with
  | .fn _ => ∀ x : T, DepV A ds (ys ++ [x]) F
  | .box _ _ _ => ∀ b : Nat, DepV A ds (ys ++ [.v (.pointer (some ⟨b, 0, none⟩))]) F
  | _ => ∀ v : Value, v.oneCell' = true → DepV A ds (ys ++ [.v v]) F
theorem DepV.get {A : List NewOp} {vals : Nat → T} {F : List T → Prop} : ∀ {ds : List Nat} {G : List T}, (∀ d, d ∈ ds → ∃ G, NewK.ok G (vals d) (Z2 A d)) → DepV A ds G F → F (G ++ ds.map vals)
 | [], G, _, h => by simpa [DepV] using h
 | j :: ds, G, hv, h => by
  obtain ⟨Z, O⟩ := hv j (by simp)
  have W := fun d Y => hv d (List.mem_cons_of_mem _ Y)
  rw [List.map_cons, show G ++ vals j :: ds.map vals = (G ++ [vals j]) ++ ds.map vals by simp]
  simp only [DepV] at h
  cases hk : Z2 A j <;> rw [hk] at h O <;> first | exact DepV.get W (h _) | (obtain ⟨v, M, X⟩ := O; rw [M]; exact DepV.get W (h v X)) | (obtain ⟨b, M⟩ := O; rw [M]; exact DepV.get W (h b))
def DepN (A : List NewOp) : List Nat → Ak → List T → (Ak → List T → Prop) → Prop
 | [], s, xs, F => F s xs
 | j :: ds, s, xs, F => match Z2 A j with
  | .us _ _ _ => ∀ v : Value, v.oneCell' = true → DepN A ds ((Ib A j, .v v) :: s) (xs ++ [.v v]) F
  | .box _ _ _ => ∀ b : Nat, DepN A ds ((Ib A j, .v (.pointer (some ⟨b, 0, none⟩))) :: s) (xs ++ [.v (.pointer (some ⟨b, 0, none⟩))]) F
  | .fn f => DepV A (Wq A j) [] fun G => DepN A ds ((Ib A j, f G) :: s) (xs ++ [f G]) F
  | .lt _ _ => ∀ v : Value, v.oneCell' = true → DepN A ds ((Ib A j, .v v) :: s) (xs ++ [.v v]) F
  | .ap _ _ _ _ => ∀ v : Value, v.oneCell' = true → DepN A ds ((Ib A j, .v v) :: s) (xs ++ [.v v]) F
def Sl (A : List NewOp) (vals : Nat → T) : List Nat → Ak → Ak
 | [], s => s
 | j :: ds, s => Sl A vals ds ((Ib A j, vals j) :: s)
theorem DepN.get {A : List NewOp} {vals : Nat → T} {F : Ak → List T → Prop} : ∀ {ds : List Nat} {s : Ak} {O : List T}, (∀ d, d ∈ ds → NewK.ok ((Wq A d).map vals) (vals d) (Z2 A d) ∧ ∀ x, x ∈ Wq A d → ∃ ys, NewK.ok ys (vals x) (Z2 A x)) → DepN A ds s O F → F (Sl A vals ds s) (O ++ ds.map vals)
 | [], s, O, _, h => by simpa [DepN, Sl] using h
 | j :: ds, s, O, hv, h => by
  have G := hv j (by simp)
  have X := fun d Y => hv d (List.mem_cons_of_mem _ Y)
  simp only [DepN] at h
  obtain ⟨G, Z⟩ := G
  simp only [Sl, List.map_cons]
  rw [show O ++ vals j :: ds.map vals = (O ++ [vals j]) ++ ds.map vals by simp]
  cases hk : Z2 A j with
  | us e z es =>
   rw [hk] at h G
   obtain ⟨v, M, W⟩ := G
   rw [M]; exact DepN.get X (h v W)
  | box ty m cs =>
   rw [hk] at h G
   obtain ⟨b, M⟩ := G
   rw [M]; exact DepN.get X (h b)
  | fn f =>
   rw [hk] at h G
   have := DepV.get Z h
   rw [List.nil_append, ← show vals j = f ((Wq A j).map vals) from G] at this
   exact DepN.get X this
  | lt e z =>
   rw [hk] at h G
   obtain ⟨v, M, W⟩ := G
   rw [M]; exact DepN.get X (h v W)
  | ap q e z es =>
   rw [hk] at h G
   obtain ⟨v, M, W⟩ := G
   rw [M]; exact DepN.get X (h v W)
theorem Tj {A : List NewOp} {vals : Nat → T} {i : Nat} {x : T} : ∀ {ds : List Nat} {s : Ak}, Aw.get (Sl A vals ds s) i = some x → (∃ d, d ∈ ds ∧ Ib A d = i ∧ vals d = x) ∨ Aw.get s i = some x
 | [], s, h => .inr h
 | d :: ds, s, h => by
  rcases Tj (ds := ds) h with ⟨G, M, O⟩ | h
  ·exact .inl ⟨G, by simp [M], O⟩
  ·simp only [Aw.get] at h
   cases hb : Nat.beq (Ib A d) i with
   | true => rw [hb, cond_true] at h; cases h; exact .inl ⟨d, by simp, nq hb, rfl⟩
   | false => rw [hb, cond_false] at h; exact .inr h
def Z6 : List Nat → Bool
 | [] => true
 | x :: l => (l.all fun y => !Nat.beq x y) && Z6 l
theorem Rz : ∀ {l : List Nat}, Z6 l = true → l.Nodup
 | [], _ => .nil
 | x :: l, h => by
  simp only [Z6, Bool.and_eq_true] at h
  refine List.nodup_cons.2 ⟨fun G => ?_, Rz h.2⟩
  have := List.all_eq_true.1 h.1 x G
  simp at this
def V1 (E : Env) (n : Nat) (C : Ctx) (o : Oper) (p : NewOp) (M : Ak) (G : List T) : Prop :=
 match p.k, G with
 | .ap _ e z es, [.v xl] => ∀ ob, AX E n C [0] o ⟨M, .us xl e z [] :: ob⟩ fun σ' => ∃ v, Aw.get σ'.slots p.d = some (.v v) ∧ σ'.objs = .us v e z es :: ob
 | .ap _ _ _ _, _ => False
 | k, G => ∀ ob, AX E n C [] o ⟨M, ob⟩ fun σ' => ∃ x, Aw.get σ'.slots p.d = some x ∧ k.okW G x ∧ σ'.objs = ob ++ k.obN x
def iX (A : List NewOp) : Bool := A.all fun p => match p.k with
 | .ap q e z _ => (match p.ds with | [x] => Nat.beq x q | _ => false) && ((match Z2 A q with | .lt e' z' => Nat.beq e e' && Nat.beq z z' | _ => false) && A.all fun r => match r.k with | .ap q' _ _ _ => Nat.beq p.j r.j || !Nat.beq q q' | _ => true)
 | .lt _ _ => A.any fun r => match r.k with | .ap q _ _ _ => Nat.beq q p.j | _ => false
 | _ => true
theorem S4 {A : List NewOp} {vals G : Nat → T} {D : List Nat} {j : Nat} {x : NewOp} (X : x.j ≠ j) (W : ∀ q e z es, x.k = .ap q e z es → q ≠ j) (hv : ∀ i, i ∈ D → G i = vals i) : H8 vals D x = H8 G (j :: D) x := by
 have c : ∀ i, i ≠ j → (j :: D).contains i = D.contains i := fun i O => by simp [O]
 have M : ∀ (k : NewK) (y : List Ob), (bif D.contains x.j then k.obs (vals x.j) else y) = bif (j :: D).contains x.j then k.obs (G x.j) else y := fun k y => by
  rw [c _ X]
  cases h : D.contains x.j with
  | true => rw [cond_true, cond_true, hv _ (by simpa using h)]
  | false => rfl
 unfold H8
 cases hk : x.k with
 | ap q e z es =>
  dsimp only
  rw [M, c q (W q e z es hk)]
  cases h : D.contains q with
  | true => rw [hv q (by simpa using h)]
  | false => rfl
 | _ => exact M _ _
theorem AP.any {r : PL} {so : Ak} {prot : List Nat} {pobjs : List Ob} (A : List NewOp)
  (hB : (Z6 (A.map NewOp.j) && (dN [] A && ((A.all (fun p => A.all fun q => Nat.beq p.j q.j || !Nat.beq p.d q.d) && (A.all fun p => (Aw.get s p.d).isNone && free so (some p.d))) && iX A))) = true)
  (hstep : PAllN (fun p => ∃ o, ops[p.j]? = some o ∧ o.guard = none ∧ o.dst = some p.d ∧ DepN A p.ds s [] (V1 E n C o p)) A)
  (k : News A (fun _ => .tup []) s ob (fun s' ob' => AP E n C ops prot pobjs r so ⟨s', ob'⟩ R)) :
  AP E n C ops prot pobjs (.par (A.map fun p => (p.j, p.ds)) r) so ⟨s, ob⟩ R := by
 simp only [Bool.and_eq_true] at hB
 obtain ⟨hn, hb, ⟨hj, hs⟩, hap⟩ := hB
 have hn := Rz hn
 have hdd : ∀ p, p ∈ A → ∀ q, q ∈ A → p.d = q.d → p.j = q.j := fun p W q hq he => by
  have := List.all_eq_true.1 (List.all_eq_true.1 hj p W) q hq
  rw [he] at this
  simpa using this
 have hs' : ∀ p, p ∈ A → Aw.get s p.d = none ∧ free so (some p.d) = true := fun p W => by simpa using List.all_eq_true.1 hs p W
 have back : ∀ p, p ∈ A → ∀ q, q ∈ A → p.j = q.j → p = q := fun p W q hq he => by
  obtain ⟨i, hi⟩ := List.getElem?_of_mem W
  obtain ⟨i', hi'⟩ := List.getElem?_of_mem hq
  have Z : (A.map NewOp.j)[i]? = some p.j := by rw [List.getElem?_map, hi]; rfl
  have h2 : (A.map NewOp.j)[i']? = some q.j := by rw [List.getElem?_map, hi']; rfl
  have := (List.getElem?_inj (gs Z).1 hn).1 (Z.trans (by rw [h2, he]))
  rw [this, hi'] at hi; cases hi; rfl
 have apq : ∀ p, p ∈ A → ∀ q e z es, p.k = .ap q e z es → p.ds = [q] ∧ Z2 A q = .lt e z ∧ ∀ r, r ∈ A → ∀ e' z' Y, r.k = .ap q e' z' Y → p.j = r.j := by
  intro p W q e z es M
  have Z := List.all_eq_true.1 hap p W
  simp only [M, Bool.and_eq_true] at Z
  obtain ⟨Z, h2, h3⟩ := Z
  refine ⟨?_, ?_, fun r hr e' z' Y hkr => ?_⟩
  ·split at Z
   ·rename_i x X; rw [X, nq Z]
   ·cases Z
  ·split at h2
   ·rename_i e' z' X
    simp only [Bool.and_eq_true] at h2
    rw [X, ← nq h2.1, ← nq h2.2]
   ·cases h2
  ·have := List.all_eq_true.1 h3 r hr
   simpa [hkr] using this
 intro Hs ws H a w sr wr ag hH hpp gm
 let I := fun (D : List Nat) (a : Act) (w : World) => ∃ (vals : Nat → T) (H : GH), (∀ p, p ∈ A → p.j ∈ D → p.k.ok (p.ds.map vals) (vals p.j) ∧ VR H (a.tmps.getD p.d undef) (vals p.j) ∧ ∀ x, x ∈ p.ds → x ∈ D) ∧ (∀ d, d ∈ D → ∃ p, p ∈ A ∧ p.j = d) ∧ (∀ b o, Hs b = some o → H b = some o) ∧ SR n so Hs a ∧
  Gam n C ⟨s, ob ++ Eh vals D A⟩ H a w ∧ Gc Hs pobjs ws w
 refine ⟨I, ?_, ?_, ?_⟩
 ·exact ⟨fun _ => .tup [], H, by simp, by simp, hH, sr, by rw [P6, List.append_nil]; exact gm, ag⟩
 ·rintro D j ds a w hm hds hjD hh
  obtain ⟨vals, H, hd, hDA, hH, sr, gm, ag⟩ := hh
  obtain ⟨p, W, he⟩ := List.mem_map.1 hm
  simp only [Prod.mk.injEq] at he
  obtain ⟨rfl, rfl⟩ := he
  obtain ⟨o, ho, hg, hdst, O⟩ := hstep.get p W
  have O := DepN.get (vals := vals) (fun d hdd => by
   obtain ⟨q, hq, rfl⟩ := hDA d (hds d hdd)
   have hq0 := hd q hq (hds _ hdd)
   rw [Mr hq hn, eM hq hn]
   refine ⟨hq0.1, fun x X => ?_⟩
   obtain ⟨y, hy, rfl⟩ := hDA x (hq0.2.2 x X)
   rw [Mr hy hn]; exact ⟨_, (hd y hy (hq0.2.2 _ X)).1⟩) O
  have hsl : ∀ i x, Aw.get (Sl A vals p.ds s) i = some x → VR H (a.tmps.getD i undef) x := by
   intro i x h
   rcases Tj h with ⟨d, Z, h2, h3⟩ | h
   ·obtain ⟨q, hq, rfl⟩ := hDA d (hds d Z)
    rw [bL hq hn] at h2
    rw [← h2, ← h3]; exact (hd q hq (hds _ Z)).2.1
   ·exact gm.slots i x h
  rw [List.nil_append] at O
  have hDc : D.contains p.j = false := by simpa using hjD
  have hpc : (p.j :: D).contains p.j = true := by simp
  have hne : ∀ x i, i ∈ D → Sh vals p.j x i = vals i := fun x i hi => by
   unfold Sh
   cases hij : Nat.beq i p.j with
   | true => exact absurd (nq hij ▸ hi) hjD
   | false => rfl
  have hself : ∀ x, Sh vals p.j x p.j = x := fun x => by unfold Sh; simp
  simp only [wpOp, ho]
  rw [if_pos (by simp [Region.wanted, hg])]
  refine .inl ?_
  have fin : ∀ (old : List Ob) (new : T → List Ob) (md : List Nat) (G : List Ob), List.Perm (Eh vals D A) (old ++ G) → (∀ i, md.contains i = true → i < old.length) →
    AX E n C md o ⟨Sl A vals p.ds s, old ++ (ob ++ G)⟩ (fun σ' => ∃ x, Aw.get σ'.slots p.d = some x ∧ p.k.okW (p.ds.map vals) x ∧ List.Perm σ'.objs (new x ++ (ob ++ G))) → (∀ x, p.k.okW (p.ds.map vals) x → List.Perm (Eh (Sh vals p.j x) (p.j :: D) A) (new x ++ G)) →
    (∀ v e z es, (p.k = .us e z es ∨ p.k = .lt e z ∨ ∃ q, p.k = .ap q e z es) → ∃ Y, Ob.us v e z Y ∈ new (.v v)) →
    ∀ Q : Exit → Act → World → Prop, o.wp E.P a w (fun a' w' => Gc Hs pobjs ws w' ∧ I (p.j :: D) a' w') Q := by
   intro old new md G hp0 hmd O hpn hob Q
   have mid : ∀ l : List Ob, List.Perm (ob ++ (l ++ G)) (l ++ (ob ++ G)) := fun l => by
    rw [← List.append_assoc, ← List.append_assoc]
    exact List.Perm.append_right _ List.perm_append_comm
   refine Cf ?_ (fun _ _ _ h => h.elim) (O H a w { gm.perm ((List.Perm.append_left _ hp0).trans (mid old)) with slots := hsl })
   rintro a' w' ⟨σ', H', v, ⟨x, hget, X, hobj⟩, gm', ha', hHH, hfr⟩
   have htmp : ∀ i, i ≠ p.d → a'.tmps.getD i undef = a.tmps.getD i undef := fun i hi => by
    rw [ha', hdst]
    simp [Act.put, Array.getD_eq_getD_getElem?, Array.getElem?_setIfInBounds_ne (Ne.symm hi)]
   have ag' : Gc Hs pobjs ws w' := ⟨fun b o hb => gm'.held _ _ (hHH _ _ (hH _ _ hb)), fun q hqp b hb => by
    obtain ⟨i, hi, hoi⟩ := hpp q hqp
    have hi' : (old ++ (ob ++ G))[old.length + i]? = some q := by
     rw [List.getElem?_append_right (by omega), show old.length + i - old.length = i by omega, List.getElem?_append_left (gs hoi).1]; exact hoi
    refine ((hfr (old.length + i) q hi' ?_).2 b hb).trans (ag.2 q hqp b hb)
    cases hc : md.contains (old.length + i) with
    | true => have := hmd _ hc; omega
    | false => rfl⟩
   have hxo : p.k.ok (p.ds.map vals) x := by
    have hone : ∀ v e z es, (p.k = .us e z es ∨ p.k = .lt e z ∨ ∃ q, p.k = .ap q e z es) → x = .v v → v.oneCell' = true := fun v e z es M hv => by
     subst hv
     obtain ⟨Y, he⟩ := hob v e z es M
     exact UsR.one (show UsR H' w' v e z Y from gm'.objs _ (hobj.mem_iff.2 (List.mem_append_left _ he)))
    cases M : p.k with
    | us e z es => rw [M] at X; obtain ⟨v, rfl⟩ := X; exact ⟨v, rfl, hone v e z es (.inl M) rfl⟩
    | lt e z => rw [M] at X; obtain ⟨v, rfl⟩ := X; exact ⟨v, rfl, hone v e z [] (.inr (.inl M)) rfl⟩
    | ap q e z es => rw [M] at X; obtain ⟨v, rfl⟩ := X; exact ⟨v, rfl, hone v e z es (.inr (.inr ⟨q, M⟩)) rfl⟩
    | _ => rw [M] at X; exact X
   refine ⟨ag', Sh vals p.j x, H', fun q hq hqD => ?_, fun d hdD => ?_, fun b o hb => hHH _ _ (hH _ _ hb), ?_, Gam.perm (ob := σ'.objs) { gm' with slots := fun i y hy => ?_ } ((hobj.trans (mid _).symm).trans (List.Perm.append_left _ (hpn x X).symm)), ag'⟩
   ·by_cases hqp : q.j = p.j
    ·have := back q hq p W hqp
     subst this
     rw [hself, List.map_congr_left fun i hi => hne x i (hds i hi)]
     exact ⟨hxo, gm'.slots _ _ hget, fun y hy => List.mem_cons_of_mem _ (hds y hy)⟩
    ·have hqD' := (List.mem_cons.1 hqD).resolve_left hqp
     obtain ⟨Z, h2, h3⟩ := hd q hq hqD'
     rw [hne _ _ hqD', List.map_congr_left fun i hi => hne x i (h3 i hi), htmp q.d fun h => hqp (hdd q hq p W h)]
     exact ⟨Z, h2.mono hHH, fun y hy => List.mem_cons_of_mem _ (h3 y hy)⟩
   ·rcases List.mem_cons.1 hdD with rfl | hdD
    ·exact ⟨p, W, rfl⟩
    ·exact hDA d hdD
   ·rw [ha', hdst]
    exact sr.free _ _ (hs' p W).2
   ·have hi : i ≠ p.d := fun h => by rw [h, (hs' p W).1] at hy; cases hy
    rw [htmp i hi]
    exact (gm.slots i y hy).mono hHH
  have oth : (∀ e z, p.k ≠ .lt e z) → ∀ v y, y ∈ A → y.j ≠ p.j → H8 vals D y = H8 (Sh vals p.j v) (p.j :: D) y := fun hnl v y hy hyp =>
   S4 (A := A) hyp (fun q e z es M h => by
    have := (apq y hy q e z es M).2.1
    rw [h, Mr W hn] at this; exact hnl _ _ this) (hne v)
  have plain : (∀ e z, p.k ≠ .lt e z) → (∀ q e z es, p.k ≠ .ap q e z es) → (∀ ob, AX E n C [] o ⟨Sl A vals p.ds s, ob⟩ fun σ' => ∃ x, Aw.get σ'.slots p.d = some x ∧ p.k.okW (p.ds.map vals) x ∧ σ'.objs = ob ++ p.k.obN x) → _ := fun Z h2 O => by
   have e1 : H8 vals D p = [] := by
    unfold H8
    cases M : p.k with
    | ap q e z es => exact absurd M (h2 q e z es)
    | _ => dsimp only; rw [hDc]; rfl
   have e2 : ∀ x, H8 (Sh vals p.j x) (p.j :: D) p = p.k.obN x := fun x => by
    unfold H8
    cases M : p.k with
    | ap q e z es => exact absurd M (h2 q e z es)
    | lt e z => exact absurd M (Z e z)
    | _ => dsimp only; rw [hpc, cond_true, hself]; rfl
   refine fin [] p.k.obN [] (Eh vals D A) (.refl _) (by simp) ?_ (fun x _ => ?_) (fun v e z es M => ?_)
   ·exact fun H a w g => Cf (fun a w ⟨σ', H', v, ⟨x, q1, q2, q3⟩, q⟩ => ⟨σ', H', v, ⟨x, q1, q2, by rw [q3]; exact List.perm_append_comm⟩, q⟩) (fun _ _ _ h => h) (O (ob ++ Eh vals D A) H a w g)
   ·obtain ⟨G, a, b⟩ := Gy W hn e1 (e2 x) (oth Z x)
    exact b.trans (List.Perm.append_left _ (by simpa using a.symm))
   ·rcases M with M | M | ⟨q, M⟩
    ·rw [M]; exact ⟨es, .head _⟩
    ·exact absurd M (Z e z)
    ·exact absurd M (h2 q e z es)
  cases M : p.k with
  | lt e z =>
   obtain ⟨r, hr, e1, z1, es1, hkr⟩ : ∃ r, r ∈ A ∧ ∃ e z es, r.k = .ap p.j e z es := by
    have Z := List.all_eq_true.1 hap p W
    simp only [M] at Z
    obtain ⟨r, hr, h2⟩ := List.any_eq_true.1 Z
    split at h2
    ·rename_i q e z es hkr
     rw [nq h2] at hkr
     exact ⟨r, hr, e, z, es, hkr⟩
    ·cases h2
   obtain ⟨r1, r2, r3⟩ := apq r hr p.j e1 z1 es1 hkr
   rw [Mr W hn, M] at r2
   cases r2
   have hrp : r.j ≠ p.j := fun h => by
    rw [back r hr p W h, M] at hkr; cases hkr
   have hrD : D.contains r.j = false := by
    cases h : D.contains r.j with
    | false => rfl
    | true => exact absurd ((hd r hr (by simpa using h)).2.2 p.j (by rw [r1]; simp)) hjD
   have hrD' : (p.j :: D).contains r.j = false := by simp [hrp]; simpa using hrD
   have o1 : H8 vals D r = [] := by unfold H8; rw [hkr]; dsimp only; rw [hrD, hDc]; rfl
   have key : ∀ v, ∃ G, List.Perm (Eh vals D A) ([] ++ G) ∧ List.Perm (Eh (Sh vals p.j (.v v)) (p.j :: D) A) ([.us v e z []] ++ G) := fun v => Gy hr hn o1 (by unfold H8; rw [hkr]; dsimp only; rw [hrD', hpc, hself]; rfl) fun y hy hyr => by
    by_cases hyp : y.j = p.j
    ·rw [back y hy p W hyp]
     unfold H8
     rw [M]; dsimp only
     rw [hDc, hpc]; rfl
    ·exact S4 (A := A) hyp (fun q e' z' Y hky h => hyr (r3 y hy e' z' Y (h ▸ hky)).symm) (hne _)
   unfold V1 at O; rw [M] at O
   refine fin [] (fun x => (NewK.lt e z).obN x) [] (Eh vals D A) (.refl _) (by simp) ?_ (fun x X => ?_) (fun v e' z' Y hk' => ?_) _
   ·refine fun H a w g => Cf (fun a w ⟨σ', H', v, ⟨x, q1, q2, q3⟩, q⟩ => ⟨σ', H', v, ⟨x, q1, by rw [M]; exact q2, by rw [q3]; exact List.perm_append_comm⟩, q⟩) (fun _ _ _ h => h) (O (ob ++ Eh vals D A) H a w g)
   ·rw [M] at X
    obtain ⟨v, rfl⟩ := X
    obtain ⟨G, a, b⟩ := key v
    exact b.trans (List.Perm.append_left _ (by simpa using a.symm))
   ·rw [M] at hk'
    rcases hk' with h | h | ⟨q, h⟩ <;> cases h
    exact ⟨_, .head _⟩
  | ap q e z es =>
   obtain ⟨p1, p2, p3⟩ := apq p W q e z es M
   have hqD : q ∈ D := hds q (by rw [p1]; simp)
   obtain ⟨ql, hql, rfl⟩ := hDA q hqD
   obtain ⟨xl, hxl, hxl1⟩ : ∃ v, vals ql.j = .v v ∧ v.oneCell' = true := by
    have := (hd ql hql hqD).1
    rw [← Mr hql hn, p2] at this
    exact this
   have hqc : D.contains ql.j = true := by simpa using hqD
   have o1 : H8 vals D p = [.us xl e z []] := by unfold H8; rw [M]; dsimp only; rw [hDc, hqc, cond_false, cond_true, hxl]; rfl
   have hnl : ∀ e z, p.k ≠ .lt e z := fun e z h => by rw [M] at h; cases h
   have key : ∀ v, ∃ G, List.Perm (Eh vals D A) ([.us xl e z []] ++ G) ∧ List.Perm (Eh (Sh vals p.j (.v v)) (p.j :: D) A) ([.us v e z es] ++ G) := fun v => Gy W hn o1 (by unfold H8; rw [M]; dsimp only; rw [hpc, cond_true, hself]; rfl) (oth hnl _)
   obtain ⟨G, hp0, _⟩ := key xl
   unfold V1 at O
   rw [M, p1] at O
   simp only [List.map_cons, List.map_nil, hxl] at O
   refine fin [.us xl e z []] (fun x => match x with | .v v => [.us v e z es] | _ => []) [0] G hp0 (fun i hi => by simp at hi; simp [hi]) ?_ (fun x X => ?_) (fun v e' z' Y hk' => ?_) _
   ·rw [p1]
    exact fun H a w g => Cf (fun a w ⟨σ', H', v, ⟨x, q1, q3⟩, q⟩ => ⟨σ', H', v, ⟨.v x, q1, by rw [M]; exact ⟨x, rfl⟩, by rw [q3]; exact .refl _⟩, q⟩) (fun _ _ _ h => h) (O (ob ++ G) H a w g)
   ·rw [M] at X
    obtain ⟨v, rfl⟩ := X
    obtain ⟨rest', a, b⟩ := key v
    exact b.trans (List.Perm.append_left _ (List.Perm.cons_inv (hp0.symm.trans a)).symm)
   ·rw [M] at hk'
    rcases hk' with h | h | ⟨q, h⟩ <;> cases h
    exact ⟨_, .head _⟩
  | _ =>
   unfold V1 at O
   rw [M] at O
   exact plain (fun e z h => by rw [M] at h; cases h) (fun q e z es h => by rw [M] at h; cases h) (by rw [M]; exact O) _
 ·rintro D a w hall ⟨vals, H, hd, hDA, hH, sr, gm, ag⟩
  have hall' : ∀ p, p ∈ A → p.j ∈ D := fun p W => hall (p.j, p.ds) (List.mem_map_of_mem (f := fun p : NewOp => (p.j, p.ds)) W)
  have kk := News.get vals A [] _ _ _ hb (fun i hi => by cases hi) (fun p W => (hd p W (hall' p W)).1) k
  rw [Lj hall'] at gm
  refine kk Hs ws H a w sr wr ag hH (fun q hqp => ?_) { gm with slots := fun i x X => ?_ }
  ·obtain ⟨i, hi, hoi⟩ := hpp q hqp
   refine ⟨i, hi, ?_⟩
   dsimp only
   rw [← Lj hall', List.getElem?_append_left (gs hoi).1]; exact hoi
  ·rcases S6 X with ⟨p, W, rfl, rfl⟩ | X
   ·exact (hd p W (hall' p W)).2.1
   ·exact gm.slots i x X
theorem AP.same {pl : PL} {so : Ak} {prot : List Nat} {pobjs : List Ob} (t : Nat) (x : T) (X : Aw.get s t = some x) (k : AP E n C ops prot pobjs pl so ⟨(t, x) :: s, ob⟩ R) : AP E n C ops prot pobjs pl so ⟨s, ob⟩ R :=
 fun Hs Z H a w Y wr M W G O => k Hs Z H a w Y wr M W G (O.same X)
theorem nb {ob : List Ob} : ob = ob ++ [] := (List.append_nil ob).symm
end
structure MixOp where
 j : Nat
 ds : List Nat
 d : Nat
 x : T
 ks : List Nat
 os : List Ob
def MixOp.go (p : MixOp) (ob : List Ob) : List Ob := Eo ob p.ks p.os
def MixOp.lit (p : MixOp) : Bool := p.ks.isEmpty
theorem Fh {p : MixOp} (h : p.lit = true) (ob : List Ob) : p.go ob = ob := by
 unfold MixOp.go
 rw [List.isEmpty_iff.1 h]; cases p.os <;> rfl
theorem Jx {i : Nat} : ∀ {ks : List Nat} {os ob : List Ob}, i ∉ ks → (Eo ob ks os)[i]? = ob[i]?
 | [], os, ob, _ => by cases os <;> rfl
 | k :: ks, [], ob, _ => rfl
 | k :: ks, o :: os, ob, h => by
  simp only [Eo]
  rw [Jx (ks := ks) fun G => h (.tail _ G)]
  exact List.getElem?_set_ne fun e => h (by rw [e]; exact .head _)
def Dn (D : List Nat) : List MixOp → List Ob → List Ob
 | [], ob => ob
 | p :: l, ob => Dn D l (bif D.contains p.j then p.go ob else ob)
def Wo (j : Nat) : List MixOp → List Ob → List Ob
 | [], ob => ob
 | p :: l, ob => bif Nat.beq p.j j then ob else Wo j l (p.go ob)
def dQ : List MixOp → List Ob → List Ob
 | [], ob => ob
 | p :: l, ob => dQ l (p.go ob)
def dM : List MixOp → Nat → Nat
 | [], _ => 0
 | p :: l, j => bif Nat.beq p.j j then p.d else dM l j
def xM : List MixOp → Nat → T
 | [], _ => .tup []
 | p :: l, j => bif Nat.beq p.j j then p.x else xM l j
def dP (A : List MixOp) : List Nat → Ak → Ak
 | [], s => s
 | j :: ds, s => dP A ds ((dM A j, xM A j) :: s)
def fY : List MixOp → Ak → Ak
 | [], s => s
 | p :: l, s => fY l ((p.d, p.x) :: s)
def dO : List MixOp → Bool
 | [] => true
 | p :: l => (p.lit || l.all fun q => q.lit || q.ds.contains p.j) && dO l
def PAllM (F : MixOp → Prop) : List MixOp → Prop
 | [] => True
 | p :: l => F p ∧ PAllM F l
theorem PAllM.get {F : MixOp → Prop} : ∀ {l : List MixOp}, PAllM F l → ∀ p, p ∈ l → F p
 | q :: l, ⟨h1, h2⟩, p, h => by
  rcases List.mem_cons.1 h with rfl | h
  ·exact h1
  ·exact PAllM.get h2 p h
theorem aB : ∀ {l : List MixOp} {p : MixOp}, p ∈ l → (l.map MixOp.j).Nodup → dM l p.j = p.d ∧ xM l p.j = p.x
 | q :: l, p, G, hn => by
  simp only [List.map_cons, List.nodup_cons] at hn
  simp only [dM, xM]
  rcases List.mem_cons.1 G with rfl | G
  ·simp
  ·have : Nat.beq q.j p.j = false := by
    cases hb : Nat.beq q.j p.j with
    | false => rfl
    | true => exact absurd (nq hb ▸ List.mem_map_of_mem G) hn.1
   rw [this, cond_false, cond_false]; exact aB G hn.2
theorem Ti {A : List MixOp} {i : Nat} {x : T} : ∀ {ds : List Nat} {s : Ak}, Aw.get (dP A ds s) i = some x → (∃ d, d ∈ ds ∧ dM A d = i ∧ xM A d = x) ∨ Aw.get s i = some x
 | [], s, h => .inr h
 | d :: ds, s, h => by
  rcases Ti (ds := ds) h with ⟨G, M, O⟩ | h
  ·exact .inl ⟨G, by simp [M], O⟩
  ·simp only [Aw.get] at h
   cases hb : Nat.beq (dM A d) i with
   | true => rw [hb, cond_true] at h; cases h; exact .inl ⟨d, by simp, nq hb, rfl⟩
   | false => rw [hb, cond_false] at h; exact .inr h
theorem S9 {i : Nat} {x : T} : ∀ {l : List MixOp} {s : Ak}, Aw.get (fY l s) i = some x → (∃ p, p ∈ l ∧ p.d = i ∧ p.x = x) ∨ Aw.get s i = some x
 | [], s, h => .inr h
 | p :: l, s, h => by
  rcases S9 (l := l) h with ⟨q, G, M⟩ | h
  ·exact .inl ⟨q, .tail _ G, M⟩
  ·simp only [Aw.get] at h
   cases hb : Nat.beq p.d i with
   | true => rw [hb, cond_true] at h; cases h; exact .inl ⟨p, .head _, nq hb, rfl⟩
   | false => rw [hb, cond_false] at h; exact .inr h
theorem I0 {D : List Nat} : ∀ {l : List MixOp} {ob : List Ob}, (∀ p, p ∈ l → p.j ∈ D) → Dn D l ob = dQ l ob
 | [], _, _ => rfl
 | p :: l, ob, h => by
  have G : D.contains p.j = true := by simpa using h p (.head _)
  simp only [Dn, dQ, G, cond_true]
  exact I0 fun q M => h q (.tail _ M)
theorem Oo : ∀ {l : List MixOp} {ob : List Ob}, Dn [] l ob = ob
 | [], _ => rfl
 | p :: l, ob => by simp only [Dn]; exact Oo (l := l)
theorem Hq {D : List Nat} : ∀ {l : List MixOp} {ob : List Ob}, (∀ q, q ∈ l → q.lit = true ∨ q.j ∉ D) → Dn D l ob = ob
 | [], _, _ => rfl
 | p :: l, ob, h => by
  simp only [Dn]
  have : (bif D.contains p.j then p.go ob else ob) = ob := by
   rcases h p (.head _) with h | h
   ·rw [Fh h]; cases D.contains p.j <;> rfl
   ·have : D.contains p.j = false := by simpa using h
    rw [this]; rfl
  rw [this]
  exact Hq fun q G => h q (.tail _ G)
theorem F4 {D : List Nat} {p : MixOp} (hp : p.lit = false) : ∀ {l : List MixOp} {ob : List Ob}, p ∈ l → (l.map MixOp.j).Nodup → dO l = true → (∀ d, d ∈ p.ds → d ∈ D) → p.j ∉ D → (∀ q, q ∈ l → q.j ∈ D → ∀ d, d ∈ q.ds → d ∈ D) →
  Dn D l ob = Wo p.j l ob ∧ Dn (p.j :: D) l ob = p.go (Wo p.j l ob)
 | q :: l, ob, Y, hn, hc, hd, hj, hcl => by
  simp only [List.map_cons, List.nodup_cons] at hn
  simp only [dO, Bool.and_eq_true] at hc
  rcases List.mem_cons.1 Y with rfl | Y
  ·have ab : D.contains p.j = false := by simpa using hj
   have G : ∀ r, r ∈ l → r.lit = true ∨ r.j ∉ D := fun r O => by
    have X : (p.lit || l.all fun q => q.lit || q.ds.contains p.j) = true := hc.1
    rw [hp, Bool.false_or] at X
    have := List.all_eq_true.1 X r O
    simp only [Bool.or_eq_true] at this
    rcases this with h | h
    ·exact .inl h
    ·exact .inr fun hrD => hj (hcl r (.tail _ O) hrD p.j (by simpa using h))
   have M : ∀ r, r ∈ l → r.lit = true ∨ r.j ∉ p.j :: D := fun r O => (G r O).imp id fun h W => by
    rcases List.mem_cons.1 W with W | W
    ·exact hn.1 (W ▸ List.mem_map_of_mem O)
    ·exact h W
   have e1 : Nat.beq p.j p.j = true := by simp
   have e2 : (p.j :: D).contains p.j = true := by simp
   simp only [Dn, Wo, ab, e1, e2, cond_true, cond_false]
   exact ⟨Hq G, Hq M⟩
  ·have Z : q.j ≠ p.j := fun he => hn.1 (he ▸ List.mem_map_of_mem Y)
   have aa : Nat.beq q.j p.j = false := by
    cases hb : Nat.beq q.j p.j with
    | false => rfl
    | true => exact absurd (nq hb) Z
   have e : (bif D.contains q.j then q.go ob else ob) = q.go ob := by
    cases hq : q.lit with
    | true => rw [Fh hq]; cases D.contains q.j <;> rfl
    | false =>
     have X := hc.1
     rw [hq, Bool.false_or] at X
     have := List.all_eq_true.1 X p Y
     rw [hp, Bool.false_or] at this
     have : D.contains q.j = true := by simpa using hd q.j (by simpa using this)
     rw [this]; rfl
   have e' : (bif (p.j :: D).contains q.j then q.go ob else ob) = q.go ob := by
    have : (p.j :: D).contains q.j = D.contains q.j := by simp [Z]
    rw [this, e]
   simp only [Dn, Wo, aa, cond_false, e, e']
   exact F4 hp Y hn.2 hc.2 hd hj fun r O => hcl r (.tail _ O)
theorem Oq {D : List Nat} {p : MixOp} (M : p.lit = true) : ∀ {l : List MixOp} {ob : List Ob}, (∀ q, q ∈ l → q.j = p.j → q = p) → Dn (p.j :: D) l ob = Dn D l ob
 | [], _, _ => rfl
 | q :: l, ob, h => by
  simp only [Dn]
  have e : (bif (p.j :: D).contains q.j then q.go ob else ob) = bif D.contains q.j then q.go ob else ob := by
   by_cases G : q.j = p.j
   ·have := h q (.head _) G
    subst this
    rw [Fh M]
    cases (q.j :: D).contains q.j <;> cases D.contains q.j <;> rfl
   ·have : (p.j :: D).contains q.j = D.contains q.j := by simp [G]
    rw [this]
  rw [e]
  exact Oq M fun r O => h r (.tail _ O)
theorem L3 {D : List Nat} {i : Nat} {G : List Ob} : ∀ {l : List MixOp} {ob : List Ob}, ob[i]? = G[i]? → (∀ q, q ∈ l → i ∉ q.ks) → (Dn D l ob)[i]? = G[i]?
 | [], _, h, _ => h
 | q :: l, ob, h, hb => by
  simp only [Dn]
  refine L3 ?_ fun r M => hb r (.tail _ M)
  cases D.contains q.j with
  | false => exact h
  | true => exact (Jx (hb q (.head _))).trans h
section
variable {E : Env} {n : Nat} {C : Ctx} {ops : Array Oper} {s : Ak} {ob : List Ob} {R : St → Prop}
theorem aW {r : PL} {so : Ak} {prot : List Nat} {pobjs : List Ob} {L : List (List Nat)} (A : List MixOp)
  (hB : (Z6 (A.map MixOp.j) && (dO A && (A.all (fun p => A.all fun q => Nat.beq p.j q.j || !Nat.beq p.d q.d) && (A.all fun p => (Aw.get s p.d).isNone && (free so (some p.d) && prot.all fun i => !p.ks.contains i))))) = true)
  (hstep : PAllM (fun p => ∃ o, ops[p.j]? = some o ∧ o.guard = none ∧ o.dst = some p.d ∧
   ∀ ob0, (bif p.lit then True else ob0 = Wo p.j A ob) → AX E n C p.ks o ⟨dP A p.ds s, ob0⟩ fun σ' => Aw.get σ'.slots p.d = some p.x ∧ σ'.objs = p.go ob0) A)
  (k : AP E n C ops prot pobjs r so ⟨fY A s, dQ A ob⟩ R) :
  AP E n C ops prot pobjs (.parS (A.map fun p => (p.j, p.ds)) L r) so ⟨s, ob⟩ R := by
 simp only [Bool.and_eq_true] at hB
 obtain ⟨hn, hc, hj, hs⟩ := hB
 have hn := Rz hn
 have hdd : ∀ p, p ∈ A → ∀ q, q ∈ A → p.d = q.d → p.j = q.j := fun p G q M he => by
  have := List.all_eq_true.1 (List.all_eq_true.1 hj p G) q M
  rw [he] at this
  simp at this
  exact this
 have hs0 : ∀ p, p ∈ A → Aw.get s p.d = none ∧ free so (some p.d) = true ∧ (prot.all fun i => !p.ks.contains i) = true := fun p G => by
  have := List.all_eq_true.1 hs p G
  simp only [Bool.and_eq_true, Option.isNone_iff_eq_none] at this
  exact this
 have hs' : ∀ p, p ∈ A → Aw.get s p.d = none ∧ free so (some p.d) = true := fun p G => ⟨(hs0 p G).1, (hs0 p G).2.1⟩
 have back : ∀ p, p ∈ A → ∀ q, q ∈ A → p.j = q.j → p = q := by
  have : ∀ l : List MixOp, (l.map MixOp.j).Nodup → ∀ p, p ∈ l → ∀ q, q ∈ l → p.j = q.j → p = q := by
   intro l
   induction l with
   | nil => intro _ p G; cases G
   | cons x l ih =>
    intro hn p G q M he
    simp only [List.map_cons, List.nodup_cons] at hn
    rcases List.mem_cons.1 G with h1 | h1 <;> rcases List.mem_cons.1 M with h2 | h2
    ·rw [h1, h2]
    ·exact absurd (show x.j ∈ l.map MixOp.j by rw [← h1, he]; exact List.mem_map_of_mem h2) hn.1
    ·exact absurd (show x.j ∈ l.map MixOp.j by rw [← h2, ← he]; exact List.mem_map_of_mem h1) hn.1
    ·exact ih hn.2 p h1 q h2 he
  exact this A hn
 have hpr : ∀ D i, prot.contains i = true → (Dn D A ob)[i]? = ob[i]? := fun D i Z => L3 rfl fun q M => by
  have := List.all_eq_true.1 (hs0 q M).2.2 i (by simpa using Z)
  simpa using this
 intro Hs ws H a w sr wr ag hH hpp gm
 refine ⟨fun D a w => ∃ H : GH, (∀ p, p ∈ A → p.j ∈ D → VR H (a.tmps.getD p.d undef) p.x ∧ ∀ x, x ∈ p.ds → x ∈ D) ∧ (∀ d, d ∈ D → ∃ p, p ∈ A ∧ p.j = d) ∧ (∀ b o, Hs b = some o → H b = some o) ∧ SR n so Hs a ∧
  Gam n C ⟨s, Dn D A ob⟩ H a w ∧ Gc Hs pobjs ws w, ?_, ?_, ?_⟩
 ·exact ⟨H, by simp, by simp, hH, sr, by rw [Oo]; exact gm, ag⟩
 ·rintro D j ds a w hm Y hjD ⟨H, hd, hDA, hH, sr, gm, ag⟩
  obtain ⟨p, G, he⟩ := List.mem_map.1 hm
  simp only [Prod.mk.injEq] at he
  obtain ⟨rfl, rfl⟩ := he
  obtain ⟨o, ho, hg, hdst, hax⟩ := hstep.get p G
  have hmd' : ∀ i, prot.contains i = true → p.ks.contains i = false := fun i Z => by
   have := (List.all_eq_true.1 (hs0 p G).2.2) i (by simpa using Z)
   simpa using this
  have hcl : ∀ q, q ∈ A → q.j ∈ D → ∀ d, d ∈ q.ds → d ∈ D := fun q M h => (hd q M h).2
  have hax := hax (Dn D A ob) (by
   cases X : p.lit with
   | true => trivial
   | false => exact (F4 X G hn hc Y hjD hcl).1)
  have hsl : ∀ i x, Aw.get (dP A p.ds s) i = some x → VR H (a.tmps.getD i undef) x := by
   intro i x h
   rcases Ti h with ⟨d, h1, h2, h3⟩ | h
   ·obtain ⟨q, M, rfl⟩ := hDA d (Y d h1)
    rw [(aB M hn).1] at h2
    rw [(aB M hn).2] at h3
    rw [← h2, ← h3]; exact (hd q M (Y _ h1)).1
   ·exact gm.slots i x h
  have hax := hax H a w { gm with slots := hsl }
  simp only [wpOp, ho]
  rw [if_pos (by simp [Region.wanted, hg])]
  refine .inl (Cf ?_ (fun _ _ _ h => h.elim) hax)
  rintro a' w' ⟨σ', H', v, ⟨hget, hobj⟩, gm', ha', hHH, hfr⟩
  have hobj' : σ'.objs = Dn (p.j :: D) A ob := by
   rw [hobj]
   cases X : p.lit with
   | true => rw [Fh X]; exact (Oq X fun q M he => back q M p G he).symm
   | false => rw [(F4 X G hn hc Y hjD hcl).2, ← (F4 X G hn hc Y hjD hcl).1]
  have ag' : Gc Hs pobjs ws w' := by
   refine ⟨fun b o X => gm'.held _ _ (hHH _ _ (hH _ _ X)), fun q O b X => ?_⟩
   obtain ⟨i, Z, hoi⟩ := hpp q O
   exact ((hfr i q (by dsimp only; rw [hpr D i Z]; exact hoi) (hmd' i Z)).2 b X).trans (ag.2 q O b X)
  have htmp : ∀ i, i ≠ p.d → a'.tmps.getD i undef = a.tmps.getD i undef := fun i Z => by
   rw [ha', hdst]
   simp [Act.put, Array.getD_eq_getD_getElem?, Array.getElem?_setIfInBounds_ne (Ne.symm Z)]
  refine ⟨ag', H', fun q M hqD => ?_, fun d hdD => ?_, fun b o X => hHH _ _ (hH _ _ X), ?_, ?_, ag'⟩
  ·by_cases O : q.j = p.j
   ·have := back q M p G O
    subst this
    exact ⟨gm'.slots _ _ hget, fun y hy => List.mem_cons_of_mem _ (Y y hy)⟩
   ·have hqD' : q.j ∈ D := by
     rcases List.mem_cons.1 hqD with h | h
     ·exact absurd h O
     ·exact h
    obtain ⟨h2, h3⟩ := hd q M hqD'
    rw [htmp q.d fun h => O (hdd q M p G h)]
    exact ⟨h2.mono hHH, fun y hy => List.mem_cons_of_mem _ (h3 y hy)⟩
  ·rcases List.mem_cons.1 hdD with rfl | hdD
   ·exact ⟨p, G, rfl⟩
   ·exact hDA d hdD
  ·rw [ha', hdst]
   exact sr.free _ _ (hs' p G).2
  ·have gm'' : Gam n C ⟨σ'.slots, Dn (p.j :: D) A ob⟩ H' a' w' := by rw [← hobj']; exact gm'
   refine { gm'' with slots := fun i y hy => ?_ }
   have Z : i ≠ p.d := fun h => by rw [h, (hs' p G).1] at hy; cases hy
   rw [htmp i Z]
   exact (gm.slots i y hy).mono hHH
 ·rintro D a w hall ⟨H, hd, hDA, hH, sr, gm, ag⟩
  have W : ∀ p, p ∈ A → p.j ∈ D := fun p G => hall (p.j, p.ds) (List.mem_map_of_mem (f := fun p : MixOp => (p.j, p.ds)) G)
  rw [I0 W] at gm
  refine k Hs ws H a w sr wr ag hH (fun q O => ?_) { gm with slots := fun i x hx => ?_ }
  ·obtain ⟨i, Z, hoi⟩ := hpp q O
   refine ⟨i, Z, ?_⟩
   dsimp only
   rw [← I0 (D := D) W, hpr D i Z]; exact hoi
  ·rcases S9 hx with ⟨p, G, rfl, rfl⟩ | hx
   ·exact (hd p G (W p G)).1
   ·exact gm.slots i x hx
end
def Sq (s : Ak) (x y : Operand) : Option (IntKind × Int × IntKind × Int) :=
 match Aq s x with
 | some (.v (.int k a)) => match Aq s y with
  | some (.v (.int k' b)) => some (k, a, k', b)
  | _ => none
 | _ => none
def gB (s : Ak) (G : BinOp) (x y : Operand) : Option T :=
 match Sq s x y with
 | some (.i64, a, .i64, b) => match G with
  | .lss => some (.v (.bool (decide (a < b))))
  | .leq => some (.v (.bool (decide (a ≤ b))))
  | .gtr => some (.v (.bool (decide (a > b))))
  | .geq => some (.v (.bool (decide (a ≥ b))))
  | .eql => some (.v (.bool (a == b)))
  | .neq => some (.v (.bool (a != b)))
  | .add => some (.v (.int .i64 (wr (a + b))))
  | .sub => some (.v (.int .i64 (wr (a - b))))
  | .mul => some (.v (.int .i64 (wr (a * b))))
  | _ => none
 | _ => none
def Ug (E : Env) (s : Ak) (t : TypeId) (x : Operand) (f : Nat) : Option T :=
 match E.tab t with
 | some ti => match ti.kind with
  | .struct fs => match fs[f]? with
   | some (off, ft) => match E.tab ft with
    | some fi => bif Nat.beq fi.size 0 then none else
     match Aq s x with
     | some (.v (.pointer (some ⟨b, o, none⟩))) => some (.v (.pointer (some ⟨b, o + off, none⟩)))
     | some (.eptr cs) => bif Nat.ble off cs.length then some (.eptr (cs.drop off)) else none
     | _ => none
    | none => none
   | none => none
  | _ => none
 | none => none
def aC (E : Env) (s : Ak) (c : Call) : Option T :=
 match c with
 | ⟨.builtin .min, ⟨[x, y]⟩, _⟩ => match Sq s x y with
  | some (.i64, a, .i64, b) => some (.v (.int .i64 (min a b)))
  | _ => none
 | ⟨.builtin .max, ⟨[x, y]⟩, _⟩ => match Sq s x y with
  | some (.i64, a, .i64, b) => some (.v (.int .i64 (max a b)))
  | _ => none
 | ⟨.builtin .len, ⟨[x]⟩, ⟨[t]⟩⟩ => match E.tab t with
  | some ti => match ti.kind with
   | .string => match Aq s x with
    | some (.v (.string b)) => some (.v (.int .i64 b.size))
    | _ => none
   | _ => none
  | none => none
 | _ => none
def So (E : Env) (s : Ak) : Op → Option T
 | .move x => Aq s x
 | .assign x => Aq s x
 | .pick c a b => match Aq s c with
  | some (.v (.bool true)) => Aq s a
  | some (.v (.bool false)) => Aq s b
  | _ => none
 | .nilCheck x => match Aq s x with
  | some (.v (.pointer (some b))) => some (.v (.pointer (some b)))
  | some (.eptr cs) => some (.eptr cs)
  | _ => none
 | .extract x i => match Aq s x with
  | some (.tup l) => l[i]?
  | _ => none
 | .unOp .not _ x => match Aq s x with
  | some (.v (.bool b)) => some (.v (.bool (!b)))
  | _ => none
 | .unOp .neg _ x => match Aq s x with
  | some (.v (.int .i64 a)) => some (.v (.int .i64 (wr (0 - a))))
  | _ => none
 | .binOp op _ x y _ => gB s op x y
 | .fieldAddr t x f => Ug E s t x f
 | .call c => aC E s c
 | _ => none
section
variable {E : Env} {n : Nat} {C : Ctx} {s : Ak} {ob : List Ob} {ops : Array Oper} {R : St → Prop} {dst : Option Tmp} {ty : TypeId} {pos : String} {aft : Array Edge} {g : Option (Nat × Bool)}
theorem N1 {x y : Operand} {k G : IntKind} {a b : Int} (h : Sq s x y = some (k, a, G, b)) : Aq s x = some (.v (.int k a)) ∧ Aq s y = some (.v (.int G b)) := by
 unfold Sq at h
 split at h
 ·rename_i M
  split at h
  ·rename_i O
   cases h
   exact ⟨M, O⟩
  ·cases h
 ·cases h
theorem eT {O : BinOp} {t X : TypeId} {x y : Operand} {z : T} (h : gB s O x y = some z) : Yp E.P n s ⟨dst, .binOp O t x y X, ty, pos, aft, g⟩ z := by
 unfold gB at h
 split at h <;> first | cases h | skip
 rename_i W
 obtain ⟨G, M⟩ := N1 W
 split at h <;> first | cases h | skip
 ·exact kB G M rfl
 ·exact kB G M rfl
 ·exact kB G M rfl
 ·exact kB G M rfl
 ·exact kB G M rfl
 ·exact kB G M rfl
 ·exact Jg G M rfl
 ·exact Jg G M rfl
 ·exact Jg G M rfl
theorem Xf {t : TypeId} {x : Operand} {f : Nat} {z : T} (h : Ug E s t x f = some z) : Yp E.P n s ⟨dst, .fieldAddr t x f, ty, pos, aft, g⟩ z := by
 unfold Ug at h
 split at h <;> first | cases h | skip
 rename_i ti Y
 split at h <;> first | cases h | skip
 rename_i fs X
 split at h <;> first | cases h | skip
 rename_i O ft W
 split at h <;> first | cases h | skip
 rename_i fi G
 cases hz : Nat.beq fi.size 0 with
 | true => rw [hz] at h; cases h
 | false =>
  rw [hz, cond_false] at h
  split at h <;> first | cases h | skip
  ·rename_i M
   exact T3 Y X W G hz M
  ·rename_i Z M
   cases hle : Nat.ble O Z.length with
   | true => rw [hle, cond_true] at h; cases h; exact Xn Y X W G hz M hle
   | false => rw [hle] at h; cases h
theorem bT {c : Call} {z : T} (h : aC E s c = some z) : Yp E.P n s ⟨dst, .call c, ty, pos, aft, g⟩ z := by
 unfold aC at h
 split at h <;> first | cases h | skip
 ·split at h <;> first | cases h | skip
  rename_i M
  obtain ⟨G, O⟩ := N1 M
  exact eX G O
 ·split at h <;> first | cases h | skip
  rename_i M
  obtain ⟨G, O⟩ := N1 M
  exact eY G O
 ·split at h <;> first | cases h | skip
  rename_i Y X
  split at h <;> first | cases h | skip
  rename_i W
  split at h <;> first | cases h | skip
  rename_i G
  exact Se X W G
theorem Nv {O : Op} {z : T} (h : So E s O = some z) : Yp E.P n s ⟨dst, O, ty, pos, aft, g⟩ z := by
 unfold So at h
 split at h <;> first | cases h | skip
 ·exact Yp.move h
 ·exact Yp.assign h
 ·split at h <;> first | cases h | skip
  ·rename_i M; exact bW M h
  ·rename_i M; exact bX M h
 ·split at h <;> first | cases h | skip
  ·rename_i G; exact Sc G
  ·rename_i G; exact Sd G
 ·split at h <;> first | cases h | skip
  rename_i G; exact Yp.extract G h
 ·split at h <;> first | cases h | skip
  rename_i G; exact Yp.not G
 ·split at h <;> first | cases h | skip
  rename_i G; exact Yp.neg G rfl
 ·exact eT h
 ·exact Xf h
 ·exact bT h
end
def Vw (G : TI) (cs : List T) (off : Nat) : Option T :=
 bif G.isAgg then (bif Nat.beq off 0 && Nat.beq G.size cs.length then some (.agg cs) else none) else cs[off]?
theorem S3 {G : TI} {cs : List T} {off : Nat} {y : T} (h : Vw G cs off = some y) : Dx G cs off = some y := by
 unfold Vw at h
 unfold Dx
 cases ha : G.isAgg with
 | false => rw [ha, cond_false] at h; rw [cond_false]; exact h
 | true =>
  rw [ha, cond_true] at h
  rw [cond_true]
  cases hb : (Nat.beq off 0 && Nat.beq G.size cs.length) with
  | true => rw [hb, cond_true] at h; rw [cond_true]; exact h
  | false => rw [hb] at h; cases h
def Sp (E : Env) (s : Ak) : Op → Option T
 | .load t x => match Aq s x with
  | some (.eptr cs) => match E.tab t with
   | some fi => Vw fi cs 0
   | none => none
  | _ => none
 | op => So E s op
inductive Hn where
 | o (i k : Nat)
 | f (i : Nat) (x : T)
 | l (i : Nat) (c : Int)
 | x (i : Nat) (m : Nat) (e : List T)
 | k (i : Nat) (c : Int)
def Hn.at : Hn → Nat
 | .o i _ => i
 | .f i _ => i
 | .l i _ => i
 | .x i _ _ => i
 | .k i _ => i
def fL (E : Env) (s : Ak) (ob : List Ob) (k : Nat) : Op → Option (T × Prop)
 | .load t x => match Aq s x with
  | some (.v (.pointer (some ⟨b, off, none⟩))) => match ob[k]? with
   | some (.arr b' _ _ _ [e]) => match E.tab t with
    | some fi => match Vw fi e off with
     | some y => some (y, b = b')
     | none => none
    | none => none
   | _ => none
  | _ => none
 | _ => none
def hZ (E : Env) (s : Ak) (c : Int) : Op → Option (T × Prop)
 | .call ⟨.builtin .len, ⟨[x]⟩, ⟨[t]⟩⟩ => match E.tab t with
  | some ti => match ti.kind with
   | .slice _ => match Aq s x with
    | some (.list _ es) => some (.v (.int .i64 c), (es.length : Int) = c)
    | _ => none
   | _ => none
  | none => none
 | _ => none
def iA (E : Env) (s : Ak) (m : Nat) (e : List T) : Op → Option (T × Prop)
 | .indexAddr t x y => match E.tab t with
  | some ti => match ti.kind with
   | .slice el => match E.tab el with
    | some fi => match Aq s x with
     | some (.list sz es) => bif Nat.beq fi.size sz then
      (match Aq s y with
      | some (.v (.int _ i)) => some (.eptr e, i = (m : Int) ∧ es[m]? = some e)
      | _ => none) else none
     | _ => none
    | none => none
   | _ => none
  | none => none
 | _ => none
def Vv (E : Env) (n : Nat) (s : Ak) (ob : List Ob) (d : Nat) (o : Oper) : Hn → Option (T × Prop)
 | .o _ k => fL E s ob k o.op
 | .f _ x => some (x, Yd E.P n s ob ⟨some d, o.op, o.type, o.pos, o.after, none⟩ x)
 | .l _ c => hZ E s c o.op
 | .x _ m e => iA E s m e o.op
 | .k _ c => match So E s o.op with
  | some (.v (.int kk e)) => some (.v (.int kk c), e = c)
  | _ => none
section
variable {E : Env} {n : Nat} {C : Ctx} {s : Ak} {ob : List Ob} {ops : Array Oper} {R : St → Prop} {dst : Option Tmp} {ty : TypeId} {pos : String} {aft : Array Edge} {g : Option (Nat × Bool)}
theorem Nx {G : Op} {z : T} (h : Sp E s G = some z) : Yd E.P n s ob ⟨dst, G, ty, pos, aft, g⟩ z := by
 unfold Sp at h
 split at h
 ·split at h <;> first | cases h | skip
  rename_i O
  split at h <;> first | cases h | skip
  rename_i M
  exact cB M O (S3 h)
 ·exact (Nv h).yd
theorem Sy {d : Nat} {o : Oper} {hn : Hn} {z : T} {p : Prop} (h : Vv E n s ob d o hn = some (z, p)) (M : p) : Yd E.P n s ob ⟨some d, o.op, o.type, o.pos, o.after, none⟩ z := by
 unfold Vv at h
 split at h
 ·unfold fL at h
  split at h <;> first | cases h | skip
  rename_i W
  split at h <;> first | cases h | skip
  rename_i G
  split at h <;> first | cases h | skip
  rename_i O
  split at h <;> first | cases h | skip
  rename_i X
  split at h <;> first | cases h | skip
  rename_i Z
  subst M
  rw [W]
  exact Bn _ 0 _ X G O rfl (by omega) (S3 Z)
 ·cases h; exact M
 ·unfold hZ at h
  split at h <;> first | cases h | skip
  rename_i W
  split at h <;> first | cases h | skip
  rename_i X
  split at h <;> first | cases h | skip
  rename_i O
  split at h <;> first | cases h | skip
  rename_i G
  subst M
  rw [W]
  exact (Ve X O G).yd
 ·unfold iA at h
  split at h <;> first | cases h | skip
  rename_i W
  split at h <;> first | cases h | skip
  rename_i X
  split at h <;> first | cases h | skip
  rename_i O
  split at h <;> first | cases h | skip
  split at h <;> first | cases h | skip
  rename_i fi Y _ sz es G
  cases hb : Nat.beq fi.size sz with
  | false => rw [hb] at h; cases h
  | true =>
   rw [hb, cond_true] at h
   split at h <;> first | cases h | skip
   rename_i Z
   rw [W]
   exact (Xm X O Y (nq hb) G Z M.1 M.2).yd
 ·split at h <;> first | cases h | skip
  rename_i G
  subst M
  exact (Nv G).yd
end
def Fm (ops : Array Oper) (s : Ak) : Option (Nat × Bool) → Option Bool
 | none => some true
 | some (j, want) => match ops[j]? with
  | some o => match o.dst with
   | some t => match get s t with
    | some (.v (.bool true)) => some want
    | some (.v (.bool false)) => some (!want)
    | _ => none
   | none => none
  | none => none
def L5 (E : Env) (n : Nat) (ops : Array Oper) (ob : List Ob) : Nat → Nat → List Oper → Ak → List Hn → Prop → Option (Prop × List Oper × Ak)
 | 0, _, l, s, _, p => some (p, l, s)
 | _ + 1, _, [], _, _, _ => none
 | m + 1, i, o :: l, s, hs, p => match o.dst with
  | none => none
  | some d => bif Nat.blt d n then
   (match Fm ops s o.guard with
   | none => none
   | some false => L5 E n ops ob m (i + 1) l ((d, .v undef) :: s) hs p
   | some true => match hs with
    | [] => match Sp E s o.op with
     | some x => L5 E n ops ob m (i + 1) l ((d, x) :: s) [] p
     | none => none
    | h :: hs => bif Nat.beq h.at i then
      (match Vv E n s ob d o h with
      | some (x, q) => L5 E n ops ob m (i + 1) l ((d, x) :: s) hs (q ∧ p)
      | none => none)
     else
      (match Sp E s o.op with
      | some x => L5 E n ops ob m (i + 1) l ((d, x) :: s) (h :: hs) p
      | none => none)) else none
section
variable {E : Env} {n : Nat} {C : Ctx} {s : Ak} {ob : List Ob} {ops : Array Oper} {R : St → Prop}
theorem Gh {j : Nat} {G v : Bool} (h : Fm ops s (some (j, G)) = some v) : ∃ t b, (ops[j]?).bind (·.dst) = some t ∧ get s t = some (.v (.bool b)) ∧ (v = true → b = G) ∧ (v = false → b = !G) := by
 simp only [Fm] at h
 split at h
 ·rename_i o X
  split at h
  ·rename_i t W
   have O : (ops[j]?).bind (·.dst) = some t := by rw [X]; exact W
   split at h
   ·rename_i M
    cases h
    exact ⟨t, true, O, M, by cases G <;> simp, by cases G <;> simp⟩
   ·rename_i M
    cases h
    exact ⟨t, false, O, M, by cases G <;> simp, by cases G <;> simp⟩
   ·cases h
  ·cases h
 ·cases h
theorem Us {d : Nat} {o : Oper} {l : List Oper} {x : T} (hg : Fm ops s o.guard = some true) (G : o.dst = some d) (hy : Yd E.P n s ob ⟨some d, o.op, o.type, o.pos, o.after, none⟩ x) (O : Nat.blt d n = true)
  (k : AO E n C ops l ⟨(d, x) :: s, ob⟩ R) : AO E n C ops (o :: l) ⟨s, ob⟩ R := by
 obtain ⟨dst, Z, ty, pos, aft, g⟩ := o
 cases G
 cases g with
 | none => exact jR hy O k
 | some g =>
  obtain ⟨j, M⟩ := g
  obtain ⟨t, b, W, X, Y, _⟩ := Gh hg
  have := Y rfl
  exact AO.guard W X (By O) (fun _ => jR hy O k) (fun h => by rw [this] at h; cases M <;> cases h)
theorem hM {d : Nat} {o : Oper} {l : List Oper} (hg : Fm ops s o.guard = some false) (G : o.dst = some d) (Y : Nat.blt d n = true)
  (k : AO E n C ops l ⟨(d, .v undef) :: s, ob⟩ R) : AO E n C ops (o :: l) ⟨s, ob⟩ R := by
 obtain ⟨dst, Z, ty, pos, aft, g⟩ := o
 cases G
 cases g with
 | none => cases hg
 | some g =>
  obtain ⟨j, M⟩ := g
  obtain ⟨t, b, O, W, _, X⟩ := Gh hg
  have := X rfl
  exact AO.guard O W (By Y) (fun h => by rw [this] at h; cases M <;> cases h) (fun _ => k)
theorem E1 : ∀ (m i : Nat) (l : List Oper) (s : Ak) (W : List Hn) (p : Prop) {P : Prop} {Z : List Oper} {s' : Ak}, L5 E n ops ob m i l s W p = some (P, Z, s') → P →
  p ∧ (AO E n C ops Z ⟨s', ob⟩ R → AO E n C ops l ⟨s, ob⟩ R)
 | 0, i, l, s, W, p, P, Z, s', h, hP => by cases h; exact ⟨hP, id⟩
 | m + 1, i, [], s, W, p, P, Z, s', h, hP => by cases h
 | m + 1, i, o :: l, s, W, p, P, Z, s', h, hP => by
  simp only [L5] at h
  split at h
  ·cases h
  ·rename_i d G
   cases hd : Nat.blt d n with
   | false => rw [hd] at h; cases h
   | true =>
    rw [hd, cond_true] at h
    split at h
    ·cases h
    ·rename_i X
     obtain ⟨M, O⟩ := E1 m (i + 1) l _ W p h hP
     exact ⟨M, fun k => hM X G hd (O k)⟩
    ·rename_i X
     split at h
     ·split at h
      ·rename_i x Y
       obtain ⟨M, O⟩ := E1 m (i + 1) l _ _ p h hP
       exact ⟨M, fun k => Us X G (Nx Y) hd (O k)⟩
      ·cases h
     ·rename_i hn W
      cases hb : Nat.beq hn.at i with
      | true =>
       rw [hb, cond_true] at h
       split at h
       ·rename_i x q Y
        obtain ⟨M, O⟩ := E1 m (i + 1) l _ _ _ h hP
        exact ⟨M.2, fun k => Us X G (Sy Y M.1) hd (O k)⟩
       ·cases h
      | false =>
       rw [hb, cond_false] at h
       split at h
       ·rename_i x Y
        obtain ⟨M, O⟩ := E1 m (i + 1) l _ _ p h hP
        exact ⟨M, fun k => Us X G (Nx Y) hd (O k)⟩
       ·cases h
theorem bz : (∀ b, (true && b) = b) ∧ (∀ b, (false && b) = false) ∧ (∀ b, (true || b) = true) ∧ (∀ b, (false || b) = b) ∧ (!true) = false ∧ (!false) = true ∧ (∀ a b : Bool, cond true a b = a) ∧ (∀ a b : Bool, cond false a b = b) := by simp
theorem As {α : Type} {f : α → List T} {l : List α} : ((l.map f).length : Int) = (l.length : Int) := by rw [List.length_map]
theorem Af (m : Nat) {l G : List Oper} {M : Ak} (h : L5 E n ops ob m 0 l s [] True = some (True, G, M)) (k : AO E n C ops G ⟨M, ob⟩ R) : AO E n C ops l ⟨s, ob⟩ R :=
 (E1 m 0 l s [] True h trivial).2 k
theorem Aj {id : Nat} {y : Code} {Q : Exit → St → Prop} {G : Ak} (h : L5 E n ops ob ops.size 0 ops.toList s [] True = some (True, [], G)) (k : AW E n C y ⟨G, ob⟩ Q) : AW E n C (.seq (.region id ops false) y) ⟨s, ob⟩ Q :=
 jK (jG ((E1 _ 0 _ s [] True h trivial).2 (jH k)))
theorem Bd {id : Nat} {y : Code} {Q : Exit → St → Prop} {M : Ak} {P : Prop} (G : List Hn) (h : L5 E n ops ob ops.size 0 ops.toList s G True = some (P, [], M)) (O : P) (k : AW E n C y ⟨M, ob⟩ Q) :
  AW E n C (.seq (.region id ops false) y) ⟨s, ob⟩ Q :=
 jK (jG ((E1 _ 0 _ s G True h O).2 (jH k)))
theorem Sm {id : Nat} {Q : Exit → St → Prop} {G : Ak} (h : L5 E n ops ob ops.size 0 ops.toList s [] True = some (True, [], G)) (k : Q .normal ⟨G, ob⟩) : AW E n C (.region id ops false) ⟨s, ob⟩ Q :=
 jG ((E1 _ 0 _ s [] True h trivial).2 (jH k))
theorem Mo {id : Nat} {Q : Exit → St → Prop} {M : Ak} {P : Prop} (G : List Hn) (h : L5 E n ops ob ops.size 0 ops.toList s G True = some (P, [], M)) (O : P) (k : Q .normal ⟨M, ob⟩) :
  AW E n C (.region id ops false) ⟨s, ob⟩ Q :=
 jG ((E1 _ 0 _ s G True h O).2 (jH k))
theorem Ao (m : Nat) (G : List Hn) {l M : List Oper} {O : Ak} {P : Prop} (h : L5 E n ops ob m 0 l s G True = some (P, M, O)) (W : P) (k : AO E n C ops M ⟨O, ob⟩ R) : AO E n C ops l ⟨s, ob⟩ R :=
 (E1 m 0 l s G True h W).2 k
def Vu (E : Env) (so s : Ak) (d : Nat) (G : Op) : Option (T × Bool) :=
 match (match G with
  | .pick .. => none
  | G => Sp E so G) with
 | some x => some (x, true)
 | none => match So E s G with
  | some x => bif free so (some d) then some (x, false) else none
  | none => none
def fX (b : Bool) (so : Ak) (d : Nat) (x : T) : Ak := bif b then (d, x) :: so else so
def pd : Nat → Nat → List Nat → PL
 | 0, _, _ => .nil
 | m + 1, i, a => bif a.contains i then .act i (pd m (i + 1) a) else .still i (pd m (i + 1) a)
def F5 (E : Env) (n : Nat) (ops : Array Oper) (pobjs : List Ob) : Nat → Nat → PL → Ak → Ak → List Hn → Prop → Option (Prop × PL × Ak × Ak)
 | 0, _, l, so, s, _, p => some (p, l, so, s)
 | m + 1, i, .still j l, so, s, hs, p => match ops[j]? with
  | none => none
  | some o => match o.dst with
   | none => none
   | some d => bif Nat.blt d n then
    (match Fm ops s o.guard with
    | none => none
    | some false => bif free so (some d) then F5 E n ops pobjs m (i + 1) l so ((d, .v undef) :: s) hs p else none
    | some true => match hs with
     | [] => match Vu E so s d o.op with
      | some (x, b) => F5 E n ops pobjs m (i + 1) l (fX b so d x) ((d, x) :: s) [] p
      | none => none
     | h :: hs => bif Nat.beq h.at i then
       (match Vv E n so pobjs d o h with
       | some (x, q) => F5 E n ops pobjs m (i + 1) l ((d, x) :: so) ((d, x) :: s) hs (q ∧ p)
       | none => none)
      else
       (match Vu E so s d o.op with
       | some (x, b) => F5 E n ops pobjs m (i + 1) l (fX b so d x) ((d, x) :: s) (h :: hs) p
       | none => none)) else none
 | m + 1, i, .act j l, so, s, hs, p => match ops[j]? with
  | none => none
  | some o => match o.dst with
   | none => none
   | some d => bif Nat.blt d n && free so (some d) then
    (match Fm ops s o.guard with
    | some false => F5 E n ops pobjs m (i + 1) l so ((d, .v undef) :: s) hs p
    | _ => none) else none
 | _ + 1, _, _, _, _, _, _ => none
section
variable {prot : List Nat} {pobjs : List Ob} {so : Ak}
theorem Tt {j d : Nat} {o : Oper} {l : PL} {x : T} (O : ops[j]? = some o) (hg : Fm ops s o.guard = some true) (G : o.dst = some d)
  (hy : Yd E.P n so pobjs ⟨some d, o.op, o.type, o.pos, o.after, none⟩ x) (M : Nat.blt d n = true)
  (k : AP E n C ops prot pobjs l ((d, x) :: so) ⟨(d, x) :: s, ob⟩ R) : AP E n C ops prot pobjs (.still j l) so ⟨s, ob⟩ R := by
 obtain ⟨dst, op, ty, pos, aft, g⟩ := o
 cases G
 cases g with
 | none => exact Ur O hy rfl (By M) k
 | some g =>
  obtain ⟨i, W⟩ := g
  obtain ⟨t, b, X, Y, Z, _⟩ := Gh hg
  exact Jj O X Y (Z rfl) hy (By M) k
theorem dI {j d : Nat} {o : Oper} {l : PL} {x : T} (O : ops[j]? = some o) (hg : Fm ops s o.guard = some true) (G : o.dst = some d)
  (hy : Yp E.P n s ⟨some d, o.op, o.type, o.pos, o.after, none⟩ x) (M : Nat.blt d n = true) (hf : free so (some d) = true)
  (k : AP E n C ops prot pobjs l so ⟨(d, x) :: s, ob⟩ R) : AP E n C ops prot pobjs (.still j l) so ⟨s, ob⟩ R := by
 obtain ⟨dst, op, ty, pos, aft, g⟩ := o
 cases G
 cases g with
 | none => exact AP.new O hy rfl (By M) k hf
 | some g =>
  obtain ⟨i, W⟩ := g
  obtain ⟨t, b, X, Y, Z, _⟩ := Gh hg
  exact fI O X Y (Z rfl) hy (By M) k hf
theorem Qw {j d : Nat} {o : Oper} {l : PL} (Y : ops[j]? = some o) (hg : Fm ops s o.guard = some false) (G : o.dst = some d) (X : Nat.blt d n = true) (hf : free so (some d) = true)
  (k : AP E n C ops prot pobjs l so ⟨(d, .v undef) :: s, ob⟩ R) : AP E n C ops prot pobjs (.still j l) so ⟨s, ob⟩ R ∧ AP E n C ops prot pobjs (.act j l) so ⟨s, ob⟩ R := by
 obtain ⟨dst, op, ty, pos, aft, g⟩ := o
 cases G
 cases g with
 | none => cases hg
 | some g =>
  obtain ⟨i, Z⟩ := g
  obtain ⟨t, b, M, O, _, W⟩ := Gh hg
  exact ⟨AP.skip Y rfl M O (W rfl) (By X) k hf, dH Y rfl M O (W rfl) (By X) k hf⟩
theorem Qv {j d : Nat} {o : Oper} {l : PL} {x : T} {b : Bool} (W : ops[j]? = some o) (hg : Fm ops s o.guard = some true) (M : o.dst = some d) (O : Nat.blt d n = true)
  (G : Vu E so s d o.op = some (x, b)) (k : AP E n C ops prot pobjs l (fX b so d x) ⟨(d, x) :: s, ob⟩ R) : AP E n C ops prot pobjs (.still j l) so ⟨s, ob⟩ R := by
 unfold Vu at G
 split at G
 ·rename_i h
  cases G
  split at h
  ·cases h
  ·exact Tt W hg M (Nx h) O k
 ·split at G
  ·rename_i h
   cases hf : free so (some d) with
   | false => rw [hf] at G; cases G
   | true =>
    rw [hf, cond_true] at G
    cases G
    exact dI W hg M (Nv h) O hf k
  ·cases G
theorem Fc : ∀ (m i : Nat) (l : PL) (so s : Ak) (O : List Hn) (p : Prop) {P : Prop} {W : PL} {G X : Ak}, F5 E n ops pobjs m i l so s O p = some (P, W, G, X) → P →
  p ∧ (AP E n C ops prot pobjs W G ⟨X, ob⟩ R → AP E n C ops prot pobjs l so ⟨s, ob⟩ R)
 | 0, i, l, so, s, O, p, P, W, G, X, h, hP => by
  cases l <;> (simp only [F5] at h; cases h; exact ⟨hP, id⟩)
 | m + 1, i, .still j l, so, s, O, p, P, W, G, X, h, hP => by
  simp only [F5] at h
  split at h
  ·cases h
  ·rename_i o ho
   split at h
   ·cases h
   ·rename_i d M
    cases hd : Nat.blt d n with
    | false => rw [hd] at h; cases h
    | true =>
     rw [hd, cond_true] at h
     split at h
     ·cases h
     ·rename_i hg
      cases hf : free so (some d) with
      | false => rw [hf] at h; cases h
      | true =>
       rw [hf, cond_true] at h
       obtain ⟨Y, Z⟩ := Fc m (i + 1) l so _ O p h hP
       exact ⟨Y, fun k => (Qw ho hg M hd hf (Z k)).1⟩
     ·rename_i hg
      split at h
      ·split at h
       ·rename_i x b hx
        obtain ⟨Y, Z⟩ := Fc m (i + 1) l _ _ _ p h hP
        exact ⟨Y, fun k => Qv ho hg M hd hx (Z k)⟩
       ·cases h
      ·rename_i hn O
       cases hb : Nat.beq hn.at i with
       | true =>
        rw [hb, cond_true] at h
        split at h
        ·rename_i x q hx
         obtain ⟨Y, Z⟩ := Fc m (i + 1) l _ _ _ _ h hP
         exact ⟨Y.2, fun k => Tt ho hg M (Sy hx Y.1) hd (Z k)⟩
        ·cases h
       | false =>
        rw [hb, cond_false] at h
        split at h
        ·rename_i x b hx
         obtain ⟨Y, Z⟩ := Fc m (i + 1) l _ _ _ p h hP
         exact ⟨Y, fun k => Qv ho hg M hd hx (Z k)⟩
        ·cases h
 | m + 1, i, .act j l, so, s, O, p, P, W, G, X, h, hP => by
  simp only [F5] at h
  split at h
  ·cases h
  ·rename_i o ho
   split at h
   ·cases h
   ·rename_i d M
    cases hd : Nat.blt d n with
    | false => rw [hd] at h; cases h
    | true =>
     cases hf : free so (some d) with
     | false => rw [hd, hf] at h; cases h
     | true =>
      rw [hd, hf] at h
      simp only [Bool.and_true, cond_true] at h
      split at h
      ·rename_i hg
       obtain ⟨Y, Z⟩ := Fc m (i + 1) l so _ O p h hP
       exact ⟨Y, fun k => (Qw ho hg M hd hf (Z k)).2⟩
      ·cases h
 | m + 1, i, .nil, so, s, O, p, P, W, G, X, h, hP => by simp [F5] at h
 | m + 1, i, .two .., so, s, O, p, P, W, G, X, h, hP => by simp [F5] at h
 | m + 1, i, .three .., so, s, O, p, P, W, G, X, h, hP => by simp [F5] at h
 | m + 1, i, .four .., so, s, O, p, P, W, G, X, h, hP => by simp [F5] at h
 | m + 1, i, .five .., so, s, O, p, P, W, G, X, h, hP => by simp [F5] at h
 | m + 1, i, .par .., so, s, O, p, P, W, G, X, h, hP => by simp [F5] at h
 | m + 1, i, .parS .., so, s, O, p, P, W, G, X, h, hP => by simp [F5] at h
 | m + 1, i, .drop .., so, s, O, p, P, W, G, X, h, hP => by simp [F5] at h
theorem Ax (m : Nat) {l M : PL} {G O : Ak} (h : F5 E n ops pobjs m 0 l so s [] True = some (True, M, G, O)) (k : AP E n C ops prot pobjs M G ⟨O, ob⟩ R) :
  AP E n C ops prot pobjs l so ⟨s, ob⟩ R :=
 (Fc m 0 l so s [] True h trivial).2 k
theorem Bx (m : Nat) (M : List Hn) {l O : PL} {G W : Ak} {P : Prop} (h : F5 E n ops pobjs m 0 l so s M True = some (P, O, G, W)) (X : P) (k : AP E n C ops prot pobjs O G ⟨W, ob⟩ R) :
  AP E n C ops prot pobjs l so ⟨s, ob⟩ R :=
 (Fc m 0 l so s M True h X).2 k
theorem aI {d : Nat} {c : Operand} {args : Array Operand} {Y : Array TypeId} {ty : TypeId} {pos : String} {aft : Array Edge} {f : FuncId} {Z G M ys : List T} {y X : T}
  (h : ACalls E f ys [] (fun x new => x = X ∧ new = [])) (k : R ⟨(d, X) :: s, ob⟩)
  (hc : Aq s c = some y) (hf : I9 y = some (f, G, M)) (hx : E4 s args.toList = some Z) (W : G ++ Z ++ M = ys)
  (hd : Nat.blt d n = true) (O : Eg X = true) :
  AX E n C [] ⟨some d, .call { callee := .value c, args := args, argTypes := Y }, ty, pos, aft, none⟩ ⟨s, ob⟩ R :=
 Cb hc (.refl _) hf hx (.rest _) W h (By hd) (fun _ _ h => by rw [h.1]; exact O) (fun x h => by obtain ⟨_, rfl, _⟩ := h; exact k)
theorem AO.c {d : Nat} {c : Operand} {args : Array Operand} {Y : Array TypeId} {ty : TypeId} {pos : String} {aft : Array Edge} {f : FuncId} {xs G M ys : List T} {y X : T} {l : List Oper}
  (h : ACalls E f ys [] (fun x new => x = X ∧ new = [])) (k : AO E n C ops l ⟨(d, X) :: s, ob⟩ R)
  (hc : Aq s c = some y := by exact rfl) (hf : I9 y = some (f, G, M) := by exact rfl) (hx : E4 s args.toList = some xs := by exact rfl) (W : G ++ xs ++ M = ys := by exact rfl)
  (Z : Nat.blt d n = true := by exact rfl) (O : Eg X = true := by exact rfl) :
  AO E n C ops (⟨some d, .call { callee := .value c, args := args, argTypes := Y }, ty, pos, aft, none⟩ :: l) ⟨s, ob⟩ R :=
 jI [] rfl (aI h k hc hf hx W Z O)
def jU := @AO.c
theorem AP.c {i d : Nat} {c : Operand} {args : Array Operand} {Z : Array TypeId} {ty : TypeId} {pos : String} {aft : Array Edge} {f : FuncId} {xs G M ys : List T} {y X : T} {l : PL}
  (ho : ops[i]? = some ⟨some d, .call { callee := .value c, args := args, argTypes := Z }, ty, pos, aft, none⟩) (h : ACalls E f ys [] (fun x new => x = X ∧ new = [])) (k : AP E n C ops prot pobjs l so ⟨(d, X) :: s, ob⟩ R)
  (hc : Aq s c = some y := by exact rfl) (hf : I9 y = some (f, G, M) := by exact rfl) (hx : E4 s args.toList = some xs := by exact rfl) (Y : G ++ xs ++ M = ys := by exact rfl)
  (hd : Nat.blt d n = true := by exact rfl) (O : Eg X = true := by exact rfl) (W : free so (some d) = true := by exact rfl) :
  AP E n C ops prot pobjs (.act i l) so ⟨s, ob⟩ R :=
 jJ [] ho rfl (by simp) (aI h k hc hf hx Y hd O) W
def kC := @AP.c
theorem G2 {i d j t : Nat} {want b : Bool} {c : Operand} {args : Array Operand} {Z : Array TypeId} {ty : TypeId} {pos : String} {aft : Array Edge} {f : FuncId} {xs G M ys : List T} {y X : T} {l : PL}
  (ho : ops[i]? = some ⟨some d, .call { callee := .value c, args := args, argTypes := Z }, ty, pos, aft, some (j, want)⟩) (h : ACalls E f ys [] (fun x new => x = X ∧ new = [])) (k : AP E n C ops prot pobjs l so ⟨(d, X) :: s, ob⟩ R)
  (hj : (ops[j]?).bind (·.dst) = some t := by exact rfl) (hs : get s t = some (.v (.bool b)) := by exact rfl) (hb : b = want := by exact rfl)
  (hc : Aq s c = some y := by exact rfl) (hf : I9 y = some (f, G, M) := by exact rfl) (hx : E4 s args.toList = some xs := by exact rfl) (Y : G ++ xs ++ M = ys := by exact rfl)
  (hd : Nat.blt d n = true := by exact rfl) (O : Eg X = true := by exact rfl) (W : free so (some d) = true := by exact rfl) :
  AP E n C ops prot pobjs (.act i l) so ⟨s, ob⟩ R :=
 Wk [] ho hj hs hb (by simp) (aI h k hc hf hx Y hd O) W
end
theorem Mp {id : Nat} {y : Code} {Q : Exit → St → Prop} {O G : Ak} {P : Prop} (pl : PL) (prot : List Nat) (pobjs : List Ob) (M : List Hn) (Y : prot.map (fun i => ob[i]?) = pobjs.map some)
  (h : F5 E n ops pobjs ops.size 0 pl s s M True = some (P, .nil, G, O)) (X : P) (k : AW E n C y ⟨O, ob⟩ Q) (W : Pn ops pl = true := by kernel_rfl) :
  AW E n C (.seq (.region id ops true) y) ⟨s, ob⟩ Q :=
 jK (I8 pl prot pobjs W Y ((Fc _ 0 pl s s M True h X).2 (AP.nil k)))
theorem Su {id : Nat} {Q : Exit → St → Prop} {O G : Ak} {P : Prop} (pl : PL) (prot : List Nat) (pobjs : List Ob) (M : List Hn) (Y : prot.map (fun i => ob[i]?) = pobjs.map some)
  (h : F5 E n ops pobjs ops.size 0 pl s s M True = some (P, .nil, G, O)) (X : P) (k : Q .normal ⟨O, ob⟩) (W : Pn ops pl = true := by kernel_rfl) :
  AW E n C (.region id ops true) ⟨s, ob⟩ Q :=
 I8 pl prot pobjs W Y ((Fc _ 0 pl s s M True h X).2 (AP.nil k))
theorem AW.rd {id : Nat} {Q : Exit → St → Prop} (pl : PL) (prot : List Nat) (pobjs : List Ob) (M : prot.map (fun i => ob[i]?) = pobjs.map some)
  (h : AP E n C ops prot pobjs pl s ⟨s, ob⟩ (fun σ' => Q .normal σ')) (G : Pn ops pl = true := by kernel_rfl) : AW E n C (.region id ops true) ⟨s, ob⟩ Q := I8 pl prot pobjs G M h
def jT := @AW.rd
theorem lf {M : Ak → List Ob → Prop} {O G : Ak} {ob' : List Ob} (W : M G ob') (Z : Sub (G ++ O) s) (ks : List Nat) (X : C0 ob ks = some ob') (Y : ks.Nodup := by decide) :
  ∃ G ob', M G ob' ∧ Left (G ++ O) ob' ⟨s, ob⟩ := ⟨_, _, W, Z, ks, X, Y⟩
theorem hT {s : Ak} : ∀ {l : Ak}, l.map (fun p => get s p.1) = l.map (fun p => some p.2) → Sub l s
 | [], _ => trivial
 | (i, x) :: l, h => by
  simp only [List.map_cons, List.cons.injEq] at h
  exact ⟨h.1, hT h.2⟩
theorem lg {M : Ak → List Ob → Prop} {O G : Ak} {ob' : List Ob} (W : M G ob') (ks : List Nat) (Z : (G ++ O).map (fun p => get s p.1) = (G ++ O).map (fun p => some p.2) := by exact rfl)
  (X : C0 ob ks = some ob' := by exact rfl) (Y : ks.Nodup := by decide) :
  ∃ G ob', M G ob' ∧ Left (G ++ O) ob' ⟨s, ob⟩ := ⟨_, _, W, hT Z, ks, X, Y⟩
theorem Ar {t : Nat} {x y : Code} {Q : Exit → St → Prop} {b : Bool} {α : Type} {A B r : α} (h : (if b = true then A else B) = r) (M : get s t = some (.v (.bool b)))
  (h1 : b = true → A = r → AW E n C x ⟨s, ob⟩ Q) (h2 : b = false → B = r → AW E n C y ⟨s, ob⟩ Q) : AW E n C (.cond (.tmp t) x y) ⟨s, ob⟩ Q :=
 AW.cond rfl M (fun G => h1 G (Bp G h)) (fun G => h2 G (Bq G h))
section
variable {σ : St} {dst : Option Tmp} {ty : TypeId} {pos : String} {aft : Array Edge} {g : Option (Nat × Bool)}
theorem AX.lt {d : Nat} {t : TypeId} {m : Nat} {G : Array (Nat × Operand)} {ti ei : TI} {e : Nat} {z : Value} {l : List T} (sz : Nat) (es : List (List T)) (k : R ⟨(d, .list sz es) :: s, ob⟩)
  (Z : E.tab t = some ti := by exact rfl) (W : ti.kind = .slice e := by exact rfl) (he : E.tab e = some ei := by exact rfl) (hz : ei.zero = some z := by exact rfl) (h1 : z.cells.toList.all (·.oneCell') = true := by exact rfl)
  (hsz : ei.size = sz := by exact rfl) (M : z.cells.size = sz := by exact rfl) (hb : Nat.ble (m * sz) 16777216 = true := by exact rfl)
  (X : Nat.ble m 16777216 = true := by exact rfl) (hf : Fb s (fun i => some (i * sz, sz)) (Ja (Ef z) m) G.toList = some l := by exact rfl) (Y : rows sz m l = es := by exact rfl) (O : Nat.blt d n = true := by exact rfl) :
  AX E n C [] ⟨some d, .buildSlice t m G, ty, pos, aft, g⟩ ⟨s, ob⟩ R := fG Z W he hz h1 hsz M hb X hf Y (By O) k
def jQ := @AX.lt
theorem Fk (ks : List Nat) {d : Nat} {c : Operand} {args : Array Operand} {Y : Array TypeId} {f : FuncId} {G M xs ys : List T} {fp : List Ob} {Rc : T → List Ob → List Ob → Prop} {R : St → Prop}
  (h : ACalls E f ys fp (fun x O => ∃ os new, O = os ++ new ∧ os.length = fp.length ∧ Rc x os new)) (k : ∀ x os new, os.length = fp.length → Rc x os new → R ⟨D3 σ.slots (some d) x, Eo σ.objs ks os ++ new⟩)
  (hc : (Aq σ.slots c).bind I9 = some (f, G, M) := by exact rfl) (hx : E4 σ.slots args.toList = some xs := by exact rfl) (X : G ++ xs ++ M = ys := by exact rfl)
  (hk : C0 σ.objs ks = some fp := by exact rfl) (W : ks.Nodup := by decide) (Z : Nat.blt d n = true := by exact rfl) :
  AX E n C ks ⟨some d, .call { callee := .value c, args := args, argTypes := Y }, ty, pos, aft, g⟩ σ R := Tp ks hc hx X hk W h (By Z) k
theorem AX.ap {α : Type} {fr : α → List T} {la X Y : List α} (ks : Nat) {d : Nat} {so x : Operand} {t : TypeId} {ti ei : TI} {e sz : Nat} {z v : Value} {R : St → Prop}
  (M : σ.objs[ks]? = some (.us v e sz (la.map fr))) (W : Dg la X = some Y)
  (k : ∀ Z, R ⟨D3 σ.slots (some d) (.v Z), σ.objs.set ks (.us Z e sz (Y.map fr))⟩)
  (hx : Aq σ.slots x = some (.list sz (X.map fr)) := by exact rfl) (hs : Aq σ.slots so = some (.v v) := by exact rfl)
  (ht : E.tab t = some ti := by exact rfl) (hk : ti.kind = .slice e := by exact rfl) (he : E.tab e = some ei := by exact rfl) (hz : ei.zero = some z := by exact rfl) (hsz : ei.size = sz := by exact rfl)
  (O : z.cells.size = sz := by exact rfl) (G : Nat.ble ei.bytes 2048 = true := by exact rfl) (hd : Nat.blt d n = true := by exact rfl) :
  AX E n C [ks] ⟨some d, .call { callee := .builtin .append, args := #[so, x], argTypes := #[t, t] }, ty, pos, aft, g⟩ σ R :=
 I6 ks ht hk he hz hsz O G hs M (.list hx) (eV (Ge W).1) (eU (Ge W).2) (By hd) k
def jV := @AX.ap
end
def kb (s G : Ak) : Prop := G.drop (G.length - s.length) = s ∧ ((G.take (G.length - s.length)).all fun p => (get s p.1).isNone) = true
theorem Wa {s : Ak} {i : Nat} {x : T} : ∀ {l : Ak}, (l.all fun p => (get s p.1).isNone) = true → get s i = some x → get (l ++ s) i = some x
 | [], _, h => h
 | (j, y) :: l, ha, h => by
  simp only [List.all_cons, Bool.and_eq_true] at ha
  simp only [List.cons_append, get]
  cases hb : Nat.beq j i with
  | true =>
   rw [nq hb, h] at ha
   simp at ha
  | false => rw [cond_false]; exact Wa ha.2 h
theorem gT {s G : Ak} (h : kb s G) (i : Nat) (x : T) (W : get s i = some x) : get G i = some x := by
 obtain ⟨M, O⟩ := h
 rw [← List.take_append_drop (G.length - s.length) G, M]
 exact Wa O W
theorem Dv {x y : Code} {Q : Exit → St → Prop} (d : Nat) (e : Bool) (h : AW E n C x ⟨s, ob⟩ (H9 (fun σ' => get σ'.slots d = some (.v (.bool e)) ∧ σ'.objs = ob ∧ kb s σ'.slots) Q)) (k : AW E n C y ⟨(d, .v (.bool e)) :: s, ob⟩ Q) : AW E n C (.seq x y) ⟨s, ob⟩ Q :=
 aV _ h fun σ' ⟨W, O, X⟩ H a w G => k H a w { G with
  slots := fun i z M => by
   simp only [get] at M
   cases hb : Nat.beq d i with
   | true => rw [hb, cond_true] at M; cases M; rw [← nq hb]; exact G.slots d _ W
   | false => rw [hb, cond_false] at M; exact G.slots i z (gT X i z M)
  objs := by rw [← O]; exact G.objs
  free := by rw [← O]; exact G.free
  new := by rw [← O]; exact G.new
  nodup := by rw [← O]; exact G.nodup }
theorem jf {d : Nat} {a e : Bool} {s s' : Ak} {ob ob' : List Ob} (h : a = e) (h1 : get s' d = some (.v (.bool a))) (h2 : ob' = ob) (G : kb s s') : get s' d = some (.v (.bool e)) ∧ ob' = ob ∧ kb s s' := ⟨h ▸ h1, h2, G⟩
theorem rt {E : Env} {fn : Func} {Rc : T → List Ob → Prop} {t : Nat} {x : T} (hf : fn.results.toList = [.tmp t]) (M : get s t = some x) (G : Rc x []) : dR E fn Rc .ret ⟨s, ob⟩ := ⟨.inr rfl, [x], [], by rw [hf]; exact ⟨M, trivial⟩, List.nil_sublist _, G⟩
end
theorem Av {E : Env} {n : Nat} {C : Ctx} {σ : St} {ty : TypeId} {pos : String} {aft : Array Edge} {g : Option (Nat × Bool)} (ks : List Nat) {d : Nat} {c : Operand} {args : Array Operand} {Z : Array TypeId} {f : FuncId} {G M xs ys : List T} {fp : List Ob} {X : T} {O N : List Ob} {R : St → Prop}
  (h : ACalls E f ys fp (En fp.length (fun x os new => x = X ∧ os = O ∧ new = N))) (k : R ⟨D3 σ.slots (some d) X, Eo σ.objs ks O ++ N⟩)
  (hc : (Aq σ.slots c).bind I9 = some (f, G, M) := by exact rfl) (hx : E4 σ.slots args.toList = some xs := by exact rfl) (Y : G ++ xs ++ M = ys := by exact rfl)
  (hk : C0 σ.objs ks = some fp := by exact rfl) (W : ks.Nodup := by decide) (hd : Nat.blt d n = true := by exact rfl) :
  AX E n C ks ⟨some d, .call { callee := .value c, args := args, argTypes := Z }, ty, pos, aft, g⟩ σ R :=
 Fk ks h (by rintro _ _ _ _ ⟨rfl, rfl, rfl⟩; exact k) hc hx Y hk W hd
theorem pr {E : Env} {fn : Func} {σ : St} {X : T} (h : Wr E σ.slots σ.objs fn.results.toList [X] := by exact ⟨rfl, True.intro⟩) : dR E fn (fun x new => x = X ∧ new = []) .ret σ := ⟨.inr rfl, [X], [], h, Ct, rfl, rfl⟩
theorem g0 {n : Nat} {C : Ctx} {s : Ak} {ob : List Ob} : Ghost n C s ob s [] := Ghost.pick [] (K := []) rfl (by decide)
theorem C9 {E : Env} {n : Nat} {C : Ctx} {Q : Exit → St → Prop} {s : Ak} {ob : List Ob} {c : Code} (ks : List Nat) {K : List Ob} (G : C0 ob ks = some K) (k : AW E n C c ⟨s, K⟩ Q) (M : ks.Nodup := by decide) : AW E n C c ⟨s, ob⟩ Q := jO (Ghost.pick ks G M) k
theorem A1 {E : Env} {n : Nat} {C : Ctx} {σ : St} {ty : TypeId} {pos : String} {aft : Array Edge} {g : Option (Nat × Bool)} (k i j : Nat) (es' : List (List T)) {t : TypeId} {x y : Operand} {ti : TI} {c : T} {cs : List T} {b off M sz cap : Nat} {es : List (List T)} {e : List T} {R : St → Prop}
  (W : σ.objs[k]? = some (.arr b M sz cap es)) (kk : R ⟨σ.slots, σ.objs.set k (.arr b M sz cap es')⟩)
  (Z : Aq σ.slots x = some (.v (.pointer (some ⟨b, off, none⟩))) := by exact rfl) (Y : E.tab t = some ti := by exact rfl) (he : es[i]? = some e := by exact rfl) (X : off = i * sz + j := by exact rfl)
  (hy : Aq σ.slots y = some c := by exact rfl) (hc : Dt c = some cs := by exact rfl) (hsz : ti.size = cs.length := by exact rfl) (O : Nat.ble (j + cs.length) e.length = true := by exact rfl) (G : es.set i (Ev e j cs) = es' := by exact rfl) :
  AX E n C [k] ⟨none, .store t x y, ty, pos, aft, g⟩ σ R := jS k i j Y Z W he X hy hc hsz (Nat.le_of_ble_eq_true O) rfl G kk
theorem Bh {α β : Type} {l : List α} {i : Int} {f : Nat × α → Option β} {r : β} (h : (ix l i).bind f = some r) : ∃ p, (i = (p.1 : Int) ∧ l[p.1]? = some p.2) ∧ f p = some r := by
 obtain ⟨p, G, M⟩ := Ac h
 exact ⟨p, eH G, M⟩
theorem Mh {α β : Type} {n : Int} {z : α} {f : List α → Option β} {r : β} (h : (Wl n z).bind f = some r) : ∃ l, (∃ m : Nat, n = (m : Int) ∧ m ≤ 68719476736 ∧ List.replicate m z = l) ∧ f l = some r := by
 obtain ⟨p, G, M⟩ := Ac h
 exact ⟨p, eG G, M⟩
theorem I2 {α β : Type} {a : α} {b : β} : a = a ∧ b = b := ⟨rfl, rfl⟩
theorem I3 {α β γ : Type} {a : α} {b : β} {c : γ} : a = a ∧ b = b ∧ c = c := ⟨rfl, rfl, rfl⟩
theorem I5 {α β γ δ ε : Type} {a : α} {b : β} {c : γ} {d : δ} {e : ε} : a = a ∧ b = b ∧ c = c ∧ d = d ∧ e = e := ⟨rfl, rfl, rfl, rfl, rfl⟩
theorem I7 {α β γ δ ε ζ η : Type} {a : α} {b : β} {c : γ} {d : δ} {e : ε} {f : ζ} {g : η} : a = a ∧ b = b ∧ c = c ∧ d = d ∧ e = e ∧ f = f ∧ g = g := ⟨rfl, rfl, rfl, rfl, rfl, rfl, rfl⟩
theorem J1 {α : Type} {a : α} : a = a ∧ True := ⟨rfl, J⟩
theorem J2 {α β : Type} {a : α} {b : β} : a = a ∧ b = b ∧ True := ⟨rfl, J1⟩
theorem J3 {α β γ : Type} {a : α} {b : β} {c : γ} : a = a ∧ b = b ∧ c = c ∧ True := ⟨rfl, J2⟩
theorem J4 {α β γ δ : Type} {a : α} {b : β} {c : γ} {d : δ} : a = a ∧ b = b ∧ c = c ∧ d = d ∧ True := ⟨rfl, J3⟩
theorem J5 {α β γ δ ε : Type} {a : α} {b : β} {c : γ} {d : δ} {e : ε} : a = a ∧ b = b ∧ c = c ∧ d = d ∧ e = e ∧ True := ⟨rfl, J4⟩
theorem J6 {α β γ δ ε ζ : Type} {a : α} {b : β} {c : γ} {d : δ} {e : ε} {f : ζ} : a = a ∧ b = b ∧ c = c ∧ d = d ∧ e = e ∧ f = f ∧ True := ⟨rfl, J5⟩
theorem J7 {α β γ δ ε ζ η : Type} {a : α} {b : β} {c : γ} {d : δ} {e : ε} {f : ζ} {g : η} : a = a ∧ b = b ∧ c = c ∧ d = d ∧ e = e ∧ f = f ∧ g = g ∧ True := ⟨rfl, J6⟩
theorem J8 {α β γ δ ε ζ η θ : Type} {a : α} {b : β} {c : γ} {d : δ} {e : ε} {f : ζ} {g : η} {h : θ} : a = a ∧ b = b ∧ c = c ∧ d = d ∧ e = e ∧ f = f ∧ g = g ∧ h = h ∧ True := ⟨rfl, J7⟩
theorem J9 {α β γ δ ε ζ η θ ι : Type} {a : α} {b : β} {c : γ} {d : δ} {e : ε} {f : ζ} {g : η} {h : θ} {i : ι} : a = a ∧ b = b ∧ c = c ∧ d = d ∧ e = e ∧ f = f ∧ g = g ∧ h = h ∧ i = i ∧ True := ⟨rfl, J8⟩
theorem iJ {α β γ δ ε ζ η θ ι κ : Type} {a : α} {b : β} {c : γ} {d : δ} {e : ε} {f : ζ} {g : η} {h : θ} {i : ι} {j : κ} : a = a ∧ b = b ∧ c = c ∧ d = d ∧ e = e ∧ f = f ∧ g = g ∧ h = h ∧ i = i ∧ j = j ∧ True := ⟨rfl, J9⟩
theorem iI {α β γ δ ε ζ η θ ι κ μ : Type} {a : α} {b : β} {c : γ} {d : δ} {e : ε} {f : ζ} {g : η} {h : θ} {i : ι} {j : κ} {k : μ} : a = a ∧ b = b ∧ c = c ∧ d = d ∧ e = e ∧ f = f ∧ g = g ∧ h = h ∧ i = i ∧ j = j ∧ k = k ∧ True := ⟨rfl, iJ⟩
theorem iS {α β γ δ ε ζ η θ ι κ μ ν : Type} {a : α} {b : β} {c : γ} {d : δ} {e : ε} {f : ζ} {g : η} {h : θ} {i : ι} {j : κ} {k : μ} {l : ν} : a = a ∧ b = b ∧ c = c ∧ d = d ∧ e = e ∧ f = f ∧ g = g ∧ h = h ∧ i = i ∧ j = j ∧ k = k ∧ l = l ∧ True := ⟨rfl, iI⟩
theorem iM {α β γ δ ε ζ η θ ι κ μ ν ξ : Type} {a : α} {b : β} {c : γ} {d : δ} {e : ε} {f : ζ} {g : η} {h : θ} {i : ι} {j : κ} {k : μ} {l : ν} {m : ξ} : a = a ∧ b = b ∧ c = c ∧ d = d ∧ e = e ∧ f = f ∧ g = g ∧ h = h ∧ i = i ∧ j = j ∧ k = k ∧ l = l ∧ m = m ∧ True := ⟨rfl, iS⟩
theorem iR {α β γ δ ε ζ η θ ι κ μ ν ξ ο : Type} {a : α} {b : β} {c : γ} {d : δ} {e : ε} {f : ζ} {g : η} {h : θ} {i : ι} {j : κ} {k : μ} {l : ν} {m : ξ} {n : ο} : a = a ∧ b = b ∧ c = c ∧ d = d ∧ e = e ∧ f = f ∧ g = g ∧ h = h ∧ i = i ∧ j = j ∧ k = k ∧ l = l ∧ m = m ∧ n = n ∧ True := ⟨rfl, iM⟩
theorem iZ {α β γ δ ε ζ η θ ι κ μ ν ξ ο π : Type} {a : α} {b : β} {c : γ} {d : δ} {e : ε} {f : ζ} {g : η} {h : θ} {i : ι} {j : κ} {k : μ} {l : ν} {m : ξ} {n : ο} {o : π} : a = a ∧ b = b ∧ c = c ∧ d = d ∧ e = e ∧ f = f ∧ g = g ∧ h = h ∧ i = i ∧ j = j ∧ k = k ∧ l = l ∧ m = m ∧ n = n ∧ o = o ∧ True := ⟨rfl, iR⟩
theorem Bf {E : Env} {n : Nat} {C : Ctx} {σ : St} {dst : Option Tmp} {ty : TypeId} {pos : String} {aft : Array Edge} {g : Option (Nat × Bool)} {t : TypeId} {z : Value} (cs : List T) (m : Nat) {R : St → Prop} (k : ∀ b, R ⟨D3 σ.slots dst (.v (.pointer (some ⟨b, 0, none⟩))), σ.objs ++ [(.arr b t m 1 [cs])]⟩)
  (G : (E.tab t).bind (fun i => i.zero) = some z := by exact rfl) (hc : z.cells.toList.map T.v = cs := by exact rfl) (h1 : z.cells.toList.all (·.oneCell') = true := by exact rfl) (O : cs.length = m := by exact rfl) (M : ∀ d, dst = some d → d < n := by exact dS) :
  AX E n C [] ⟨dst, .alloc t, ty, pos, aft, g⟩ σ R := by
 obtain ⟨i, hi, G⟩ := Option.bind_eq_some_iff.1 G
 exact AX.alloc hi G hc h1 O M k
theorem Br {E : Env} {n : Nat} {C : Ctx} {σ : St} {dst : Option Tmp} {ty : TypeId} {pos : String} {aft : Array Edge} {g : Option (Nat × Bool)} {t : TypeId} {x : Operand} (cs : List T) (m : Nat) {R : St → Prop} (k : ∀ b, R ⟨D3 σ.slots dst (.v (.pointer (some ⟨b, 0, none⟩))), σ.objs ++ [(.arr b t m 1 [cs])]⟩)
  (O : (Aq σ.slots x).bind Dt = some cs := by exact rfl) (M : cs.length = m := by exact rfl) (G : ∀ d, dst = some d → d < n := by exact dS) :
  AX E n C [] ⟨dst, .box t x, ty, pos, aft, g⟩ σ R := by
 obtain ⟨y, hy, hc⟩ := Option.bind_eq_some_iff.1 O
 exact AX.box hy hc M G k
theorem Bs {E : Env} {n : Nat} {C : Ctx} {s : Ak} {ob : List Ob} {Q : Exit → St → Prop} {c : Operand} {x y : Code} {t : Nat} {b : Bool} (G : get s t = some (.v (.bool b))) (hb : b = true) (h : AW E n C x ⟨s, ob⟩ Q) (hc : c = .tmp t := by rfl) : AW E n C (.cond c x y) ⟨s, ob⟩ Q := Ts (v := true) G hb h hc
theorem Bu {E : Env} {n : Nat} {C : Ctx} {s : Ak} {ob : List Ob} {Q : Exit → St → Prop} {c : Operand} {x y : Code} {t : Nat} {b : Bool} (G : get s t = some (.v (.bool b))) (hb : b = false) (h : AW E n C y ⟨s, ob⟩ Q) (hc : c = .tmp t := by rfl) : AW E n C (.cond c x y) ⟨s, ob⟩ Q := Ts (v := false) G hb h hc
def sl : Nat → Nat → PL → PL
 | 0, _, r => r
 | m + 1, i, r => .still i (sl m (i + 1) r)
theorem io {α : Type _} {a b : α} (h : some a = some b) : b = a := (Option.some.inj h).symm
abbrev RV (t : T) (x : T) (new : List Ob) : Prop := x = t ∧ new = []
abbrev RB (r : Bool) (x : T) (new : List Ob) : Prop := x = .v (.bool r) ∧ new = []
abbrev N3 : List Nat := [0, 1, 2]
abbrev N4 : List Nat := [0, 1, 2, 3]
abbrev N5 : List Nat := [0, 1, 2, 3, 4]
abbrev N6 : List Nat := [0, 1, 2, 3, 4, 5]
abbrev N7 : List Nat := [0, 1, 2, 3, 4, 5, 6]
abbrev N8 : List Nat := [0, 1, 2, 3, 4, 5, 6, 7]
abbrev N9 : List Nat := [0, 1, 2, 3, 4, 5, 6, 7, 8]
abbrev jF : List Nat := [0, 1, 2, 3, 4, 5, 6, 7, 8, 9]
abbrev K2 (a b : Nat) {xa xb : T} : Ak := [(a, xa), (b, xb)]
abbrev K3 (a b c : Nat) {xa xb xc : T} : Ak := [(a, xa), (b, xb), (c, xc)]
abbrev K4 (a b c d : Nat) {xa xb xc xd : T} : Ak := [(a, xa), (b, xb), (c, xc), (d, xd)]
abbrev K5 (a b c d e : Nat) {xa xb xc xd xe : T} : Ak := [(a, xa), (b, xb), (c, xc), (d, xd), (e, xe)]
abbrev K6 (a b c d e f : Nat) {xa xb xc xd xe xf : T} : Ak := [(a, xa), (b, xb), (c, xc), (d, xd), (e, xe), (f, xf)]
abbrev K7 (a b c d e f g : Nat) {xa xb xc xd xe xf xg : T} : Ak := [(a, xa), (b, xb), (c, xc), (d, xd), (e, xe), (f, xf), (g, xg)]
abbrev K8 (a b c d e f g h : Nat) {xa xb xc xd xe xf xg xh : T} : Ak := [(a, xa), (b, xb), (c, xc), (d, xd), (e, xe), (f, xf), (g, xg), (h, xh)]
abbrev K9 (a b c d e f g h i : Nat) {xa xb xc xd xe xf xg xh xi : T} : Ak := [(a, xa), (b, xb), (c, xc), (d, xd), (e, xe), (f, xf), (g, xg), (h, xh), (i, xi)]
abbrev iL (a b c d e f g h i j : Nat) {xa xb xc xd xe xf xg xh xi xj : T} : Ak := [(a, xa), (b, xb), (c, xc), (d, xd), (e, xe), (f, xf), (g, xg), (h, xh), (i, xi), (j, xj)]
abbrev T.P (b : Nat) : T := .v (.pointer (some ⟨b, 0, none⟩))
abbrev nS : Value := .slice none 0 0
theorem pk {ob o : List Ob} (k : List Nat) (h : C0 ob k = some o := by exact rfl) (n : k.Nodup := by decide) : ∃ p, C0 ob p = some o ∧ p.Nodup := ⟨k, h, n⟩
end Go.Aw
