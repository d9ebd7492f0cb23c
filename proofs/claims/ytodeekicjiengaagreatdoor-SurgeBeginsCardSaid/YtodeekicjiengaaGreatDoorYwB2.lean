/- A program logic over the model. No condition. -/
import Derived.Test.YtodeekicjiengaaGreatDoorYwB1
import Derived.Scope
import Derived.Laws.StructEq
import Derived.Lib.LazyBuf
import Derived.KernelRfl
set_option maxRecDepth 100000
namespace Go.Aw
set_option linter.unusedVariables false
set_option linter.defProp false
set_option linter.unusedSimpArgs false
def wr (x : Int) : Int := IntKind.i64.wrap x
theorem Av {x : Int} (h : -9223372036854775808 ≤ x ∧ x ≤ 9223372036854775807) : wr x = x := tN h
def ix {α : Type} (l : List α) (i : Int) : Option (Nat × α) := if 0 ≤ i then (l[i.toNat]?).map fun x => (i.toNat, x) else none
theorem pJ {α : Type} {l : List α} {i : Int} {p : Nat × α} (h : ix l i = some p) : i = (p.1 : Int) ∧ l[p.1]? = some p.2 := by
 unfold ix at h
 split at h
 ·obtain ⟨x, G, rfl⟩ := Option.map_eq_some_iff.1 h
  exact ⟨by dsimp only; omega, G⟩
 ·cases h
theorem Bb {α : Type} {l : List α} {k : Nat} {x : α} (h : l[k]? = some x) : ix l (k : Int) = some (k, x) := by simp [ix, h]
def oJ : Nat := 68719476736
def Dy {α : Type} (l m : List α) : Option (List α) := if l.length + m.length ≤ oJ then some (l ++ m) else none
theorem Gu {α : Type} {l m r : List α} (h : Dy l m = some r) : l.length + m.length ≤ 68719476736 ∧ l ++ m = r := by
 unfold Dy at h
 split at h
 ·rename_i G; exact ⟨G, by cases h; rfl⟩
 ·cases h
theorem Wo {α : Type} {l m : List α} (h : l.length + m.length ≤ 68719476736) : Dy l m = some (l ++ m) := if_pos h
def So {α : Type} (n : Int) (z : α) : Option (List α) := if 0 ≤ n ∧ n ≤ (oJ : Int) then some (List.replicate n.toNat z) else none
theorem pG {α : Type} {n : Int} {z : α} {r : List α} (h : So n z = some r) : ∃ m : Nat, n = (m : Int) ∧ m ≤ 68719476736 ∧ List.replicate m z = r := by
 unfold So at h
 split at h
 ·rename_i G
  refine ⟨n.toNat, by omega, ?_, by cases h; rfl⟩
  have : (oJ : Int) = 68719476736 := rfl
  omega
 ·cases h
theorem rX {α : Type} {m : Nat} (z : α) (h : m ≤ 68719476736) : So (m : Int) z = some (List.replicate m z) := by
 unfold So
 have : (oJ : Int) = 68719476736 := rfl
 rw [if_pos (by omega)]; simp
def Zh {α : Type} (l : List α) (a b : Int) : Option (List α) := if 0 ≤ a ∧ a ≤ b ∧ b ≤ (l.length : Int) then some ((l.drop a.toNat).take (b.toNat - a.toNat)) else none
theorem L6 {α : Type} {l r : List α} {a b : Int} (h : Zh l a b = some r) : ∃ x y : Nat, a = (x : Int) ∧ b = (y : Int) ∧ x ≤ y ∧ y ≤ l.length ∧ (l.drop x).take (y - x) = r := by
 unfold Zh at h
 split at h
 ·exact ⟨a.toNat, b.toNat, by omega, by omega, by omega, by omega, by cases h; rfl⟩
 ·cases h
def rF (a b : ByteArray) : Option ByteArray := if a.size + b.size ≤ 68719476736 then some (a ++ b) else none
theorem mJ {a b r : ByteArray} (h : rF a b = some r) : a.size + b.size < 9223372036854775807 ∧ a ++ b = r := by
 unfold rF at h
 split at h
 ·rename_i G; exact ⟨by omega, by cases h; rfl⟩
 ·cases h
def sL (b : ByteArray) (i : Int) : Option (Nat × Int) := if 0 ≤ i ∧ i < (b.size : Int) then some (i.toNat, ((b.data.getD i.toNat 0).toNat : Int)) else none
theorem L9 {b : ByteArray} {i : Int} {p : Nat × Int} (h : sL b i = some p) : i = (p.1 : Int) ∧ p.1 < b.size ∧ ((b.data.getD p.1 0).toNat : Int) = p.2 := by
 unfold sL at h
 split at h
 ·cases h; exact ⟨by dsimp only; omega, by dsimp only; omega, rfl⟩
 ·cases h
def cA (a b : Int) : Option Int := if b ≠ 0 then some (wr (a.tdiv b)) else none
theorem Rl {a b r : Int} (h : cA a b = some r) : b ≠ 0 ∧ IntKind.i64.wrap (a.tdiv b) = r := by
 unfold cA at h
 split at h
 ·rename_i G; exact ⟨G, by cases h; rfl⟩
 ·cases h
def Uy (a b : Int) : Option Int := if b ≠ 0 then some (a.tmod b) else none
theorem Hh {a b r : Int} (h : Uy a b = some r) : b ≠ 0 ∧ a.tmod b = r := by
 unfold Uy at h
 split at h
 ·rename_i G; exact ⟨G, by cases h; rfl⟩
 ·cases h
def tF (p : Prop) [Decidable p] : Option Unit := if p then some () else none
theorem mH {p : Prop} [Decidable p] {u : Unit} (h : tF p = some u) : p := by
 unfold tF at h
 split at h
 ·assumption
 ·cases h
def S0 (a b : ByteArray) : Bool := a.toList == b.toList
theorem Ac {α β : Type} {o : Option α} {f : α → Option β} {r : β} (h : o.bind f = some r) : ∃ x, o = some x ∧ f x = some r := Option.bind_eq_some_iff.1 h
def Da {S B : Type} (f : S → Option (S ⊕ B)) : Nat → S → Option B
 | 0, _ => none
 | n + 1, s => match f s with
  | none => none
  | some (.inl s') => Da f n s'
  | some (.inr b) => some b
def Eh : Nat := 18446744073709551616
def forL {α S B : Type} (f : Nat → α → S → Option (S ⊕ B)) : Nat → List α → S → Option (S ⊕ B)
 | _, [], s => some (.inl s)
 | k, x :: l, s => match f k x s with
  | none => none
  | some (.inl s') => forL f (k + 1) l s'
  | some (.inr b) => some (.inr b)
def forS {α S : Type} (f : Nat → α → S → Option S) : Nat → List α → S → Option S
 | _, [], s => some s
 | k, x :: l, s => match f k x s with
  | none => none
  | some s' => forS f (k + 1) l s'
def forI {S B : Type} (f : Nat → S → Option (S ⊕ B)) : Nat → Nat → S → Option (S ⊕ B)
 | _, 0, s => some (.inl s)
 | k, n + 1, s => match f k s with
  | none => none
  | some (.inl s') => forI f (k + 1) n s'
  | some (.inr b) => some (.inr b)
def forJ {S : Type} (f : Nat → S → Option S) : Nat → Nat → S → Option S
 | _, 0, s => some s
 | k, n + 1, s => match f k s with
  | none => none
  | some s' => forJ f (k + 1) n s'
structure Arr (α : Type) (n : Nat) where
 l : List α
 h : l.length = n
theorem Arr.ext' {α : Type} {n : Nat} {a b : Arr α n} (h : a.l = b.l) : a = b := by cases a; cases b; cases h; rfl
instance {α : Type} {n : Nat} [DecidableEq α] : DecidableEq (Arr α n) := fun a b => if h : a.l = b.l then .isTrue (Arr.ext' h) else .isFalse (fun h' => h (by rw [h']))
instance {α : Type} {n : Nat} [Inhabited α] : Inhabited (Arr α n) := ⟨⟨List.replicate n default, by simp⟩⟩
def Arr.set {α : Type} {n : Nat} (a : Arr α n) (i : Nat) (x : α) : Arr α n := ⟨a.l.set i x, by simp [a.h]⟩
def Arr.rep {α : Type} (n : Nat) (x : α) : Arr α n := ⟨List.replicate n x, by simp⟩
theorem Xy {α : Type} {f : α → T} {l : List α} {post : List T} {i : Nat} {x : α} (h : l[i]? = some x) : (l.map f ++ post)[i]? = some (f x) := by
 have hi := (gs h).1
 rw [List.getElem?_append_left (by simpa using hi)]; simp [h]
theorem lK {G post : List T} {k i : Nat} {x : T} (O : G.length = k) (h : post[i]? = some x) : (G ++ post)[k + i]? = some x := by
 subst O; rw [List.getElem?_append_right (by omega)]; simpa using h
theorem Ia {α : Type} {f : α → T} {l : List α} {post : List T} {i : Nat} {y : α} (hi : i < l.length) : Fo (l.map f ++ post) i [f y] = (l.set i y).map f ++ post := by
 induction l generalizing i with
 | nil => simp at hi
 | cons a l ih =>
  cases i with
  | zero =>
   simp only [List.map_cons, List.cons_append, Fo, List.set_cons_zero]
   cases h : (l.map f ++ post) <;> rfl
  | succ i => simp only [List.map_cons, List.cons_append, Fo, List.set_cons_succ]; rw [ih (by simpa using hi)]
theorem Wt {G post post' : List T} {k i : Nat} {cs : List T} (O : G.length = k) (h : Fo post i cs = post') : Fo (G ++ post) (k + i) cs = G ++ post' := by
 subst O
 induction G with
 | nil => simpa using h
 | cons a l ih => simp only [List.cons_append, List.length_cons, Nat.add_right_comm, Fo]; rw [ih]
section
variable {E : Env} {n : Nat} {C : Ctx} {s : Az} {ob : List Ob} {Q : Exit → St → Prop} {ops : Array Oper} {R : St → Prop}
theorem Ghost.pick (ks : List Nat) {K : List Ob} (hK : Dx ob ks = some K) (hn : ks.Nodup) : Ghost n C s ob s K := by
 intro H a w Z
 obtain ⟨p1, p2⟩ := G5 hK
 have G : ∀ (i : Nat) (p : Ob), K[i]? = some p → ∃ k, ks[i]? = some k ∧ ob[k]? = some p := by
  intro i p hi
  have hil := (gs hi).1
  obtain ⟨o, h1, h2⟩ := p2 i ks[i] (gq (by omega))
  rw [hi] at h2
  cases h2
  exact ⟨_, gq (by omega), h1⟩
 have O : ∀ p, p ∈ K → p ∈ ob := fun p Y => by
  obtain ⟨i, hi⟩ := List.mem_iff_getElem?.1 Y
  obtain ⟨k, _, h⟩ := G i p hi
  exact mg h
 have hl := Dk.1 Z.nodup
 refine ⟨H, fun _ _ h => h, { Z with objs := fun p Y => Z.objs p (O p Y), free := fun p Y => Z.free p (O p Y), new := fun p Y => Z.new p (O p Y), nodup := ?_ }⟩
 refine Dk.2 ⟨fun i p hi => ?_, fun i j p q hi hj hne b hb => ?_⟩
 ·obtain ⟨k, _, h⟩ := G i p hi
  exact hl.1 k p h
 ·obtain ⟨k, h1, h2⟩ := G i p hi
  obtain ⟨k', h3, h4⟩ := G j q hj
  refine hl.2 k k' p q h2 h4 (fun he => hne ?_) b hb
  subst he
  exact (List.getElem?_inj (gs h1).1 hn).1 (h1.trans h3.symm)
theorem Ghost.refl : Ghost n C s ob s ob := fun H _ _ G => ⟨H, fun _ _ h => h, G⟩
theorem Ghost.slots {s' : Az} (h : ∀ (H : GH) (a : Act) (w : World), Gam n C ⟨s, ob⟩ H a w → ∀ i x, get s' i = some x → VR H (a.tmps.getD i undef) x) : Ghost n C s ob s' ob := fun H a w G =>
 ⟨H, fun _ _ h => h, { G with slots := h H a w G }⟩
theorem Ap {so : Az} {prot : List Nat} {pobjs : List Ob} {σ : St} (h : AO E n C ops [] σ R) : AP E n C ops prot pobjs .nil so σ R := fun _ _ H a w _ _ _ _ _ G => h H a w G
theorem Cx {pl : PL} {so : Az} {prot : List Nat} {pobjs : List Ob} {s' : Az} {ob' : List Ob} (h : Ghost n C s ob s' ob') (hp : prot.map (fun i => ob'[i]?) = prot.map (fun i => ob[i]?))
  (k : AP E n C ops prot pobjs pl so ⟨s', ob'⟩ R) : AP E n C ops prot pobjs pl so ⟨s, ob⟩ R := by
 intro Hs ws H a w sr wr Z hH Y gm
 obtain ⟨H', h1, g⟩ := h H a w gm
 refine k Hs ws H' a w sr wr Z (fun b o hb => h1 _ _ (hH _ _ hb)) (fun p O => ?_) g
 obtain ⟨i, hi, he⟩ := Y p O
 have G : i ∈ prot := by simpa using hi
 have : ob'[i]? = ob[i]? := List.map_inj_left.1 hp i G
 exact ⟨i, hi, this.trans he⟩
theorem Jj {pl : PL} {so : Az} {prot : List Nat} {pobjs : List Ob} (d : Nat) (k : AP E n C ops prot pobjs pl (tP so (some d)) ⟨s, ob⟩ R) : AP E n C ops prot pobjs pl so ⟨s, ob⟩ R :=
 fun Hs ws H a w G wr O Z hp Y => k Hs ws H a w ⟨G.size, fun i x h => G.slots i x (Hb h).2⟩ wr O Z hp Y
theorem A5 {pl : PL} {so : Az} {prot : List Nat} {pobjs : List Ob} {b c : Bool} (t : Nat) (hs : get s t = some (.v (.bool b))) (hb : b = c) (k : AP E n C ops prot pobjs pl so ⟨(t, .v (.bool c)) :: s, ob⟩ R) : AP E n C ops prot pobjs pl so ⟨s, ob⟩ R := by
 intro Hs ws H a w sr wr G Y Z O
 subst hb
 exact k Hs ws H a w sr wr G Y Z (O.same hs)
theorem Ce {o : Oper} {x : T} (hy : Yd E.P n s ob o x) (Z : ∀ Y, o.dst = some Y → Y < n) (k : R ⟨Fb s o.dst x, ob⟩) : AX E n C [] o ⟨s, ob⟩ R := by
 intro H a w O
 obtain ⟨v, hv, G⟩ := hy H a w O.sr O.wr
 simp only [Oper.wp, G w ⟨O.held, fun _ _ _ _ => rfl⟩, Oper.upon]
 refine ⟨_, H, v, k, ?_, rfl, fun _ _ h => h, fun i p hp _ => ⟨hp, by intros; trivial⟩⟩
 have := O.put hv Z
 cases h : o.dst <;> simpa [St.put, Fb, h] using this
theorem Kg {H : GH} {a : Act} {j : Nat} {t : Tmp} (r : SR n s H a) (O : (ops[j]?).bind (·.dst) = some t) (Y : get s t = some (.v undef)) : yielded ops a.tmps j = none := by
 have G := (r.slots t _ Y).v_eq
 simp only [yielded, O, Option.bind_some]
 rw [Array.getD_eq_getD_getElem?] at G
 cases h : a.tmps[t]? with
 | none => rfl
 | some x => rw [h] at G; simp only [Option.getD_some] at G; subst G; rfl
theorem By {d : Option Nat} {op : Op} {ty : TypeId} {pos : String} {aft : Array Edge} {l : List Oper} {j : Nat} {G : Bool} {t : Tmp}
  (hj : (ops[j]?).bind (·.dst) = some t) (hs : get s t = some (.v undef)) (Z : ∀ O, d = some O → O < n) (k : AO E n C ops l ⟨Fb s d (.v undef), ob⟩ R) : AO E n C ops (⟨d, op, ty, pos, aft, some (j, G)⟩ :: l) ⟨s, ob⟩ R := by
 intro H a w Y
 simp only [aY]
 rw [if_neg (by simp [Region.wanted, Kg Y.sr hj hs])]
 have := Y.put (dst := d) (v := undef) (x := .v undef) (.v _) Z
 cases d <;> exact k H _ w this
theorem Be {prot : List Nat} {pobjs : List Ob} {so : Az} {i : Nat} {r : PL} {o : Oper} {j : Nat} {G : Bool} {t : Tmp} (ho : ops[i]? = some o)
  (hg : o.guard = some (j, G)) (hj : (ops[j]?).bind (·.dst) = some t) (hs : get s t = some (.v undef)) (hd : ∀ d, o.dst = some d → d < n)
  (k : AP E n C ops prot pobjs r so (St.put ⟨s, ob⟩ o.dst (.v undef)) R) (hf : free so o.dst = true := by rfl) : AP E n C ops prot pobjs (.still i r) so ⟨s, ob⟩ R := by
 intro Hs ws H a w sr wr O Z hp Y
 have hw : Region.wanted o (yielded ops a.tmps) = false := by simp [Region.wanted, hg, Kg Y.sr hj hs]
 have hk := k Hs ws H _ w (sr.free o.dst undef hf) wr O Z (by cases h : o.dst <;> simpa [St.put, h] using hp) (Y.put (.v undef) hd)
 exact ⟨o, undef, ho, .inr ⟨hw, rfl⟩, O, hk⟩
theorem aX {c : Code} (t : Nat) {sz : Nat} {es : List (List T)} (O : get s t = some (.list sz es)) (k : es.length ≤ 140737488355328 → AW E n C c ⟨s, ob⟩ Q) : AW E n C c ⟨s, ob⟩ Q :=
 fun H a w G => k (G.slots _ _ O).list_max H a w G
theorem oE {c : Code} (k : Nat) {v : Value} {Y sz : Nat} {es : List (List T)} (Z : ob[k]? = some (.us v Y sz es)) (kk : es.length ≤ 140737488355328 → AW E n C c ⟨s, ob⟩ Q) : AW E n C c ⟨s, ob⟩ Q := by
 intro H a w O
 have G : UsR H w v Y sz es := O.objs _ (mg Z)
 refine kk ?_ H a w O
 rcases G with ⟨_, rfl⟩ | ⟨_, _, _, _, _, _, _, _, _, _, h, _⟩
 ·simp
 ·exact h
theorem B0 {α : Type} {f : α → List T} {l : List α} {c : Code} (t : Nat) {sz : Nat} (G : get s t = some (.list sz (l.map f))) (k : l.length ≤ 9223372036854775806 → AW E n C c ⟨s, ob⟩ Q) : AW E n C c ⟨s, ob⟩ Q :=
 aX t G fun h => k (by rw [List.length_map] at h; omega)
theorem Ot {α : Type} {f : α → List T} {l : List α} {c : Code} (k : Nat) {v : Value} {Y sz : Nat} (G : ob[k]? = some (.us v Y sz (l.map f))) (O : l.length ≤ 9223372036854775806 → AW E n C c ⟨s, ob⟩ Q) : AW E n C c ⟨s, ob⟩ Q :=
 oE k G fun h => O (by rw [List.length_map] at h; omega)
theorem Co {k m : Nat} (h : k < m) : decide ((k : Int) < (m : Int)) = true := decide_eq_true (by omega)
theorem Cp (m : Nat) : decide (((m : Nat) : Int) < (m : Int)) = false := by simp
def tQ (Q : Exit → St → Prop) : Exit → St → Prop
 | .goto _, _ => False
 | e, σ => Q e σ
theorem AW.scope {c : Code} {σ : St} (h : AW E n C c σ (tQ Q)) : AW E n C (.scope c) σ Q := fun H a w g =>
 Mq (Ji (h H a w g) fun e a' w' ⟨σ', H', q, G⟩ => by
  cases e <;> first | exact ⟨σ', H', q, G⟩ | exact q.elim)
def Left (s' : Az) (ob' : List Ob) (σ : St) : Prop := Sub s' σ.slots ∧ ∃ ks, Dx σ.objs ks = some ob' ∧ ks.Nodup
theorem Left.ghost {s' : Az} {ob' : List Ob} {σ : St} (h : Left s' ob' σ) : Ghost n C σ.slots σ.objs s' ob' := by
 obtain ⟨G, Z, O, Y⟩ := h
 exact (Ghost.pick Z O Y).trans (Ghost.weaken G (List.Sublist.refl _))
theorem D5 {c : Code} {s' : Az} {ob' : List Ob} {σ : St} (h : Left s' ob' σ) (k : AW E n C c ⟨s', ob'⟩ Q) : AW E n C c σ Q := uD h.ghost k
theorem Ai {x y : Code} (M : Az → List Ob → Prop) (ks : Az) (Y : Sub ks s)
  (h : AW E n C x ⟨s, ob⟩ (Kb (fun σ' => ∃ s' ob', M s' ob' ∧ Left (s' ++ ks) ob' σ') Q)) (k : ∀ s' ob', M s' ob' → AW E n C y ⟨s' ++ ks, ob'⟩ Q) : AW E n C (.seq x y) ⟨s, ob⟩ Q :=
 lD _ h (fun _ ⟨_, _, G, O⟩ => D5 O (k _ _ G))
theorem Aa {x y : Code} {σ : St} (h : ∀ G, G = y → AW E n C x σ (Kb (fun σ' => AW E n C G σ' Q) Q)) : AW E n C (.seq x y) σ Q := uB (h y rfl)
@[reducible] def tU {α β : Type} (o : Option α) (a : β) (f : α → β) : β := match o with
 | none => a
 | some x => f x
@[reducible] def tR {α : Type} (o : Option α) (A : Prop) (B : α → Prop) : Prop := match o with
 | none => A
 | some x => B x
theorem Rz {c : Code} (J : Nat → Az → List Ob → Prop) {m : Nat} {Z : Az} {G : List Ob} (h0 : J m Z G) (hs : Left Z G ⟨s, ob⟩)
  (O : ∀ m s ob, J m s ob → AW E n C c ⟨s, ob⟩ (Kb (fun σ' => ∃ Y s' ob', Y < m ∧ J Y s' ob' ∧ Left s' ob' σ') Q)) : AW E n C (.loop c) ⟨s, ob⟩ Q := by
 refine AW.loop (fun m σ => ∃ s' ob', J m s' ob' ∧ Left s' ob' σ) (m := m) ⟨Z, G, h0, hs⟩ ?_
 rintro m σ ⟨s', ob', hJ, h1⟩
 refine D5 h1 (AW.mono (O m s' ob' hJ) ?_)
 intro e σ' q
 cases e with
 | normal => obtain ⟨Y, s', ob', q1, q2, q3⟩ := q; exact ⟨Y, q1, s', ob', q2, q3⟩
 | _ => exact q
theorem Ti {O ks : Az} {G : List Ob} (h1 : Sub O s) (h2 : Sub ks s) (Y : ∃ p, Dx ob p = some G ∧ p.Nodup) : Left (O ++ ks) G ⟨s, ob⟩ := ⟨Sub.append h1 h2, Y⟩
theorem Cs {c : Code} {S B : Type} {f : S → Option (S ⊕ B)} {fuel : Nat} {aa : S} {b : B} (h : Da f fuel aa = some b) (ks : Az) (hk : Sub ks s) (Φ : S → Az → List Ob → Prop) {s0 : Az} {ab : List Ob} (h0 : Φ aa s0 ab) (hs : Sub s0 s) (ho : ∃ p, Dx ob p = some ab ∧ p.Nodup)
  (Z : ∀ (st : S) (r : S ⊕ B) s ob, Φ st s ob → f st = some r → (∀ b', r = .inr b' → b' = b) →
   AW E n C c ⟨s ++ ks, ob⟩ (Kb (fun σ' => ∃ G s' ob', r = .inl G ∧ Φ G s' ob' ∧ Left (s' ++ ks) ob' σ') Q)) : AW E n C (.loop c) ⟨s, ob⟩ Q := by
 refine Rz (fun m s1 Y => ∃ st s', Φ st s' Y ∧ Da f m st = some b ∧ s1 = s' ++ ks) (m := fuel) ⟨aa, s0, h0, h, rfl⟩ (Ti hs hk ho) ?_
 rintro m s1 Y ⟨st, s', hΦ, O, rfl⟩
 cases m with
 | zero => simp [Da] at O
 | succ m =>
  simp only [Da] at O
  cases hf : f st with
  | none => rw [hf] at O; cases O
  | some r =>
   rw [hf] at O
   refine AW.mono (Z st r s' Y hΦ hf (fun b' hb => ?_)) ?_
   ·subst hb; simpa using O
   ·intro e σ' q
    cases e with
    | normal =>
     obtain ⟨G, s'', ob', rfl, q2, q3⟩ := q
     exact ⟨m, _, ob', Nat.lt_succ_self m, ⟨G, s'', q2, O, rfl⟩, q3⟩
    | _ => exact q
theorem pL {α S B : Type} {f : Nat → α → S → Option (S ⊕ B)} {l : List α} {k : Nat} {x : α} (G : l[k]? = some x) (st : S) : forL f k (l.drop k) st = (match f k x st with
  | none => none
  | some (.inl s') => forL f (k + 1) (l.drop (k + 1)) s'
  | some (.inr b) => some (.inr b)) := by
 have O := (gs G).1
 have Y : l[k] = x := by rw [gq O] at G; cases G; rfl
 rw [List.drop_eq_getElem_cons O, Y]; rfl
theorem Bx {c : Code} {α S B : Type} {f : Nat → α → S → Option (S ⊕ B)} {l : List α} {ab : S} {o : S ⊕ B} (h : forL f 0 l ab = some o) (ks : Az) (hk : Sub ks s) (Φ : Nat → S → Az → List Ob → Prop) {s0 : Az} {ac : List Ob} (h0 : Φ 0 ab s0 ac) (hs : Sub s0 s) (ho : ∃ p, Dx ob p = some ac ∧ p.Nodup)
  (aa : ∀ (k : Nat) (x : α) (st : S) (r : S ⊕ B) s ob, l[k]? = some x → k < l.length → Φ k st s ob → f k x st = some r → (∀ b', r = .inr b' → .inr b' = o) →
   AW E n C c ⟨s ++ ks, ob⟩ (Kb (fun σ' => ∃ Y s' ob', r = .inl Y ∧ Φ (k + 1) Y s' ob' ∧ Left (s' ++ ks) ob' σ') Q))
  (fin : ∀ (st : S) s ob, Φ l.length st s ob → .inl st = o → AW E n C c ⟨s ++ ks, ob⟩ (Kb (fun _ => False) Q)) : AW E n C (.loop c) ⟨s, ob⟩ Q := by
 refine Rz (fun m s1 O => ∃ k st s', k + m = l.length ∧ Φ k st s' O ∧ forL f k (l.drop k) st = some o ∧ s1 = s' ++ ks) (m := l.length) ⟨0, ab, s0, by simp, h0, h, rfl⟩ (Ti hs hk ho) ?_
 rintro m s1 O ⟨k, st, s', hm, hΦ, G, rfl⟩
 rcases Nat.lt_or_ge k l.length with Z | Z
 ·have hx : l[k]? = some l[k] := gq Z
  rw [pL hx] at G
  cases hf : f k l[k] st with
  | none => rw [hf] at G; cases G
  | some r =>
   rw [hf] at G
   refine AW.mono (aa k _ st r s' O hx Z hΦ hf (fun b' hb => ?_)) ?_
   ·subst hb; simpa using G
   ·intro e σ' q
    cases e with
    | normal =>
     obtain ⟨Y, s'', ob', rfl, q2, q3⟩ := q
     exact ⟨m - 1, _, ob', by omega, ⟨k + 1, Y, s'', by omega, q2, G, rfl⟩, q3⟩
    | _ => exact q
 ·have : k = l.length := by omega
  subst this
  rw [List.drop_length] at G
  simp only [forL, Option.some.injEq] at G
  refine AW.mono (fin st s' O hΦ G) ?_
  intro e σ' q
  cases e with
  | normal => exact q.elim
  | _ => exact q
theorem kQ {α S : Type} {f : Nat → α → S → Option S} : ∀ (l : List α) (k : Nat) (st : S) (o : S), forS f k l st = some o → forL (B := Empty) (fun k x s => (f k x s).map .inl) k l st = some (.inl o)
 | [], _, _, o, h => by simp only [forS, Option.some.injEq] at h; subst h; rfl
 | x :: l, k, st, o, h => by
  simp only [forS] at h
  simp only [forL]
  cases hf : f k x st with
  | none => rw [hf] at h; cases h
  | some s' => rw [hf] at h; simpa using kQ l (k + 1) s' o h
theorem Cu {c : Code} {α S : Type} {f : Nat → α → S → Option S} {l : List α} {O : S} {o : S} (h : forS f 0 l O = some o) (ks : Az) (hk : Sub ks s) (Φ : Nat → S → Az → List Ob → Prop) {s0 : Az} {Y : List Ob} (h0 : Φ 0 O s0 Y) (hs : Sub s0 s) (ho : ∃ p, Dx ob p = some Y ∧ p.Nodup)
  (G : ∀ (k : Nat) (x : α) (st : S) (r : S) s ob, l[k]? = some x → k < l.length → Φ k st s ob → f k x st = some r →
   AW E n C c ⟨s ++ ks, ob⟩ (Kb (fun σ' => ∃ s' ob', Φ (k + 1) r s' ob' ∧ Left (s' ++ ks) ob' σ') Q))
  (Z : ∀ (st : S) s ob, Φ l.length st s ob → st = o → AW E n C c ⟨s ++ ks, ob⟩ (Kb (fun _ => False) Q)) : AW E n C (.loop c) ⟨s, ob⟩ Q := by
 refine Bx (kQ l 0 O o h) ks hk Φ h0 hs ho ?_ ?_
 ·intro k x st r s ob hx aa hΦ hr _
  obtain ⟨r', ab, rfl⟩ := Option.map_eq_some_iff.1 hr
  refine AW.mono (G k x st r' s ob hx aa hΦ ab) ?_
  intro e σ' q
  cases e with
  | normal => obtain ⟨s', ob', q1, q2⟩ := q; exact ⟨r', s', ob', rfl, q1, q2⟩
  | _ => exact q
 ·intro st s ob hΦ he
  exact Z st s ob hΦ (by injection he)
theorem kS {S B : Type} {f : Nat → S → Option (S ⊕ B)} : ∀ (m k : Nat) (st : S), forI f k m st = forL (fun k (_ : Unit) s => f k s) k (List.replicate m ()) st
 | 0, _, _ => rfl
 | m + 1, k, st => by
  simp only [forI, List.replicate_succ, forL]
  cases f k st with
  | none => rfl
  | some r => cases r with
   | inl s' => exact kS m (k + 1) s'
   | inr b => rfl
theorem Fi {c : Code} {S B : Type} {f : Nat → S → Option (S ⊕ B)} {m : Nat} {Z : S} {o : S ⊕ B} (h : forI f 0 m Z = some o) (ks : Az) (hk : Sub ks s) (Φ : Nat → S → Az → List Ob → Prop) {s0 : Az} {O : List Ob} (h0 : Φ 0 Z s0 O) (hs : Sub s0 s) (ho : ∃ p, Dx ob p = some O ∧ p.Nodup)
  (G : ∀ (k : Nat) (st : S) (r : S ⊕ B) s ob, k < m → Φ k st s ob → f k st = some r → (∀ b', r = .inr b' → .inr b' = o) →
   AW E n C c ⟨s ++ ks, ob⟩ (Kb (fun σ' => ∃ Y s' ob', r = .inl Y ∧ Φ (k + 1) Y s' ob' ∧ Left (s' ++ ks) ob' σ') Q))
  (aa : ∀ (st : S) s ob, Φ m st s ob → .inl st = o → AW E n C c ⟨s ++ ks, ob⟩ (Kb (fun _ => False) Q)) : AW E n C (.loop c) ⟨s, ob⟩ Q := by
 rw [kS] at h
 exact Bx h ks hk Φ h0 hs ho (fun k _ st r s ob _ ab => G k st r s ob (by simpa using ab)) (fun st s ob hΦ he => aa st s ob (by simpa using hΦ) he)
theorem kR {S : Type} {f : Nat → S → Option S} : ∀ (m k : Nat) (st : S) (o : S), forJ f k m st = some o → forI (B := Empty) (fun k s => (f k s).map .inl) k m st = some (.inl o)
 | 0, _, _, o, h => by simp only [forJ, Option.some.injEq] at h; subst h; rfl
 | m + 1, k, st, o, h => by
  simp only [forJ] at h
  simp only [forI]
  cases hf : f k st with
  | none => rw [hf] at h; cases h
  | some s' => rw [hf] at h; simpa using kR m (k + 1) s' o h
theorem Gv {c : Code} {S : Type} {f : Nat → S → Option S} {m : Nat} {O : S} {o : S} (h : forJ f 0 m O = some o) (ks : Az) (hk : Sub ks s) (Φ : Nat → S → Az → List Ob → Prop) {s0 : Az} {Y : List Ob} (h0 : Φ 0 O s0 Y) (hs : Sub s0 s) (ho : ∃ p, Dx ob p = some Y ∧ p.Nodup)
  (G : ∀ (k : Nat) (st : S) (r : S) s ob, k < m → Φ k st s ob → f k st = some r →
   AW E n C c ⟨s ++ ks, ob⟩ (Kb (fun σ' => ∃ s' ob', Φ (k + 1) r s' ob' ∧ Left (s' ++ ks) ob' σ') Q))
  (Z : ∀ (st : S) s ob, Φ m st s ob → st = o → AW E n C c ⟨s ++ ks, ob⟩ (Kb (fun _ => False) Q)) : AW E n C (.loop c) ⟨s, ob⟩ Q := by
 refine Fi (kR m 0 O o h) ks hk Φ h0 hs ho ?_ ?_
 ·intro k st r s ob aa hΦ hr _
  obtain ⟨r', ab, rfl⟩ := Option.map_eq_some_iff.1 hr
  refine AW.mono (G k st r' s ob aa hΦ ab) ?_
  intro e σ' q
  cases e with
  | normal => obtain ⟨s', ob', q1, q2⟩ := q; exact ⟨r', s', ob', rfl, q1, q2⟩
  | _ => exact q
 ·intro st s ob hΦ he
  exact Z st s ob hΦ (by injection he)
def Ea (k : Nat) (Rc : T → List Ob → List Ob → Prop) (x : T) (G : List Ob) : Prop := ∃ os new, G = os ++ new ∧ os.length = k ∧ Rc x os new
theorem A0 {k m : Nat} (h : k < m) (G : m ≤ 9223372036854775806) : IntKind.i64.wrap ((k : Int) + 1) = ((k + 1 : Nat) : Int) := by
 rw [tN (by omega)]; omega
section typed
variable {dst : Option Tmp} {ty : TypeId} {pos : String} {aft : Array Edge} {g : Option (Nat × Bool)} {α : Type} {f : α → List T}
def rI (x : Int) : List T := [.v (.int .i64 x)]
def rK (k : IntKind) (x : Int) : List T := [.v (.int k x)]
def rB (x : Bool) : List T := [.v (.bool x)]
def rS (x : ByteArray) : List T := [.v (.string x)]
def rL {α : Type} (sz : Nat) (f : α → List T) (l : List α) : List T := [.list sz (l.map f)]
def cI (x : Int) : T := .v (.int .i64 x)
def cL {α : Type} (sz : Nat) (f : α → List T) (l : List α) : T := .list sz (l.map f)
theorem C0 (k : Nat) {x : Operand} {t : TypeId} {objs : List Ob} {v : Value} {tt sz : Nat} {l : List α} {ti : TI} {e : Nat} (Y : E.tab t = some ti) (G : ti.kind = .slice e) (Z : Bg s x = some (.v v))
  (O : objs[k]? = some (.us v tt sz (l.map f))) : Yd E.P n s objs ⟨dst, .call { callee := .builtin .len, args := #[x], argTypes := #[t] }, ty, pos, aft, g⟩ (.v (.int .i64 (l.length : Int))) := by
 have := qG (E := E) (n := n) (dst := dst) (ty := ty) (pos := pos) (aft := aft) (g := g) k Y G Z O
 rwa [List.length_map] at this
theorem Dv {t : TypeId} {x y : Operand} {k : IntKind} {i : Int} {m : Nat} {b off len : Nat} {ti O : TI} {G : Nat}
  (ht : E.tab t = some ti) (Y : ti.kind = .array len G) (hel : E.tab G = some O) (h1 : O.size = 1)
  (hx : Bg s x = some (.v (.pointer (some ⟨b, off, none⟩)))) (hy : Bg s y = some (.v (.int k i))) (hi : i = (m : Int)) (Z : m < len) :
  Yp E.P n s ⟨dst, .indexAddr t x y, ty, pos, aft, g⟩ (.v (.pointer (some ⟨b, off + m, none⟩))) := by
 have := Du (E := E) (n := n) (dst := dst) (ty := ty) (pos := pos) (aft := aft) (g := g) ht Y hel hx hy hi Z
 rwa [h1, Nat.mul_one] at this
theorem Db {t : TypeId} {x y : Operand} {b : ByteArray} {k : IntKind} {i c : Int} {m : Nat} {ti : TI} (Y : E.tab t = some ti) (G : ti.kind = .string) (Z : Bg s x = some (.v (.string b)))
  (hy : Bg s y = some (.v (.int k i))) (hi : i = (m : Int)) (O : m < b.size) (hc : ((b.data.getD m 0).toNat : Int) = c) : Yp E.P n s ⟨dst, .index t x y, ty, pos, aft, g⟩ (.v (.int .u8 c)) :=
 hc ▸ Y2 Y G Z hy hi O
theorem mW {t Y : TypeId} {x y : Operand} {a b r : ByteArray} (G : Bg s x = some (.v (.string a))) (O : Bg s y = some (.v (.string b)))
  (hc : a.size + b.size < 9223372036854775807 ∧ a ++ b = r) : Yp E.P n s ⟨dst, .binOp .add t x y Y, ty, pos, aft, g⟩ (.v (.string r)) := hc.2 ▸ qF G O hc.1
theorem eR {objs : List Ob} (k : Nat) {v : Value} {G tyi szi : Nat} {vs : List Value} {l : List (List α)} (h : objs[k]? = some (.uss v G tyi szi vs (l.map fun x => some (x.map f)))) : Lend objs (.v v) (.list 1 (l.map (rL szi f))) := by
 refine Lend.uss k (ty := G) (tyi := tyi) (szi := szi) (vs := vs) (L := l.map fun x => x.map f) ?_ ?_
 ·rw [h, List.map_map]; rfl
 ·simp [Fy, List.map_map, rL, Function.comp_def]
theorem kI {β γ : Type} {l : List β} {G : β → γ} {m : Nat} {x : β} (h : l[m]? = some x) : m < (l.map G).length := by rw [List.length_map]; exact (gs h).1
theorem oR {β γ : Type} {l : List β} {G : β → Option γ} {m k : Nat} {x : β} (h : l[m]? = some x) : m < ((l.map G).set k none).length := by rw [List.length_set, List.length_map]; exact (gs h).1
theorem lY {β γ : Type} {l : List β} {G : β → Option γ} {m : Nat} {x : β} (h : l[m]? = some x) : ((l.map G).set m none)[m]? = some none := by
 rw [List.getElem?_set_self]; rw [List.length_map]; exact (gs h).1
theorem pY {l r : List (List α)} (h : l ++ [[]] = r) : (l.map fun x => some (x.map f)) ++ [some []] = r.map fun x => some (x.map f) := by rw [← h]; simp
theorem lR {l : List (List α)} (h : l.length + ([[]] : List (List α)).length ≤ 68719476736) : (l.map fun x => some (x.map f)).length + 1 ≤ 68719476736 := by simpa using h
theorem Y5 {H : GH} {w : World} {v : Value} {tt szi m : Nat} (h : UsR H w v tt 1 (List.replicate m [.v (.slice none 0 0)])) : UsR H w v tt 1 (List.replicate m [.list szi []]) := by
 rcases h with ⟨Y, Z⟩ | ⟨b, c, O, Y, Z, h3, cs, a1, a2, a3, a4, a5, a6⟩
 ·exact .inl ⟨Y, by cases m with | zero => rfl | succ m => simp [List.replicate_succ] at Z⟩
 ·refine .inr ⟨b, c, O, by simpa using Y, by simpa using Z, h3, cs, a1, a2, by simpa using a3, by simpa using a4, fun i e G => ?_, fun i e G j x hx => ?_⟩
  ·rw [List.getElem?_replicate] at G; split at G <;> cases G; rfl
  ·rw [List.getElem?_replicate] at G
   split at G
   ·rename_i hi
    cases G
    cases j with
    | zero =>
     simp at hx; subst hx
     have := a6 i [.v (.slice none 0 0)] (by rw [List.getElem?_replicate, if_pos hi]) 0 _ rfl
     refine ⟨this.1, ?_⟩
     rw [this.2.v_eq]; exact .empty _ _ _
    | succ j => simp at hx
   ·cases G
theorem Cj (k m szi : Nat) {v : Value} {G : Nat} {r : List (List α)} (Y : List.replicate m [] = r) (O : ob[k]? = some (.us v G 1 (List.replicate m [.v (.slice none 0 0)]))) :
  Ghost n C s ob s (ob.set k (.us v G 1 (r.map (rL szi f)))) := by
 refine Xb k O (fun H w h => ?_) rfl
 rw [← Y, List.map_replicate]
 exact Y5 h
theorem Dg {l : List α} {m : Nat} {x : α} {e : List T} (h : e = f x) : (l.map f).set m e = (l.set m x).map f := by rw [h, List.map_set]
theorem pZ {l m r : List α} (h : l ++ m = r) : l.map f ++ m.map f = r.map f := by rw [← h, List.map_append]
theorem mO {m r : List α} (h : [] ++ m = r) : m.map f = r.map f := by rw [← h]; rfl
theorem qA {l m : List α} (h : l.length + m.length ≤ 68719476736) : (l.map f).length + (m.map f).length ≤ 68719476736 := by simpa using h
theorem mP {m : List α} (h : ([] : List α).length + m.length ≤ 68719476736) : (m.map f).length ≤ 68719476736 := by simpa using h
theorem Ct {m : Nat} {z : α} {r : List α} {G : List T} (h : List.replicate m z = r) (O : G = f z) : List.replicate m G = r.map f := by rw [← h, List.map_replicate, O]
theorem oU {x y : Nat} {l r : List α} (h : (l.drop x).take (y - x) = r) : ((l.map f).drop x).take (y - x) = r.map f := by rw [← h, List.map_take, List.map_drop]
theorem Bq {x y : Operand} {t : TypeId} {k1 k2 : IntKind} {i : Int} {m : Nat} {ti G : TI} {e : Nat} {z : Value} {sz : Nat} {es' : List (List T)}
  (ht : E.tab t = some ti) (hk : ti.kind = .slice e) (he : E.tab e = some G) (hz : G.zero = some z) (h1 : z.cells.toList.all (·.oneCell') = true) (hsz : G.size = sz) (aa : z.cells.size = sz) (Y : Nat.ble G.bytes 2048 = true)
  (hx : Bg s x = some (.v (.int k1 i))) (hy : Bg s y = some (.v (.int k2 i))) (hi : i = (m : Int)) (hm : m ≤ 68719476736) (Z : List.replicate m (E1 z) = es')
  (hd : ∀ d, dst = some d → d < n) (k : ∀ b, R ⟨Fb s dst (.v b), ob ++ [.us b e sz es']⟩) :
  AX E n C [] ⟨dst, .makeSlice t x y, ty, pos, aft, g⟩ ⟨s, ob⟩ R := by
 subst Z
 have O := Nat.le_of_ble_eq_true Y
 refine AX.makeSlice ht hk he hz h1 hsz aa hx hy hi (by simp only [Hf]; omega) ?_ hd k
 have h1 : G.bytes * m ≤ 2048 * 68719476736 := Nat.mul_le_mul O hm
 have h2 : ((G.bytes * m : Nat) : Int) = (G.bytes : Int) * (m : Int) := by simp
 omega
theorem Po {x : Operand} {t : TypeId} {lo hi mx : Option Operand} {sz : Nat} {l r : List α} {ti ei : TI} {e : Nat} (a b m : Nat)
  (ht : E.tab t = some ti) (hk : ti.kind = .slice e) (he : E.tab e = some ei) (hsz : ei.size = sz) (hx : Bg s x = some (.list sz (l.map f)))
  (h1 : Zg s lo 0 a) (h2 : Zg s hi l.length b) (Z : mx = none) (Y : a ≤ b) (hh : b ≤ l.length) (hr : (l.drop a).take (b - a) = r) :
  Yp E.P n s ⟨dst, .slice t x lo hi mx, ty, pos, aft, g⟩ (.list sz (r.map f)) := by
 subst Z
 have := dN (E := E) (n := n) (dst := dst) (ty := ty) (pos := pos) (aft := aft) (g := g) (mx := none) a b m ht hk he hsz hx h1 (by rw [List.length_map]; exact h2)
  (fun O G => ⟨O, rfl, by rw [List.length_map] at G; omega, Nat.le_refl _⟩) (fun _ => rfl) Y (by rw [List.length_map]; exact hh)
 rwa [oU hr] at this
end typed
theorem Bu {α : Type} {c : Bool} {a b r : α} (hc : c = true) (h : (if c = true then a else b) = r) : a = r := by rw [if_pos hc] at h; exact h
theorem Bv {α : Type} {c : Bool} {a b r : α} (hc : c = false) (h : (if c = true then a else b) = r) : b = r := by rw [if_neg (by simp [hc])] at h; exact h
theorem C8 {α β γ : Type} {f : α → γ} {g : β → γ} {x : α} {r : γ} (h : Sum.elim f g (.inl x) = r) : f x = r := h
theorem C2 {α β γ : Type} {f : α → γ} {g : β → γ} {x : β} {r : γ} (h : Sum.elim f g (.inr x) = r) : g x = r := h
end
theorem Pc {α : Type} {row : α → List T} {sz : Nat} (G : ∀ x, (row x).length = sz) : ∀ {l : List α} {m : Nat} {z : α}, l[m]? = some z → (((l.flatMap row).drop (m * sz)).take sz) = row z
 | [], _, _, h => by simp at h
 | x :: l, 0, z, h => by simp at h; subst h; rw [List.flatMap_cons, Nat.zero_mul, List.drop_zero, List.take_left' (G x)]
 | x :: l, m + 1, z, h => by
  rw [List.flatMap_cons, show (m + 1) * sz = (row x).length + m * sz by rw [G x, Nat.succ_mul]; omega, ← List.drop_drop, List.drop_left]
  exact Pc G (by simpa using h)
theorem Pb {α : Type} {row : α → List T} {sz : Nat} (G : ∀ x, (row x).length = sz) : ∀ l : List α, (l.flatMap row).length = l.length * sz
 | [] => by simp
 | x :: l => by rw [List.flatMap_cons, List.length_append, G x, Pb G l, List.length_cons, Nat.succ_mul]; omega
theorem Y3 {E : Env} {n : Nat} {s : Az} {dst : Option Tmp} {ty : TypeId} {pos : String} {aft : Array Edge} {g : Option (Nat × Bool)} {α : Type} {row : α → List T} {t : TypeId} {x y : Operand} {k : IntKind} {i : Int} {m len el : Nat} {l : List α} {z : α} {ti G : TI}
  (ht : E.tab t = some ti) (hk : ti.kind = .array len el) (hel : E.tab el = some G) (Y : G.isAgg = true) (hlen : l.length = len) (hr : ∀ x, (row x).length = G.size)
  (hx : Bg s x = some (.agg (l.flatMap row))) (hy : Bg s y = some (.v (.int k i))) (hi : i = (m : Int)) (hm : l[m]? = some z) :
  Yp E.P n s ⟨dst, .index t x y, ty, pos, aft, g⟩ (.agg (row z)) := by
 have Z := (gs hm).1
 refine Se ht hk hel hx hy hi (by omega) ?_
 have O := Pc (sz := G.size) hr hm
 have h2 := Pb (sz := G.size) hr l
 have h3 : m * G.size + G.size ≤ l.length * G.size := by rw [← Nat.succ_mul]; exact Nat.mul_le_mul_right _ Z
 unfold En
 rw [Y, cond_true]
 cases hb : (Nat.beq (m * G.size) 0 && Nat.beq G.size (l.flatMap row).length) with
 | true =>
  rw [cond_true]
  rw [Bool.and_eq_true] at hb
  have e1 := nq hb.1
  have e2 := nq hb.2
  rw [e1, List.drop_zero, List.take_of_length_le (by omega)] at O
  rw [O]
 | false =>
  rw [cond_false, O, show Nat.ble (m * G.size + G.size) (l.flatMap row).length = true from Nat.ble_eq_true_of_le (by omega)]
  rfl
section
variable {P : Program} {n : Nat} {s : Az} {dst : Option Tmp} {ty : TypeId} {pos : String} {aft : Array Edge} {g : Option (Nat × Bool)}
theorem qC {t Y : TypeId} {x y : Operand} {k : IntKind} {a : Int} (G : Bg s x = some (.v (.int k a))) (O : Bg s y = some (.v (.int .u64 1))) :
  Yp P n s ⟨dst, .binOp .shr t x y Y, ty, pos, aft, g⟩ (.v (.int k (a.fdiv 2))) := by
 refine fun H A r => ⟨_, .v _, fun w => ?_⟩
 have : min (1 : Int).toNat k.bits = 1 := by cases k <;> rfl
 simp only [execOp, r.evalv G, r.evalv O, eqGuard, binOp, Op.shift, this]
 rfl
theorem Yl {x y z : Operand} {Z : Array TypeId} {k : IntKind} {a b c : Int} (G : Bg s x = some (.v (.int k a))) (O : Bg s y = some (.v (.int k b))) (Y : Bg s z = some (.v (.int k c))) :
  Yp P n s ⟨dst, .call { callee := .builtin .min, args := #[x, y, z], argTypes := Z }, ty, pos, aft, g⟩ (.v (.int k (min (min a b) c))) := by
 refine fun H A r => ⟨_, .v _, fun w => ?_⟩
 simp [execOp, resolve, invoke, builtin, Builtin.min_, Builtin.min2, r.evalv G, r.evalv O, r.evalv Y]
 omega
end
theorem oC {E : Env} {n : Nat} {C : Ctx} {σ : St} {dst : Option Tmp} {ty : TypeId} {pos : String} {aft : Array Edge} {g : Option (Nat × Bool)} {R : St → Prop} {t : TypeId} {g0 : Nat} {cs : List T} {G : TI} {y : T}
  (Z : (g0, cs) ∈ gl) (ht : E.tab t = some G) (O : En G cs 0 = some y) (hd : ∀ d, dst = some d → d < n) (k : R ⟨Fb σ.slots dst y, σ.objs⟩) : AX E n C [] ⟨dst, .load t (.global g0), ty, pos, aft, g⟩ σ R := by
 refine AX.value fun H a w Y => ?_
 have h : VR H (.pointer (some ⟨g0, 0, none⟩)) (.eptr cs) := (C.hg g0 cs Z).mono Y.grow
 cases h with
 | eptr b off l cs' ty' fr hb hsz h1 hvs =>
  obtain ⟨p1, p2⟩ := F3 hsz h1 hvs O
  have := Ey (j := 0) (E.ok _ _ ht) (Y.held _ _ hb) hsz h1 hvs O
  have hv : VR H (Ek G cs' 0) y := by
   cases ha : G.isAgg with
   | true => simpa [Ek, ha] using (p1 ha).2
   | false => simpa [Ek, ha] using (p2 ha).2
  refine ⟨Ek G cs' 0, w, _, H, ?_, k, ?_, fun _ _ h => h, fun _ _ O _ => ⟨O, fun _ _ => rfl⟩⟩
  ·simp only [execOp, Act.eval, Instr.loadAt, Instr.sureAddr, Sem.run_bind, Sem.run_pure, Result.andThen_ok]
   simp only [Nat.add_zero] at this
   rw [this]
   first | done | rfl
  ·have := Y.put hv hd
   cases dst <;> exact this
def jY (P : Program) (t : TypeId) : Bool := !(P.eqGuardType P.depth t)
section
variable {E : Env} {n : Nat} {C : Ctx} {s : Az} {ob : List Ob} {R : St → Prop} {dst : Option Tmp} {ty : TypeId} {pos : String} {aft : Array Edge} {g : Option (Nat × Bool)}
theorem oT {P : Program} {t : TypeId} {i : TI} {k : IntKind} (h : Ka P t = some i) (Y : i.kind = .int k) : P.underlying t = some (.int k) := by
 obtain ⟨d, O, G⟩ := Hv h
 rw [Y] at G
 cases d <;> simp [Ph] at G
 subst G; exact O
theorem X2 {t : TypeId} {ti : TI} (Z : E.tab t = some ti) (O : ti.isAgg = false) {H : GH} {G : Array Value} {cs : List T} (h : VR H (.agg G) (.agg cs)) {off : Nat} {x : T} (hx : cs[off]? = some x) :
  ∃ v, VR H v x ∧ ∀ w, (part t G off).run E.P w = .ok v w := by
 have Y : En ti cs off = some x := by simp [En, O, hx]
 exact R3 h (E.ok _ _ Z) Y
theorem Sa {H : GH} {xs ys : Array Value} {a b : Li} (hx : VR H (.agg xs) (.agg (a.map cI))) (hy : VR H (.agg ys) (.agg (b.map cI))) {Y : Nat} {ei : TI} (he : E.tab Y = some ei) (O : ei.kind = .int .i64) (w : World) (d : Nat) (hl : a.length = b.length) :
  ∀ (m k : Nat), k + m = a.length →
  (forIn (List.range' k m) ((none, ()) : Option Bool × Unit) (fun i _ => do
   let p ← part Y xs (i * 1)
   let q ← part Y ys (i * 1)
   let r ← Op.equalIn (d + 1) Y p q
   if !r then pure (ForInStep.done (some false, ())) else pure (ForInStep.yield (none, ()))) : Sem (Option Bool × Unit)).run E.P w =
   .ok (if a.drop k = b.drop k then none else some false, ()) w
 | 0, k, hk => by
  have h1 : a.drop k = [] := List.drop_eq_nil_of_le (by omega)
  have h2 : b.drop k = [] := List.drop_eq_nil_of_le (by omega)
  simp [h1, h2]
 | m + 1, k, hk => by
  have Z : ei.isAgg = false := by simp [TI.isAgg, O]
  have ha : a[k]? = some a[k] := gq (by omega)
  have hb : b[k]? = some b[k] := gq (by omega)
  obtain ⟨v, hv, hvr⟩ := X2 (E := E) he Z hx (off := k) (x := cI a[k]) (by simp [ha])
  obtain ⟨u, hu, hur⟩ := X2 (E := E) he Z hy (off := k) (x := cI b[k]) (by simp [hb])
  have := hv.v_eq; subst this
  have := hu.v_eq; subst this
  have heq := run_equalIn_int (P := E.P) w d Y .i64 .i64 a[k] b[k] (oT (E.ok _ _ he) O)
  have ih := Sa hx hy he O w d hl m (k + 1) (by omega)
  rw [List.range'_succ, List.forIn_cons]
  simp only [Sem.run_bind, Nat.mul_one, hvr, hur, Result.andThen_ok, heq]
  have hda : a.drop k = a[k] :: a.drop (k + 1) := List.drop_eq_getElem_cons (by omega)
  have hdb : b.drop k = b[k] :: b.drop (k + 1) := List.drop_eq_getElem_cons (by omega)
  rw [hda, hdb]
  by_cases h : a[k] = b[k]
  ·have G : (a[k] == b[k]) = true := by simp [h]
   simp only [G, Bool.not_true, Bool.false_eq_true, if_false, Sem.run_pure, Result.andThen_ok]
   simp only [Nat.mul_one] at ih
   have aa : (a[k] :: a.drop (k + 1) = b[k] :: b.drop (k + 1)) ↔ (a.drop (k + 1) = b.drop (k + 1)) := by rw [List.cons.injEq]; exact ⟨fun h => h.2, fun h' => ⟨h, h'⟩⟩
   rw [ih]
   simp only [aa]
  ·have G : (a[k] == b[k]) = false := by simp [h]
   simp only [G, Bool.not_false, if_true, Sem.run_pure, Result.andThen_ok]
   have hne : ¬ (a[k] :: a.drop (k + 1) = b[k] :: b.drop (k + 1)) := fun he => h (List.cons.inj he).1
   simp only [hne, if_false]
theorem mV {op : BinOp} {t t' : TypeId} {x y : Operand} {ti ei : TI} {len el : Nat} {a b : Arr Int len} {q : Bool} (ht : E.tab t = some ti) (hk : ti.kind = .array len el) (he : E.tab el = some ei) (hke : ei.kind = .int .i64) (hsz : ei.size = 1) (hg : jY E.P t = true)
  (hx : Bg s x = some (.agg (a.l.map cI))) (hy : Bg s y = some (.agg (b.l.map cI))) (hq : (match op with | .eql => some (decide (a = b)) | .neq => some (!decide (a = b)) | _ => none) = some q) :
  Yp E.P n s ⟨dst, .binOp op t x y t', ty, pos, aft, g⟩ (.v (.bool q)) := by
 intro H A sr
 have O : E.P.eqGuardType E.P.depth t = false := by simpa [jY] using hg
 have vx := sr.eval hx
 have vy := sr.eval hy
 generalize Z : A.eval x = u at vx
 generalize aa : A.eval y = v at vy
 refine ⟨_, .v _, fun w => ?_⟩
 have hab : decide (a.l = b.l) = decide (a = b) := decide_eq_decide.2 ⟨Arr.ext', fun h => by rw [h]⟩
 cases vx with
 | agg xs _ hl1 hc1 hv1 =>
  cases vy with
  | agg ys _ hl2 hc2 hv2 =>
   have G := Sa (E := E) (.agg xs _ hl1 hc1 hv1) (.agg ys _ hl2 hc2 hv2) he hke w 9998 (by rw [a.h, b.h]) len 0 (by rw [a.h]; omega)
   have Y : (Op.equalIn 10000 t (.agg xs) (.agg ys)).run E.P w = .ok (decide (a = b)) w := by
    obtain ⟨D, hD⟩ : ∃ D, D = 9999 := ⟨_, rfl⟩
    rw [show (10000 : Nat) = D + 1 by omega]
    rw [show (9998 : Nat) + 1 = D by omega] at G
    clear hD
    simp only [Op.equalIn, Sem.run_bind, run_underlying (Jl (E.ok _ _ ht) hk), Result.andThen_ok, Cy (E.ok _ _ he), hsz]
    rw [Std.Legacy.Range.forIn_eq_forIn_range']
    simp only [Std.Legacy.Range.size, Nat.sub_zero, Nat.add_sub_cancel, Nat.div_one]
    simp only [List.drop_zero] at G
    refine (congrArg (fun r => Result.andThen r _) G).trans ?_
    rw [← hab]
    by_cases h : a.l = b.l <;> simp [h]
   cases op <;> simp only [Option.some.injEq, reduceCtorEq] at hq <;> subst hq
   ·simp only [execOp, Z, aa, Sem.run_bind, run_eqGuard_agg w _ t x y xs ys O, Result.andThen_ok, run_eql_struct, Y, Sem.run_pure]
   ·simp only [execOp, Z, aa, Sem.run_bind, run_eqGuard_agg w _ t x y xs ys O, Result.andThen_ok, run_neq_struct, Y, Sem.run_pure]
theorem oD {t t' : TypeId} {x : Operand} {ti : TI} {e sz : Nat} {es : List (List T)} (ht : E.tab t = some ti) (hk : ti.kind = .slice e) (hx : Bg s x = some (.list sz es)) (Z : ∀ d, dst = some d → d < n)
  (k : ∀ b : Bool, (b = true → es = []) → R ⟨Fb s dst (.v (.bool b)), ob⟩) : AX E n C [] ⟨dst, .binOp .eql t x (.const (.slice none 0 0)) t', ty, pos, aft, g⟩ ⟨s, ob⟩ R := by
 refine AX.value fun H a w O => ?_
 have h := O.sr.eval hx
 generalize hv : a.eval x = v at h
 have hr : ∃ G l c, v = .slice G l c ∧ (G.isNone = true → es = []) := by
  cases h with
  | empty a cap sz => exact ⟨a, 0, cap, rfl, fun _ => rfl⟩
  | list b off cap sz es cs ty fr hb hcap hmax hsz hel h1 hvs => exact ⟨_, _, _, rfl, fun h => by simp at h⟩
 obtain ⟨G, l, c, rfl, hn⟩ := hr
 refine ⟨.bool G.isNone, w, _, H, ?_, k G.isNone hn, ?_, fun _ _ h => h, fun i p hp _ => ⟨hp, fun _ _ => rfl⟩⟩
 ·have := run_eql_slice_nil (P := E.P) w t e G l c (Ev (E.ok _ _ ht) hk)
  have Y : a.eval (.const (.slice none 0 0)) = .slice none 0 0 := rfl
  simp only [execOp, hv, Y, Sem.run_bind, eqGuard, Sem.run_pure, Result.andThen_ok, this]
  simp [this]
 ·have := O.put (dst := dst) (.v (.bool G.isNone)) Z
  cases dst <;> exact this
theorem C7 {α : Type} {f : α → List T} {c : Code} {Q : Exit → St → Prop} (q m : Nat) {v : Value} {Z sz : Nat} {l : List α} {x : α} (hq : ob[q]? = some (.us v Z sz (l.map f))) (hm : l[m]? = some x)
  (k : (∃ c, v = .slice (some ⟨G2 v, 0, none⟩) l.length c) → AW E n C c ⟨s, ob⟩ Q) : AW E n C c ⟨s, ob⟩ Q := by
 intro H a w O
 have G : UsR H w v Z sz (l.map f) := O.objs _ (mg hq)
 obtain ⟨c, aa, Y, _⟩ := G.arr (Ag (f := f) hm)
 rw [List.length_map] at Y
 exact k ⟨c, Y⟩ H a w O
theorem E5 {α : Type} {f : α → List T} {c : Code} {Q : Exit → St → Prop} (q : Nat) {v : Value} {Y sz : Nat} {l : List α} (hq : ob[q]? = some (.us v Y sz (l.map f)))
  (k : (∃ a c, v = .slice a l.length c) → AW E n C c ⟨s, ob⟩ Q) : AW E n C c ⟨s, ob⟩ Q := by
 intro H a w O
 have G : UsR H w v Y sz (l.map f) := O.objs _ (mg hq)
 refine k ?_ H a w O
 rcases G with ⟨rfl, he⟩ | ⟨b, c, Z, rfl, _⟩
 ·have : l = [] := by simpa using he
  subst this; exact ⟨none, 0, rfl⟩
 ·exact ⟨some ⟨b, 0, none⟩, c, by rw [List.length_map]⟩
theorem B8 {α : Type} {t : TypeId} {x y : Operand} {kk : IntKind} {i : Int} {m : Nat} {v : Value} {sz : Nat} {l : List α} {e : α} {ti Y : TI} {O : Nat}
  (ht : E.tab t = some ti) (Z : ti.kind = .slice O) (hel : E.tab O = some Y) (hsz : Y.size = sz)
  (hx : Bg s x = some (.v v)) (hv : ∃ c, v = .slice (some ⟨G2 v, 0, none⟩) l.length c) (hy : Bg s y = some (.v (.int kk i))) (hi : i = (m : Int)) (hm : l[m]? = some e) :
  Yp E.P n s ⟨dst, .indexAddr t x y, ty, pos, aft, g⟩ (.v (.pointer (some ⟨G2 v, m * sz, none⟩))) := by
 obtain ⟨c, hv⟩ := hv
 have G : Bg s x = some (.v (.slice (some ⟨G2 v, 0, none⟩) l.length c)) := by rw [← hv]; exact hx
 have := N8 (E := E) (n := n) (dst := dst) (ty := ty) (pos := pos) (aft := aft) (g := g) ht Z hel G hy hi (gs hm).1
 rwa [hsz, Nat.zero_add] at this
theorem E4 {α : Type} {x : Operand} {t : TypeId} {v : Value} {l : List α} {ti : TI} {e : Nat} (O : E.tab t = some ti) (G : ti.kind = .slice e) (Y : Bg s x = some (.v v))
  (hv : ∃ a c, v = .slice a l.length c) : Yp E.P n s ⟨dst, .call { callee := .builtin .len, args := #[x], argTypes := #[t] }, ty, pos, aft, g⟩ (.v (.int .i64 (l.length : Int))) := by
 obtain ⟨a, c, rfl⟩ := hv
 exact F4 O G Y
def Zt (l : Li) : Option ByteArray := if (l.all fun x => decide (0 ≤ x ∧ x < 256)) = true then some ⟨(l.map fun x => UInt8.ofNat x.toNat).toArray⟩ else none
theorem aI {l : Li} (h : (l.all fun x => decide (0 ≤ x ∧ x < 256)) = true) : Fh (l.map fun x => UInt8.ofNat x.toNat) = l.map (rK .u8) := by
 unfold Fh
 rw [List.map_map]
 refine List.map_congr_left fun x O => ?_
 have := List.all_eq_true.1 h x O
 have := of_decide_eq_true this
 simp only [Function.comp_apply, rK]
 have G : ((UInt8.ofNat x.toNat).toNat : Int) = x := by
  rw [UInt8.toNat_ofNat']
  omega
 rw [G]
theorem jU (q : Nat) {t t' : TypeId} {x : Operand} {ti O ei : TI} {e tt : Nat} {l : Li} {v : Value} {r : ByteArray} (Y : Zt l = some r) (ht : E.tab t = some ti) (hk : ti.kind = .slice e) (he : E.tab e = some ei) (aa : ei.kind = .int .u8) (ab : E.tab t' = some O) (Z : O.kind = .string)
  (hx : Bg s x = some (.v v)) (hq : ob[q]? = some (.us v tt 1 (l.map (rK .u8)))) (hd : ∀ d, dst = some d → d < n) (k : R ⟨Fb s dst (.v (.string r)), ob⟩) : AX E n C [] ⟨dst, .convert t t' x, ty, pos, aft, g⟩ ⟨s, ob⟩ R := by
 unfold Zt at Y
 split at Y
 ·rename_i G
  cases Y
  exact Zc ht hk he aa ab Z (by rw [aI G]; exact Si q hx hq) hd k
 ·cases Y
theorem UsR.one {H : GH} {w : World} {v : Value} {G sz : Nat} {es : List (List T)} (h : UsR H w v G sz es) : v.oneCell' = true := by
 rcases h with ⟨rfl, _⟩ | ⟨_, _, _, rfl, _⟩ <;> rfl
theorem AO.one {ops : Array Oper} {l : List Oper} (q : Nat) {v : Value} {O sz : Nat} {es : List (List T)} (Y : ob[q]? = some (.us v O sz es)) (k : v.oneCell' = true → AO E n C ops l ⟨s, ob⟩ R) : AO E n C ops l ⟨s, ob⟩ R :=
 fun H a w G => k (UsR.one (show UsR H w v O sz es from G.objs _ (mg Y))) H a w G
def uS := @AO.one
theorem AP.one {ops : Array Oper} {pl : PL} {so : Az} {prot : List Nat} {pobjs : List Ob} (q : Nat) {v : Value} {Y sz : Nat} {es : List (List T)} (hq : ob[q]? = some (.us v Y sz es)) (k : v.oneCell' = true → AP E n C ops prot pobjs pl so ⟨s, ob⟩ R) : AP E n C ops prot pobjs pl so ⟨s, ob⟩ R :=
 fun Hs ws H a w sr wr Z hH G O => k (UsR.one (show UsR H w v Y sz es from O.objs _ (mg hq))) Hs ws H a w sr wr Z hH G O
def uI := @AP.one
theorem A8 {v : Value} (h : v.oneCell' = true) : Ei (.v v) = some [.v v] := by simp [Ei, h]
theorem Cw {G : Nat → Option (Nat × Nat)} {l : List T} : Fx s G l [] = some l := rfl
theorem As {G : Nat → Option (Nat × Nat)} {l l' : List T} {i off size : Nat} {x : Operand} {r : List (Nat × Operand)} {c : T} {cs : List T} (O : G i = some (off, size)) (Z : Bg s x = some c) (hc : Ei c = some cs)
  (hb : (Nat.beq cs.length size && Nat.ble (off + cs.length) l.length) = true) (Y : Fx s G (Fo l off cs) r = some l') : Fx s G l ((i, x) :: r) = some l' := by
 simp only [Fx, O, Z, Option.bind_some, hc, hb, cond_true]; exact Y
theorem Iw : ∀ {l cs : List T}, l.length = cs.length → Fo l 0 cs = cs
 | [], [], _ => rfl
 | [], _ :: _, h => by simp at h
 | _ :: _, [], h => by simp at h
 | x :: l, c :: cs, h => by simp only [Fo]; rw [Iw (by simpa using h)]
theorem Ro {α : Type} {f : α → T} {l : List α} {i : Nat} {y : α} (hi : i < l.length) : Fo (l.map f) i [f y] = (l.set i y).map f := by
 have := Ia (f := f) (post := []) (y := y) hi
 simpa using this
theorem Km {α : Type} {l : List α} {i : Nat} {x : α} (h : l[i]? = some x) : i < l.length := (gs h).1
theorem Ep {α : Type} {k : Nat} {a : Arr α k} {i : Nat} {x : α} (h : a.l[i]? = some x) : i < k := by have := Km h; rwa [a.h] at this
theorem Lw {i k : Nat} {off : Nat} {e : List T} (hi : i < k) (he : off + k ≤ e.length) : off + i + 1 ≤ e.length := by omega
theorem L8 {G : TI} {cs : List T} (O : G.isAgg = true) (h : G.size = cs.length) : En G cs 0 = some (.agg cs) := by simp [En, O, h]
theorem Td {G : TI} {l post : List T} (O : G.isAgg = true) (h : l.length = G.size) : En G (l ++ post) 0 = some (.agg l) := by
 unfold En
 rw [O, cond_true]
 cases hb : (Nat.beq 0 0 && Nat.beq G.size (l ++ post).length) with
 | true =>
  simp only [Bool.and_eq_true] at hb
  have := nq hb.2
  rw [List.length_append] at this
  have : post = [] := List.length_eq_zero_iff.1 (by omega)
  subst this
  simp
 | false =>
  rw [cond_false]
  have : Nat.ble (0 + G.size) (l ++ post).length = true := by
   rw [Nat.zero_add]; exact Nat.ble_eq_true_of_le (by simp; omega)
  rw [this, cond_true, List.drop_zero, ← h, List.take_left]
theorem cV {O : TI} {G post : List T} {k i j : Nat} {l : List T} (ha : O.isAgg = true) (hj : j = k + i) (hk : G.length = k) (h : En O post i = some (.agg l)) (Y : 0 < k := by decide) : En O (G ++ post) j = some (.agg l) := by
 subst hj hk
 unfold En at h ⊢
 rw [ha, cond_true] at h ⊢
 have h1 : Nat.beq (G.length + i) 0 = false := by
  cases hb : Nat.beq (G.length + i) 0 with
  | false => rfl
  | true => have := nq hb; omega
 rw [h1, Bool.false_and, cond_false]
 cases hb : (Nat.beq i 0 && Nat.beq O.size post.length) with
 | true =>
  rw [hb, cond_true] at h
  simp only [Bool.and_eq_true] at hb
  have h2 := nq hb.1
  have Z := nq hb.2
  cases h
  have : Nat.ble (G.length + i + O.size) (G ++ post).length = true := Nat.ble_eq_true_of_le (by simp; omega)
  rw [this, cond_true, h2, Nat.add_zero, List.drop_left, Z, List.take_length]
 | false =>
  rw [hb, cond_false] at h
  cases hc : Nat.ble (i + O.size) post.length with
  | false => rw [hc] at h; cases h
  | true =>
   rw [hc, cond_true] at h
   cases h
   have := Nat.le_of_ble_eq_true hc
   have : Nat.ble (G.length + i + O.size) (G ++ post).length = true := Nat.ble_eq_true_of_le (by simp; omega)
   rw [this, cond_true]
   rw [List.drop_append, show (G.drop (G.length + i)) = [] from List.drop_eq_nil_of_le (by omega), List.nil_append, Nat.add_sub_cancel_left]
theorem G6 {α : Type} {Z : α → T} {t : TypeId} {x y : Operand} {k : IntKind} {i : Int} {m len Y : Nat} {l : List α} {z : α} {ti G : TI} (ht : E.tab t = some ti) (hk : ti.kind = .array len Y) (hel : E.tab Y = some G) (h1 : G.size = 1) (O : G.isAgg = false)
  (hx : Bg s x = some (.agg (l.map Z))) (hy : Bg s y = some (.v (.int k i))) (hi : i = (m : Int)) (hm : l[m]? = some z) (hlen : l.length = len := by first | rfl | exact Arr.h _) :
  Yp E.P n s ⟨dst, .index t x y, ty, pos, aft, g⟩ (Z z) :=
 Se ht hk hel hx hy hi (by have := Km hm; omega) (by rw [h1, Nat.mul_one]; simp [En, O, hm])
theorem rG {x : Nat} (h : (0 : Int) = (x : Int)) : Zg s none 0 x := by show x = 0; omega
theorem tK {l y : Nat} (h : (l : Int) = (y : Int)) : Zg s none l y := by show y = l; omega
end
section
variable {E : Env} {n : Nat} {C : Ctx} {σ : St} {s : Az} {dst : Option Tmp} {ty : TypeId} {pos : String} {aft : Array Edge} {g : Option (Nat × Bool)}
theorem Ghost.lit (t : Nat) {ob : List Ob} {sz : Nat} {es es' : List (List T)} (h : get s t = some (.list sz es)) (hl : LendLL [] es es') : Ghost n C s ob ((t, .list sz es') :: s) ob := Ghost.slots fun H a w O i x G => by
 simp only [get] at G
 cases hb : Nat.beq t i with
 | true =>
  have := nq hb
  subst this
  rw [hb, cond_true] at G
  cases G
  refine VR.rows (O.slots t _ h) hl.length fun i Y Z => ?_
  obtain ⟨e, q1, q2, q3⟩ := Oc (H := H) (H1 := H) (w := w) (objs := []) (by simp) (by simp) (fun _ _ h => h) hl i Y Z
  exact ⟨e, q1, q2, fun j y hy v hv => q3 j y hy hv⟩
 | false =>
  rw [hb, cond_false] at G
  exact O.slots i x G
theorem AX.take (k m : Nat) {md : List Nat} {o : Oper} {ob : List Ob} {R : St → Prop} {v : Value} {ty tyi szi : Nat} {vs : List Value} {L : List (Option (List (List T)))} {es : List (List T)} (hk : ob[k]? = some (.uss v ty tyi szi vs L)) (hm : L[m]? = some (some es))
  (h : AX E n C md o ⟨s, ob.set k (.uss v ty tyi szi vs (L.set m none)) ++ [.us (vs.getD m undef) tyi szi es]⟩ R) : AX E n C (k :: md) o ⟨s, ob⟩ R := by
 intro H a w gm
 obtain ⟨H1, h1, g1⟩ := Ghost.take (n := n) (C := C) (s := s) k m hk hm H a w gm
 refine D2 ?_ (fun _ _ _ h => h) (h H1 a w g1)
 rintro a' w' ⟨σ', H', v, hr, O, ha, Y, Z⟩
 refine ⟨σ', H', v, hr, O, ha, fun b o hb => Y _ _ (h1 _ _ hb), fun i p hp G => ?_⟩
 simp only [List.contains_cons, Bool.or_eq_false_iff, beq_eq_false_iff_ne] at G
 refine Z i p ?_ G.2
 dsimp only at hp ⊢
 rw [List.getElem?_append_left (by simpa using (gs hp).1), List.getElem?_set_ne (Ne.symm G.1)]; exact hp
end
inductive NewK where
 | us (e z : Nat) (es : List (List T))
 | box (ty m : Nat) (cs : List T)
 | fn (f : List T → T)
structure NewOp where
 j : Nat
 ds : List Nat
 d : Nat
 k : NewK
def NewK.obs : NewK → T → List Ob
 | .us e z es, .v v => [.us v e z es]
 | .box ty m cs, .v (.pointer (some a)) => [.arr a.block ty m 1 [cs]]
 | _, _ => []
def NewK.ok (G : List T) (x : T) : NewK → Prop
 | .us _ _ _ => ∃ v, x = .v v ∧ v.oneCell' = true
 | .box _ _ _ => ∃ b, x = .v (.pointer (some ⟨b, 0, none⟩))
 | .fn f => x = f G
def NewK.okW (G : List T) (x : T) : NewK → Prop
 | .us _ _ _ => ∃ v, x = .v v
 | .box _ _ _ => ∃ b, x = .v (.pointer (some ⟨b, 0, none⟩))
 | .fn f => x = f G
def bY (v : Nat → T) (j : Nat) (x : T) : Nat → T := fun i => bif Nat.beq i j then x else v i
def News : List NewOp → (Nat → T) → Az → List Ob → (Az → List Ob → Prop) → Prop
 | [], _, s, ob, F => F s ob
 | ⟨j, _, d, .us e z es⟩ :: l, v, s, ob, F => ∀ x : Value, x.oneCell' = true → News l (bY v j (.v x)) ((d, .v x) :: s) (ob ++ [.us x e z es]) F
 | ⟨j, _, d, .box ty m cs⟩ :: l, v, s, ob, F => ∀ b : Nat, News l (bY v j (.v (.pointer (some ⟨b, 0, none⟩)))) ((d, .v (.pointer (some ⟨b, 0, none⟩))) :: s) (ob ++ [.arr b ty m 1 [cs]]) F
 | ⟨j, ds, d, .fn f⟩ :: l, v, s, ob, F => News l (bY v j (f (ds.map v))) ((d, f (ds.map v)) :: s) ob F
def cB (v : Nat → T) : List NewOp → Az → Az
 | [], s => s
 | p :: l, s => cB v l ((p.d, v p.j) :: s)
def Xh (v : Nat → T) : List NewOp → List Ob → List Ob
 | [], ob => ob
 | p :: l, ob => Xh v l (ob ++ p.k.obs (v p.j))
def oM : List Nat → List NewOp → Bool
 | _, [] => true
 | P, p :: l => p.ds.all P.contains && oM (p.j :: P) l
theorem News.get (vals : Nat → T) {F : Az → List Ob → Prop} : ∀ (l : List NewOp) (P : List Nat) (v : Nat → T) (s : Az) (ob : List Ob), oM P l = true → (∀ i, i ∈ P → v i = vals i) → (∀ p, p ∈ l → p.k.ok (p.ds.map vals) (vals p.j)) → News l v s ob F → F (cB vals l s) (Xh vals l ob)
 | [], P, v, s, ob, _, _, _, h => h
 | ⟨j, ds, d, k⟩ :: l, P, v, s, ob, hb, hv, ho, h => by
  simp only [oM, Bool.and_eq_true] at hb
  have Z := ho _ (.head _)
  have O : ∀ x, x = vals j → ∀ i, i ∈ j :: P → bY v j x i = vals i := by
   intro x G i hi
   unfold bY
   cases hij : Nat.beq i j with
   | true => rw [cond_true, G, nq hij]
   | false =>
    rw [cond_false]
    rcases List.mem_cons.1 hi with rfl | hi
    ·simp at hij
    ·exact hv i hi
  cases k with
  | us e z es =>
   obtain ⟨x, G, h1⟩ := Z
   have := News.get vals l (j :: P) _ _ _ hb.2 (O _ G.symm) (fun p Y => ho p (.tail _ Y)) (h x h1)
   simp only [cB, Xh, G, NewK.obs]; exact this
  | box ty m cs =>
   obtain ⟨b, G⟩ := Z
   have := News.get vals l (j :: P) _ _ _ hb.2 (O _ G.symm) (fun p Y => ho p (.tail _ Y)) (h b)
   simp only [cB, Xh, G, NewK.obs]; exact this
  | fn f =>
   have hm : ds.map v = ds.map vals := List.map_congr_left fun i hi => hv i (by have := List.all_eq_true.1 hb.1 i hi; simpa using this)
   have G : vals j = f (ds.map vals) := Z
   have h' : News l (bY v j (f (ds.map v))) ((d, f (ds.map v)) :: s) ob F := h
   rw [hm, ← G] at h'
   have := News.get vals l (j :: P) _ _ _ hb.2 (O _ rfl) (fun p Y => ho p (.tail _ Y)) h'
   simp only [cB, Xh, NewK.obs, List.append_nil]; exact this
theorem X5 {vals : Nat → T} {i : Nat} {x : T} : ∀ {l : List NewOp} {s : Az}, Aw.get (cB vals l s) i = some x → (∃ p, p ∈ l ∧ p.d = i ∧ vals p.j = x) ∨ Aw.get s i = some x
 | [], s, h => .inr h
 | p :: l, s, h => by
  rcases X5 (l := l) h with ⟨q, G, O⟩ | h
  ·exact .inl ⟨q, .tail _ G, O⟩
  ·simp only [Aw.get] at h
   cases hb : Nat.beq p.d i with
   | true => rw [hb, cond_true] at h; cases h; exact .inl ⟨p, .head _, nq hb, rfl⟩
   | false => rw [hb, cond_false] at h; exact .inr h
def Fm (vals : Nat → T) (D : List Nat) : List NewOp → List Ob
 | [] => []
 | p :: l => (bif D.contains p.j then p.k.obs (vals p.j) else []) ++ Fm vals D l
theorem N6 {vals : Nat → T} {D : List Nat} : ∀ {l : List NewOp} {ob : List Ob}, (∀ p, p ∈ l → p.j ∈ D) → ob ++ Fm vals D l = Xh vals l ob
 | [], ob, _ => by simp [Fm, Xh]
 | p :: l, ob, h => by
  have G : D.contains p.j = true := by simpa using h p (.head _)
  simp only [Fm, Xh, G, cond_true]
  rw [← List.append_assoc]
  exact N6 fun q O => h q (.tail _ O)
theorem Tm {vals : Nat → T} : ∀ {l : List NewOp}, Fm vals [] l = []
 | [] => rfl
 | p :: l => by simp only [Fm, Tm (l := l)]; rfl
theorem Sc {vals vals' : Nat → T} {D D' : List Nat} : ∀ {l : List NewOp}, (∀ p, p ∈ l → (D.contains p.j = D'.contains p.j) ∧ (p.j ∈ D → vals p.j = vals' p.j)) → Fm vals D l = Fm vals' D' l
 | [], _ => rfl
 | p :: l, h => by
  obtain ⟨G, O⟩ := h p (.head _)
  simp only [Fm, Sc (l := l) fun q Y => h q (.tail _ Y), G]
  cases hc : D'.contains p.j with
  | true => rw [O (by rw [hc] at G; simpa using G)]
  | false => rfl
theorem Sb {vals vals' : Nat → T} {D : List Nat} {p : NewOp} : ∀ {l : List NewOp}, p ∈ l → (l.map NewOp.j).Nodup → p.j ∉ D → (∀ i, i ∈ D → vals i = vals' i) → List.Perm (Fm vals D l ++ p.k.obs (vals' p.j)) (Fm vals' (p.j :: D) l)
 | q :: l, O, hn, hp, hv => by
  simp only [List.map_cons, List.nodup_cons] at hn
  rcases List.mem_cons.1 O with rfl | O
  ·have e : Fm vals D l = Fm vals' (p.j :: D) l := Sc fun r hr => by
    have G : r.j ≠ p.j := fun Y => hn.1 (Y ▸ List.mem_map_of_mem hr)
    refine ⟨?_, fun h => hv _ h⟩
    simp [G]
   have Z : D.contains p.j = false := by simpa using hp
   have h2 : (p.j :: D).contains p.j = true := by simp
   simp only [Fm, Z, h2, cond_true, cond_false, List.nil_append, e]
   exact List.perm_append_comm
  ·have G : q.j ≠ p.j := fun Y => hn.1 (Y ▸ List.mem_map_of_mem O)
   have ih := Sb O hn.2 hp hv
   have e : (bif D.contains q.j then q.k.obs (vals q.j) else []) = bif (p.j :: D).contains q.j then q.k.obs (vals' q.j) else [] := by
    have : (p.j :: D).contains q.j = D.contains q.j := by simp [G]
    rw [this]
    cases hc : D.contains q.j with
    | true => rw [cond_true, cond_true, hv _ (by simpa using hc)]
    | false => rfl
   simp only [Fm, List.append_assoc, e]
   exact List.Perm.append_left _ ih
theorem dI {l m : List Ob} (h : List.Perm l m) : List.Perm (l.flatMap Ob.fp) (m.flatMap Ob.fp) := by
 induction h with
 | nil => exact .nil
 | cons x _ ih => simp only [List.flatMap_cons]; exact List.Perm.append_left _ ih
 | swap x y l =>
  simp only [List.flatMap_cons, ← List.append_assoc]
  exact List.Perm.append_right _ List.perm_append_comm
 | trans _ _ a b => exact a.trans b
def PAllN (F : NewOp → Prop) : List NewOp → Prop
 | [] => True
 | p :: l => F p ∧ PAllN F l
theorem PAllN.get {F : NewOp → Prop} : ∀ {l : List NewOp}, PAllN F l → ∀ p, p ∈ l → F p
 | q :: l, ⟨h1, h2⟩, p, h => by
  rcases List.mem_cons.1 h with rfl | h
  ·exact h1
  ·exact PAllN.get h2 p h
section
variable {E : Env} {n : Nat} {C : Ctx} {ops : Array Oper} {s : Az} {ob : List Ob} {R : St → Prop}
theorem oB {H : GH} {a : Act} {w : World} {ob' : List Ob} (g : Gam n C ⟨s, ob⟩ H a w) (h : List.Perm ob ob') : Gam n C ⟨s, ob'⟩ H a w :=
 { g with objs := fun p G => g.objs p (h.mem_iff.2 G), free := fun p G => g.free p (h.mem_iff.2 G), new := fun p G => g.new p (h.mem_iff.2 G), nodup := (dI h).nodup_iff.1 g.nodup }
def Lu : List NewOp → Nat → Nat
 | [], _ => 0
 | p :: l, j => bif Nat.beq p.j j then p.d else Lu l j
theorem Yb : ∀ {l : List NewOp} {p : NewOp}, p ∈ l → (l.map NewOp.j).Nodup → Lu l p.j = p.d
 | q :: l, p, G, hn => by
  simp only [List.map_cons, List.nodup_cons] at hn
  simp only [Lu]
  rcases List.mem_cons.1 G with rfl | G
  ·simp
  ·have : Nat.beq q.j p.j = false := by
    cases hb : Nat.beq q.j p.j with
    | false => rfl
    | true => exact absurd (nq hb ▸ List.mem_map_of_mem G) hn.1
   rw [this, cond_false]; exact Yb G hn.2
def sK : List NewOp → Nat → NewK
 | [], _ => .fn fun _ => .tup []
 | p :: l, j => bif Nat.beq p.j j then p.k else sK l j
theorem kO : ∀ {l : List NewOp} {p : NewOp}, p ∈ l → (l.map NewOp.j).Nodup → sK l p.j = p.k
 | q :: l, p, G, hn => by
  simp only [List.map_cons, List.nodup_cons] at hn
  simp only [sK]
  rcases List.mem_cons.1 G with rfl | G
  ·simp
  ·have : Nat.beq q.j p.j = false := by
    cases hb : Nat.beq q.j p.j with
    | false => rfl
    | true => exact absurd (nq hb ▸ List.mem_map_of_mem G) hn.1
   rw [this, cond_false]; exact kO G hn.2
def DepN (A : List NewOp) : List Nat → Az → List T → (Az → List T → Prop) → Prop
 | [], s, xs, F => F s xs
 | j :: ds, s, xs, F => match sK A j with
  | .us _ _ _ => ∀ v : Value, v.oneCell' = true → DepN A ds ((Lu A j, .v v) :: s) (xs ++ [.v v]) F
  | .box _ _ _ => ∀ b : Nat, DepN A ds ((Lu A j, .v (.pointer (some ⟨b, 0, none⟩))) :: s) (xs ++ [.v (.pointer (some ⟨b, 0, none⟩))]) F
  | .fn _ => ∀ x : T, DepN A ds ((Lu A j, x) :: s) (xs ++ [x]) F
def cC (A : List NewOp) (vals : Nat → T) : List Nat → Az → Az
 | [], s => s
 | j :: ds, s => cC A vals ds ((Lu A j, vals j) :: s)
theorem DepN.get {A : List NewOp} {vals : Nat → T} {F : Az → List T → Prop} : ∀ {ds : List Nat} {s : Az} {O : List T}, (∀ d, d ∈ ds → ∃ ys, NewK.ok ys (vals d) (sK A d)) → DepN A ds s O F → F (cC A vals ds s) (O ++ ds.map vals)
 | [], s, O, _, h => by simpa [DepN, cC] using h
 | j :: ds, s, O, hv, h => by
  have G := hv j (by simp)
  have Z := fun d hd => hv d (List.mem_cons_of_mem _ hd)
  simp only [DepN] at h
  obtain ⟨ys, G⟩ := G
  simp only [cC, List.map_cons]
  rw [show O ++ vals j :: ds.map vals = (O ++ [vals j]) ++ ds.map vals by simp]
  cases hk : sK A j with
  | us e z es =>
   rw [hk] at h G
   obtain ⟨v, Y, e2⟩ := G
   rw [Y]; exact DepN.get Z (h v e2)
  | box ty m cs =>
   rw [hk] at h G
   obtain ⟨b, Y⟩ := G
   rw [Y]; exact DepN.get Z (h b)
  | fn f =>
   rw [hk] at h
   exact DepN.get Z (h (vals j))
theorem Ye {A : List NewOp} {vals : Nat → T} {i : Nat} {x : T} : ∀ {ds : List Nat} {s : Az}, Aw.get (cC A vals ds s) i = some x → (∃ d, d ∈ ds ∧ Lu A d = i ∧ vals d = x) ∨ Aw.get s i = some x
 | [], s, h => .inr h
 | d :: ds, s, h => by
  rcases Ye (ds := ds) h with ⟨G, O, Y⟩ | h
  ·exact .inl ⟨G, by simp [O], Y⟩
  ·simp only [Aw.get] at h
   cases hb : Nat.beq (Lu A d) i with
   | true => rw [hb, cond_true] at h; cases h; exact .inl ⟨d, by simp, nq hb, rfl⟩
   | false => rw [hb, cond_false] at h; exact .inr h
def oL : List Nat → Bool
 | [] => true
 | x :: l => (l.all fun y => !Nat.beq x y) && oL l
theorem bP : ∀ {l : List Nat}, oL l = true → l.Nodup
 | [], _ => .nil
 | x :: l, h => by
  simp only [oL, Bool.and_eq_true] at h
  refine List.nodup_cons.2 ⟨fun G => ?_, bP h.2⟩
  have := List.all_eq_true.1 h.1 x G
  simp at this
theorem AP.any {r : PL} {so : Az} {prot : List Nat} {pobjs : List Ob} (A : List NewOp)
  (hB : (oL (A.map NewOp.j) && (oM [] A && (A.all (fun p => A.all fun q => Nat.beq p.j q.j || !Nat.beq p.d q.d) && (A.all fun p => (Aw.get s p.d).isNone && free so (some p.d))))) = true)
  (hstep : PAllN (fun p => ∃ o, ops[p.j]? = some o ∧ o.guard = none ∧ o.dst = some p.d ∧
   DepN A p.ds s [] fun s' xs => ∀ ob, AX E n C [] o ⟨s', ob⟩ fun σ' => ∃ x, Aw.get σ'.slots p.d = some x ∧ p.k.okW xs x ∧ σ'.objs = ob ++ p.k.obs x) A)
  (k : News A (fun _ => .tup []) s ob (fun s' ob' => AP E n C ops prot pobjs r so ⟨s', ob'⟩ R)) :
  AP E n C ops prot pobjs (.par (A.map fun p => (p.j, p.ds)) r) so ⟨s, ob⟩ R := by
 simp only [Bool.and_eq_true] at hB
 obtain ⟨hn, hb, hj, hs⟩ := hB
 have hn := bP hn
 have hdd : ∀ p, p ∈ A → ∀ q, q ∈ A → p.d = q.d → p.j = q.j := fun p G q hq he => by
  have := List.all_eq_true.1 (List.all_eq_true.1 hj p G) q hq
  rw [he] at this
  simp at this
  exact this
 have hs' : ∀ p, p ∈ A → Aw.get s p.d = none ∧ free so (some p.d) = true := fun p G => by
  have := List.all_eq_true.1 hs p G
  simp only [Bool.and_eq_true, Option.isNone_iff_eq_none] at this
  exact this
 have back : ∀ p, p ∈ A → ∀ q, q ∈ A → p.j = q.j → p = q := by
  have : ∀ l : List NewOp, (l.map NewOp.j).Nodup → ∀ p, p ∈ l → ∀ q, q ∈ l → p.j = q.j → p = q := by
   intro l
   induction l with
   | nil => intro _ p G; cases G
   | cons x l ih =>
    intro hn p G q hq he
    simp only [List.map_cons, List.nodup_cons] at hn
    rcases List.mem_cons.1 G with h1 | h1 <;> rcases List.mem_cons.1 hq with h2 | h2
    ·rw [h1, h2]
    ·exact absurd (show x.j ∈ l.map NewOp.j by rw [← h1, he]; exact List.mem_map_of_mem h2) hn.1
    ·exact absurd (show x.j ∈ l.map NewOp.j by rw [← h2, ← he]; exact List.mem_map_of_mem h1) hn.1
    ·exact ih hn.2 p h1 q h2 he
  exact this A hn
 intro Hs ws H a w sr wr ag hH hpp gm
 refine ⟨fun D a w => ∃ (vals : Nat → T) (H : GH), (∀ p, p ∈ A → p.j ∈ D → p.k.ok (p.ds.map vals) (vals p.j) ∧ VR H (a.tmps.getD p.d undef) (vals p.j) ∧ ∀ x, x ∈ p.ds → x ∈ D) ∧ (∀ d, d ∈ D → ∃ p, p ∈ A ∧ p.j = d) ∧ (∀ b o, Hs b = some o → H b = some o) ∧ SR n so Hs a ∧
  Gam n C ⟨s, ob ++ Fm vals D A⟩ H a w ∧ Ke Hs pobjs ws w, ?_, ?_, ?_⟩
 ·exact ⟨fun _ => .tup [], H, by simp, by simp, hH, sr, by rw [Tm, List.append_nil]; exact gm, ag⟩
 ·rintro D j ds a w hm aa hjD ⟨vals, H, hd, hDA, hH, sr, gm, ag⟩
  obtain ⟨p, G, he⟩ := List.mem_map.1 hm
  simp only [Prod.mk.injEq] at he
  obtain ⟨rfl, rfl⟩ := he
  obtain ⟨o, ho, hg, hdst, Z⟩ := hstep.get p G
  have Z := DepN.get (vals := vals) (fun d hdd => by
   obtain ⟨q, hq, rfl⟩ := hDA d (aa d hdd)
   rw [kO hq hn]; exact ⟨_, (hd q hq (aa _ hdd)).1⟩) Z
  have hsl : ∀ i x, Aw.get (cC A vals p.ds s) i = some x → VR H (a.tmps.getD i undef) x := by
   intro i x h
   rcases Ye h with ⟨d, h1, h2, h3⟩ | h
   ·obtain ⟨q, hq, rfl⟩ := hDA d (aa d h1)
    rw [Yb hq hn] at h2
    rw [← h2, ← h3]; exact (hd q hq (aa _ h1)).2.1
   ·exact gm.slots i x h
  rw [List.nil_append] at Z
  have Z := Z (ob ++ Fm vals D A) H a w { gm with slots := hsl }
  simp only [wpOp, ho]
  rw [if_pos (by simp [Region.wanted, hg])]
  refine .inl (D2 ?_ (fun _ _ _ h => h.elim) Z)
  rintro a' w' ⟨σ', H', v, ⟨x, hget, hx, hobj⟩, gm', ha', hHH, hfr⟩
  have ag' : Ke Hs pobjs ws w' := by
   refine ⟨fun b o hb => gm'.held _ _ (hHH _ _ (hH _ _ hb)), fun q Y b hb => ?_⟩
   obtain ⟨i, hi, hoi⟩ := hpp q Y
   have hoi' : (ob ++ Fm vals D A)[i]? = some q := by rw [List.getElem?_append_left (gs hoi).1]; exact hoi
   exact ((hfr i q hoi' (by simp)).2 b hb).trans (ag.2 q Y b hb)
  have hne : ∀ i, i ∈ D → bY vals p.j x i = vals i := fun i hi => by
   unfold bY
   cases hij : Nat.beq i p.j with
   | true => exact absurd (nq hij ▸ hi) hjD
   | false => rfl
  have hx : p.k.ok (p.ds.map vals) x := by
   cases hk : p.k with
   | us e z es =>
    rw [hk] at hx hobj
    obtain ⟨v, rfl⟩ := hx
    refine ⟨v, rfl, UsR.one (show UsR H' w' v e z es from gm'.objs (.us v e z es) ?_)⟩
    rw [hobj]; simp [NewK.obs]
   | box ty m cs => rw [hk] at hx; exact hx
   | fn f => rw [hk] at hx; exact hx
  have hself : bY vals p.j x p.j = x := by unfold bY; simp
  have htmp : ∀ i, i ≠ p.d → a'.tmps.getD i undef = a.tmps.getD i undef := fun i hi => by
   rw [ha', hdst]
   simp [Act.put, Array.getD_eq_getD_getElem?, Array.getElem?_setIfInBounds_ne (Ne.symm hi)]
  have hdsm : p.ds.map (bY vals p.j x) = p.ds.map vals := List.map_congr_left fun i hi => hne i (aa i hi)
  refine ⟨ag', bY vals p.j x, H', fun q hq hqD => ?_, fun d hdD => ?_, fun b o hb => hHH _ _ (hH _ _ hb), ?_, ?_, ag'⟩
  ·by_cases Y : q.j = p.j
   ·have := back q hq p G Y
    subst this
    rw [hself, hdsm]
    exact ⟨hx, gm'.slots _ _ hget, fun y hy => List.mem_cons_of_mem _ (aa y hy)⟩
   ·have hqD' : q.j ∈ D := by
     rcases List.mem_cons.1 hqD with h | h
     ·exact absurd h Y
     ·exact h
    obtain ⟨h1, h2, h3⟩ := hd q hq hqD'
    rw [hne _ hqD', List.map_congr_left fun i hi => hne i (h3 i hi), htmp q.d fun h => Y (hdd q hq p G h)]
    exact ⟨h1, h2.mono hHH, fun y hy => List.mem_cons_of_mem _ (h3 y hy)⟩
  ·rcases List.mem_cons.1 hdD with rfl | hdD
   ·exact ⟨p, G, rfl⟩
   ·exact hDA d hdD
  ·rw [ha', hdst]
   exact sr.free _ _ (hs' p G).2
  ·refine oB (ob := σ'.objs) { gm' with slots := fun i y hy => ?_ } ?_
   ·have hi : i ≠ p.d := fun h => by rw [h, (hs' p G).1] at hy; cases hy
    rw [htmp i hi]
    exact (gm.slots i y hy).mono hHH
   ·rw [hobj, List.append_assoc]
    refine List.Perm.append_left _ ?_
    have := Sb (vals' := bY vals p.j x) G hn hjD (fun i hi => (hne i hi).symm)
    rw [hself] at this
    exact this
 ·rintro D a w hall ⟨vals, H, hd, hDA, hH, sr, gm, ag⟩
  have O : ∀ p, p ∈ A → p.j ∈ D := fun p G => hall (p.j, p.ds) (List.mem_map_of_mem (f := fun p : NewOp => (p.j, p.ds)) G)
  have kk := News.get vals A [] _ _ _ hb (fun i hi => by cases hi) (fun p G => (hd p G (O p G)).1) k
  rw [N6 O] at gm
  refine kk Hs ws H a w sr wr ag hH (fun q Y => ?_) { gm with slots := fun i x hx => ?_ }
  ·obtain ⟨i, hi, hoi⟩ := hpp q Y
   refine ⟨i, hi, ?_⟩
   dsimp only
   rw [← N6 O, List.getElem?_append_left (gs hoi).1]; exact hoi
  ·rcases X5 hx with ⟨p, G, rfl, rfl⟩ | hx
   ·exact (hd p G (O p G)).2.1
   ·exact gm.slots i x hx
theorem AP.same {pl : PL} {so : Az} {prot : List Nat} {pobjs : List Ob} (t : Nat) (x : T) (hs : Aw.get s t = some x) (k : AP E n C ops prot pobjs pl so ⟨(t, x) :: s, ob⟩ R) : AP E n C ops prot pobjs pl so ⟨s, ob⟩ R :=
 fun Hs ws H a w sr wr O Z G Y => k Hs ws H a w sr wr O Z G (Y.same hs)
theorem nb {ob : List Ob} : ob = ob ++ [] := (List.append_nil ob).symm
end
def Xl (s : Az) (x y : Operand) : Option (IntKind × Int × IntKind × Int) :=
 match Bg s x with
 | some (.v (.int k a)) => match Bg s y with
  | some (.v (.int k' b)) => some (k, a, k', b)
  | _ => none
 | _ => none
def rH (s : Az) (G : BinOp) (x y : Operand) : Option T :=
 match Xl s x y with
 | some (.i64, a, .i64, b) => match G with
  | .lss => some (.v (.bool (decide (a < b))))
  | .leq => some (.v (.bool (decide (a ≤ b))))
  | .gtr => some (.v (.bool (decide (a > b))))
  | .geq => some (.v (.bool (decide (a ≥ b))))
  | .eql => some (.v (.bool (a == b)))
  | .neq => some (.v (.bool (a != b)))
  | .add => some (.v (.int .i64 (wr (a + b))))
  | .sub => some (.v (.int .i64 (wr (a - b))))
  | .mul => some (.v (.int .i64 (wr (a * b))))
  | _ => none
 | _ => none
def Zr (E : Env) (s : Az) (t : TypeId) (x : Operand) (f : Nat) : Option T :=
 match E.tab t with
 | some ti => match ti.kind with
  | .struct fs => match fs[f]? with
   | some (off, ft) => match E.tab ft with
    | some fi => bif Nat.beq fi.size 0 then none else
     match Bg s x with
     | some (.v (.pointer (some ⟨b, o, none⟩))) => some (.v (.pointer (some ⟨b, o + off, none⟩)))
     | some (.eptr cs) => bif Nat.ble off cs.length then some (.eptr (cs.drop off)) else none
     | _ => none
    | none => none
   | none => none
  | _ => none
 | none => none
def jZ (E : Env) (s : Az) (c : Call) : Option T :=
 match c with
 | ⟨.builtin .min, ⟨[x, y]⟩, _⟩ => match Xl s x y with
  | some (.i64, a, .i64, b) => some (.v (.int .i64 (min a b)))
  | _ => none
 | ⟨.builtin .max, ⟨[x, y]⟩, _⟩ => match Xl s x y with
  | some (.i64, a, .i64, b) => some (.v (.int .i64 (max a b)))
  | _ => none
 | ⟨.builtin .len, ⟨[x]⟩, ⟨[t]⟩⟩ => match E.tab t with
  | some ti => match ti.kind with
   | .string => match Bg s x with
    | some (.v (.string b)) => some (.v (.int .i64 b.size))
    | _ => none
   | _ => none
  | none => none
 | _ => none
def Xj (E : Env) (s : Az) : Op → Option T
 | .move x => Bg s x
 | .assign x => Bg s x
 | .pick c a b => match Bg s c with
  | some (.v (.bool true)) => Bg s a
  | some (.v (.bool false)) => Bg s b
  | _ => none
 | .nilCheck x => match Bg s x with
  | some (.v (.pointer (some b))) => some (.v (.pointer (some b)))
  | some (.eptr cs) => some (.eptr cs)
  | _ => none
 | .extract x i => match Bg s x with
  | some (.tup l) => l[i]?
  | _ => none
 | .unOp .not _ x => match Bg s x with
  | some (.v (.bool b)) => some (.v (.bool (!b)))
  | _ => none
 | .unOp .neg _ x => match Bg s x with
  | some (.v (.int .i64 a)) => some (.v (.int .i64 (wr (0 - a))))
  | _ => none
 | .binOp op _ x y _ => rH s op x y
 | .fieldAddr t x f => Zr E s t x f
 | .call c => jZ E s c
 | _ => none
section
variable {E : Env} {n : Nat} {C : Ctx} {s : Az} {ob : List Ob} {ops : Array Oper} {R : St → Prop} {dst : Option Tmp} {ty : TypeId} {pos : String} {aft : Array Edge} {g : Option (Nat × Bool)}
theorem Rq {x y : Operand} {k G : IntKind} {a b : Int} (h : Xl s x y = some (k, a, G, b)) : Bg s x = some (.v (.int k a)) ∧ Bg s y = some (.v (.int G b)) := by
 unfold Xl at h
 split at h
 ·rename_i O
  split at h
  ·rename_i Y
   cases h
   exact ⟨O, Y⟩
  ·cases h
 ·cases h
theorem pV {Y : BinOp} {t Z : TypeId} {x y : Operand} {z : T} (h : rH s Y x y = some z) : Yp E.P n s ⟨dst, .binOp Y t x y Z, ty, pos, aft, g⟩ z := by
 unfold rH at h
 split at h <;> first | cases h | skip
 rename_i hi
 obtain ⟨G, O⟩ := Rq hi
 split at h <;> first | cases h | skip
 ·exact uO G O rfl
 ·exact uO G O rfl
 ·exact uO G O rfl
 ·exact uO G O rfl
 ·exact uO G O rfl
 ·exact uO G O rfl
 ·exact El G O rfl
 ·exact El G O rfl
 ·exact El G O rfl
theorem dJ {t : TypeId} {x : Operand} {f : Nat} {z : T} (h : Zr E s t x f = some z) : Yp E.P n s ⟨dst, .fieldAddr t x f, ty, pos, aft, g⟩ z := by
 unfold Zr at h
 split at h <;> first | cases h | skip
 rename_i ti ht
 split at h <;> first | cases h | skip
 rename_i fs hk
 split at h <;> first | cases h | skip
 rename_i Y ft Z
 split at h <;> first | cases h | skip
 rename_i fi G
 cases hz : Nat.beq fi.size 0 with
 | true => rw [hz] at h; cases h
 | false =>
  rw [hz, cond_false] at h
  split at h <;> first | cases h | skip
  ·rename_i O
   exact Y4 ht hk Z G hz O
  ·rename_i cs O
   cases hle : Nat.ble Y cs.length with
   | true => rw [hle, cond_true] at h; cases h; exact dP ht hk Z G hz O hle
   | false => rw [hle] at h; cases h
theorem mL {c : Call} {z : T} (h : jZ E s c = some z) : Yp E.P n s ⟨dst, .call c, ty, pos, aft, g⟩ z := by
 unfold jZ at h
 split at h <;> first | cases h | skip
 ·split at h <;> first | cases h | skip
  rename_i hi
  obtain ⟨G, O⟩ := Rq hi
  exact qD G O
 ·split at h <;> first | cases h | skip
  rename_i hi
  obtain ⟨G, O⟩ := Rq hi
  exact qE G O
 ·split at h <;> first | cases h | skip
  rename_i ti Z
  split at h <;> first | cases h | skip
  rename_i Y
  split at h <;> first | cases h | skip
  rename_i G
  exact W8 Z Y G
theorem Rf {Y : Op} {z : T} (h : Xj E s Y = some z) : Yp E.P n s ⟨dst, Y, ty, pos, aft, g⟩ z := by
 unfold Xj at h
 split at h <;> first | cases h | skip
 ·exact Yp.move h
 ·exact Yp.assign h
 ·split at h <;> first | cases h | skip
  ·rename_i O; exact mT O h
  ·rename_i O; exact mU O h
 ·split at h <;> first | cases h | skip
  ·rename_i G; exact Wz G
  ·rename_i G; exact W7 G
 ·split at h <;> first | cases h | skip
  rename_i G; exact Yp.extract G h
 ·split at h <;> first | cases h | skip
  rename_i G; exact Yp.not G
 ·split at h <;> first | cases h | skip
  rename_i G; exact Yp.neg G rfl
 ·exact pV h
 ·exact dJ h
 ·exact mL h
end
def bB (G : TI) (cs : List T) (off : Nat) : Option T :=
 bif G.isAgg then (bif Nat.beq off 0 && Nat.beq G.size cs.length then some (.agg cs) else none) else cs[off]?
theorem X3 {G : TI} {cs : List T} {off : Nat} {y : T} (h : bB G cs off = some y) : En G cs off = some y := by
 unfold bB at h
 unfold En
 cases ha : G.isAgg with
 | false => rw [ha, cond_false] at h; rw [cond_false]; exact h
 | true =>
  rw [ha, cond_true] at h
  rw [cond_true]
  cases hb : (Nat.beq off 0 && Nat.beq G.size cs.length) with
  | true => rw [hb, cond_true] at h; rw [cond_true]; exact h
  | false => rw [hb] at h; cases h
def Xk (E : Env) (s : Az) : Op → Option T
 | .load t x => match Bg s x with
  | some (.eptr cs) => match E.tab t with
   | some fi => bB fi cs 0
   | none => none
  | _ => none
 | op => Xj E s op
inductive Hn where
 | o (i k : Nat)
 | f (i : Nat) (x : T)
 | l (i : Nat) (c : Int)
 | x (i : Nat) (m : Nat) (e : List T)
 | k (i : Nat) (c : Int)
def Hn.at : Hn → Nat
 | .o i _ => i
 | .f i _ => i
 | .l i _ => i
 | .x i _ _ => i
 | .k i _ => i
def qT (E : Env) (s : Az) (ob : List Ob) (k : Nat) : Op → Option (T × Prop)
 | .load t x => match Bg s x with
  | some (.v (.pointer (some ⟨b, off, none⟩))) => match ob[k]? with
   | some (.arr b' _ _ _ [e]) => match E.tab t with
    | some fi => match bB fi e off with
     | some y => some (y, b = b')
     | none => none
    | none => none
   | _ => none
  | _ => none
 | _ => none
def sS (E : Env) (s : Az) (c : Int) : Op → Option (T × Prop)
 | .call ⟨.builtin .len, ⟨[x]⟩, ⟨[t]⟩⟩ => match E.tab t with
  | some ti => match ti.kind with
   | .slice _ => match Bg s x with
    | some (.list _ es) => some (.v (.int .i64 c), (es.length : Int) = c)
    | _ => none
   | _ => none
  | none => none
 | _ => none
def sT (E : Env) (s : Az) (m : Nat) (e : List T) : Op → Option (T × Prop)
 | .indexAddr t x y => match E.tab t with
  | some ti => match ti.kind with
   | .slice el => match E.tab el with
    | some fi => match Bg s x with
     | some (.list sz es) => bif Nat.beq fi.size sz then
      (match Bg s y with
      | some (.v (.int _ i)) => some (.eptr e, i = (m : Int) ∧ es[m]? = some e)
      | _ => none) else none
     | _ => none
    | none => none
   | _ => none
  | none => none
 | _ => none
def bA (E : Env) (n : Nat) (s : Az) (ob : List Ob) (d : Nat) (o : Oper) : Hn → Option (T × Prop)
 | .o _ k => qT E s ob k o.op
 | .f _ x => some (x, Yd E.P n s ob ⟨some d, o.op, o.type, o.pos, o.after, none⟩ x)
 | .l _ c => sS E s c o.op
 | .x _ m e => sT E s m e o.op
 | .k _ c => match Xj E s o.op with
  | some (.v (.int kk e)) => some (.v (.int kk c), e = c)
  | _ => none
section
variable {E : Env} {n : Nat} {C : Ctx} {s : Az} {ob : List Ob} {ops : Array Oper} {R : St → Prop} {dst : Option Tmp} {ty : TypeId} {pos : String} {aft : Array Edge} {g : Option (Nat × Bool)}
theorem Rg {G : Op} {z : T} (h : Xk E s G = some z) : Yd E.P n s ob ⟨dst, G, ty, pos, aft, g⟩ z := by
 unfold Xk at h
 split at h
 ·split at h <;> first | cases h | skip
  rename_i Y
  split at h <;> first | cases h | skip
  rename_i O
  exact Hi O Y (X3 h)
 ·exact (Rf h).yd
theorem Xu {d : Nat} {o : Oper} {hn : Hn} {z : T} {p : Prop} (h : bA E n s ob d o hn = some (z, p)) (O : p) : Yd E.P n s ob ⟨some d, o.op, o.type, o.pos, o.after, none⟩ z := by
 unfold bA at h
 split at h
 ·unfold qT at h
  split at h <;> first | cases h | skip
  rename_i Z
  split at h <;> first | cases h | skip
  rename_i G
  split at h <;> first | cases h | skip
  rename_i Y
  split at h <;> first | cases h | skip
  rename_i ht
  split at h <;> first | cases h | skip
  rename_i hy
  subst O
  rw [Z]
  exact C4 _ 0 _ ht G Y rfl (by omega) (X3 hy)
 ·cases h; exact O
 ·unfold sS at h
  split at h <;> first | cases h | skip
  rename_i Z
  split at h <;> first | cases h | skip
  rename_i ht
  split at h <;> first | cases h | skip
  rename_i Y
  split at h <;> first | cases h | skip
  rename_i G
  subst O
  rw [Z]
  exact (aL ht Y G).yd
 ·unfold sT at h
  split at h <;> first | cases h | skip
  rename_i Z
  split at h <;> first | cases h | skip
  rename_i ht
  split at h <;> first | cases h | skip
  rename_i Y
  split at h <;> first | cases h | skip
  split at h <;> first | cases h | skip
  rename_i fi hel _ sz es G
  cases hb : Nat.beq fi.size sz with
  | false => rw [hb] at h; cases h
  | true =>
   rw [hb, cond_true] at h
   split at h <;> first | cases h | skip
   rename_i hy
   rw [Z]
   exact (dO ht Y hel (nq hb) G hy O.1 O.2).yd
 ·split at h <;> first | cases h | skip
  rename_i G
  subst O
  exact (Rf G).yd
end
def Gn (ops : Array Oper) (s : Az) : Option (Nat × Bool) → Option Bool
 | none => some true
 | some (j, want) => match ops[j]? with
  | some o => match o.dst with
   | some t => match get s t with
    | some (.v (.bool true)) => some want
    | some (.v (.bool false)) => some (!want)
    | _ => none
   | none => none
  | none => none
def Pg (E : Env) (n : Nat) (ops : Array Oper) (ob : List Ob) : Nat → Nat → List Oper → Az → List Hn → Prop → Option (Prop × List Oper × Az)
 | 0, _, l, s, _, p => some (p, l, s)
 | _ + 1, _, [], _, _, _ => none
 | m + 1, i, o :: l, s, hs, p => match o.dst with
  | none => none
  | some d => bif Nat.blt d n then
   (match Gn ops s o.guard with
   | none => none
   | some false => Pg E n ops ob m (i + 1) l ((d, .v undef) :: s) hs p
   | some true => match hs with
    | [] => match Xk E s o.op with
     | some x => Pg E n ops ob m (i + 1) l ((d, x) :: s) [] p
     | none => none
    | h :: hs => bif Nat.beq h.at i then
      (match bA E n s ob d o h with
      | some (x, q) => Pg E n ops ob m (i + 1) l ((d, x) :: s) hs (q ∧ p)
      | none => none)
     else
      (match Xk E s o.op with
      | some x => Pg E n ops ob m (i + 1) l ((d, x) :: s) (h :: hs) p
      | none => none)) else none
section
variable {E : Env} {n : Nat} {C : Ctx} {s : Az} {ob : List Ob} {ops : Array Oper} {R : St → Prop}
theorem Hk {j : Nat} {G v : Bool} (h : Gn ops s (some (j, G)) = some v) : ∃ t b, (ops[j]?).bind (·.dst) = some t ∧ get s t = some (.v (.bool b)) ∧ (v = true → b = G) ∧ (v = false → b = !G) := by
 simp only [Gn] at h
 split at h
 ·rename_i o ho
  split at h
  ·rename_i t Z
   have Y : (ops[j]?).bind (·.dst) = some t := by rw [ho]; exact Z
   split at h
   ·rename_i O
    cases h
    exact ⟨t, true, Y, O, by cases G <;> simp, by cases G <;> simp⟩
   ·rename_i O
    cases h
    exact ⟨t, false, Y, O, by cases G <;> simp, by cases G <;> simp⟩
   ·cases h
  ·cases h
 ·cases h
theorem Z3 {d : Nat} {o : Oper} {l : List Oper} {x : T} (hg : Gn ops s o.guard = some true) (G : o.dst = some d) (Z : Yd E.P n s ob ⟨some d, o.op, o.type, o.pos, o.after, none⟩ x) (Y : Nat.blt d n = true)
  (k : AO E n C ops l ⟨(d, x) :: s, ob⟩ R) : AO E n C ops (o :: l) ⟨s, ob⟩ R := by
 obtain ⟨dst, op, ty, pos, aft, g⟩ := o
 cases G
 cases g with
 | none => exact uJ Z Y k
 | some g =>
  obtain ⟨j, O⟩ := g
  obtain ⟨t, b, h1, h2, h3, _⟩ := Hk hg
  have := h3 rfl
  exact AO.guard h1 h2 (Dl Y) (fun _ => uJ Z Y k) (fun h => by rw [this] at h; cases O <;> cases h)
theorem sJ {d : Nat} {o : Oper} {l : List Oper} (hg : Gn ops s o.guard = some false) (G : o.dst = some d) (hd : Nat.blt d n = true)
  (k : AO E n C ops l ⟨(d, .v undef) :: s, ob⟩ R) : AO E n C ops (o :: l) ⟨s, ob⟩ R := by
 obtain ⟨dst, op, ty, pos, aft, g⟩ := o
 cases G
 cases g with
 | none => cases hg
 | some g =>
  obtain ⟨j, O⟩ := g
  obtain ⟨t, b, Y, Z, _, h3⟩ := Hk hg
  have := h3 rfl
  exact AO.guard Y Z (Dl hd) (fun h => by rw [this] at h; cases O <;> cases h) (fun _ => k)
theorem Fu : ∀ (m i : Nat) (l : List Oper) (s : Az) (Z : List Hn) (p : Prop) {P : Prop} {l' : List Oper} {s' : Az}, Pg E n ops ob m i l s Z p = some (P, l', s') → P →
  p ∧ (AO E n C ops l' ⟨s', ob⟩ R → AO E n C ops l ⟨s, ob⟩ R)
 | 0, i, l, s, Z, p, P, l', s', h, hP => by cases h; exact ⟨hP, id⟩
 | m + 1, i, [], s, Z, p, P, l', s', h, hP => by cases h
 | m + 1, i, o :: l, s, Z, p, P, l', s', h, hP => by
  simp only [Pg] at h
  split at h
  ·cases h
  ·rename_i d G
   cases hd : Nat.blt d n with
   | false => rw [hd] at h; cases h
   | true =>
    rw [hd, cond_true] at h
    split at h
    ·cases h
    ·rename_i hg
     obtain ⟨O, Y⟩ := Fu m (i + 1) l _ Z p h hP
     exact ⟨O, fun k => sJ hg G hd (Y k)⟩
    ·rename_i hg
     split at h
     ·split at h
      ·rename_i x hx
       obtain ⟨O, Y⟩ := Fu m (i + 1) l _ _ p h hP
       exact ⟨O, fun k => Z3 hg G (Rg hx) hd (Y k)⟩
      ·cases h
     ·rename_i hn Z
      cases hb : Nat.beq hn.at i with
      | true =>
       rw [hb, cond_true] at h
       split at h
       ·rename_i x q hx
        obtain ⟨O, Y⟩ := Fu m (i + 1) l _ _ _ h hP
        exact ⟨O.2, fun k => Z3 hg G (Xu hx O.1) hd (Y k)⟩
       ·cases h
      | false =>
       rw [hb, cond_false] at h
       split at h
       ·rename_i x hx
        obtain ⟨O, Y⟩ := Fu m (i + 1) l _ _ p h hP
        exact ⟨O, fun k => Z3 hg G (Rg hx) hd (Y k)⟩
       ·cases h
theorem bz : (∀ b, (true && b) = b) ∧ (∀ b, (false && b) = false) ∧ (∀ b, (true || b) = true) ∧ (∀ b, (false || b) = b) ∧ (!true) = false ∧ (!false) = true ∧ (∀ a b : Bool, cond true a b = a) ∧ (∀ a b : Bool, cond false a b = b) := by simp
theorem Ax {α : Type} {f : α → List T} {l : List α} : ((l.map f).length : Int) = (l.length : Int) := by rw [List.length_map]
theorem Af (m : Nat) {l G : List Oper} {s' : Az} (h : Pg E n ops ob m 0 l s [] True = some (True, G, s')) (k : AO E n C ops G ⟨s', ob⟩ R) : AO E n C ops l ⟨s, ob⟩ R :=
 (Fu m 0 l s [] True h trivial).2 k
theorem Ah {id : Nat} {y : Code} {Q : Exit → St → Prop} {s' : Az} (h : Pg E n ops ob ops.size 0 ops.toList s [] True = some (True, [], s')) (k : AW E n C y ⟨s', ob⟩ Q) : AW E n C (.seq (.region id ops false) y) ⟨s, ob⟩ Q :=
 uB (tV ((Fu _ 0 _ s [] True h trivial).2 (tW k)))
theorem Bh {id : Nat} {y : Code} {Q : Exit → St → Prop} {s' : Az} {P : Prop} (G : List Hn) (h : Pg E n ops ob ops.size 0 ops.toList s G True = some (P, [], s')) (O : P) (k : AW E n C y ⟨s', ob⟩ Q) :
  AW E n C (.seq (.region id ops false) y) ⟨s, ob⟩ Q :=
 uB (tV ((Fu _ 0 _ s G True h O).2 (tW k)))
theorem Sq {id : Nat} {Q : Exit → St → Prop} {s' : Az} (h : Pg E n ops ob ops.size 0 ops.toList s [] True = some (True, [], s')) (k : Q .normal ⟨s', ob⟩) : AW E n C (.region id ops false) ⟨s, ob⟩ Q :=
 tV ((Fu _ 0 _ s [] True h trivial).2 (tW k))
theorem E2 {id : Nat} {Q : Exit → St → Prop} {s' : Az} {P : Prop} (G : List Hn) (h : Pg E n ops ob ops.size 0 ops.toList s G True = some (P, [], s')) (O : P) (k : Q .normal ⟨s', ob⟩) :
  AW E n C (.region id ops false) ⟨s, ob⟩ Q :=
 tV ((Fu _ 0 _ s G True h O).2 (tW k))
theorem An (m : Nat) (G : List Hn) {l O : List Oper} {s' : Az} {P : Prop} (h : Pg E n ops ob m 0 l s G True = some (P, O, s')) (Y : P) (k : AO E n C ops O ⟨s', ob⟩ R) : AO E n C ops l ⟨s, ob⟩ R :=
 (Fu m 0 l s G True h Y).2 k
def aZ (E : Env) (so s : Az) (d : Nat) (G : Op) : Option (T × Bool) :=
 match (match G with
  | .pick .. => none
  | G => Xk E so G) with
 | some x => some (x, true)
 | none => match Xj E s G with
  | some x => bif free so (some d) then some (x, false) else none
  | none => none
def rE (b : Bool) (so : Az) (d : Nat) (x : T) : Az := bif b then (d, x) :: so else so
def pd : Nat → Nat → List Nat → PL
 | 0, _, _ => .nil
 | m + 1, i, a => bif a.contains i then .act i (pd m (i + 1) a) else .still i (pd m (i + 1) a)
def He (E : Env) (n : Nat) (ops : Array Oper) (pobjs : List Ob) : Nat → Nat → PL → Az → Az → List Hn → Prop → Option (Prop × PL × Az × Az)
 | 0, _, l, so, s, _, p => some (p, l, so, s)
 | m + 1, i, .still j l, so, s, hs, p => match ops[j]? with
  | none => none
  | some o => match o.dst with
   | none => none
   | some d => bif Nat.blt d n then
    (match Gn ops s o.guard with
    | none => none
    | some false => bif free so (some d) then He E n ops pobjs m (i + 1) l so ((d, .v undef) :: s) hs p else none
    | some true => match hs with
     | [] => match aZ E so s d o.op with
      | some (x, b) => He E n ops pobjs m (i + 1) l (rE b so d x) ((d, x) :: s) [] p
      | none => none
     | h :: hs => bif Nat.beq h.at i then
       (match bA E n so pobjs d o h with
       | some (x, q) => He E n ops pobjs m (i + 1) l ((d, x) :: so) ((d, x) :: s) hs (q ∧ p)
       | none => none)
      else
       (match aZ E so s d o.op with
       | some (x, b) => He E n ops pobjs m (i + 1) l (rE b so d x) ((d, x) :: s) (h :: hs) p
       | none => none)) else none
 | m + 1, i, .act j l, so, s, hs, p => match ops[j]? with
  | none => none
  | some o => match o.dst with
   | none => none
   | some d => bif Nat.blt d n && free so (some d) then
    (match Gn ops s o.guard with
    | some false => He E n ops pobjs m (i + 1) l so ((d, .v undef) :: s) hs p
    | _ => none) else none
 | _ + 1, _, _, _, _, _, _ => none
section
variable {prot : List Nat} {pobjs : List Ob} {so : Az}
theorem Yr {j d : Nat} {o : Oper} {l : PL} {x : T} (Y : ops[j]? = some o) (hg : Gn ops s o.guard = some true) (G : o.dst = some d)
  (Z : Yd E.P n so pobjs ⟨some d, o.op, o.type, o.pos, o.after, none⟩ x) (O : Nat.blt d n = true)
  (k : AP E n C ops prot pobjs l ((d, x) :: so) ⟨(d, x) :: s, ob⟩ R) : AP E n C ops prot pobjs (.still j l) so ⟨s, ob⟩ R := by
 obtain ⟨dst, op, ty, pos, aft, g⟩ := o
 cases G
 cases g with
 | none => exact Z2 Y Z rfl (Dl O) k
 | some g =>
  obtain ⟨i, aa⟩ := g
  obtain ⟨t, b, h1, h2, h3, _⟩ := Hk hg
  exact Fv Y h1 h2 (h3 rfl) Z (Dl O) k
theorem oG {j d : Nat} {o : Oper} {l : PL} {x : T} (Y : ops[j]? = some o) (hg : Gn ops s o.guard = some true) (G : o.dst = some d)
  (Z : Yp E.P n s ⟨some d, o.op, o.type, o.pos, o.after, none⟩ x) (O : Nat.blt d n = true) (hf : free so (some d) = true)
  (k : AP E n C ops prot pobjs l so ⟨(d, x) :: s, ob⟩ R) : AP E n C ops prot pobjs (.still j l) so ⟨s, ob⟩ R := by
 obtain ⟨dst, op, ty, pos, aft, g⟩ := o
 cases G
 cases g with
 | none => exact AP.new Y Z rfl (Dl O) k hf
 | some g =>
  obtain ⟨i, aa⟩ := g
  obtain ⟨t, b, h1, h2, h3, _⟩ := Hk hg
  exact qM Y h1 h2 (h3 rfl) Z (Dl O) k hf
theorem Ux {j d : Nat} {o : Oper} {l : PL} (ho : ops[j]? = some o) (hg : Gn ops s o.guard = some false) (G : o.dst = some d) (hd : Nat.blt d n = true) (hf : free so (some d) = true)
  (k : AP E n C ops prot pobjs l so ⟨(d, .v undef) :: s, ob⟩ R) : AP E n C ops prot pobjs (.still j l) so ⟨s, ob⟩ R ∧ AP E n C ops prot pobjs (.act j l) so ⟨s, ob⟩ R := by
 obtain ⟨dst, op, ty, pos, aft, g⟩ := o
 cases G
 cases g with
 | none => cases hg
 | some g =>
  obtain ⟨i, want⟩ := g
  obtain ⟨t, b, O, Y, _, Z⟩ := Hk hg
  exact ⟨AP.skip ho rfl O Y (Z rfl) (Dl hd) k hf, oF ho rfl O Y (Z rfl) (Dl hd) k hf⟩
theorem Uw {j d : Nat} {o : Oper} {l : PL} {x : T} {b : Bool} (Z : ops[j]? = some o) (hg : Gn ops s o.guard = some true) (O : o.dst = some d) (Y : Nat.blt d n = true)
  (G : aZ E so s d o.op = some (x, b)) (k : AP E n C ops prot pobjs l (rE b so d x) ⟨(d, x) :: s, ob⟩ R) : AP E n C ops prot pobjs (.still j l) so ⟨s, ob⟩ R := by
 unfold aZ at G
 split at G
 ·rename_i h
  cases G
  split at h
  ·cases h
  ·exact Yr Z hg O (Rg h) Y k
 ·split at G
  ·rename_i h
   cases hf : free so (some d) with
   | false => rw [hf] at G; cases G
   | true =>
    rw [hf, cond_true] at G
    cases G
    exact oG Z hg O (Rf h) Y hf k
  ·cases G
theorem Ge : ∀ (m i : Nat) (l : PL) (so s : Az) (Y : List Hn) (p : Prop) {P : Prop} {Z : PL} {G s' : Az}, He E n ops pobjs m i l so s Y p = some (P, Z, G, s') → P →
  p ∧ (AP E n C ops prot pobjs Z G ⟨s', ob⟩ R → AP E n C ops prot pobjs l so ⟨s, ob⟩ R)
 | 0, i, l, so, s, Y, p, P, Z, G, s', h, hP => by
  cases l <;> (simp only [He] at h; cases h; exact ⟨hP, id⟩)
 | m + 1, i, .still j l, so, s, Y, p, P, Z, G, s', h, hP => by
  simp only [He] at h
  split at h
  ·cases h
  ·rename_i o ho
   split at h
   ·cases h
   ·rename_i d O
    cases hd : Nat.blt d n with
    | false => rw [hd] at h; cases h
    | true =>
     rw [hd, cond_true] at h
     split at h
     ·cases h
     ·rename_i hg
      cases hf : free so (some d) with
      | false => rw [hf] at h; cases h
      | true =>
       rw [hf, cond_true] at h
       obtain ⟨h1, h2⟩ := Ge m (i + 1) l so _ Y p h hP
       exact ⟨h1, fun k => (Ux ho hg O hd hf (h2 k)).1⟩
     ·rename_i hg
      split at h
      ·split at h
       ·rename_i x b hx
        obtain ⟨h1, h2⟩ := Ge m (i + 1) l _ _ _ p h hP
        exact ⟨h1, fun k => Uw ho hg O hd hx (h2 k)⟩
       ·cases h
      ·rename_i hn Y
       cases hb : Nat.beq hn.at i with
       | true =>
        rw [hb, cond_true] at h
        split at h
        ·rename_i x q hx
         obtain ⟨h1, h2⟩ := Ge m (i + 1) l _ _ _ _ h hP
         exact ⟨h1.2, fun k => Yr ho hg O (Xu hx h1.1) hd (h2 k)⟩
        ·cases h
       | false =>
        rw [hb, cond_false] at h
        split at h
        ·rename_i x b hx
         obtain ⟨h1, h2⟩ := Ge m (i + 1) l _ _ _ p h hP
         exact ⟨h1, fun k => Uw ho hg O hd hx (h2 k)⟩
        ·cases h
 | m + 1, i, .act j l, so, s, Y, p, P, Z, G, s', h, hP => by
  simp only [He] at h
  split at h
  ·cases h
  ·rename_i o ho
   split at h
   ·cases h
   ·rename_i d O
    cases hd : Nat.blt d n with
    | false => rw [hd] at h; cases h
    | true =>
     cases hf : free so (some d) with
     | false => rw [hd, hf] at h; cases h
     | true =>
      rw [hd, hf] at h
      simp only [Bool.and_true, cond_true] at h
      split at h
      ·rename_i hg
       obtain ⟨h1, h2⟩ := Ge m (i + 1) l so _ Y p h hP
       exact ⟨h1, fun k => (Ux ho hg O hd hf (h2 k)).2⟩
      ·cases h
 | m + 1, i, .nil, so, s, Y, p, P, Z, G, s', h, hP => by simp [He] at h
 | m + 1, i, .two .., so, s, Y, p, P, Z, G, s', h, hP => by simp [He] at h
 | m + 1, i, .three .., so, s, Y, p, P, Z, G, s', h, hP => by simp [He] at h
 | m + 1, i, .four .., so, s, Y, p, P, Z, G, s', h, hP => by simp [He] at h
 | m + 1, i, .five .., so, s, Y, p, P, Z, G, s', h, hP => by simp [He] at h
 | m + 1, i, .par .., so, s, Y, p, P, Z, G, s', h, hP => by simp [He] at h
 | m + 1, i, .drop .., so, s, Y, p, P, Z, G, s', h, hP => by simp [He] at h
theorem Bf (m : Nat) {l O : PL} {G s' : Az} (h : He E n ops pobjs m 0 l so s [] True = some (True, O, G, s')) (k : AP E n C ops prot pobjs O G ⟨s', ob⟩ R) :
  AP E n C ops prot pobjs l so ⟨s, ob⟩ R :=
 (Ge m 0 l so s [] True h trivial).2 k
theorem Ca (m : Nat) (O : List Hn) {l Y : PL} {G s' : Az} {P : Prop} (h : He E n ops pobjs m 0 l so s O True = some (P, Y, G, s')) (Z : P) (k : AP E n C ops prot pobjs Y G ⟨s', ob⟩ R) :
  AP E n C ops prot pobjs l so ⟨s, ob⟩ R :=
 (Ge m 0 l so s O True h Z).2 k
theorem kH {d : Nat} {c : Operand} {args : Array Operand} {aa : Array TypeId} {ty : TypeId} {pos : String} {aft : Array Edge} {f : FuncId} {xs G O ys : List T} {y X : T}
  (h : ACalls E f ys [] (fun x new => x = X ∧ new = [])) (k : R ⟨(d, X) :: s, ob⟩)
  (hc : Bg s c = some y) (hf : Jd y = some (f, G, O)) (hx : Gb s args.toList = some xs) (Z : G ++ xs ++ O = ys)
  (hd : Nat.blt d n = true) (Y : Fk X = true) :
  AX E n C [] ⟨some d, .call { callee := .value c, args := args, argTypes := aa }, ty, pos, aft, none⟩ ⟨s, ob⟩ R :=
 Ch hc (.refl _) hf hx (.rest _) Z h (Dl hd) (fun _ _ h => by rw [h.1]; exact Y) (fun x h => by obtain ⟨_, rfl, _⟩ := h; exact k)
theorem Cd {d : Nat} {c : Operand} {args : Array Operand} {aa : Array TypeId} {ty : TypeId} {pos : String} {aft : Array Edge} {f : FuncId} {xs G O ys : List T} {y X : T} {l : List Oper}
  (h : ACalls E f ys [] (fun x new => x = X ∧ new = [])) (k : AO E n C ops l ⟨(d, X) :: s, ob⟩ R)
  (hc : Bg s c = some y := by exact rfl) (hf : Jd y = some (f, G, O) := by exact rfl) (hx : Gb s args.toList = some xs := by exact rfl) (Z : G ++ xs ++ O = ys := by exact rfl)
  (hd : Nat.blt d n = true := by exact rfl) (Y : Fk X = true := by exact rfl) :
  AO E n C ops (⟨some d, .call { callee := .value c, args := args, argTypes := aa }, ty, pos, aft, none⟩ :: l) ⟨s, ob⟩ R :=
 tX [] rfl (kH h k hc hf hx Z hd Y)
theorem Dq {i d : Nat} {c : Operand} {args : Array Operand} {ab : Array TypeId} {ty : TypeId} {pos : String} {aft : Array Edge} {f : FuncId} {xs G O ys : List T} {y X : T} {l : PL}
  (ho : ops[i]? = some ⟨some d, .call { callee := .value c, args := args, argTypes := ab }, ty, pos, aft, none⟩) (h : ACalls E f ys [] (fun x new => x = X ∧ new = [])) (k : AP E n C ops prot pobjs l so ⟨(d, X) :: s, ob⟩ R)
  (hc : Bg s c = some y := by exact rfl) (hf : Jd y = some (f, G, O) := by exact rfl) (hx : Gb s args.toList = some xs := by exact rfl) (aa : G ++ xs ++ O = ys := by exact rfl)
  (hd : Nat.blt d n = true := by exact rfl) (Y : Fk X = true := by exact rfl) (Z : free so (some d) = true := by exact rfl) :
  AP E n C ops prot pobjs (.act i l) so ⟨s, ob⟩ R :=
 tY [] ho rfl (by simp) (kH h k hc hf hx aa hd Y) Z
theorem Ie {i d j t : Nat} {want b : Bool} {c : Operand} {args : Array Operand} {ab : Array TypeId} {ty : TypeId} {pos : String} {aft : Array Edge} {f : FuncId} {xs G O ys : List T} {y X : T} {l : PL}
  (ho : ops[i]? = some ⟨some d, .call { callee := .value c, args := args, argTypes := ab }, ty, pos, aft, some (j, want)⟩) (h : ACalls E f ys [] (fun x new => x = X ∧ new = [])) (k : AP E n C ops prot pobjs l so ⟨(d, X) :: s, ob⟩ R)
  (hj : (ops[j]?).bind (·.dst) = some t := by exact rfl) (hs : get s t = some (.v (.bool b)) := by exact rfl) (hb : b = want := by exact rfl)
  (hc : Bg s c = some y := by exact rfl) (hf : Jd y = some (f, G, O) := by exact rfl) (hx : Gb s args.toList = some xs := by exact rfl) (aa : G ++ xs ++ O = ys := by exact rfl)
  (hd : Nat.blt d n = true := by exact rfl) (Y : Fk X = true := by exact rfl) (Z : free so (some d) = true := by exact rfl) :
  AP E n C ops prot pobjs (.act i l) so ⟨s, ob⟩ R :=
 qN [] ho hj hs hb (by simp) (kH h k hc hf hx aa hd Y) Z
end
theorem Kf {id : Nat} {y : Code} {Q : Exit → St → Prop} {s' G : Az} {P : Prop} (pl : PL) (prot : List Nat) (pobjs : List Ob) (O : List Hn) (hp : prot.map (fun i => ob[i]?) = pobjs.map some)
  (h : He E n ops pobjs ops.size 0 pl s s O True = some (P, .nil, G, s')) (Z : P) (k : AW E n C y ⟨s', ob⟩ Q) (Y : S1 ops pl = true := by kernel_rfl) :
  AW E n C (.seq (.region id ops true) y) ⟨s, ob⟩ Q :=
 uB (Ln pl prot pobjs Y hp ((Ge _ 0 pl s s O True h Z).2 (AP.nil k)))
theorem In {id : Nat} {Q : Exit → St → Prop} {s' G : Az} {P : Prop} (pl : PL) (prot : List Nat) (pobjs : List Ob) (O : List Hn) (hp : prot.map (fun i => ob[i]?) = pobjs.map some)
  (h : He E n ops pobjs ops.size 0 pl s s O True = some (P, .nil, G, s')) (Z : P) (k : Q .normal ⟨s', ob⟩) (Y : S1 ops pl = true := by kernel_rfl) :
  AW E n C (.region id ops true) ⟨s, ob⟩ Q :=
 Ln pl prot pobjs Y hp ((Ge _ 0 pl s s O True h Z).2 (AP.nil k))
theorem Bz {id : Nat} {Q : Exit → St → Prop} (pl : PL) (prot : List Nat) (pobjs : List Ob) (O : prot.map (fun i => ob[i]?) = pobjs.map some)
  (h : AP E n C ops prot pobjs pl s ⟨s, ob⟩ (fun σ' => Q .normal σ')) (G : S1 ops pl = true := by kernel_rfl) : AW E n C (.region id ops true) ⟨s, ob⟩ Q := Ln pl prot pobjs G O h
theorem lf {M : Az → List Ob → Prop} {G s' : Az} {ob' : List Ob} (O : M s' ob') (hs : Sub (s' ++ G) s) (ks : List Nat) (Y : Dx ob ks = some ob') (Z : ks.Nodup := by decide) :
  ∃ s' ob', M s' ob' ∧ Left (s' ++ G) ob' ⟨s, ob⟩ := ⟨_, _, O, hs, ks, Y, Z⟩
theorem sR {s : Az} : ∀ {l : Az}, l.map (fun p => get s p.1) = l.map (fun p => some p.2) → Sub l s
 | [], _ => trivial
 | (i, x) :: l, h => by
  simp only [List.map_cons, List.cons.injEq] at h
  exact ⟨h.1, sR h.2⟩
theorem lg {M : Az → List Ob → Prop} {G s' : Az} {ob' : List Ob} (O : M s' ob') (ks : List Nat) (hs : (s' ++ G).map (fun p => get s p.1) = (s' ++ G).map (fun p => some p.2) := by exact rfl)
  (Y : Dx ob ks = some ob' := by exact rfl) (Z : ks.Nodup := by decide) :
  ∃ s' ob', M s' ob' ∧ Left (s' ++ G) ob' ⟨s, ob⟩ := ⟨_, _, O, sR hs, ks, Y, Z⟩
theorem Ar {t : Nat} {x y : Code} {Q : Exit → St → Prop} {b : Bool} {α : Type} {A B r : α} (h : (if b = true then A else B) = r) (O : get s t = some (.v (.bool b)))
  (h1 : b = true → A = r → AW E n C x ⟨s, ob⟩ Q) (h2 : b = false → B = r → AW E n C y ⟨s, ob⟩ Q) : AW E n C (.cond (.tmp t) x y) ⟨s, ob⟩ Q :=
 AW.cond rfl O (fun G => h1 G (Bu G h)) (fun G => h2 G (Bv G h))
section
variable {σ : St} {dst : Option Tmp} {ty : TypeId} {pos : String} {aft : Array Edge} {g : Option (Nat × Bool)}
theorem AX.lt {d : Nat} {t : TypeId} {m : Nat} {G : Array (Nat × Operand)} {ti ei : TI} {e : Nat} {z : Value} {l : List T} (sz : Nat) (es : List (List T)) (k : R ⟨(d, .list sz es) :: s, ob⟩)
  (ht : E.tab t = some ti := by exact rfl) (Z : ti.kind = .slice e := by exact rfl) (he : E.tab e = some ei := by exact rfl) (hz : ei.zero = some z := by exact rfl) (h1 : z.cells.toList.all (·.oneCell') = true := by exact rfl)
  (hsz : ei.size = sz := by exact rfl) (O : z.cells.size = sz := by exact rfl) (hb : Nat.ble (m * sz) 16777216 = true := by exact rfl)
  (hm : Nat.ble m 16777216 = true := by exact rfl) (hf : Fx s (fun i => some (i * sz, sz)) (Ls (E1 z) m) G.toList = some l := by exact rfl) (hr : rows sz m l = es := by exact rfl) (Y : Nat.blt d n = true := by exact rfl) :
  AX E n C [] ⟨some d, .buildSlice t m G, ty, pos, aft, g⟩ ⟨s, ob⟩ R := qL ht Z he hz h1 hsz O hb hm hf hr (Dl Y) k
def uG := @AX.lt
theorem Im (ks : List Nat) {d : Nat} {c : Operand} {args : Array Operand} {ab : Array TypeId} {f : FuncId} {G O xs ys : List T} {fp : List Ob} {Rc : T → List Ob → List Ob → Prop} {R : St → Prop}
  (h : ACalls E f ys fp (fun x Y => ∃ os new, Y = os ++ new ∧ os.length = fp.length ∧ Rc x os new)) (k : ∀ x os new, os.length = fp.length → Rc x os new → R ⟨Fb σ.slots (some d) x, Gm σ.objs ks os ++ new⟩)
  (hc : (Bg σ.slots c).bind Jd = some (f, G, O) := by exact rfl) (hx : Gb σ.slots args.toList = some xs := by exact rfl) (aa : G ++ xs ++ O = ys := by exact rfl)
  (hk : Dx σ.objs ks = some fp := by exact rfl) (Z : ks.Nodup := by decide) (hd : Nat.blt d n = true := by exact rfl) :
  AX E n C ks ⟨some d, .call { callee := .value c, args := args, argTypes := ab }, ty, pos, aft, g⟩ σ R := Yo ks hc hx aa hk Z h (Dl hd) k
theorem C9 {α : Type} {fr : α → List T} {la lm lr : List α} (ks : Nat) {d : Nat} {so x : Operand} {t : TypeId} {ti ei : TI} {e sz : Nat} {z v : Value} {R : St → Prop}
  (O : σ.objs[ks]? = some (.us v e sz (la.map fr))) (Z : Dy la lm = some lr)
  (k : ∀ v', R ⟨Fb σ.slots (some d) (.v v'), σ.objs.set ks (.us v' e sz (lr.map fr))⟩)
  (hx : Bg σ.slots x = some (.list sz (lm.map fr)) := by exact rfl) (hs : Bg σ.slots so = some (.v v) := by exact rfl)
  (ht : E.tab t = some ti := by exact rfl) (hk : ti.kind = .slice e := by exact rfl) (he : E.tab e = some ei := by exact rfl) (hz : ei.zero = some z := by exact rfl) (hsz : ei.size = sz := by exact rfl)
  (Y : z.cells.size = sz := by exact rfl) (G : Nat.ble ei.bytes 2048 = true := by exact rfl) (hd : Nat.blt d n = true := by exact rfl) :
  AX E n C [ks] ⟨some d, .call { callee := .builtin .append, args := #[so, x], argTypes := #[t, t] }, ty, pos, aft, g⟩ σ R :=
 Sj ks ht hk he hz hsz Y G hs O (.list hx) (qA (Gu Z).1) (pZ (Gu Z).2) (Dl hd) k
end
def kb (s s' : Az) : Prop := s'.drop (s'.length - s.length) = s ∧ ((s'.take (s'.length - s.length)).all fun p => (get s p.1).isNone) = true
theorem bT {s : Az} {i : Nat} {x : T} : ∀ {l : Az}, (l.all fun p => (get s p.1).isNone) = true → get s i = some x → get (l ++ s) i = some x
 | [], _, h => h
 | (j, y) :: l, ha, h => by
  simp only [List.all_cons, Bool.and_eq_true] at ha
  simp only [List.cons_append, get]
  cases hb : Nat.beq j i with
  | true =>
   rw [nq hb, h] at ha
   simp at ha
  | false => rw [cond_false]; exact bT ha.2 h
theorem sA {s s' : Az} (h : kb s s') (i : Nat) (x : T) (Y : get s i = some x) : get s' i = some x := by
 obtain ⟨G, O⟩ := h
 rw [← List.take_append_drop (s'.length - s.length) s', G]
 exact bT O Y
theorem Eb {x y : Code} {Q : Exit → St → Prop} (d : Nat) (e : Bool) (h : AW E n C x ⟨s, ob⟩ (Kb (fun σ' => get σ'.slots d = some (.v (.bool e)) ∧ σ'.objs = ob ∧ kb s σ'.slots) Q)) (k : AW E n C y ⟨(d, .v (.bool e)) :: s, ob⟩ Q) : AW E n C (.seq x y) ⟨s, ob⟩ Q :=
 lD _ h fun σ' ⟨Z, Y, h3⟩ H a w G => k H a w { G with
  slots := fun i z O => by
   simp only [get] at O
   cases hb : Nat.beq d i with
   | true => rw [hb, cond_true] at O; cases O; rw [← nq hb]; exact G.slots d _ Z
   | false => rw [hb, cond_false] at O; exact G.slots i z (sA h3 i z O)
  objs := by rw [← Y]; exact G.objs
  free := by rw [← Y]; exact G.free
  new := by rw [← Y]; exact G.new
  nodup := by rw [← Y]; exact G.nodup }
theorem jf {d : Nat} {a e : Bool} {s s' : Az} {ob ob' : List Ob} (h : a = e) (h1 : get s' d = some (.v (.bool a))) (h2 : ob' = ob) (G : kb s s') : get s' d = some (.v (.bool e)) ∧ ob' = ob ∧ kb s s' := ⟨h ▸ h1, h2, G⟩
theorem rt {E : Env} {fn : Func} {Rc : T → List Ob → Prop} {t : Nat} {x : T} (hf : fn.results.toList = [.tmp t]) (O : get s t = some x) (G : Rc x []) : oN E fn Rc .ret ⟨s, ob⟩ := ⟨.inr rfl, [x], [], by rw [hf]; exact ⟨O, trivial⟩, List.nil_sublist _, G⟩
end
theorem A1 {E : Env} {n : Nat} {C : Ctx} {σ : St} {ty : TypeId} {pos : String} {aft : Array Edge} {g : Option (Nat × Bool)} (ks : List Nat) {d : Nat} {c : Operand} {args : Array Operand} {ab : Array TypeId} {f : FuncId} {G Y xs ys : List T} {fp : List Ob} {X : T} {O N : List Ob} {R : St → Prop}
  (h : ACalls E f ys fp (Ea fp.length (fun x os new => x = X ∧ os = O ∧ new = N))) (k : R ⟨Fb σ.slots (some d) X, Gm σ.objs ks O ++ N⟩)
  (hc : (Bg σ.slots c).bind Jd = some (f, G, Y) := by exact rfl) (hx : Gb σ.slots args.toList = some xs := by exact rfl) (aa : G ++ xs ++ Y = ys := by exact rfl)
  (hk : Dx σ.objs ks = some fp := by exact rfl) (Z : ks.Nodup := by decide) (hd : Nat.blt d n = true := by exact rfl) :
  AX E n C ks ⟨some d, .call { callee := .value c, args := args, argTypes := ab }, ty, pos, aft, g⟩ σ R :=
 Im ks h (by rintro _ _ _ _ ⟨rfl, rfl, rfl⟩; exact k) hc hx aa hk Z hd
theorem pr {E : Env} {fn : Func} {σ : St} {X : T} (h : cD E σ.slots σ.objs fn.results.toList [X] := by exact ⟨rfl, True.intro⟩) : oN E fn (fun x new => x = X ∧ new = []) .ret σ := ⟨.inr rfl, [X], [], h, Cm, rfl, rfl⟩
theorem g0 {n : Nat} {C : Ctx} {s : Az} {ob : List Ob} : Ghost n C s ob s [] := Ghost.pick [] (K := []) rfl (by decide)
theorem Cv {E : Env} {n : Nat} {C : Ctx} {Q : Exit → St → Prop} {s : Az} {ob : List Ob} {c : Code} (ks : List Nat) {K : List Ob} (G : Dx ob ks = some K) (k : AW E n C c ⟨s, K⟩ Q) (O : ks.Nodup := by decide) : AW E n C c ⟨s, ob⟩ Q := uD (Ghost.pick ks G O) k
theorem A3 {E : Env} {n : Nat} {C : Ctx} {σ : St} {ty : TypeId} {pos : String} {aft : Array Edge} {g : Option (Nat × Bool)} (k i j : Nat) (es' : List (List T)) {t : TypeId} {x y : Operand} {ti : TI} {c : T} {cs : List T} {b off O sz cap : Nat} {es : List (List T)} {e : List T} {R : St → Prop}
  (Z : σ.objs[k]? = some (.arr b O sz cap es)) (kk : R ⟨σ.slots, σ.objs.set k (.arr b O sz cap es')⟩)
  (hx : Bg σ.slots x = some (.v (.pointer (some ⟨b, off, none⟩))) := by exact rfl) (ht : E.tab t = some ti := by exact rfl) (he : es[i]? = some e := by exact rfl) (ho : off = i * sz + j := by exact rfl)
  (hy : Bg σ.slots y = some c := by exact rfl) (hc : Ei c = some cs := by exact rfl) (hsz : ti.size = cs.length := by exact rfl) (Y : Nat.ble (j + cs.length) e.length = true := by exact rfl) (G : es.set i (Fo e j cs) = es' := by exact rfl) :
  AX E n C [k] ⟨none, .store t x y, ty, pos, aft, g⟩ σ R := uN k i j ht hx Z he ho hy hc hsz (Nat.le_of_ble_eq_true Y) rfl G kk
theorem A6 {α β : Type} {l : List α} {i : Int} {f : Nat × α → Option β} {r : β} (h : (ix l i).bind f = some r) : ∃ p, (i = (p.1 : Int) ∧ l[p.1]? = some p.2) ∧ f p = some r := by
 obtain ⟨p, G, O⟩ := Ac h
 exact ⟨p, pJ G, O⟩
theorem Gl {α β : Type} {n : Int} {z : α} {f : List α → Option β} {r : β} (h : (So n z).bind f = some r) : ∃ l, (∃ m : Nat, n = (m : Int) ∧ m ≤ 68719476736 ∧ List.replicate m z = l) ∧ f l = some r := by
 obtain ⟨p, G, O⟩ := Ac h
 exact ⟨p, pG G, O⟩
theorem I2 {α β : Type} {a : α} {b : β} : a = a ∧ b = b := ⟨rfl, rfl⟩
theorem I3 {α β γ : Type} {a : α} {b : β} {c : γ} : a = a ∧ b = b ∧ c = c := ⟨rfl, rfl, rfl⟩
theorem I5 {α β γ δ ε : Type} {a : α} {b : β} {c : γ} {d : δ} {e : ε} : a = a ∧ b = b ∧ c = c ∧ d = d ∧ e = e := ⟨rfl, rfl, rfl, rfl, rfl⟩
theorem I7 {α β γ δ ε ζ η : Type} {a : α} {b : β} {c : γ} {d : δ} {e : ε} {f : ζ} {g : η} : a = a ∧ b = b ∧ c = c ∧ d = d ∧ e = e ∧ f = f ∧ g = g := ⟨rfl, rfl, rfl, rfl, rfl, rfl, rfl⟩
theorem J1 {α : Type} {a : α} : a = a ∧ True := ⟨rfl, J⟩
theorem J2 {α β : Type} {a : α} {b : β} : a = a ∧ b = b ∧ True := ⟨rfl, J1⟩
theorem J3 {α β γ : Type} {a : α} {b : β} {c : γ} : a = a ∧ b = b ∧ c = c ∧ True := ⟨rfl, J2⟩
theorem J4 {α β γ δ : Type} {a : α} {b : β} {c : γ} {d : δ} : a = a ∧ b = b ∧ c = c ∧ d = d ∧ True := ⟨rfl, J3⟩
theorem J5 {α β γ δ ε : Type} {a : α} {b : β} {c : γ} {d : δ} {e : ε} : a = a ∧ b = b ∧ c = c ∧ d = d ∧ e = e ∧ True := ⟨rfl, J4⟩
theorem J6 {α β γ δ ε ζ : Type} {a : α} {b : β} {c : γ} {d : δ} {e : ε} {f : ζ} : a = a ∧ b = b ∧ c = c ∧ d = d ∧ e = e ∧ f = f ∧ True := ⟨rfl, J5⟩
theorem J7 {α β γ δ ε ζ η : Type} {a : α} {b : β} {c : γ} {d : δ} {e : ε} {f : ζ} {g : η} : a = a ∧ b = b ∧ c = c ∧ d = d ∧ e = e ∧ f = f ∧ g = g ∧ True := ⟨rfl, J6⟩
theorem J8 {α β γ δ ε ζ η θ : Type} {a : α} {b : β} {c : γ} {d : δ} {e : ε} {f : ζ} {g : η} {h : θ} : a = a ∧ b = b ∧ c = c ∧ d = d ∧ e = e ∧ f = f ∧ g = g ∧ h = h ∧ True := ⟨rfl, J7⟩
theorem J9 {α β γ δ ε ζ η θ ι : Type} {a : α} {b : β} {c : γ} {d : δ} {e : ε} {f : ζ} {g : η} {h : θ} {i : ι} : a = a ∧ b = b ∧ c = c ∧ d = d ∧ e = e ∧ f = f ∧ g = g ∧ h = h ∧ i = i ∧ True := ⟨rfl, J8⟩
theorem jW {α β γ δ ε ζ η θ ι κ : Type} {a : α} {b : β} {c : γ} {d : δ} {e : ε} {f : ζ} {g : η} {h : θ} {i : ι} {j : κ} : a = a ∧ b = b ∧ c = c ∧ d = d ∧ e = e ∧ f = f ∧ g = g ∧ h = h ∧ i = i ∧ j = j ∧ True := ⟨rfl, J9⟩
theorem sO {α β γ δ ε ζ η θ ι κ μ : Type} {a : α} {b : β} {c : γ} {d : δ} {e : ε} {f : ζ} {g : η} {h : θ} {i : ι} {j : κ} {k : μ} : a = a ∧ b = b ∧ c = c ∧ d = d ∧ e = e ∧ f = f ∧ g = g ∧ h = h ∧ i = i ∧ j = j ∧ k = k ∧ True := ⟨rfl, jW⟩
theorem sQ {α β γ δ ε ζ η θ ι κ μ ν : Type} {a : α} {b : β} {c : γ} {d : δ} {e : ε} {f : ζ} {g : η} {h : θ} {i : ι} {j : κ} {k : μ} {l : ν} : a = a ∧ b = b ∧ c = c ∧ d = d ∧ e = e ∧ f = f ∧ g = g ∧ h = h ∧ i = i ∧ j = j ∧ k = k ∧ l = l ∧ True := ⟨rfl, sO⟩
theorem sN {α β γ δ ε ζ η θ ι κ μ ν ξ : Type} {a : α} {b : β} {c : γ} {d : δ} {e : ε} {f : ζ} {g : η} {h : θ} {i : ι} {j : κ} {k : μ} {l : ν} {m : ξ} : a = a ∧ b = b ∧ c = c ∧ d = d ∧ e = e ∧ f = f ∧ g = g ∧ h = h ∧ i = i ∧ j = j ∧ k = k ∧ l = l ∧ m = m ∧ True := ⟨rfl, sQ⟩
theorem rD {α β γ δ ε ζ η θ ι κ μ ν ξ ο : Type} {a : α} {b : β} {c : γ} {d : δ} {e : ε} {f : ζ} {g : η} {h : θ} {i : ι} {j : κ} {k : μ} {l : ν} {m : ξ} {n : ο} : a = a ∧ b = b ∧ c = c ∧ d = d ∧ e = e ∧ f = f ∧ g = g ∧ h = h ∧ i = i ∧ j = j ∧ k = k ∧ l = l ∧ m = m ∧ n = n ∧ True := ⟨rfl, sN⟩
theorem tI {α β γ δ ε ζ η θ ι κ μ ν ξ ο π : Type} {a : α} {b : β} {c : γ} {d : δ} {e : ε} {f : ζ} {g : η} {h : θ} {i : ι} {j : κ} {k : μ} {l : ν} {m : ξ} {n : ο} {o : π} : a = a ∧ b = b ∧ c = c ∧ d = d ∧ e = e ∧ f = f ∧ g = g ∧ h = h ∧ i = i ∧ j = j ∧ k = k ∧ l = l ∧ m = m ∧ n = n ∧ o = o ∧ True := ⟨rfl, rD⟩
theorem AX.al {E : Env} {n : Nat} {C : Ctx} {σ : St} {dst : Option Tmp} {ty : TypeId} {pos : String} {aft : Array Edge} {g : Option (Nat × Bool)} {t : TypeId} {z : Value} (cs : List T) (m : Nat) {R : St → Prop} (k : ∀ b, R ⟨Fb σ.slots dst (.v (.pointer (some ⟨b, 0, none⟩))), σ.objs ++ [(.arr b t m 1 [cs])]⟩)
  (G : (E.tab t).bind (fun i => i.zero) = some z := by exact rfl) (hc : z.cells.toList.map T.v = cs := by exact rfl) (h1 : z.cells.toList.all (·.oneCell') = true := by exact rfl) (Y : cs.length = m := by exact rfl) (O : ∀ d, dst = some d → d < n := by exact dS) :
  AX E n C [] ⟨dst, .alloc t, ty, pos, aft, g⟩ σ R := by
 obtain ⟨i, hi, G⟩ := Option.bind_eq_some_iff.1 G
 exact AX.alloc hi G hc h1 Y O k
def uF := @AX.al
theorem Bo {E : Env} {n : Nat} {C : Ctx} {σ : St} {dst : Option Tmp} {ty : TypeId} {pos : String} {aft : Array Edge} {g : Option (Nat × Bool)} {t : TypeId} {x : Operand} (cs : List T) (m : Nat) {R : St → Prop} (k : ∀ b, R ⟨Fb σ.slots dst (.v (.pointer (some ⟨b, 0, none⟩))), σ.objs ++ [(.arr b t m 1 [cs])]⟩)
  (Y : (Bg σ.slots x).bind Ei = some cs := by exact rfl) (O : cs.length = m := by exact rfl) (G : ∀ d, dst = some d → d < n := by exact dS) :
  AX E n C [] ⟨dst, .box t x, ty, pos, aft, g⟩ σ R := by
 obtain ⟨y, Z, hc⟩ := Option.bind_eq_some_iff.1 Y
 exact AX.box Z hc O G k
theorem Bp {E : Env} {n : Nat} {C : Ctx} {s : Az} {ob : List Ob} {Q : Exit → St → Prop} {c : Operand} {x y : Code} {t : Nat} {b : Bool} (G : get s t = some (.v (.bool b))) (hb : b = true) (h : AW E n C x ⟨s, ob⟩ Q) (hc : c = .tmp t := by rfl) : AW E n C (.cond c x y) ⟨s, ob⟩ Q := Yq (v := true) G hb h hc
theorem Br {E : Env} {n : Nat} {C : Ctx} {s : Az} {ob : List Ob} {Q : Exit → St → Prop} {c : Operand} {x y : Code} {t : Nat} {b : Bool} (G : get s t = some (.v (.bool b))) (hb : b = false) (h : AW E n C y ⟨s, ob⟩ Q) (hc : c = .tmp t := by rfl) : AW E n C (.cond c x y) ⟨s, ob⟩ Q := Yq (v := false) G hb h hc
def sl : Nat → Nat → PL → PL
 | 0, _, r => r
 | m + 1, i, r => .still i (sl m (i + 1) r)
theorem io {α : Type _} {a b : α} (h : some a = some b) : b = a := (Option.some.inj h).symm
abbrev RV (t : T) (x : T) (new : List Ob) : Prop := x = t ∧ new = []
abbrev RB (r : Bool) (x : T) (new : List Ob) : Prop := x = .v (.bool r) ∧ new = []
end Go.Aw
