/- A program logic over the model. No condition. -/
import Derived.Test.YtaoclefkknloiaaGreatZvB1
import Derived.Scope
import Derived.Laws.StructEq
import Derived.Lib.LazyBuf
set_option maxRecDepth 100000
namespace Go.Aw
set_option linter.unusedVariables false
set_option linter.defProp false
set_option linter.unusedSimpArgs false
def wr (x : Int) : Int := IntKind.i64.wrap x
theorem Be {x : Int} (h : -9223372036854775808 ≤ x ∧ x ≤ 9223372036854775807) : wr x = x := tQ h
def ix {α : Type} (l : List α) (i : Int) : Option (Nat × α) := if 0 ≤ i then (l[i.toNat]?).map fun x => (i.toNat, x) else none
theorem Xk {α : Type} {l : List α} {i : Int} {p : Nat × α} (h : ix l i = some p) : i = (p.1 : Int) ∧ l[p.1]? = some p.2 := by
 unfold ix at h
 split at h
 ·obtain ⟨x, G, rfl⟩ := Option.map_eq_some_iff.1 h
  exact ⟨by dsimp only; omega, G⟩
 ·cases h
theorem A1 {α : Type} {l : List α} {k : Nat} {x : α} (h : l[k]? = some x) : ix l (k : Int) = some (k, x) := by simp [ix, h]
def oN : Nat := 68719476736
def Cp {α : Type} (l m : List α) : Option (List α) := if l.length + m.length ≤ oN then some (l ++ m) else none
theorem G7 {α : Type} {l m r : List α} (h : Cp l m = some r) : l.length + m.length ≤ 68719476736 ∧ l ++ m = r := by
 unfold Cp at h
 split at h
 ·rename_i G; exact ⟨G, by cases h; rfl⟩
 ·cases h
theorem F9 {α : Type} {l m : List α} (h : l.length + m.length ≤ 68719476736) : Cp l m = some (l ++ m) := if_pos h
def X1 {α : Type} (n : Int) (z : α) : Option (List α) := if 0 ≤ n ∧ n ≤ (oN : Int) then some (List.replicate n.toNat z) else none
theorem pM {α : Type} {n : Int} {z : α} {r : List α} (h : X1 n z = some r) : ∃ m : Nat, n = (m : Int) ∧ m ≤ 68719476736 ∧ List.replicate m z = r := by
 unfold X1 at h
 split at h
 ·rename_i G
  refine ⟨n.toNat, by omega, ?_, by cases h; rfl⟩
  have : (oN : Int) = 68719476736 := rfl
  omega
 ·cases h
theorem sE {α : Type} {m : Nat} (z : α) (h : m ≤ 68719476736) : X1 (m : Int) z = some (List.replicate m z) := by
 unfold X1
 have : (oN : Int) = 68719476736 := rfl
 rw [if_pos (by omega)]; simp
def Tu {α : Type} (l : List α) (a b : Int) : Option (List α) := if 0 ≤ a ∧ a ≤ b ∧ b ≤ (l.length : Int) then some ((l.drop a.toNat).take (b.toNat - a.toNat)) else none
theorem Jw {α : Type} {l r : List α} {a b : Int} (h : Tu l a b = some r) : ∃ x y : Nat, a = (x : Int) ∧ b = (y : Int) ∧ x ≤ y ∧ y ≤ l.length ∧ (l.drop x).take (y - x) = r := by
 unfold Tu at h
 split at h
 ·exact ⟨a.toNat, b.toNat, by omega, by omega, by omega, by omega, by cases h; rfl⟩
 ·cases h
def jY (a b : ByteArray) : Option ByteArray := if a.size + b.size ≤ 68719476736 then some (a ++ b) else none
theorem Zb {a b r : ByteArray} (h : jY a b = some r) : a.size + b.size < 9223372036854775807 ∧ a ++ b = r := by
 unfold jY at h
 split at h
 ·rename_i G; exact ⟨by omega, by cases h; rfl⟩
 ·cases h
def qM (b : ByteArray) (i : Int) : Option (Nat × Int) := if 0 ≤ i ∧ i < (b.size : Int) then some (i.toNat, ((b.data.getD i.toNat 0).toNat : Int)) else none
theorem Mv {b : ByteArray} {i : Int} {p : Nat × Int} (h : qM b i = some p) : i = (p.1 : Int) ∧ p.1 < b.size ∧ ((b.data.getD p.1 0).toNat : Int) = p.2 := by
 unfold qM at h
 split at h
 ·cases h; exact ⟨by dsimp only; omega, by dsimp only; omega, rfl⟩
 ·cases h
def jT (a b : Int) : Option Int := if b ≠ 0 then some (wr (a.tdiv b)) else none
theorem Yo {a b r : Int} (h : jT a b = some r) : b ≠ 0 ∧ IntKind.i64.wrap (a.tdiv b) = r := by
 unfold jT at h
 split at h
 ·rename_i G; exact ⟨G, by cases h; rfl⟩
 ·cases h
def jS (a b : Int) : Option Int := if b ≠ 0 then some (a.tmod b) else none
theorem Yn {a b r : Int} (h : jS a b = some r) : b ≠ 0 ∧ a.tmod b = r := by
 unfold jS at h
 split at h
 ·rename_i G; exact ⟨G, by cases h; rfl⟩
 ·cases h
def chk (p : Prop) [Decidable p] : Option Unit := if p then some () else none
theorem J0 {p : Prop} [Decidable p] {u : Unit} (h : chk p = some u) : p := by
 unfold chk at h
 split at h
 ·assumption
 ·cases h
theorem sN {p : Prop} [Decidable p] (h : p) : chk p = some () := if_pos h
def Xz (a b : ByteArray) : Bool := a.toList == b.toList
theorem Ac {α β : Type} {o : Option α} {f : α → Option β} {r : β} (h : o.bind f = some r) : ∃ x, o = some x ∧ f x = some r := Option.bind_eq_some_iff.1 h
def C4 {S B : Type} (f : S → Option (S ⊕ B)) : Nat → S → Option B
 | 0, _ => none
 | n + 1, s => match f s with
  | none => none
  | some (.inl s') => C4 f n s'
  | some (.inr b) => some b
def Ek : Nat := 18446744073709551616
def forL {α S B : Type} (f : Nat → α → S → Option (S ⊕ B)) : Nat → List α → S → Option (S ⊕ B)
 | _, [], s => some (.inl s)
 | k, x :: l, s => match f k x s with
  | none => none
  | some (.inl s') => forL f (k + 1) l s'
  | some (.inr b) => some (.inr b)
def forS {α S : Type} (f : Nat → α → S → Option S) : Nat → List α → S → Option S
 | _, [], s => some s
 | k, x :: l, s => match f k x s with
  | none => none
  | some s' => forS f (k + 1) l s'
def forI {S B : Type} (f : Nat → S → Option (S ⊕ B)) : Nat → Nat → S → Option (S ⊕ B)
 | _, 0, s => some (.inl s)
 | k, n + 1, s => match f k s with
  | none => none
  | some (.inl s') => forI f (k + 1) n s'
  | some (.inr b) => some (.inr b)
def forJ {S : Type} (f : Nat → S → Option S) : Nat → Nat → S → Option S
 | _, 0, s => some s
 | k, n + 1, s => match f k s with
  | none => none
  | some s' => forJ f (k + 1) n s'
structure Arr (α : Type) (n : Nat) where
 l : List α
 h : l.length = n
theorem Arr.ext' {α : Type} {n : Nat} {a b : Arr α n} (h : a.l = b.l) : a = b := by cases a; cases b; cases h; rfl
instance {α : Type} {n : Nat} [DecidableEq α] : DecidableEq (Arr α n) := fun a b => if h : a.l = b.l then .isTrue (Arr.ext' h) else .isFalse (fun h' => h (by rw [h']))
instance {α : Type} {n : Nat} [Inhabited α] : Inhabited (Arr α n) := ⟨⟨List.replicate n default, by simp⟩⟩
def Arr.set {α : Type} {n : Nat} (a : Arr α n) (i : Nat) (x : α) : Arr α n := ⟨a.l.set i x, by simp [a.h]⟩
def Ck {α : Type} (n : Nat) (x : α) : Arr α n := ⟨List.replicate n x, by simp⟩
theorem E5 {α : Type} {f : α → T} {l : List α} {post : List T} {i : Nat} {x : α} (h : l[i]? = some x) : (l.map f ++ post)[i]? = some (f x) := by
 have G := (gs h).1
 rw [List.getElem?_append_left (by simpa using G)]; simp [h]
theorem Ed {G post : List T} {k i : Nat} {x : T} (M : G.length = k) (h : post[i]? = some x) : (G ++ post)[k + i]? = some x := by
 subst M; rw [List.getElem?_append_right (by omega)]; simpa using h
theorem I8 {α : Type} {f : α → T} {l : List α} {post : List T} {i : Nat} {y : α} (hi : i < l.length) : E3 (l.map f ++ post) i [f y] = (l.set i y).map f ++ post := by
 induction l generalizing i with
 | nil => simp at hi
 | cons a l ih =>
  cases i with
  | zero =>
   simp only [List.map_cons, List.cons_append, E3, List.set_cons_zero]
   cases h : (l.map f ++ post) <;> rfl
  | succ i => simp only [List.map_cons, List.cons_append, E3, List.set_cons_succ]; rw [ih (by simpa using hi)]
theorem Gu {G post post' : List T} {k i : Nat} {cs : List T} (M : G.length = k) (h : E3 post i cs = post') : E3 (G ++ post) (k + i) cs = G ++ post' := by
 subst M
 induction G with
 | nil => simpa using h
 | cons a l ih => simp only [List.cons_append, List.length_cons, Nat.add_right_comm, E3]; rw [ih]
section
variable {E : Env} {n : Nat} {C : Ctx} {s : Au} {ob : List Ob} {Q : Exit → St → Prop} {ops : Array Oper} {R : St → Prop}
theorem Ghost.pick (ks : List Nat) {K : List Ob} (hK : Cv ob ks = some K) (hn : ks.Nodup) : Ghost n C s ob s K := by
 intro H a w Y
 obtain ⟨p1, p2⟩ := Gl hK
 have G : ∀ (i : Nat) (p : Ob), K[i]? = some p → ∃ k, ks[i]? = some k ∧ ob[k]? = some p := by
  intro i p M
  have hil := (gs M).1
  obtain ⟨o, Z, h2⟩ := p2 i ks[i] (gq (by omega))
  rw [M] at h2
  cases h2
  exact ⟨_, gq (by omega), Z⟩
 have O : ∀ p, p ∈ K → p ∈ ob := fun p W => by
  obtain ⟨i, M⟩ := List.mem_iff_getElem?.1 W
  obtain ⟨k, _, h⟩ := G i p M
  exact mg h
 have hl := C6.1 Y.nodup
 refine ⟨H, fun _ _ h => h, { Y with objs := fun p W => Y.objs p (O p W), free := fun p W => Y.free p (O p W), new := fun p W => Y.new p (O p W), nodup := ?_ }⟩
 refine C6.2 ⟨fun i p M => ?_, fun i j p q M hj hne b hb => ?_⟩
 ·obtain ⟨k, _, h⟩ := G i p M
  exact hl.1 k p h
 ·obtain ⟨k, Z, h2⟩ := G i p M
  obtain ⟨k', h3, h4⟩ := G j q hj
  refine hl.2 k k' p q h2 h4 (fun he => hne ?_) b hb
  subst he
  exact (List.getElem?_inj (gs Z).1 hn).1 (Z.trans h3.symm)
theorem Ghost.slots {s' : Au} (h : ∀ (H : GH) (a : Act) (w : World), Gam n C ⟨s, ob⟩ H a w → ∀ i x, get s' i = some x → VR H (a.tmps.getD i undef) x) : Ghost n C s ob s' ob := fun H a w G =>
 ⟨H, fun _ _ h => h, { G with slots := h H a w G }⟩
theorem Ap {so : Au} {M : List Nat} {G : List Ob} {σ : St} (h : AO E n C ops [] σ R) : AP E n C ops M G .nil so σ R := fun _ _ H a w _ _ _ _ _ O => h H a w O
theorem Fz {pl : PL} {so : Au} {prot : List Nat} {G : List Ob} {s' : Au} {ob' : List Ob} (h : Ghost n C s ob s' ob') (hp : prot.map (fun i => ob'[i]?) = prot.map (fun i => ob[i]?))
  (k : AP E n C ops prot G pl so ⟨s', ob'⟩ R) : AP E n C ops prot G pl so ⟨s, ob⟩ R := by
 intro Hs ws H a w sr wr Z hH W gm
 obtain ⟨H', h1, g⟩ := h H a w gm
 refine k Hs ws H' a w sr wr Z (fun b o hb => h1 _ _ (hH _ _ hb)) (fun p O => ?_) g
 obtain ⟨i, Y, he⟩ := W p O
 have M : i ∈ prot := by simpa using Y
 have : ob'[i]? = ob[i]? := List.map_inj_left.1 hp i M
 exact ⟨i, Y, this.trans he⟩
theorem Ix {pl : PL} {so : Au} {M : List Nat} {G : List Ob} (d : Nat) (k : AP E n C ops M G pl (tS so (some d)) ⟨s, ob⟩ R) : AP E n C ops M G pl so ⟨s, ob⟩ R :=
 fun Hs ws H a w O wr W Z hp Y => k Hs ws H a w ⟨O.size, fun i x h => O.slots i x (Ht h).2⟩ wr W Z hp Y
theorem A9 {pl : PL} {so : Au} {M : List Nat} {G : List Ob} {b c : Bool} (t : Nat) (hs : get s t = some (.v (.bool b))) (hb : b = c) (k : AP E n C ops M G pl so ⟨(t, .v (.bool c)) :: s, ob⟩ R) : AP E n C ops M G pl so ⟨s, ob⟩ R := by
 intro Hs ws H a w sr wr O Y Z W
 subst hb
 exact k Hs ws H a w sr wr O Y Z (W.same hs)
theorem Bf {o : Oper} {x : T} (hy : Yd E.P n s ob o x) (W : ∀ O, o.dst = some O → O < n) (k : R ⟨Fb s o.dst x, ob⟩) : AX E n C [] o ⟨s, ob⟩ R := by
 intro H a w M
 obtain ⟨v, Z, G⟩ := hy H a w M.sr M.wr
 simp only [Oper.wp, G w ⟨M.held, fun _ _ _ _ => rfl⟩, Oper.upon]
 refine ⟨_, H, v, k, ?_, rfl, fun _ _ h => h, fun i p Y _ => ⟨Y, by intros; trivial⟩⟩
 have := M.put Z W
 cases h : o.dst <;> simpa [St.put, Fb, h] using this
theorem Le {H : GH} {a : Act} {j : Nat} {t : Tmp} (r : SR n s H a) (M : (ops[j]?).bind (·.dst) = some t) (O : get s t = some (.v undef)) : yielded ops a.tmps j = none := by
 have G := (r.slots t _ O).v_eq
 simp only [yielded, M, Option.bind_some]
 rw [Array.getD_eq_getD_getElem?] at G
 cases h : a.tmps[t]? with
 | none => rfl
 | some x => rw [h] at G; simp only [Option.getD_some] at G; subst G; rfl
theorem C3 {d : Option Nat} {op : Op} {ty : TypeId} {pos : String} {aft : Array Edge} {l : List Oper} {j : Nat} {G : Bool} {t : Tmp}
  (Y : (ops[j]?).bind (·.dst) = some t) (Z : get s t = some (.v undef)) (W : ∀ M, d = some M → M < n) (k : AO E n C ops l ⟨Fb s d (.v undef), ob⟩ R) : AO E n C ops (⟨d, op, ty, pos, aft, some (j, G)⟩ :: l) ⟨s, ob⟩ R := by
 intro H a w O
 simp only [Z2]
 rw [if_neg (by simp [Region.wanted, Le O.sr Y Z])]
 have := O.put (dst := d) (v := undef) (x := .v undef) (.v _) W
 cases d <;> exact k H _ w this
theorem As {M : List Nat} {G : List Ob} {so : Au} {i : Nat} {r : PL} {o : Oper} {j : Nat} {O : Bool} {t : Tmp} (ho : ops[i]? = some o)
  (hg : o.guard = some (j, O)) (hj : (ops[j]?).bind (·.dst) = some t) (hs : get s t = some (.v undef)) (hd : ∀ d, o.dst = some d → d < n)
  (k : AP E n C ops M G r so (St.put ⟨s, ob⟩ o.dst (.v undef)) R) (hf : free so o.dst = true := by rfl) : AP E n C ops M G (.still i r) so ⟨s, ob⟩ R := by
 intro Hs ws H a w sr wr W Z hp Y
 have hw : Region.wanted o (yielded ops a.tmps) = false := by simp [Region.wanted, hg, Le Y.sr hj hs]
 have hk := k Hs ws H _ w (sr.free o.dst undef hf) wr W Z (by cases h : o.dst <;> simpa [St.put, h] using hp) (Y.put (.v undef) hd)
 exact ⟨o, undef, ho, .inr ⟨hw, rfl⟩, W, hk⟩
theorem L9 {c : Code} (t : Nat) {sz : Nat} {es : List (List T)} (M : get s t = some (.list sz es)) (k : es.length ≤ 140737488355328 → AW E n C c ⟨s, ob⟩ Q) : AW E n C c ⟨s, ob⟩ Q :=
 fun H a w G => k (G.slots _ _ M).list_max H a w G
theorem oI {c : Code} (k : Nat) {v : Value} {tt sz : Nat} {es : List (List T)} (O : ob[k]? = some (.us v tt sz es)) (W : es.length ≤ 140737488355328 → AW E n C c ⟨s, ob⟩ Q) : AW E n C c ⟨s, ob⟩ Q := by
 intro H a w M
 have G : UsR H w v tt sz es := M.objs _ (mg O)
 refine W ?_ H a w M
 rcases G with ⟨_, rfl⟩ | ⟨_, _, _, _, _, _, _, _, _, _, h, _⟩
 ·simp
 ·exact h
theorem jO {c : Code} (k : Nat) {v : Value} {tt tyi szi : Nat} {vs : List Value} {L : List (Option (List (List T)))} (Y : ob[k]? = some (.uss v tt tyi szi vs L)) (Z : L.length ≤ 140737488355328 → AW E n C c ⟨s, ob⟩ Q) : AW E n C c ⟨s, ob⟩ Q := by
 intro H a w M
 have G : OR H w (.uss v tt tyi szi vs L) := M.objs _ (mg Y)
 refine Z ?_ H a w M
 obtain ⟨O, W, _⟩ := G
 rcases W with ⟨_, h⟩ | ⟨_, _, _, _, _, _, _, _, _, _, h, _⟩
 ·have : vs = [] := by simpa using h
  rw [← O, this]; simp
 ·rw [← O]; simpa [Ky] using h
theorem Cg {α : Type} {f : α → List T} {l : List α} {c : Code} (t : Nat) {sz : Nat} (G : get s t = some (.list sz (l.map f))) (k : l.length ≤ 9223372036854775806 → AW E n C c ⟨s, ob⟩ Q) : AW E n C c ⟨s, ob⟩ Q :=
 L9 t G fun h => k (by rw [List.length_map] at h; omega)
theorem Pl {α : Type} {f : α → List T} {l : List α} {c : Code} (k : Nat) {v : Value} {tt sz : Nat} (G : ob[k]? = some (.us v tt sz (l.map f))) (M : l.length ≤ 9223372036854775806 → AW E n C c ⟨s, ob⟩ Q) : AW E n C c ⟨s, ob⟩ Q :=
 oI k G fun h => M (by rw [List.length_map] at h; omega)
theorem kL {α : Type} {f : α → Option (List (List T))} {l : List α} {c : Code} (k : Nat) {v : Value} {tt tyi szi : Nat} {vs : List Value} (G : ob[k]? = some (.uss v tt tyi szi vs (l.map f))) (M : l.length ≤ 9223372036854775806 → AW E n C c ⟨s, ob⟩ Q) : AW E n C c ⟨s, ob⟩ Q :=
 jO k G fun h => M (by rw [List.length_map] at h; omega)
theorem Cr {k m : Nat} (h : k < m) : decide ((k : Int) < (m : Int)) = true := decide_eq_true (by omega)
theorem Cs (m : Nat) : decide (((m : Nat) : Int) < (m : Int)) = false := by simp
def tU (Q : Exit → St → Prop) : Exit → St → Prop
 | .goto _, _ => False
 | e, σ => Q e σ
theorem AW.scope {c : Code} {σ : St} (h : AW E n C c σ (tU Q)) : AW E n C (.scope c) σ Q := fun H a w g =>
 Ni (Iv (h H a w g) fun e a' w' ⟨σ', H', q, G⟩ => by
  cases e <;> first | exact ⟨σ', H', q, G⟩ | exact q.elim)
def Left (s' : Au) (ob' : List Ob) (σ : St) : Prop := Sub s' σ.slots ∧ ∃ ks, Cv σ.objs ks = some ob' ∧ ks.Nodup
theorem Left.ghost {s' : Au} {ob' : List Ob} {σ : St} (h : Left s' ob' σ) : Ghost n C σ.slots σ.objs s' ob' := by
 obtain ⟨G, W, M, O⟩ := h
 exact (Ghost.pick W M O).trans (Ghost.weaken G (List.Sublist.refl _))
theorem Cx {c : Code} {s' : Au} {ob' : List Ob} {σ : St} (h : Left s' ob' σ) (k : AW E n C c ⟨s', ob'⟩ Q) : AW E n C c σ Q := uF h.ghost k
theorem Aj {x y : Code} (M : Au → List Ob → Prop) (ks : Au) (W : Sub ks s)
  (h : AW E n C x ⟨s, ob⟩ (Kz (fun σ' => ∃ s' ob', M s' ob' ∧ Left (s' ++ ks) ob' σ') Q)) (k : ∀ s' ob', M s' ob' → AW E n C y ⟨s' ++ ks, ob'⟩ Q) : AW E n C (.seq x y) ⟨s, ob⟩ Q :=
 lJ _ h (fun _ ⟨_, _, G, O⟩ => Cx O (k _ _ G))
theorem Ab {x y : Code} {σ : St} (h : ∀ G, G = y → AW E n C x σ (Kz (fun σ' => AW E n C G σ' Q) Q)) : AW E n C (.seq x y) σ Q := uD (h y rfl)
@[reducible] def tL {α β : Type} (o : Option α) (a : β) (f : α → β) : β := match o with
 | none => a
 | some x => f x
theorem tF {α β : Type} {o : Option α} {a r : β} {f : α → β} (G : o = none) (h : tL o a f = r) : a = r := by subst G; exact h
theorem tE {α β : Type} {o : Option α} {x : α} {a r : β} {f : α → β} (G : o = some x) (h : tL o a f = r) : f x = r := by subst G; exact h
@[reducible] def rJ {α : Type} (o : Option α) (A : Prop) (B : α → Prop) : Prop := match o with
 | none => A
 | some x => B x
theorem Z1 {α : Type} {o : Option α} {f : FuncId} {xs : List T} {fp : List Ob} {A : T → List Ob → Prop} {B : T → List Ob → α → Prop} (G : o = none) (h : ACalls E f xs fp (fun x new => rJ o (A x new) (fun l => B x new l))) : ACalls E f xs fp A := h.mono fun x new M => by subst G; exact M
theorem Z0 {α : Type} {o : Option α} {f : FuncId} {xs : List T} {fp : List Ob} {A : T → List Ob → Prop} {B : T → List Ob → α → Prop} {x : α} (G : o = some x) (h : ACalls E f xs fp (fun x new => rJ o (A x new) (fun l => B x new l))) : ACalls E f xs fp (fun y new => B y new x) := h.mono fun x new M => by subst G; exact M
theorem M2 {c : Code} (J : Nat → Au → List Ob → Prop) {m : Nat} {W : Au} {G : List Ob} (Y : J m W G) (hs : Left W G ⟨s, ob⟩)
  (M : ∀ m s ob, J m s ob → AW E n C c ⟨s, ob⟩ (Kz (fun σ' => ∃ O s' ob', O < m ∧ J O s' ob' ∧ Left s' ob' σ') Q)) : AW E n C (.loop c) ⟨s, ob⟩ Q := by
 refine AW.loop (fun m σ => ∃ s' ob', J m s' ob' ∧ Left s' ob' σ) (m := m) ⟨W, G, Y, hs⟩ ?_
 rintro m σ ⟨s', ob', hJ, Z⟩
 refine Cx Z (AW.mono (M m s' ob' hJ) ?_)
 intro e σ' q
 cases e with
 | normal => obtain ⟨O, s', ob', q1, q2, q3⟩ := q; exact ⟨O, q1, s', ob', q2, q3⟩
 | _ => exact q
theorem Uj {M ks : Au} {G : List Ob} (h1 : Sub M s) (h2 : Sub ks s) (O : ∃ p, Cv ob p = some G ∧ p.Nodup) : Left (M ++ ks) G ⟨s, ob⟩ := ⟨Sub.append h1 h2, O⟩
theorem Ci {c : Code} {S B : Type} {f : S → Option (S ⊕ B)} {M : Nat} {st0 : S} {b : B} (h : C4 f M st0 = some b) (ks : Au) (hk : Sub ks s) (Φ : S → Au → List Ob → Prop) {s0 : Au} {Z : List Ob} (h0 : Φ st0 s0 Z) (hs : Sub s0 s) (ho : ∃ p, Cv ob p = some Z ∧ p.Nodup)
  (Y : ∀ (st : S) (r : S ⊕ B) s ob, Φ st s ob → f st = some r → (∀ b', r = .inr b' → b' = b) →
   AW E n C c ⟨s ++ ks, ob⟩ (Kz (fun σ' => ∃ G s' ob', r = .inl G ∧ Φ G s' ob' ∧ Left (s' ++ ks) ob' σ') Q)) : AW E n C (.loop c) ⟨s, ob⟩ Q := by
 refine M2 (fun m s1 W => ∃ st s', Φ st s' W ∧ C4 f m st = some b ∧ s1 = s' ++ ks) (m := M) ⟨st0, s0, h0, h, rfl⟩ (Uj hs hk ho) ?_
 rintro m s1 W ⟨st, s', hΦ, O, rfl⟩
 cases m with
 | zero => simp [C4] at O
 | succ m =>
  simp only [C4] at O
  cases hf : f st with
  | none => rw [hf] at O; cases O
  | some r =>
   rw [hf] at O
   refine AW.mono (Y st r s' W hΦ hf (fun b' hb => ?_)) ?_
   ·subst hb; simpa using O
   ·intro e σ' q
    cases e with
    | normal =>
     obtain ⟨G, s'', ob', rfl, q2, q3⟩ := q
     exact ⟨m, _, ob', Nat.lt_succ_self m, ⟨G, s'', q2, O, rfl⟩, q3⟩
    | _ => exact q
theorem dE {α S B : Type} {f : Nat → α → S → Option (S ⊕ B)} {l : List α} {k : Nat} {x : α} (G : l[k]? = some x) (st : S) : forL f k (l.drop k) st = (match f k x st with
  | none => none
  | some (.inl s') => forL f (k + 1) (l.drop (k + 1)) s'
  | some (.inr b) => some (.inr b)) := by
 have M := (gs G).1
 have O : l[k] = x := by rw [gq M] at G; cases G; rfl
 rw [List.drop_eq_getElem_cons M, O]; rfl
theorem Cj {c : Code} {α S B : Type} {f : Nat → α → S → Option (S ⊕ B)} {l : List α} {st0 : S} {o : S ⊕ B} (h : forL f 0 l st0 = some o) (ks : Au) (hk : Sub ks s) (Φ : Nat → S → Au → List Ob → Prop) {s0 : Au} {Z : List Ob} (h0 : Φ 0 st0 s0 Z) (hs : Sub s0 s) (ho : ∃ p, Cv ob p = some Z ∧ p.Nodup)
  (Y : ∀ (k : Nat) (x : α) (st : S) (r : S ⊕ B) s ob, l[k]? = some x → k < l.length → Φ k st s ob → f k x st = some r → (∀ b', r = .inr b' → .inr b' = o) →
   AW E n C c ⟨s ++ ks, ob⟩ (Kz (fun σ' => ∃ O s' ob', r = .inl O ∧ Φ (k + 1) O s' ob' ∧ Left (s' ++ ks) ob' σ') Q))
  (fin : ∀ (st : S) s ob, Φ l.length st s ob → .inl st = o → AW E n C c ⟨s ++ ks, ob⟩ (Kz (fun _ => False) Q)) : AW E n C (.loop c) ⟨s, ob⟩ Q := by
 refine M2 (fun m s1 M => ∃ k st s', k + m = l.length ∧ Φ k st s' M ∧ forL f k (l.drop k) st = some o ∧ s1 = s' ++ ks) (m := l.length) ⟨0, st0, s0, by simp, h0, h, rfl⟩ (Uj hs hk ho) ?_
 rintro m s1 M ⟨k, st, s', hm, hΦ, G, rfl⟩
 rcases Nat.lt_or_ge k l.length with W | W
 ·have hx : l[k]? = some l[k] := gq W
  rw [dE hx] at G
  cases hf : f k l[k] st with
  | none => rw [hf] at G; cases G
  | some r =>
   rw [hf] at G
   refine AW.mono (Y k _ st r s' M hx W hΦ hf (fun b' hb => ?_)) ?_
   ·subst hb; simpa using G
   ·intro e σ' q
    cases e with
    | normal =>
     obtain ⟨O, s'', ob', rfl, q2, q3⟩ := q
     exact ⟨m - 1, _, ob', by omega, ⟨k + 1, O, s'', by omega, q2, G, rfl⟩, q3⟩
    | _ => exact q
 ·have : k = l.length := by omega
  subst this
  rw [List.drop_length] at G
  simp only [forL, Option.some.injEq] at G
  refine AW.mono (fin st s' M hΦ G) ?_
  intro e σ' q
  cases e with
  | normal => exact q.elim
  | _ => exact q
theorem aF {α S : Type} {f : Nat → α → S → Option S} : ∀ (l : List α) (k : Nat) (st : S) (o : S), forS f k l st = some o → forL (B := Empty) (fun k x s => (f k x s).map .inl) k l st = some (.inl o)
 | [], _, _, o, h => by simp only [forS, Option.some.injEq] at h; subst h; rfl
 | x :: l, k, st, o, h => by
  simp only [forS] at h
  simp only [forL]
  cases hf : f k x st with
  | none => rw [hf] at h; cases h
  | some s' => rw [hf] at h; simpa using aF l (k + 1) s' o h
theorem Cl {c : Code} {α S : Type} {f : Nat → α → S → Option S} {l : List α} {st0 : S} {o : S} (h : forS f 0 l st0 = some o) (ks : Au) (hk : Sub ks s) (Φ : Nat → S → Au → List Ob → Prop) {s0 : Au} {M : List Ob} (h0 : Φ 0 st0 s0 M) (hs : Sub s0 s) (ho : ∃ p, Cv ob p = some M ∧ p.Nodup)
  (G : ∀ (k : Nat) (x : α) (st : S) (r : S) s ob, l[k]? = some x → k < l.length → Φ k st s ob → f k x st = some r →
   AW E n C c ⟨s ++ ks, ob⟩ (Kz (fun σ' => ∃ s' ob', Φ (k + 1) r s' ob' ∧ Left (s' ++ ks) ob' σ') Q))
  (O : ∀ (st : S) s ob, Φ l.length st s ob → st = o → AW E n C c ⟨s ++ ks, ob⟩ (Kz (fun _ => False) Q)) : AW E n C (.loop c) ⟨s, ob⟩ Q := by
 refine Cj (aF l 0 st0 o h) ks hk Φ h0 hs ho ?_ ?_
 ·intro k x st r s ob hx W Z hr _
  obtain ⟨r', Y, rfl⟩ := Option.map_eq_some_iff.1 hr
  refine AW.mono (G k x st r' s ob hx W Z Y) ?_
  intro e σ' q
  cases e with
  | normal => obtain ⟨s', ob', q1, q2⟩ := q; exact ⟨r', s', ob', rfl, q1, q2⟩
  | _ => exact q
 ·intro st s ob Z he
  exact O st s ob Z (by injection he)
theorem kY {S B : Type} {f : Nat → S → Option (S ⊕ B)} : ∀ (m k : Nat) (st : S), forI f k m st = forL (fun k (_ : Unit) s => f k s) k (List.replicate m ()) st
 | 0, _, _ => rfl
 | m + 1, k, st => by
  simp only [forI, List.replicate_succ, forL]
  cases f k st with
  | none => rfl
  | some r => cases r with
   | inl s' => exact kY m (k + 1) s'
   | inr b => rfl
theorem Gj {c : Code} {S B : Type} {f : Nat → S → Option (S ⊕ B)} {m : Nat} {st0 : S} {o : S ⊕ B} (h : forI f 0 m st0 = some o) (ks : Au) (hk : Sub ks s) (Φ : Nat → S → Au → List Ob → Prop) {s0 : Au} {M : List Ob} (h0 : Φ 0 st0 s0 M) (hs : Sub s0 s) (ho : ∃ p, Cv ob p = some M ∧ p.Nodup)
  (G : ∀ (k : Nat) (st : S) (r : S ⊕ B) s ob, k < m → Φ k st s ob → f k st = some r → (∀ Z, r = .inr Z → .inr Z = o) →
   AW E n C c ⟨s ++ ks, ob⟩ (Kz (fun σ' => ∃ O s' ob', r = .inl O ∧ Φ (k + 1) O s' ob' ∧ Left (s' ++ ks) ob' σ') Q))
  (W : ∀ (st : S) s ob, Φ m st s ob → .inl st = o → AW E n C c ⟨s ++ ks, ob⟩ (Kz (fun _ => False) Q)) : AW E n C (.loop c) ⟨s, ob⟩ Q := by
 rw [kY] at h
 exact Cj h ks hk Φ h0 hs ho (fun k _ st r s ob _ Y => G k st r s ob (by simpa using Y)) (fun st s ob hΦ he => W st s ob (by simpa using hΦ) he)
theorem kX {S : Type} {f : Nat → S → Option S} : ∀ (m k : Nat) (st : S) (o : S), forJ f k m st = some o → forI (B := Empty) (fun k s => (f k s).map .inl) k m st = some (.inl o)
 | 0, _, _, o, h => by simp only [forJ, Option.some.injEq] at h; subst h; rfl
 | m + 1, k, st, o, h => by
  simp only [forJ] at h
  simp only [forI]
  cases hf : f k st with
  | none => rw [hf] at h; cases h
  | some s' => rw [hf] at h; simpa using kX m (k + 1) s' o h
theorem Eo {c : Code} {S : Type} {f : Nat → S → Option S} {m : Nat} {st0 : S} {o : S} (h : forJ f 0 m st0 = some o) (ks : Au) (hk : Sub ks s) (Φ : Nat → S → Au → List Ob → Prop) {s0 : Au} {M : List Ob} (h0 : Φ 0 st0 s0 M) (hs : Sub s0 s) (ho : ∃ p, Cv ob p = some M ∧ p.Nodup)
  (G : ∀ (k : Nat) (st : S) (r : S) s ob, k < m → Φ k st s ob → f k st = some r →
   AW E n C c ⟨s ++ ks, ob⟩ (Kz (fun σ' => ∃ s' ob', Φ (k + 1) r s' ob' ∧ Left (s' ++ ks) ob' σ') Q))
  (O : ∀ (st : S) s ob, Φ m st s ob → st = o → AW E n C c ⟨s ++ ks, ob⟩ (Kz (fun _ => False) Q)) : AW E n C (.loop c) ⟨s, ob⟩ Q := by
 refine Gj (kX m 0 st0 o h) ks hk Φ h0 hs ho ?_ ?_
 ·intro k st r s ob W Z hr _
  obtain ⟨r', Y, rfl⟩ := Option.map_eq_some_iff.1 hr
  refine AW.mono (G k st r' s ob W Z Y) ?_
  intro e σ' q
  cases e with
  | normal => obtain ⟨s', ob', q1, q2⟩ := q; exact ⟨r', s', ob', rfl, q1, q2⟩
  | _ => exact q
 ·intro st s ob Z he
  exact O st s ob Z (by injection he)
def E8 (k : Nat) (Rc : T → List Ob → List Ob → Prop) (x : T) (fp' : List Ob) : Prop := ∃ os new, fp' = os ++ new ∧ os.length = k ∧ Rc x os new
theorem A6 {k m : Nat} (h : k < m) (G : m ≤ 9223372036854775806) : IntKind.i64.wrap ((k : Int) + 1) = ((k + 1 : Nat) : Int) := by
 rw [tQ (by omega)]; omega
section typed
variable {dst : Option Tmp} {ty : TypeId} {pos : String} {aft : Array Edge} {g : Option (Nat × Bool)} {α : Type} {f : α → List T}
def rI (x : Int) : List T := [.v (.int .i64 x)]
def rK (k : IntKind) (x : Int) : List T := [.v (.int k x)]
def rB (x : Bool) : List T := [.v (.bool x)]
def rS (x : ByteArray) : List T := [.v (.string x)]
def rL {α : Type} (sz : Nat) (f : α → List T) (l : List α) : List T := [.list sz (l.map f)]
def cI (x : Int) : T := .v (.int .i64 x)
def cS (x : ByteArray) : T := .v (.string x)
def cL {α : Type} (sz : Nat) (f : α → List T) (l : List α) : T := .list sz (l.map f)
theorem P7 {x : Operand} {t : TypeId} {sz : Nat} {l : List α} {ti : TI} {e : Nat} (M : E.tab t = some ti) (G : ti.kind = .slice e) (O : A7 s x = some (.list sz (l.map f))) :
  Yp E.P n s ⟨dst, .call { callee := .builtin .len, args := #[x], argTypes := #[t] }, ty, pos, aft, g⟩ (.v (.int .i64 (l.length : Int))) := by
 have := Tm (E := E) (n := n) (dst := dst) (ty := ty) (pos := pos) (aft := aft) (g := g) M G O
 rwa [List.length_map] at this
theorem Bp (k : Nat) {x : Operand} {t : TypeId} {objs : List Ob} {v : Value} {tt sz : Nat} {l : List α} {ti : TI} {e : Nat} (O : E.tab t = some ti) (G : ti.kind = .slice e) (W : A7 s x = some (.v v))
  (M : objs[k]? = some (.us v tt sz (l.map f))) : Yd E.P n s objs ⟨dst, .call { callee := .builtin .len, args := #[x], argTypes := #[t] }, ty, pos, aft, g⟩ (.v (.int .i64 (l.length : Int))) := by
 have := dO (E := E) (n := n) (dst := dst) (ty := ty) (pos := pos) (aft := aft) (g := g) k O G W M
 rwa [List.length_map] at this
theorem Dx {t : TypeId} {x y : Operand} {k : IntKind} {i : Int} {m : Nat} {b off len : Nat} {ti M : TI} {G : Nat}
  (Y : E.tab t = some ti) (O : ti.kind = .array len G) (hel : E.tab G = some M) (h1 : M.size = 1)
  (Z : A7 s x = some (.v (.pointer (some ⟨b, off, none⟩)))) (hy : A7 s y = some (.v (.int k i))) (hi : i = (m : Int)) (W : m < len) :
  Yp E.P n s ⟨dst, .indexAddr t x y, ty, pos, aft, g⟩ (.v (.pointer (some ⟨b, off + m, none⟩))) := by
 have := Dw (E := E) (n := n) (dst := dst) (ty := ty) (pos := pos) (aft := aft) (g := g) Y O hel Z hy hi W
 rwa [h1, Nat.mul_one] at this
theorem C7 {t : TypeId} {x y : Operand} {b : ByteArray} {k : IntKind} {i c : Int} {m : Nat} {ti : TI} (O : E.tab t = some ti) (G : ti.kind = .string) (W : A7 s x = some (.v (.string b)))
  (Y : A7 s y = some (.v (.int k i))) (hi : i = (m : Int)) (M : m < b.size) (hc : ((b.data.getD m 0).toNat : Int) = c) : Yp E.P n s ⟨dst, .index t x y, ty, pos, aft, g⟩ (.v (.int .u8 c)) :=
 hc ▸ Zq O G W Y hi M
theorem Zf {t O : TypeId} {x y : Operand} {a b r : ByteArray} (G : A7 s x = some (.v (.string a))) (M : A7 s y = some (.v (.string b)))
  (hc : a.size + b.size < 9223372036854775807 ∧ a ++ b = r) : Yp E.P n s ⟨dst, .binOp .add t x y O, ty, pos, aft, g⟩ (.v (.string r)) := hc.2 ▸ qB G M hc.1
theorem L6 (k : Nat) {β : Type} {x : Operand} {t : TypeId} {objs : List Ob} {v : Value} {tt tyi szi : Nat} {vs : List Value} {l : List β} {G : β → Option (List (List T))} {ti : TI} {e : Nat} (W : E.tab t = some ti) (M : ti.kind = .slice e) (Y : A7 s x = some (.v v))
  (O : objs[k]? = some (.uss v tt tyi szi vs (l.map G))) : Yd E.P n s objs ⟨dst, .call { callee := .builtin .len, args := #[x], argTypes := #[t] }, ty, pos, aft, g⟩ (.v (.int .i64 (l.length : Int))) := by
 have := fA (E := E) (n := n) (dst := dst) (ty := ty) (pos := pos) (aft := aft) (g := g) k W M Y O
 rwa [List.length_map] at this
theorem Uq {objs : List Ob} (k : Nat) {v : Value} {tt tyi szi : Nat} {vs : List Value} {l : List (List α)} (h : objs[k]? = some (.uss v tt tyi szi vs (l.map fun x => some (x.map f)))) : Lend objs (.v v) (.list 1 (l.map (rL szi f))) := by
 refine Lend.uss k (ty := tt) (tyi := tyi) (szi := szi) (vs := vs) (L := l.map fun x => x.map f) ?_ ?_
 ·rw [h, List.map_map]; rfl
 ·simp [Gg, List.map_map, rL, Function.comp_def]
theorem Wa {β γ : Type} {l : List β} {G : β → γ} {m : Nat} {x : β} (h : l[m]? = some x) : m < (l.map G).length := by rw [List.length_map]; exact (gs h).1
theorem Hc {β γ : Type} {l : List β} {G : β → Option γ} {m k : Nat} {x : β} (h : l[m]? = some x) : m < ((l.map G).set k none).length := by rw [List.length_set, List.length_map]; exact (gs h).1
theorem Mw {β γ : Type} {l : List β} {G : β → Option γ} {m : Nat} {x : β} (h : l[m]? = some x) : ((l.map G).set m none)[m]? = some none := by
 rw [List.getElem?_set_self]; rw [List.length_map]; exact (gs h).1
theorem Nd (k m tyi szi : Nat) {v : Value} {tt : Nat} {r : List (List α)} (M : List.replicate m [] = r) (G : ob[k]? = some (.us v tt 1 (List.replicate m [.v (.slice none 0 0)]))) :
  Ghost n C s ob s (ob.set k (.uss v tt tyi szi (List.replicate m (.slice none 0 0)) (r.map fun x => some (x.map f)))) := by
 have := Zv (n := n) (C := C) (s := s) k m tyi szi G
 rw [← M, List.map_replicate]; exact this
theorem Zr {H : GH} {w : World} {v : Value} {tt szi m : Nat} (h : UsR H w v tt 1 (List.replicate m [.v (.slice none 0 0)])) : UsR H w v tt 1 (List.replicate m [.list szi []]) := by
 rcases h with ⟨O, W⟩ | ⟨b, c, M, O, W, h3, cs, Z, a2, a3, a4, a5, a6⟩
 ·exact .inl ⟨O, by cases m with | zero => rfl | succ m => simp [List.replicate_succ] at W⟩
 ·refine .inr ⟨b, c, M, by simpa using O, by simpa using W, h3, cs, Z, a2, by simpa using a3, by simpa using a4, fun i e G => ?_, fun i e G j x Y => ?_⟩
  ·rw [List.getElem?_replicate] at G; split at G <;> cases G; rfl
  ·rw [List.getElem?_replicate] at G
   split at G
   ·rename_i hi
    cases G
    cases j with
    | zero =>
     simp at Y; subst Y
     have := a6 i [.v (.slice none 0 0)] (by rw [List.getElem?_replicate, if_pos hi]) 0 _ rfl
     refine ⟨this.1, ?_⟩
     rw [this.2.v_eq]; exact .empty _ _ _
    | succ j => simp at Y
   ·cases G
theorem Dp (k m szi : Nat) {v : Value} {tt : Nat} {r : List (List α)} (M : List.replicate m [] = r) (G : ob[k]? = some (.us v tt 1 (List.replicate m [.v (.slice none 0 0)]))) :
  Ghost n C s ob s (ob.set k (.us v tt 1 (r.map (rL szi f)))) := by
 refine Nf k G (fun H w h => ?_) rfl
 rw [← M, List.map_replicate]
 exact Zr h
theorem Ce {l : List α} {m : Nat} {x : α} {e : List T} (h : e = f x) : (l.map f).set m e = (l.set m x).map f := by rw [h, List.map_set]
theorem dL {l m r : List α} (h : l ++ m = r) : l.map f ++ m.map f = r.map f := by rw [← h, List.map_append]
theorem mS {m r : List α} (h : [] ++ m = r) : m.map f = r.map f := by rw [← h]; rfl
theorem dN {l m : List α} (h : l.length + m.length ≤ 68719476736) : (l.map f).length + (m.map f).length ≤ 68719476736 := by simpa using h
theorem mT {m : List α} (h : ([] : List α).length + m.length ≤ 68719476736) : (m.map f).length ≤ 68719476736 := by simpa using h
theorem Mj {m : Nat} {z : α} {r : List α} {G : List T} (h : List.replicate m z = r) (M : G = f z) : List.replicate m G = r.map f := by rw [← h, List.map_replicate, M]
theorem oX {x y : Nat} {l r : List α} (h : (l.drop x).take (y - x) = r) : ((l.map f).drop x).take (y - x) = r.map f := by rw [← h, List.map_take, List.map_drop]
theorem D1 {x y : Operand} {t : TypeId} {k1 k2 : IntKind} {i : Int} {m : Nat} {ti G : TI} {e : Nat} {z : Value} {sz : Nat} {es' : List (List T)}
  (ht : E.tab t = some ti) (hk : ti.kind = .slice e) (he : E.tab e = some G) (hz : G.zero = some z) (h1 : z.cells.toList.all (·.oneCell') = true) (hsz : G.size = sz) (Y : z.cells.size = sz) (O : Nat.ble G.bytes 2048 = true)
  (hx : A7 s x = some (.v (.int k1 i))) (hy : A7 s y = some (.v (.int k2 i))) (hi : i = (m : Int)) (hm : m ≤ 68719476736) (W : List.replicate m (Fg z) = es')
  (Z : ∀ d, dst = some d → d < n) (k : ∀ b, R ⟨Fb s dst (.v b), ob ++ [.us b e sz es']⟩) :
  AX E n C [] ⟨dst, .makeSlice t x y, ty, pos, aft, g⟩ ⟨s, ob⟩ R := by
 subst W
 have M := Nat.le_of_ble_eq_true O
 refine AX.makeSlice ht hk he hz h1 hsz Y hx hy hi (by simp only [Ky]; omega) ?_ Z k
 have h1 : G.bytes * m ≤ 2048 * 68719476736 := Nat.mul_le_mul M hm
 have h2 : ((G.bytes * m : Nat) : Int) = (G.bytes : Int) * (m : Int) := by simp
 omega
theorem P6 {x : Operand} {t : TypeId} {lo hi mx : Option Operand} {sz : Nat} {l r : List α} {ti Y : TI} {e : Nat} (a b m : Nat)
  (ht : E.tab t = some ti) (hk : ti.kind = .slice e) (he : E.tab e = some Y) (hsz : Y.size = sz) (hx : A7 s x = some (.list sz (l.map f)))
  (h1 : Z3 s lo 0 a) (h2 : Z3 s hi l.length b) (W : mx = none) (O : a ≤ b) (Z : b ≤ l.length) (hr : (l.drop a).take (b - a) = r) :
  Yp E.P n s ⟨dst, .slice t x lo hi mx, ty, pos, aft, g⟩ (.list sz (r.map f)) := by
 subst W
 have := eX (E := E) (n := n) (dst := dst) (ty := ty) (pos := pos) (aft := aft) (g := g) (mx := none) a b m ht hk he hsz hx h1 (by rw [List.length_map]; exact h2)
  (fun M G => ⟨M, rfl, by rw [List.length_map] at G; omega, Nat.le_refl _⟩) (fun _ => rfl) O (by rw [List.length_map]; exact Z)
 rwa [oX hr] at this
end typed
theorem Cc {α : Type} {c : Bool} {a b r : α} (hc : c = true) (h : (if c = true then a else b) = r) : a = r := by rw [if_pos hc] at h; exact h
theorem Cd {α : Type} {c : Bool} {a b r : α} (hc : c = false) (h : (if c = true then a else b) = r) : b = r := by rw [if_neg (by simp [hc])] at h; exact h
theorem Dk {α β γ : Type} {f : α → γ} {g : β → γ} {x : α} {r : γ} (h : Sum.elim f g (.inl x) = r) : f x = r := h
theorem Dj {α β γ : Type} {f : α → γ} {g : β → γ} {x : β} {r : γ} (h : Sum.elim f g (.inr x) = r) : g x = r := h
end
section
variable {P : Program} {n : Nat} {s : Au} {dst : Option Tmp} {ty : TypeId} {pos : String} {aft : Array Edge} {g : Option (Nat × Bool)}
end
def jV (P : Program) (t : TypeId) : Bool :=
 match P.underlying t with
 | some (.struct ff) => ff.toList.all (fun f => f.name != "_") && !(P.stoodInHeld t) && !(P.eqGuardType P.depth t)
 | _ => false
def kA (P : Program) (t : TypeId) : Bool := !(P.eqGuardType P.depth t)
def tM (k : K) : T → T → Option Bool
 | .v (.int k1 a), .v (.int k2 b) => match k with | .int _ => (bif decide (k1 = k2) then some (a == b) else none) | _ => none
 | .v (.bool a), .v (.bool b) => match k with | .bool => some (a == b) | _ => none
 | .v (.string a), .v (.string b) => match k with | .string => some (Xz a b) | _ => none
 | _, _ => none
def jW (tab : Nat → Option TI) (cs ds : List T) : List (Nat × Nat) → Option Bool
 | [] => some true
 | (off, t) :: l => match tab t, cs[off]?, ds[off]?, jW tab cs ds l with
  | some ti, some x, some y, some r => match tM ti.kind x y with
   | some b => some (b && r)
   | none => none
  | _, _, _, _ => none
section
variable {E : Env} {n : Nat} {C : Ctx} {s : Au} {ob : List Ob} {R : St → Prop} {dst : Option Tmp} {ty : TypeId} {pos : String} {aft : Array Edge} {g : Option (Nat × Bool)}
theorem lL {P : Program} {t : TypeId} {i : TI} (h : Je P t = some i) (O : i.kind = .bool) : P.underlying t = some .bool := by
 obtain ⟨d, M, G⟩ := Fw h
 rw [O] at G
 cases d <;> simp [K0] at G
 exact M
theorem cQ {P : Program} {t : TypeId} {i : TI} {k : IntKind} (h : Je P t = some i) (O : i.kind = .int k) : P.underlying t = some (.int k) := by
 obtain ⟨d, M, G⟩ := Fw h
 rw [O] at G
 cases d <;> simp [K0] at G
 subst G; exact M
theorem pO {t : TypeId} {ti : TI} (M : E.tab t = some ti) {x y : T} {b : Bool} (h : tM ti.kind x y = some b) {H : GH} {v u : Value} (hv : VR H v x) (O : VR H u y) (d : Nat) (w : World) :
  ti.isAgg = false ∧ (Op.equalIn (d + 1) t v u).run E.P w = .ok b w := by
 unfold tM at h
 split at h
 ·rename_i W a Z Y
  have := hv.v_eq; subst this
  have := O.v_eq; subst this
  split at h
  ·rename_i kk G
   cases hd : decide (W = Z) with
   | false => rw [hd] at h; cases h
   | true =>
    rw [hd] at h
    have := of_decide_eq_true hd
    subst this
    cases h
    exact ⟨by simp [TI.isAgg, G], run_equalIn_int w d t W kk a Y (cQ (E.ok _ _ M) G)⟩
  ·cases h
 ·have := hv.v_eq; subst this
  have := O.v_eq; subst this
  split at h
  ·rename_i G
   cases h
   exact ⟨by simp [TI.isAgg, G], run_equalIn_bool' w d t _ _ (lL (E.ok _ _ M) G)⟩
  ·cases h
 ·have := hv.v_eq; subst this
  have := O.v_eq; subst this
  split at h
  ·rename_i G
   cases h
   exact ⟨by simp [TI.isAgg, G], run_equalIn_string w d t _ _ (G9 (E.ok _ _ M) G)⟩
  ·cases h
 ·cases h
theorem Mq {t : TypeId} {ti : TI} (O : E.tab t = some ti) (G : ti.isAgg = false) {H : GH} {xs : Array Value} {cs : List T} (h : VR H (.agg xs) (.agg cs)) {off : Nat} {x : T} (W : cs[off]? = some x) :
  ∃ v, VR H v x ∧ ∀ w, (part t xs off).run E.P w = .ok v w := by
 have M : Er ti cs off = some x := by simp [Er, G, W]
 exact L3 h (E.ok _ _ O) M
theorem Y7 {H : GH} {xs ys : Array Value} {cs ds : List T} (hx : VR H (.agg xs) (.agg cs)) (hy : VR H (.agg ys) (.agg ds)) (d : Nat) (w : World) : ∀ (M : List Field) (r : Bool), M.all (fun f => f.name != "_") = true →
  jW E.tab cs ds (M.map fun f => (f.offset, f.type)) = some r → (Op.eqFields (d + 1) xs ys M).run E.P w = .ok r w
 | [], r, _, h => by simp only [List.map_nil, jW, Option.some.injEq] at h; subst h; simp [Op.eqFields]
 | f :: M, r, hn, h => by
  simp only [List.all_cons, Bool.and_eq_true] at hn
  simp only [List.map_cons, jW] at h
  split at h
  ·rename_i ti x y r' W h2 h3 h4
   split at h
   ·rename_i b G
    simp only [Option.some.injEq] at h
    subst h
    have O : ti.isAgg = false := by
     unfold tM at G
     unfold TI.isAgg
     cases hk : ti.kind <;> rw [hk] at G <;> first | rfl | (simp at G; split at G <;> simp at G)
    obtain ⟨v, hv, aa⟩ := Mq W O hx h2
    obtain ⟨u, hu, Z⟩ := Mq W O hy h3
    have he := (pO W G hv hu d w).2
    have ih := Y7 hx hy d w M r' hn.2 h4
    have Y : f.name ≠ "_" := by simpa using hn.1
    simp only [Op.eqFields, if_pos Y, Sem.run_bind, aa, Z, Result.andThen_ok, he]
    cases b with
    | true => simpa using ih
    | false => simp
   ·cases h
  ·cases h
theorem eT {P : Program} {t : TypeId} (h : jV P t = true) : ∃ G : Array Field, P.underlying t = some (.struct G) ∧ P.fieldsOf t = G ∧ G.toList.all (fun f => f.name != "_") = true ∧ P.stoodInHeld t = false ∧ P.eqGuardType P.depth t = false := by
 unfold jV at h
 split at h
 ·rename_i G M
  simp only [Bool.and_eq_true, Bool.not_eq_true'] at h
  exact ⟨G, M, by simp [Program.fieldsOf, M], h.1.1, h.1.2, h.2⟩
 ·cases h
theorem Pt {W : BinOp} {t t' : TypeId} {x y : Operand} {ti : TI} {fs : List (Nat × Nat)} {cs ds : List T} {r q : Bool} (ht : E.tab t = some ti) (hk : ti.kind = .struct fs) (he : jV E.P t = true)
  (hx : A7 s x = some (.agg cs)) (hy : A7 s y = some (.agg ds)) (hr : jW E.tab cs ds fs = some r) (hq : (match W with | .eql => some r | .neq => some (!r) | _ => none) = some q) :
  Yp E.P n s ⟨dst, .binOp W t x y t', ty, pos, aft, g⟩ (.v (.bool q)) := by
 intro H A sr
 obtain ⟨ff, Y, Z, h3, h4, h5⟩ := eT he
 obtain ⟨ff', u1, u2⟩ := G8 (E.ok _ _ ht) hk
 rw [Y] at u1
 cases u1
 have vx := sr.eval hx
 have vy := sr.eval hy
 generalize M : A.eval x = a at vx
 generalize O : A.eval y = b at vy
 refine ⟨_, .v _, fun w => ?_⟩
 cases vx with
 | agg xs _ hl1 hc1 hv1 =>
  cases vy with
  | agg ys _ hl2 hc2 hv2 =>
   have hf := Y7 (E := E) (.agg xs cs hl1 hc1 hv1) (.agg ys ds hl2 hc2 hv2) 9998 w ff.toList r h3 (by rw [u2]; exact hr)
   have G : (Op.equalIn 10000 t (.agg xs) (.agg ys)).run E.P w = .ok r w := by
    rw [show (10000 : Nat) = 9999 + 1 from rfl, run_equalIn_struct w 9999 t xs ys (by rw [Z]; exact Y) h4, Z]; exact hf
   cases W <;> simp only [Option.some.injEq, reduceCtorEq] at hq <;> subst hq
   ·simp only [execOp, M, O, Sem.run_bind, run_eqGuard_agg w _ t x y xs ys h5, Result.andThen_ok, run_eql_struct, G, Sem.run_pure]
   ·simp only [execOp, M, O, Sem.run_bind, run_eqGuard_agg w _ t x y xs ys h5, Result.andThen_ok, run_neq_struct, G, Sem.run_pure]
theorem Ti {H : GH} {xs ys : Array Value} {a b : Li} (hx : VR H (.agg xs) (.agg (a.map cI))) (hy : VR H (.agg ys) (.agg (b.map cI))) {O : Nat} {Z : TI} (he : E.tab O = some Z) (M : Z.kind = .int .i64) (w : World) (d : Nat) (hl : a.length = b.length) :
  ∀ (m k : Nat), k + m = a.length →
  (forIn (List.range' k m) ((none, ()) : Option Bool × Unit) (fun i _ => do
   let p ← part O xs (i * 1)
   let q ← part O ys (i * 1)
   let r ← Op.equalIn (d + 1) O p q
   if !r then pure (ForInStep.done (some false, ())) else pure (ForInStep.yield (none, ()))) : Sem (Option Bool × Unit)).run E.P w =
   .ok (if a.drop k = b.drop k then none else some false, ()) w
 | 0, k, hk => by
  have h1 : a.drop k = [] := List.drop_eq_nil_of_le (by omega)
  have h2 : b.drop k = [] := List.drop_eq_nil_of_le (by omega)
  simp [h1, h2]
 | m + 1, k, hk => by
  have W : Z.isAgg = false := by simp [TI.isAgg, M]
  have ha : a[k]? = some a[k] := gq (by omega)
  have hb : b[k]? = some b[k] := gq (by omega)
  obtain ⟨v, hv, af⟩ := Mq (E := E) he W hx (off := k) (x := cI a[k]) (by simp [ha])
  obtain ⟨u, hu, ae⟩ := Mq (E := E) he W hy (off := k) (x := cI b[k]) (by simp [hb])
  have := hv.v_eq; subst this
  have := hu.v_eq; subst this
  have ac := run_equalIn_int (P := E.P) w d O .i64 .i64 a[k] b[k] (cQ (E.ok _ _ he) M)
  have ih := Ti hx hy he M w d hl m (k + 1) (by omega)
  rw [List.range'_succ, List.forIn_cons]
  simp only [Sem.run_bind, Nat.mul_one, af, ae, Result.andThen_ok, ac]
  have aa : a.drop k = a[k] :: a.drop (k + 1) := List.drop_eq_getElem_cons (by omega)
  have ab : b.drop k = b[k] :: b.drop (k + 1) := List.drop_eq_getElem_cons (by omega)
  rw [aa, ab]
  by_cases h : a[k] = b[k]
  ·have G : (a[k] == b[k]) = true := by simp [h]
   simp only [G, Bool.not_true, Bool.false_eq_true, if_false, Sem.run_pure, Result.andThen_ok]
   simp only [Nat.mul_one] at ih
   have Y : (a[k] :: a.drop (k + 1) = b[k] :: b.drop (k + 1)) ↔ (a.drop (k + 1) = b.drop (k + 1)) := by rw [List.cons.injEq]; exact ⟨fun h => h.2, fun h' => ⟨h, h'⟩⟩
   rw [ih]
   simp only [Y]
  ·have G : (a[k] == b[k]) = false := by simp [h]
   simp only [G, Bool.not_false, if_true, Sem.run_pure, Result.andThen_ok]
   have ad : ¬ (a[k] :: a.drop (k + 1) = b[k] :: b.drop (k + 1)) := fun he => h (List.cons.inj he).1
   simp only [ad, if_false]
theorem mX {op : BinOp} {t t' : TypeId} {x y : Operand} {ti Z : TI} {len el : Nat} {a b : Arr Int len} {q : Bool} (ht : E.tab t = some ti) (hk : ti.kind = .array len el) (he : E.tab el = some Z) (ab : Z.kind = .int .i64) (hsz : Z.size = 1) (hg : kA E.P t = true)
  (hx : A7 s x = some (.agg (a.l.map cI))) (hy : A7 s y = some (.agg (b.l.map cI))) (hq : (match op with | .eql => some (decide (a = b)) | .neq => some (!decide (a = b)) | _ => none) = some q) :
  Yp E.P n s ⟨dst, .binOp op t x y t', ty, pos, aft, g⟩ (.v (.bool q)) := by
 intro H A sr
 have M : E.P.eqGuardType E.P.depth t = false := by simpa [kA] using hg
 have vx := sr.eval hx
 have vy := sr.eval hy
 generalize W : A.eval x = u at vx
 generalize Y : A.eval y = v at vy
 refine ⟨_, .v _, fun w => ?_⟩
 have aa : decide (a.l = b.l) = decide (a = b) := decide_eq_decide.2 ⟨Arr.ext', fun h => by rw [h]⟩
 cases vx with
 | agg xs _ hl1 hc1 hv1 =>
  cases vy with
  | agg ys _ hl2 hc2 hv2 =>
   have G := Ti (E := E) (.agg xs _ hl1 hc1 hv1) (.agg ys _ hl2 hc2 hv2) he ab w 9998 (by rw [a.h, b.h]) len 0 (by rw [a.h]; omega)
   have O : (Op.equalIn 10000 t (.agg xs) (.agg ys)).run E.P w = .ok (decide (a = b)) w := by
    obtain ⟨D, hD⟩ : ∃ D, D = 9999 := ⟨_, rfl⟩
    rw [show (10000 : Nat) = D + 1 by omega]
    rw [show (9998 : Nat) + 1 = D by omega] at G
    clear hD
    simp only [Op.equalIn, Sem.run_bind, run_underlying (Og (E.ok _ _ ht) hk), Result.andThen_ok, Ch (E.ok _ _ he), hsz]
    rw [Std.Legacy.Range.forIn_eq_forIn_range']
    simp only [Std.Legacy.Range.size, Nat.sub_zero, Nat.add_sub_cancel, Nat.div_one]
    simp only [List.drop_zero] at G
    refine (congrArg (fun r => Result.andThen r _) G).trans ?_
    rw [← aa]
    by_cases h : a.l = b.l <;> simp [h]
   cases op <;> simp only [Option.some.injEq, reduceCtorEq] at hq <;> subst hq
   ·simp only [execOp, W, Y, Sem.run_bind, run_eqGuard_agg w _ t x y xs ys M, Result.andThen_ok, run_eql_struct, O, Sem.run_pure]
   ·simp only [execOp, W, Y, Sem.run_bind, run_eqGuard_agg w _ t x y xs ys M, Result.andThen_ok, run_neq_struct, O, Sem.run_pure]
theorem oG {t t' : TypeId} {x : Operand} {ti : TI} {e sz : Nat} {es : List (List T)} (ht : E.tab t = some ti) (Y : ti.kind = .slice e) (hx : A7 s x = some (.list sz es)) (W : ∀ d, dst = some d → d < n)
  (k : ∀ b : Bool, (b = true → es = []) → R ⟨Fb s dst (.v (.bool b)), ob⟩) : AX E n C [] ⟨dst, .binOp .eql t x (.const (.slice none 0 0)) t', ty, pos, aft, g⟩ ⟨s, ob⟩ R := by
 refine AX.value fun H a w M => ?_
 have h := M.sr.eval hx
 generalize hv : a.eval x = v at h
 have hr : ∃ G l c, v = .slice G l c ∧ (G.isNone = true → es = []) := by
  cases h with
  | empty a cap sz => exact ⟨a, 0, cap, rfl, fun _ => rfl⟩
  | list b off cap sz es cs ty fr hb hcap hmax hsz hel h1 hvs => exact ⟨_, _, _, rfl, fun h => by simp at h⟩
 obtain ⟨G, l, c, rfl, Z⟩ := hr
 refine ⟨.bool G.isNone, w, _, H, ?_, k G.isNone Z, ?_, fun _ _ h => h, fun i p hp _ => ⟨hp, fun _ _ => rfl⟩⟩
 ·have := run_eql_slice_nil (P := E.P) w t e G l c (Ep (E.ok _ _ ht) Y)
  have O : a.eval (.const (.slice none 0 0)) = .slice none 0 0 := rfl
  simp only [execOp, hv, O, Sem.run_bind, eqGuard, Sem.run_pure, Result.andThen_ok, this]
  simp [this]
 ·have := M.put (dst := dst) (.v (.bool G.isNone)) W
  cases dst <;> exact this
theorem Bz {α : Type} {f : α → List T} {c : Code} {Q : Exit → St → Prop} (q m : Nat) {v : Value} {tt sz : Nat} {l : List α} {x : α} (Z : ob[q]? = some (.us v tt sz (l.map f))) (Y : l[m]? = some x)
  (k : (∃ c, v = .slice (some ⟨T4 v, 0, none⟩) l.length c) → AW E n C c ⟨s, ob⟩ Q) : AW E n C c ⟨s, ob⟩ Q := by
 intro H a w M
 have G : UsR H w v tt sz (l.map f) := M.objs _ (mg Z)
 obtain ⟨c, W, O, _⟩ := G.arr (Ae (f := f) Y)
 rw [List.length_map] at O
 exact k ⟨c, O⟩ H a w M
theorem Cu {α : Type} {f : α → List T} {c : Code} {Q : Exit → St → Prop} (q : Nat) {v : Value} {tt sz : Nat} {l : List α} (Y : ob[q]? = some (.us v tt sz (l.map f)))
  (k : (∃ a c, v = .slice a l.length c) → AW E n C c ⟨s, ob⟩ Q) : AW E n C c ⟨s, ob⟩ Q := by
 intro H a w M
 have G : UsR H w v tt sz (l.map f) := M.objs _ (mg Y)
 refine k ?_ H a w M
 rcases G with ⟨rfl, W⟩ | ⟨b, c, O, rfl, _⟩
 ·have : l = [] := by simpa using W
  subst this; exact ⟨none, 0, rfl⟩
 ·exact ⟨some ⟨b, 0, none⟩, c, by rw [List.length_map]⟩
theorem Av {α : Type} {t : TypeId} {x y : Operand} {kk : IntKind} {i : Int} {m : Nat} {v : Value} {sz : Nat} {l : List α} {e : α} {ti O : TI} {M : Nat}
  (Z : E.tab t = some ti) (W : ti.kind = .slice M) (hel : E.tab M = some O) (hsz : O.size = sz)
  (hx : A7 s x = some (.v v)) (hv : ∃ c, v = .slice (some ⟨T4 v, 0, none⟩) l.length c) (hy : A7 s y = some (.v (.int kk i))) (hi : i = (m : Int)) (Y : l[m]? = some e) :
  Yp E.P n s ⟨dst, .indexAddr t x y, ty, pos, aft, g⟩ (.v (.pointer (some ⟨T4 v, m * sz, none⟩))) := by
 obtain ⟨c, hv⟩ := hv
 have G : A7 s x = some (.v (.slice (some ⟨T4 v, 0, none⟩) l.length c)) := by rw [← hv]; exact hx
 have := Ot (E := E) (n := n) (dst := dst) (ty := ty) (pos := pos) (aft := aft) (g := g) Z W hel G hy hi (gs Y).1
 rwa [hsz, Nat.zero_add] at this
theorem Ct {α : Type} {x : Operand} {t : TypeId} {v : Value} {l : List α} {ti : TI} {e : Nat} (M : E.tab t = some ti) (G : ti.kind = .slice e) (O : A7 s x = some (.v v))
  (hv : ∃ a c, v = .slice a l.length c) : Yp E.P n s ⟨dst, .call { callee := .builtin .len, args := #[x], argTypes := #[t] }, ty, pos, aft, g⟩ (.v (.int .i64 (l.length : Int))) := by
 obtain ⟨a, c, rfl⟩ := hv
 exact Gm M G O
def We (l : Li) : Option ByteArray := if (l.all fun x => decide (0 ≤ x ∧ x < 256)) = true then some ⟨(l.map fun x => UInt8.ofNat x.toNat).toArray⟩ else none
theorem bN {l : Li} (h : (l.all fun x => decide (0 ≤ x ∧ x < 256)) = true) : Fq (l.map fun x => UInt8.ofNat x.toNat) = l.map (rK .u8) := by
 unfold Fq
 rw [List.map_map]
 refine List.map_congr_left fun x M => ?_
 have := List.all_eq_true.1 h x M
 have := of_decide_eq_true this
 simp only [Function.comp_apply, rK]
 have G : ((UInt8.ofNat x.toNat).toNat : Int) = x := by
  rw [UInt8.toNat_ofNat']
  omega
 rw [G]
theorem jN (q : Nat) {t t' : TypeId} {x : Operand} {ti M ei : TI} {e tt : Nat} {l : Li} {v : Value} {r : ByteArray} (O : We l = some r) (ht : E.tab t = some ti) (hk : ti.kind = .slice e) (he : E.tab e = some ei) (Y : ei.kind = .int .u8) (Z : E.tab t' = some M) (W : M.kind = .string)
  (hx : A7 s x = some (.v v)) (hq : ob[q]? = some (.us v tt 1 (l.map (rK .u8)))) (hd : ∀ d, dst = some d → d < n) (k : R ⟨Fb s dst (.v (.string r)), ob⟩) : AX E n C [] ⟨dst, .convert t t' x, ty, pos, aft, g⟩ ⟨s, ob⟩ R := by
 unfold We at O
 split at O
 ·rename_i G
  cases O
  exact Zz ht hk he Y Z W (by rw [bN G]; exact Ts q hx hq) hd k
 ·cases O
theorem UsR.one {H : GH} {w : World} {v : Value} {tt sz : Nat} {es : List (List T)} (h : UsR H w v tt sz es) : v.oneCell' = true := by
 rcases h with ⟨rfl, _⟩ | ⟨_, _, _, rfl, _⟩ <;> rfl
theorem AO.one {ops : Array Oper} {l : List Oper} (q : Nat) {v : Value} {tt sz : Nat} {es : List (List T)} (M : ob[q]? = some (.us v tt sz es)) (k : v.oneCell' = true → AO E n C ops l ⟨s, ob⟩ R) : AO E n C ops l ⟨s, ob⟩ R :=
 fun H a w G => k (UsR.one (show UsR H w v tt sz es from G.objs _ (mg M))) H a w G
def uV := @AO.one
theorem AP.one {ops : Array Oper} {pl : PL} {so : Au} {M : List Nat} {G : List Ob} (q : Nat) {v : Value} {tt sz : Nat} {es : List (List T)} (hq : ob[q]? = some (.us v tt sz es)) (k : v.oneCell' = true → AP E n C ops M G pl so ⟨s, ob⟩ R) : AP E n C ops M G pl so ⟨s, ob⟩ R :=
 fun Hs ws H a w sr wr Y Z O W => k (UsR.one (show UsR H w v tt sz es from W.objs _ (mg hq))) Hs ws H a w sr wr Y Z O W
def uW := @AP.one
theorem Bw {v : Value} (h : v.oneCell' = true) : Eh (.v v) = some [.v v] := by simp [Eh, h]
theorem H6 {G : Nat → Option (Nat × Nat)} {l : List T} : Gq s G l [] = some l := rfl
theorem Ds {G : Nat → Option (Nat × Nat)} {l l' : List T} {i off size : Nat} {x : Operand} {r : List (Nat × Operand)} {c : T} {cs : List T} (M : G i = some (off, size)) (W : A7 s x = some c) (hc : Eh c = some cs)
  (hb : (Nat.beq cs.length size && Nat.ble (off + cs.length) l.length) = true) (O : Gq s G (E3 l off cs) r = some l') : Gq s G l ((i, x) :: r) = some l' := by
 simp only [Gq, M, W, Option.bind_some, hc, hb, cond_true]; exact O
theorem Ge : ∀ {l cs : List T}, l.length = cs.length → E3 l 0 cs = cs
 | [], [], _ => rfl
 | [], _ :: _, h => by simp at h
 | _ :: _, [], h => by simp at h
 | x :: l, c :: cs, h => by simp only [E3]; rw [Ge (by simpa using h)]
theorem Ql {α : Type} {l : List α} {i : Nat} {x : α} (h : l[i]? = some x) : i < l.length := (gs h).1
theorem E9 {α : Type} {k : Nat} {a : Arr α k} {i : Nat} {x : α} (h : a.l[i]? = some x) : i < k := by have := Ql h; rwa [a.h] at this
theorem Xg {i k : Nat} {off : Nat} {e : List T} (hi : i < k) (he : off + k ≤ e.length) : off + i + 1 ≤ e.length := by omega
theorem Hy {G : TI} {cs : List T} (M : G.isAgg = true) (h : G.size = cs.length) : Er G cs 0 = some (.agg cs) := by simp [Er, M, h]
theorem Ol {G : TI} {l post : List T} (M : G.isAgg = true) (h : l.length = G.size) : Er G (l ++ post) 0 = some (.agg l) := by
 unfold Er
 rw [M, cond_true]
 cases hb : (Nat.beq 0 0 && Nat.beq G.size (l ++ post).length) with
 | true =>
  simp only [Bool.and_eq_true] at hb
  have := nq hb.2
  rw [List.length_append] at this
  have : post = [] := List.length_eq_zero_iff.1 (by omega)
  subst this
  simp
 | false =>
  rw [cond_false]
  have : Nat.ble (0 + G.size) (l ++ post).length = true := by
   rw [Nat.zero_add]; exact Nat.ble_eq_true_of_le (by simp; omega)
  rw [this, cond_true, List.drop_zero, ← h, List.take_left]
theorem Oj {M : TI} {G post : List T} {k i j : Nat} {l : List T} (Y : M.isAgg = true) (Z : j = k + i) (hk : G.length = k) (h : Er M post i = some (.agg l)) (O : 0 < k := by decide) : Er M (G ++ post) j = some (.agg l) := by
 subst Z hk
 unfold Er at h ⊢
 rw [Y, cond_true] at h ⊢
 have h1 : Nat.beq (G.length + i) 0 = false := by
  cases hb : Nat.beq (G.length + i) 0 with
  | false => rfl
  | true => have := nq hb; omega
 rw [h1, Bool.false_and, cond_false]
 cases hb : (Nat.beq i 0 && Nat.beq M.size post.length) with
 | true =>
  rw [hb, cond_true] at h
  simp only [Bool.and_eq_true] at hb
  have h2 := nq hb.1
  have W := nq hb.2
  cases h
  have : Nat.ble (G.length + i + M.size) (G ++ post).length = true := Nat.ble_eq_true_of_le (by simp; omega)
  rw [this, cond_true, h2, Nat.add_zero, List.drop_left, W, List.take_length]
 | false =>
  rw [hb, cond_false] at h
  cases hc : Nat.ble (i + M.size) post.length with
  | false => rw [hc] at h; cases h
  | true =>
   rw [hc, cond_true] at h
   cases h
   have := Nat.le_of_ble_eq_true hc
   have : Nat.ble (G.length + i + M.size) (G ++ post).length = true := Nat.ble_eq_true_of_le (by simp; omega)
   rw [this, cond_true]
   rw [List.drop_append, show (G.drop (G.length + i)) = [] from List.drop_eq_nil_of_le (by omega), List.nil_append, Nat.add_sub_cancel_left]
theorem Hh {α : Type} {W : α → T} {t : TypeId} {x y : Operand} {k : IntKind} {i : Int} {m len O : Nat} {l : List α} {z : α} {ti G : TI} (ht : E.tab t = some ti) (Z : ti.kind = .array len O) (hel : E.tab O = some G) (h1 : G.size = 1) (M : G.isAgg = false)
  (hx : A7 s x = some (.agg (l.map W))) (hy : A7 s y = some (.v (.int k i))) (hi : i = (m : Int)) (Y : l[m]? = some z) (hlen : l.length = len := by first | rfl | exact Arr.h _) :
  Yp E.P n s ⟨dst, .index t x y, ty, pos, aft, g⟩ (W z) :=
 bO ht Z hel hx hy hi (by have := Ql Y; omega) (by rw [h1, Nat.mul_one]; simp [Er, M, Y])
theorem tB {x : Nat} (h : (0 : Int) = (x : Int)) : Z3 s none 0 x := by show x = 0; omega
theorem tA {l y : Nat} (h : (l : Int) = (y : Int)) : Z3 s none l y := by show y = l; omega
end
section
variable {E : Env} {n : Nat} {C : Ctx} {σ : St} {s : Au} {dst : Option Tmp} {ty : TypeId} {pos : String} {aft : Array Edge} {g : Option (Nat × Bool)}
theorem Ih {H : GH} {w : World} {cs : List T} {b off tt sz cap : Nat} {es : List (List T)} (i j : Nat) {e : List T} (hor : ArrR H w b tt sz cap es) (he : es[i]? = some e) (ho : off = i * sz + j)
  {news : List Value} (M : news.length = cs.length) (W : ∀ v, v ∈ news → v.oneCell' = true) (hvr : ∀ (i : Nat) (x : T), cs[i]? = some x → VR H (news.getD i undef) x) (hj : j + cs.length ≤ e.length) :
  ∃ w', (storeCells ⟨b, off, none⟩ news).run E.P w = .ok () w' ∧ ArrR H w' b tt sz cap (es.set i (E3 e j cs)) ∧ (w'.os = w.os ∧ w'.tape = w.tape ∧ w'.output = w.output) ∧ w'.heap.size = w.heap.size ∧
   ∀ i, i ≠ b → w'.heap[i]? = w.heap[i]? := by
 obtain ⟨O, a1, a2, a3, a4, a5, a6⟩ := hor
 have hil := (gs he).1
 have hel := a5 i e he
 have hmul : (i + 1) * sz ≤ cap * sz := Nat.mul_le_mul_right _ (by omega)
 rw [Nat.succ_mul] at hmul
 have hst := run_storeCells_at (P := E.P) b off tt news 0 O w a1 (by rw [M]; omega) W
 simp only [Nat.add_zero] at hst
 refine ⟨w.setRow b (O.toList.take off ++ news ++ O.toList.drop (off + news.length)).toArray, hst, ?_, ⟨rfl, rfl, rfl⟩, Kd _ _ _, fun i hi => setRow_other w b i _ hi⟩
 refine ⟨_, setRow_heap w b O _ tt _ a1, ?_, by simpa using a3, by simpa using a4, ?_, ?_⟩
 ·simp only [List.size_toArray, List.length_append, List.length_take, List.length_drop, Array.length_toList, M]
  omega
 ·intro i' e' G
  rw [List.getElem?_set] at G
  split at G
  ·simp only [hil, if_true, Option.some.injEq] at G
   subst G; rw [Fj]; exact hel
  ·exact a5 i' e' G
 ·intro i' e' G j' x' Z
  rw [Jy (by rw [M]; omega)]
  rw [List.getElem?_set] at G
  split at G
  ·rename_i Y
   subst Y
   simp only [hil, if_true, Option.some.injEq] at G
   subst G
   rcases Jx e j cs j' x' Z with ⟨q1, q2, q3⟩ | ⟨q1, q2⟩
   ·rw [if_pos (by rw [M]; omega)]
    rw [show i * sz + j' - off = j' - j by omega]
    have hlt := (gs q3).1
    refine ⟨?_, hvr _ _ q3⟩
    rw [List.getD, gq (by omega)]
    exact W _ (List.getElem_mem (by omega))
   ·rw [if_neg (by rw [M]; omega)]
    exact a6 i e he j' x' q2
  ·rename_i Y
   have hj'l := (gs Z).1
   have hel' := a5 i' e' G
   rw [if_neg ?_]
   ·exact a6 i' e' G j' x' Z
   ·rw [M]
    rintro ⟨q1, q2⟩
    rcases Nat.lt_or_gt_of_ne Y with h | h
    ·have : (i + 1) * sz ≤ i' * sz := Nat.mul_le_mul_right _ h
     rw [Nat.succ_mul] at this; omega
    ·have : (i' + 1) * sz ≤ i * sz := Nat.mul_le_mul_right _ h
     rw [Nat.succ_mul] at this; omega
theorem eY {t : TypeId} {x : Operand} {b off len e : Nat} {ti O : TI} (Z : E.tab t = some ti) (Y : ti.kind = .array len e) (he : E.tab e = some O) (hx : A7 s x = some (.v (.pointer (some ⟨b, off, none⟩)))) (hl : len ≠ 0) :
  Yp E.P n s ⟨dst, .slice t x none none none, ty, pos, aft, g⟩ (.v (.slice (some ⟨b, off, none⟩) len len)) := by
 intro H A r
 obtain ⟨d, W, G⟩ := Fw (E.ok _ _ Z)
 rw [Y] at G
 have hu : E.P.underlying t = some (.array len e) := by
  cases d <;> simp [K0] at G
  obtain ⟨rfl, rfl⟩ := G; exact W
 refine ⟨_, .v _, fun w => ?_⟩
 have M := Ey (P := E.P) (w := w) (isS := false) (len := len) (cap := len) r (lo := none) (hi := none) (mx := none) (l := 0) (h := len) (m := len) rfl rfl rfl (fun _ => rfl) (Nat.zero_le _) (Nat.le_refl _) (Nat.le_refl _)
 simp only [Option.map_none] at M
 simp [execOp, Instr.sliceAt, Instr.sureAddr, r.evalv hx, run_underlying hu, M, Ch (E.ok _ _ he), hl, Du]
theorem oH (k : Nat) {x y : Operand} {t t2 : TypeId} {b off len tt sz cap e : Nat} {ti ei : TI} {es : List (List T)} {rows M : List (List T)} {O : List T} {R : St → Prop}
  (ht : E.tab t = some ti) (hk : ti.kind = .slice e) (he : E.tab e = some ei) (hsz : ei.size = 1) (W : A7 σ.slots x = some (.v (.slice (some ⟨b, off, none⟩) len len))) (G : σ.objs[k]? = some (.arr b tt sz cap rows)) (hrow : rows[0]? = some O)
  (hy : AppSrc σ.slots σ.objs y 1 es) (hle : es.length ≤ len) (hj : off + es.length ≤ O.length) (hs : rows.set 0 (E3 O off es.flatten) = M) (hd : ∀ d, dst = some d → d < n)
  (kk : R ⟨Fb σ.slots dst (.v (.int .i64 (es.length : Int))), σ.objs.set k (.arr b tt sz cap M)⟩) :
  AX E n C [k] ⟨dst, .call { callee := .builtin .copy, args := #[x, y], argTypes := #[t, t2] }, ty, pos, aft, g⟩ σ R := by
 subst hs
 refine AX.value fun H a w Y => ?_
 obtain ⟨ad, c, news, q1, q2, q3, q4, q5, q6⟩ := hy n H a w Y.sr Y.wr
 have hone : ∀ (i : Nat) (e : List T), es[i]? = some e → ∃ z, e = [z] := fun i e he => List.length_eq_one_iff.1 (q6 i e he).1
 have Z : es.flatten.length = es.length := by
  have : ∀ l : List (List T), (∀ e, e ∈ l → e.length = 1) → l.flatten.length = l.length := by
   intro l; induction l with
   | nil => simp
   | cons a l ih => intro h; simp only [List.flatten_cons, List.length_append, List.length_cons, h a (by simp), ih (fun e he => h e (by simp [he]))]; omega
  exact this es fun e he => by obtain ⟨i, hi⟩ := List.mem_iff_getElem?.1 he; exact (q6 i e hi).1
 have aa : ∀ (i : Nat) (x : T), es.flatten[i]? = some x → es[i]? = some [x] := by
  have : ∀ l : List (List T), (∀ e, e ∈ l → e.length = 1) → ∀ (i : Nat) (x : T), l.flatten[i]? = some x → l[i]? = some [x] := by
   intro l; induction l with
   | nil => intro _ i x h; simp at h
   | cons a l ih =>
    intro h i x W
    obtain ⟨z, rfl⟩ := List.length_eq_one_iff.1 (h a (by simp))
    cases i with
    | zero => simp at W; simp [W]
    | succ i => simpa using ih (fun e he => h e (by simp [he])) i x (by simpa using W)
  exact this es fun e he => by obtain ⟨i, hi⟩ := List.mem_iff_getElem?.1 he; exact (q6 i e hi).1
 have hor : ArrR H w b tt sz cap rows := Y.objs _ (mg G)
 obtain ⟨w', h1, h2, h3, h4, h5⟩ := Ih (E := E) (cs := es.flatten) (off := off) 0 off hor hrow (by simp) (news := news) (by rw [q2, Z]; simp) q3 (fun i x W => by
  have := (q6 i _ (aa i x W)).2 0 x (by simp)
  simpa using this) (by rw [Z]; exact hj)
 have hmin : Nat.min es.length len = es.length := Nat.min_eq_left hle
 have hund := Ep (E.ok _ _ ht) hk
 have hfc : (Builtin.firstCells 1 es.length (a.eval y)).run E.P w = .ok news.toArray w := by
  rw [q1]
  cases ad with
  | none =>
   have := q4 rfl
   subst this
   have : news = [] := by simpa using q2
   subst this
   simp [Builtin.firstCells]
  | some ad =>
   have hl : news.length = es.length := by simpa using q2
   have := run_firstCells_some (P := E.P) w 1 es.length ad 0 c news (by rw [hl]; simp) (fun j u h => q5 ad rfl j u h)
   exact this
 have hrun : (execOp a.eval ⟨dst, .call { callee := .builtin .copy, args := #[x, y], argTypes := #[t, t2] }, ty, pos, aft, g⟩).run E.P w = .ok (.value (.int .i64 (es.length : Int))) w' := by
  have hev := Y.sr.evalv W
  have hlen : (Builtin.lenOf (a.eval y)).run E.P w = .ok es.length w := by rw [q1]; rfl
  simp only [execOp, resolve, invoke, builtin, Sem.run_bind, Sem.run_pure, Result.andThen_ok, List.map_toArray, List.map_cons, List.map_nil, hev]
  simp only [Builtin.copy_, Sem.run_bind, Sem.run_pure, Result.andThen_ok, List.getElem?_toArray, List.getElem?_cons_zero, List.getElem?_cons_succ, run_underlying hund, hlen, Ch (E.ok _ _ he), hsz, hmin, hfc, h1]
  rfl
 refine ⟨.int .i64 (es.length : Int), w', _, H, hrun, kk, ?_, fun _ _ h => h, fun i p hp hm => ?_⟩
 ·have := (Y.set G h3 (by omega) (fun i _ hi => h5 i (by simpa [Ob.fp] using hi)) (o' := .arr b tt sz cap (rows.set 0 (E3 O off es.flatten))) h2 (fun b hb => .inr hb) (by simp [Ob.fp])).put (dst := dst) (.v (.int .i64 (es.length : Int))) hd
  cases dst <;> exact this
 ·have hne : k ≠ i := fun h => by subst h; simp at hm
  exact ⟨Ia hp hne, fun b' hb' => h5 b' (fun h => Y.apart G hp hne b' hb' (by simp [Ob.fp, h]))⟩
def jX {α : Type} {m : Nat} (a : Arr α m) (l : List α) : Option (Arr α m) := if h : l.length ≤ m then some ⟨l ++ a.l.drop l.length, by simp [a.h]; omega⟩ else none
theorem S5 {α : Type} {m : Nat} {a r : Arr α m} {l : List α} (h : jX a l = some r) : l.length ≤ m ∧ r.l = l ++ a.l.drop l.length := by
 unfold jX at h
 split at h
 ·rename_i G; cases h; exact ⟨G, rfl⟩
 ·cases h
theorem Ud : ∀ (e cs : List T), cs.length ≤ e.length → E3 e 0 cs = cs ++ e.drop cs.length
 | [], [], _ => rfl
 | [], _ :: _, h => by simp at h
 | _ :: _, [], _ => rfl
 | a :: e, c :: cs, h => by simp only [E3, List.cons_append, List.length_cons, List.drop_succ_cons]; rw [Ud e cs (by simpa using h)]
theorem mJ {α : Type} {f : α → T} {l : List α} : (l.map fun x => [f x]).flatten = l.map f := by induction l with
 | nil => rfl
 | cons a l ih => simp [ih]
theorem lT {α : Type} {m : Nat} {f : α → T} {a r : Arr α m} {l : List α} {post : List T} (h : jX a l = some r) : E3 (a.l.map f ++ post) 0 (l.map fun x => [f x]).flatten = r.l.map f ++ post := by
 obtain ⟨M, G⟩ := S5 h
 rw [mJ, Ud _ _ (by simp [a.h]; omega), G]
 simp only [List.length_map, List.map_append, List.append_assoc, List.map_drop]
 rw [List.drop_append_of_le_length (by simp [a.h]; omega)]
end
inductive NewK where
 | us (e z : Nat) (es : List (List T))
 | box (ty m : Nat) (cs : List T)
 | fn (f : List T → T)
 | lt (e z : Nat)
 | ap (q e z : Nat) (es : List (List T))
structure NewOp where
 j : Nat
 ds : List Nat
 d : Nat
 k : NewK
def NewK.obs : NewK → T → List Ob
 | .us e z es, .v v => [.us v e z es]
 | .box ty m cs, .v (.pointer (some a)) => [.arr a.block ty m 1 [cs]]
 | .ap _ e z es, .v v => [.us v e z es]
 | _, _ => []
def NewK.obN : NewK → T → List Ob
 | .lt e z, .v v => [.us v e z []]
 | k, x => k.obs x
def NewK.ok (xs : List T) (x : T) : NewK → Prop
 | .us _ _ _ => ∃ v, x = .v v ∧ v.oneCell' = true
 | .box _ _ _ => ∃ b, x = .v (.pointer (some ⟨b, 0, none⟩))
 | .fn f => x = f xs
 | .lt _ _ => ∃ v, x = .v v ∧ v.oneCell' = true
 | .ap _ _ _ _ => ∃ v, x = .v v ∧ v.oneCell' = true
def NewK.okW (xs : List T) (x : T) : NewK → Prop
 | .us _ _ _ => ∃ v, x = .v v
 | .box _ _ _ => ∃ b, x = .v (.pointer (some ⟨b, 0, none⟩))
 | .fn f => x = f xs
 | .lt _ _ => ∃ v, x = .v v
 | .ap _ _ _ _ => ∃ v, x = .v v
def La (v : Nat → T) (j : Nat) (x : T) : Nat → T := fun i => bif Nat.beq i j then x else v i
def News : List NewOp → (Nat → T) → Au → List Ob → (Au → List Ob → Prop) → Prop
 | [], _, s, ob, F => F s ob
 | ⟨j, _, d, .us e z es⟩ :: l, v, s, ob, F => ∀ x : Value, x.oneCell' = true → News l (La v j (.v x)) ((d, .v x) :: s) (ob ++ [.us x e z es]) F
 | ⟨j, _, d, .box ty m cs⟩ :: l, v, s, ob, F => ∀ b : Nat, News l (La v j (.v (.pointer (some ⟨b, 0, none⟩)))) ((d, .v (.pointer (some ⟨b, 0, none⟩))) :: s) (ob ++ [.arr b ty m 1 [cs]]) F
 | ⟨j, ds, d, .fn f⟩ :: l, v, s, ob, F => News l (La v j (f (ds.map v))) ((d, f (ds.map v)) :: s) ob F
 | ⟨j, _, d, .lt _ _⟩ :: l, v, s, ob, F => ∀ x : Value, x.oneCell' = true → News l (La v j (.v x)) ((d, .v x) :: s) ob F
 | ⟨j, _, d, .ap _ e z es⟩ :: l, v, s, ob, F => ∀ x : Value, x.oneCell' = true → News l (La v j (.v x)) ((d, .v x) :: s) (ob ++ [.us x e z es]) F
def X3 (v : Nat → T) : List NewOp → Au → Au
 | [], s => s
 | p :: l, s => X3 v l ((p.d, v p.j) :: s)
def Tv (v : Nat → T) : List NewOp → List Ob → List Ob
 | [], ob => ob
 | p :: l, ob => Tv v l (ob ++ p.k.obs (v p.j))
def oP : List Nat → List NewOp → Bool
 | _, [] => true
 | P, p :: l => p.ds.all P.contains && oP (p.j :: P) l
theorem News.get (vals : Nat → T) {F : Au → List Ob → Prop} : ∀ (l : List NewOp) (P : List Nat) (v : Nat → T) (s : Au) (ob : List Ob), oP P l = true → (∀ i, i ∈ P → v i = vals i) → (∀ p, p ∈ l → p.k.ok (p.ds.map vals) (vals p.j)) → News l v s ob F → F (X3 vals l s) (Tv vals l ob)
 | [], P, v, s, ob, _, _, _, h => h
 | ⟨j, ds, d, k⟩ :: l, P, v, s, ob, hb, hv, ho, h => by
  simp only [oP, Bool.and_eq_true] at hb
  have W := ho _ (.head _)
  have M : ∀ x, x = vals j → ∀ i, i ∈ j :: P → La v j x i = vals i := by
   intro x G i Z
   unfold La
   cases hij : Nat.beq i j with
   | true => rw [cond_true, G, nq hij]
   | false =>
    rw [cond_false]
    rcases List.mem_cons.1 Z with rfl | Z
    ·simp at hij
    ·exact hv i Z
  cases k with
  | us e z es =>
   obtain ⟨x, G, Y⟩ := W
   have := News.get vals l (j :: P) _ _ _ hb.2 (M _ G.symm) (fun p O => ho p (.tail _ O)) (h x Y)
   simp only [X3, Tv, G, NewK.obs]; exact this
  | box ty m cs =>
   obtain ⟨b, G⟩ := W
   have := News.get vals l (j :: P) _ _ _ hb.2 (M _ G.symm) (fun p O => ho p (.tail _ O)) (h b)
   simp only [X3, Tv, G, NewK.obs]; exact this
  | fn f =>
   have hm : ds.map v = ds.map vals := List.map_congr_left fun i Z => hv i (by have := List.all_eq_true.1 hb.1 i Z; simpa using this)
   have G : vals j = f (ds.map vals) := W
   have h' : News l (La v j (f (ds.map v))) ((d, f (ds.map v)) :: s) ob F := h
   rw [hm, ← G] at h'
   have := News.get vals l (j :: P) _ _ _ hb.2 (M _ rfl) (fun p O => ho p (.tail _ O)) h'
   simp only [X3, Tv, NewK.obs, List.append_nil]; exact this
  | lt e z =>
   obtain ⟨x, G, Y⟩ := W
   have := News.get vals l (j :: P) _ _ _ hb.2 (M _ G.symm) (fun p O => ho p (.tail _ O)) (h x Y)
   simp only [X3, Tv, G, NewK.obs, List.append_nil]; exact this
  | ap q e z es =>
   obtain ⟨x, G, Y⟩ := W
   have := News.get vals l (j :: P) _ _ _ hb.2 (M _ G.symm) (fun p O => ho p (.tail _ O)) (h x Y)
   simp only [X3, Tv, G, NewK.obs]; exact this
theorem Yv {vals : Nat → T} {i : Nat} {x : T} : ∀ {l : List NewOp} {s : Au}, Aw.get (X3 vals l s) i = some x → (∃ p, p ∈ l ∧ p.d = i ∧ vals p.j = x) ∨ Aw.get s i = some x
 | [], s, h => .inr h
 | p :: l, s, h => by
  rcases Yv (l := l) h with ⟨q, G, M⟩ | h
  ·exact .inl ⟨q, .tail _ G, M⟩
  ·simp only [Aw.get] at h
   cases hb : Nat.beq p.d i with
   | true => rw [hb, cond_true] at h; cases h; exact .inl ⟨p, .head _, nq hb, rfl⟩
   | false => rw [hb, cond_false] at h; exact .inr h
def Kv (vals : Nat → T) (D : List Nat) (p : NewOp) : List Ob :=
 match p.k with
 | .ap q e z es => bif D.contains p.j then (NewK.ap q e z es).obs (vals p.j) else bif D.contains q then (NewK.us e z []).obs (vals q) else []
 | k => bif D.contains p.j then k.obs (vals p.j) else []
def Fi (vals : Nat → T) (D : List Nat) (l : List NewOp) : List Ob := l.flatMap (Kv vals D)
theorem Oo {vals : Nat → T} {D : List Nat} : ∀ {l : List NewOp} {ob : List Ob}, (∀ p, p ∈ l → p.j ∈ D) → ob ++ Fi vals D l = Tv vals l ob
 | [], ob, _ => by simp [Fi, Tv]
 | p :: l, ob, h => by
  have G : D.contains p.j = true := by simpa using h p (.head _)
  have e : Kv vals D p = p.k.obs (vals p.j) := by
   unfold Kv
   cases hk : p.k <;> simp only [G, cond_true]
  unfold Fi
  simp only [Tv, List.flatMap_cons, e]
  rw [← List.append_assoc]
  exact Oo fun q M => h q (.tail _ M)
theorem Uk {vals : Nat → T} : ∀ {l : List NewOp}, Fi vals [] l = []
 | [] => rfl
 | p :: l => by
  have e : Kv vals [] p = [] := by unfold Kv; cases p.k <;> rfl
  unfold Fi
  rw [List.flatMap_cons, e]; exact Uk (l := l)
theorem I0 {vals G : Nat → T} {D D' : List Nat} {r : NewOp} {old new : List Ob} : ∀ {l : List NewOp}, r ∈ l → (l.map NewOp.j).Nodup → Kv vals D r = old → Kv G D' r = new → (∀ x, x ∈ l → x.j ≠ r.j → Kv vals D x = Kv G D' x) → ∃ rest, List.Perm (Fi vals D l) (old ++ rest) ∧ List.Perm (Fi G D' l) (new ++ rest)
 | q :: l, W, hn, h1, h2, O => by
  simp only [List.map_cons, List.nodup_cons] at hn
  unfold Fi
  simp only [List.flatMap_cons]
  rcases List.mem_cons.1 W with rfl | W
  ·refine ⟨l.flatMap (Kv vals D), by rw [h1], ?_⟩
   have e : l.flatMap (Kv vals D) = l.flatMap (Kv G D') := by
    have : ∀ m : List NewOp, (∀ x, x ∈ m → Kv vals D x = Kv G D' x) → m.flatMap (Kv vals D) = m.flatMap (Kv G D') := by
     intro m
     induction m with
     | nil => intro _; rfl
     | cons y m ih => intro h; rw [List.flatMap_cons, List.flatMap_cons, h y (.head _), ih fun x O => h x (.tail _ O)]
    exact this l fun x M => O x (.tail _ M) fun Y => hn.1 (Y ▸ List.mem_map_of_mem M)
   rw [h2, e]
  ·have Z : q.j ≠ r.j := fun Y => hn.1 (Y ▸ List.mem_map_of_mem W)
   obtain ⟨rest, a, b⟩ := I0 W hn.2 h1 h2 fun x M => O x (.tail _ M)
   have e := O q (.head _) Z
   unfold Fi at a b
   refine ⟨Kv vals D q ++ rest, ?_, ?_⟩
   ·refine (List.Perm.append_left _ a).trans ?_
    rw [← List.append_assoc, ← List.append_assoc]
    exact List.Perm.append_right _ List.perm_append_comm
   ·rw [← e]
    refine (List.Perm.append_left _ b).trans ?_
    rw [← List.append_assoc, ← List.append_assoc]
    exact List.Perm.append_right _ List.perm_append_comm
theorem eR {l m : List Ob} (h : List.Perm l m) : List.Perm (l.flatMap Ob.fp) (m.flatMap Ob.fp) := by
 induction h with
 | nil => exact .nil
 | cons x _ ih => simp only [List.flatMap_cons]; exact List.Perm.append_left _ ih
 | swap x y l =>
  simp only [List.flatMap_cons, ← List.append_assoc]
  exact List.Perm.append_right _ List.perm_append_comm
 | trans _ _ a b => exact a.trans b
def PAllN (F : NewOp → Prop) : List NewOp → Prop
 | [] => True
 | p :: l => F p ∧ PAllN F l
theorem PAllN.get {F : NewOp → Prop} : ∀ {l : List NewOp}, PAllN F l → ∀ p, p ∈ l → F p
 | q :: l, ⟨h1, h2⟩, p, h => by
  rcases List.mem_cons.1 h with rfl | h
  ·exact h1
  ·exact PAllN.get h2 p h
section
variable {E : Env} {n : Nat} {C : Ctx} {ops : Array Oper} {s : Au} {ob : List Ob} {R : St → Prop}
theorem Gam.perm {H : GH} {a : Act} {w : World} {ob' : List Ob} (g : Gam n C ⟨s, ob⟩ H a w) (h : List.Perm ob ob') : Gam n C ⟨s, ob'⟩ H a w :=
 { g with objs := fun p G => g.objs p (h.mem_iff.2 G), free := fun p G => g.free p (h.mem_iff.2 G), new := fun p G => g.new p (h.mem_iff.2 G), nodup := (eR h).nodup_iff.1 g.nodup }
def dU : List NewOp → Nat → NewOp
 | [], _ => ⟨0, [], 0, .lt 0 0⟩
 | p :: l, j => bif Nat.beq p.j j then p else dU l j
theorem P5 : ∀ {l : List NewOp} {p : NewOp}, p ∈ l → (l.map NewOp.j).Nodup → dU l p.j = p
 | q :: l, p, G, hn => by
  simp only [List.map_cons, List.nodup_cons] at hn
  simp only [dU]
  rcases List.mem_cons.1 G with rfl | G
  ·simp
  ·have : Nat.beq q.j p.j = false := by
    cases hb : Nat.beq q.j p.j with
    | false => rfl
    | true => exact absurd (nq hb ▸ List.mem_map_of_mem G) hn.1
   rw [this, cond_false]; exact P5 G hn.2
def Lc (A : List NewOp) (j : Nat) : Nat := (dU A j).d
def jQ (A : List NewOp) (j : Nat) : NewK := (dU A j).k
def dV (A : List NewOp) (j : Nat) : List Nat := (dU A j).ds
theorem mM {l : List NewOp} {p : NewOp} (h : p ∈ l) (G : (l.map NewOp.j).Nodup) : Lc l p.j = p.d := by unfold Lc; rw [P5 h G]
theorem Qk {l : List NewOp} {p : NewOp} (h : p ∈ l) (G : (l.map NewOp.j).Nodup) : jQ l p.j = p.k := by unfold jQ; rw [P5 h G]
theorem pP {l : List NewOp} {p : NewOp} (h : p ∈ l) (G : (l.map NewOp.j).Nodup) : dV l p.j = p.ds := by unfold dV; rw [P5 h G]
def DepV (A : List NewOp) : List Nat → List T → (List T → Prop) → Prop
 | [], ys, F => F ys
 | j :: ds, ys, F => match jQ A j with
  | .fn _ => ∀ x : T, DepV A ds (ys ++ [x]) F
  | .box _ _ _ => ∀ b : Nat, DepV A ds (ys ++ [.v (.pointer (some ⟨b, 0, none⟩))]) F
  | _ => ∀ v : Value, v.oneCell' = true → DepV A ds (ys ++ [.v v]) F
theorem DepV.get {A : List NewOp} {vals : Nat → T} {F : List T → Prop} : ∀ {ds : List Nat} {G : List T}, (∀ d, d ∈ ds → ∃ G, NewK.ok G (vals d) (jQ A d)) → DepV A ds G F → F (G ++ ds.map vals)
 | [], G, _, h => by simpa [DepV] using h
 | j :: ds, G, hv, h => by
  obtain ⟨zs, O⟩ := hv j (by simp)
  have W := fun d Z => hv d (List.mem_cons_of_mem _ Z)
  rw [List.map_cons, show G ++ vals j :: ds.map vals = (G ++ [vals j]) ++ ds.map vals by simp]
  simp only [DepV] at h
  cases hk : jQ A j <;> rw [hk] at h O <;> first | exact DepV.get W (h _) | (obtain ⟨v, M, Y⟩ := O; rw [M]; exact DepV.get W (h v Y)) | (obtain ⟨b, M⟩ := O; rw [M]; exact DepV.get W (h b))
def DepN (A : List NewOp) : List Nat → Au → List T → (Au → List T → Prop) → Prop
 | [], s, xs, F => F s xs
 | j :: ds, s, xs, F => match jQ A j with
  | .us _ _ _ => ∀ v : Value, v.oneCell' = true → DepN A ds ((Lc A j, .v v) :: s) (xs ++ [.v v]) F
  | .box _ _ _ => ∀ b : Nat, DepN A ds ((Lc A j, .v (.pointer (some ⟨b, 0, none⟩))) :: s) (xs ++ [.v (.pointer (some ⟨b, 0, none⟩))]) F
  | .fn f => DepV A (dV A j) [] fun G => DepN A ds ((Lc A j, f G) :: s) (xs ++ [f G]) F
  | .lt _ _ => ∀ v : Value, v.oneCell' = true → DepN A ds ((Lc A j, .v v) :: s) (xs ++ [.v v]) F
  | .ap _ _ _ _ => ∀ v : Value, v.oneCell' = true → DepN A ds ((Lc A j, .v v) :: s) (xs ++ [.v v]) F
def X4 (A : List NewOp) (vals : Nat → T) : List Nat → Au → Au
 | [], s => s
 | j :: ds, s => X4 A vals ds ((Lc A j, vals j) :: s)
theorem DepN.get {A : List NewOp} {vals : Nat → T} {F : Au → List T → Prop} : ∀ {ds : List Nat} {s : Au} {xs : List T}, (∀ d, d ∈ ds → NewK.ok ((dV A d).map vals) (vals d) (jQ A d) ∧ ∀ x, x ∈ dV A d → ∃ ys, NewK.ok ys (vals x) (jQ A x)) → DepN A ds s xs F → F (X4 A vals ds s) (xs ++ ds.map vals)
 | [], s, xs, _, h => by simpa [DepN, X4] using h
 | j :: ds, s, xs, hv, h => by
  have G := hv j (by simp)
  have W := fun d Y => hv d (List.mem_cons_of_mem _ Y)
  simp only [DepN] at h
  obtain ⟨G, Z⟩ := G
  simp only [X4, List.map_cons]
  rw [show xs ++ vals j :: ds.map vals = (xs ++ [vals j]) ++ ds.map vals by simp]
  cases hk : jQ A j with
  | us e z es =>
   rw [hk] at h G
   obtain ⟨v, M, O⟩ := G
   rw [M]; exact DepN.get W (h v O)
  | box ty m cs =>
   rw [hk] at h G
   obtain ⟨b, M⟩ := G
   rw [M]; exact DepN.get W (h b)
  | fn f =>
   rw [hk] at h G
   have := DepV.get Z h
   rw [List.nil_append, ← show vals j = f ((dV A j).map vals) from G] at this
   exact DepN.get W this
  | lt e z =>
   rw [hk] at h G
   obtain ⟨v, M, O⟩ := G
   rw [M]; exact DepN.get W (h v O)
  | ap q e z es =>
   rw [hk] at h G
   obtain ⟨v, M, O⟩ := G
   rw [M]; exact DepN.get W (h v O)
theorem Za {A : List NewOp} {vals : Nat → T} {i : Nat} {x : T} : ∀ {ds : List Nat} {s : Au}, Aw.get (X4 A vals ds s) i = some x → (∃ d, d ∈ ds ∧ Lc A d = i ∧ vals d = x) ∨ Aw.get s i = some x
 | [], s, h => .inr h
 | d :: ds, s, h => by
  rcases Za (ds := ds) h with ⟨G, M, O⟩ | h
  ·exact .inl ⟨G, by simp [M], O⟩
  ·simp only [Aw.get] at h
   cases hb : Nat.beq (Lc A d) i with
   | true => rw [hb, cond_true] at h; cases h; exact .inl ⟨d, by simp, nq hb, rfl⟩
   | false => rw [hb, cond_false] at h; exact .inr h
def jU : List Nat → Bool
 | [] => true
 | x :: l => (l.all fun y => !Nat.beq x y) && jU l
theorem Xi : ∀ {l : List Nat}, jU l = true → l.Nodup
 | [], _ => .nil
 | x :: l, h => by
  simp only [jU, Bool.and_eq_true] at h
  refine List.nodup_cons.2 ⟨fun G => ?_, Xi h.2⟩
  have := List.all_eq_true.1 h.1 x G
  simp at this
def cK (E : Env) (n : Nat) (C : Ctx) (o : Oper) (p : NewOp) (s' : Au) (xs : List T) : Prop :=
 match p.k, xs with
 | .ap _ e z es, [.v xl] => ∀ ob, AX E n C [0] o ⟨s', .us xl e z [] :: ob⟩ fun σ' => ∃ v, Aw.get σ'.slots p.d = some (.v v) ∧ σ'.objs = .us v e z es :: ob
 | .ap _ _ _ _, _ => False
 | k, xs => ∀ ob, AX E n C [] o ⟨s', ob⟩ fun σ' => ∃ x, Aw.get σ'.slots p.d = some x ∧ k.okW xs x ∧ σ'.objs = ob ++ k.obN x
def tT (A : List NewOp) : Bool := A.all fun p => match p.k with
 | .ap q e z _ => (match p.ds with | [x] => Nat.beq x q | _ => false) && ((match jQ A q with | .lt e' z' => Nat.beq e e' && Nat.beq z z' | _ => false) && A.all fun r => match r.k with | .ap q' _ _ _ => Nat.beq p.j r.j || !Nat.beq q q' | _ => true)
 | .lt _ _ => A.any fun r => match r.k with | .ap q _ _ _ => Nat.beq q p.j | _ => false
 | _ => true
theorem Ys {A : List NewOp} {vals G : Nat → T} {D : List Nat} {j : Nat} {x : NewOp} (Y : x.j ≠ j) (W : ∀ q e z es, x.k = .ap q e z es → q ≠ j) (hv : ∀ i, i ∈ D → G i = vals i) : Kv vals D x = Kv G (j :: D) x := by
 have c : ∀ i, i ≠ j → (j :: D).contains i = D.contains i := fun i O => by simp [O]
 have M : ∀ (k : NewK) (y : List Ob), (bif D.contains x.j then k.obs (vals x.j) else y) = bif (j :: D).contains x.j then k.obs (G x.j) else y := fun k y => by
  rw [c _ Y]
  cases h : D.contains x.j with
  | true => rw [cond_true, cond_true, hv _ (by simpa using h)]
  | false => rfl
 unfold Kv
 cases hk : x.k with
 | ap q e z es =>
  dsimp only
  rw [M, c q (W q e z es hk)]
  cases h : D.contains q with
  | true => rw [hv q (by simpa using h)]
  | false => rfl
 | _ => exact M _ _
theorem AP.any {r : PL} {so : Au} {prot : List Nat} {Z : List Ob} (A : List NewOp)
  (hB : (jU (A.map NewOp.j) && (oP [] A && ((A.all (fun p => A.all fun q => Nat.beq p.j q.j || !Nat.beq p.d q.d) && (A.all fun p => (Aw.get s p.d).isNone && free so (some p.d))) && tT A))) = true)
  (hstep : PAllN (fun p => ∃ o, ops[p.j]? = some o ∧ o.guard = none ∧ o.dst = some p.d ∧ DepN A p.ds s [] (cK E n C o p)) A)
  (k : News A (fun _ => .tup []) s ob (fun s' ob' => AP E n C ops prot Z r so ⟨s', ob'⟩ R)) :
  AP E n C ops prot Z (.par (A.map fun p => (p.j, p.ds)) r) so ⟨s, ob⟩ R := by
 simp only [Bool.and_eq_true] at hB
 obtain ⟨hn, hb, ⟨hj, hs⟩, hap⟩ := hB
 have hn := Xi hn
 have hdd : ∀ p, p ∈ A → ∀ q, q ∈ A → p.d = q.d → p.j = q.j := fun p W q hq he => by
  have := List.all_eq_true.1 (List.all_eq_true.1 hj p W) q hq
  rw [he] at this
  simpa using this
 have hs' : ∀ p, p ∈ A → Aw.get s p.d = none ∧ free so (some p.d) = true := fun p W => by simpa using List.all_eq_true.1 hs p W
 have back : ∀ p, p ∈ A → ∀ q, q ∈ A → p.j = q.j → p = q := fun p W q hq he => by
  obtain ⟨i, hi⟩ := List.getElem?_of_mem W
  obtain ⟨i', hi'⟩ := List.getElem?_of_mem hq
  have h1 : (A.map NewOp.j)[i]? = some p.j := by rw [List.getElem?_map, hi]; rfl
  have h2 : (A.map NewOp.j)[i']? = some q.j := by rw [List.getElem?_map, hi']; rfl
  have := (List.getElem?_inj (gs h1).1 hn).1 (h1.trans (by rw [h2, he]))
  rw [this, hi'] at hi; cases hi; rfl
 have apq : ∀ p, p ∈ A → ∀ q e z es, p.k = .ap q e z es → p.ds = [q] ∧ jQ A q = .lt e z ∧ ∀ r, r ∈ A → ∀ e' z' aa, r.k = .ap q e' z' aa → p.j = r.j := by
  intro p W q e z es M
  have h1 := List.all_eq_true.1 hap p W
  simp only [M, Bool.and_eq_true] at h1
  obtain ⟨h1, h2, h3⟩ := h1
  refine ⟨?_, ?_, fun r hr e' z' aa hkr => ?_⟩
  ·split at h1
   ·rename_i x Y; rw [Y, nq h1]
   ·cases h1
  ·split at h2
   ·rename_i e' z' Y
    simp only [Bool.and_eq_true] at h2
    rw [Y, ← nq h2.1, ← nq h2.2]
   ·cases h2
  ·have := List.all_eq_true.1 h3 r hr
   simpa [hkr] using this
 intro Hs ws H a w sr wr ag hH hpp gm
 let I := fun (D : List Nat) (a : Act) (w : World) => ∃ (vals : Nat → T) (H : GH), (∀ p, p ∈ A → p.j ∈ D → p.k.ok (p.ds.map vals) (vals p.j) ∧ VR H (a.tmps.getD p.d undef) (vals p.j) ∧ ∀ x, x ∈ p.ds → x ∈ D) ∧ (∀ d, d ∈ D → ∃ p, p ∈ A ∧ p.j = d) ∧ (∀ b o, Hs b = some o → H b = some o) ∧ SR n so Hs a ∧
  Gam n C ⟨s, ob ++ Fi vals D A⟩ H a w ∧ Jg Hs Z ws w
 refine ⟨I, ?_, ?_, ?_⟩
 ·exact ⟨fun _ => .tup [], H, by simp, by simp, hH, sr, by rw [Uk, List.append_nil]; exact gm, ag⟩
 ·rintro D j ds a w hm hds hjD hh
  obtain ⟨vals, H, hd, hDA, hH, sr, gm, ag⟩ := hh
  obtain ⟨p, W, he⟩ := List.mem_map.1 hm
  simp only [Prod.mk.injEq] at he
  obtain ⟨rfl, rfl⟩ := he
  obtain ⟨o, ho, hg, hdst, O⟩ := hstep.get p W
  have O := DepN.get (vals := vals) (fun d hdd => by
   obtain ⟨q, hq, rfl⟩ := hDA d (hds d hdd)
   have hq0 := hd q hq (hds _ hdd)
   rw [Qk hq hn, pP hq hn]
   refine ⟨hq0.1, fun x Y => ?_⟩
   obtain ⟨y, hy, rfl⟩ := hDA x (hq0.2.2 x Y)
   rw [Qk hy hn]; exact ⟨_, (hd y hy (hq0.2.2 _ Y)).1⟩) O
  have hsl : ∀ i x, Aw.get (X4 A vals p.ds s) i = some x → VR H (a.tmps.getD i undef) x := by
   intro i x h
   rcases Za h with ⟨d, h1, h2, h3⟩ | h
   ·obtain ⟨q, hq, rfl⟩ := hDA d (hds d h1)
    rw [mM hq hn] at h2
    rw [← h2, ← h3]; exact (hd q hq (hds _ h1)).2.1
   ·exact gm.slots i x h
  rw [List.nil_append] at O
  have hDc : D.contains p.j = false := by simpa using hjD
  have hpc : (p.j :: D).contains p.j = true := by simp
  have hne : ∀ x i, i ∈ D → La vals p.j x i = vals i := fun x i hi => by
   unfold La
   cases hij : Nat.beq i p.j with
   | true => exact absurd (nq hij ▸ hi) hjD
   | false => rfl
  have hself : ∀ x, La vals p.j x p.j = x := fun x => by unfold La; simp
  simp only [wpOp, ho]
  rw [if_pos (by simp [Region.wanted, hg])]
  refine .inl ?_
  have fin : ∀ (old : List Ob) (new : T → List Ob) (md : List Nat) (G : List Ob), List.Perm (Fi vals D A) (old ++ G) → (∀ i, md.contains i = true → i < old.length) →
    AX E n C md o ⟨X4 A vals p.ds s, old ++ (ob ++ G)⟩ (fun σ' => ∃ x, Aw.get σ'.slots p.d = some x ∧ p.k.okW (p.ds.map vals) x ∧ List.Perm σ'.objs (new x ++ (ob ++ G))) → (∀ x, p.k.okW (p.ds.map vals) x → List.Perm (Fi (La vals p.j x) (p.j :: D) A) (new x ++ G)) →
    (∀ v e z es, (p.k = .us e z es ∨ p.k = .lt e z ∨ ∃ q, p.k = .ap q e z es) → ∃ aa, Ob.us v e z aa ∈ new (.v v)) →
    ∀ Q : Exit → Act → World → Prop, o.wp E.P a w (fun a' w' => Jg Hs Z ws w' ∧ I (p.j :: D) a' w') Q := by
   intro old new md G hp0 hmd O hpn hob Q
   have mid : ∀ l : List Ob, List.Perm (ob ++ (l ++ G)) (l ++ (ob ++ G)) := fun l => by
    rw [← List.append_assoc, ← List.append_assoc]
    exact List.Perm.append_right _ List.perm_append_comm
   refine Dh ?_ (fun _ _ _ h => h.elim) (O H a w { gm.perm ((List.Perm.append_left _ hp0).trans (mid old)) with slots := hsl })
   rintro a' w' ⟨σ', H', v, ⟨x, hget, Y, hobj⟩, gm', ha', hHH, hfr⟩
   have htmp : ∀ i, i ≠ p.d → a'.tmps.getD i undef = a.tmps.getD i undef := fun i hi => by
    rw [ha', hdst]
    simp [Act.put, Array.getD_eq_getD_getElem?, Array.getElem?_setIfInBounds_ne (Ne.symm hi)]
   have ag' : Jg Hs Z ws w' := ⟨fun b o hb => gm'.held _ _ (hHH _ _ (hH _ _ hb)), fun q hqp b hb => by
    obtain ⟨i, hi, hoi⟩ := hpp q hqp
    have hi' : (old ++ (ob ++ G))[old.length + i]? = some q := by
     rw [List.getElem?_append_right (by omega), show old.length + i - old.length = i by omega, List.getElem?_append_left (gs hoi).1]; exact hoi
    refine ((hfr (old.length + i) q hi' ?_).2 b hb).trans (ag.2 q hqp b hb)
    cases hc : md.contains (old.length + i) with
    | true => have := hmd _ hc; omega
    | false => rfl⟩
   have hxo : p.k.ok (p.ds.map vals) x := by
    have hone : ∀ v e z es, (p.k = .us e z es ∨ p.k = .lt e z ∨ ∃ q, p.k = .ap q e z es) → x = .v v → v.oneCell' = true := fun v e z es M hv => by
     subst hv
     obtain ⟨aa, he⟩ := hob v e z es M
     exact UsR.one (show UsR H' w' v e z aa from gm'.objs _ (hobj.mem_iff.2 (List.mem_append_left _ he)))
    cases M : p.k with
    | us e z es => rw [M] at Y; obtain ⟨v, rfl⟩ := Y; exact ⟨v, rfl, hone v e z es (.inl M) rfl⟩
    | lt e z => rw [M] at Y; obtain ⟨v, rfl⟩ := Y; exact ⟨v, rfl, hone v e z [] (.inr (.inl M)) rfl⟩
    | ap q e z es => rw [M] at Y; obtain ⟨v, rfl⟩ := Y; exact ⟨v, rfl, hone v e z es (.inr (.inr ⟨q, M⟩)) rfl⟩
    | _ => rw [M] at Y; exact Y
   refine ⟨ag', La vals p.j x, H', fun q hq hqD => ?_, fun d hdD => ?_, fun b o hb => hHH _ _ (hH _ _ hb), ?_, Gam.perm (ob := σ'.objs) { gm' with slots := fun i y hy => ?_ } ((hobj.trans (mid _).symm).trans (List.Perm.append_left _ (hpn x Y).symm)), ag'⟩
   ·by_cases hqp : q.j = p.j
    ·have := back q hq p W hqp
     subst this
     rw [hself, List.map_congr_left fun i hi => hne x i (hds i hi)]
     exact ⟨hxo, gm'.slots _ _ hget, fun y hy => List.mem_cons_of_mem _ (hds y hy)⟩
    ·have hqD' := (List.mem_cons.1 hqD).resolve_left hqp
     obtain ⟨h1, h2, h3⟩ := hd q hq hqD'
     rw [hne _ _ hqD', List.map_congr_left fun i hi => hne x i (h3 i hi), htmp q.d fun h => hqp (hdd q hq p W h)]
     exact ⟨h1, h2.mono hHH, fun y hy => List.mem_cons_of_mem _ (h3 y hy)⟩
   ·rcases List.mem_cons.1 hdD with rfl | hdD
    ·exact ⟨p, W, rfl⟩
    ·exact hDA d hdD
   ·rw [ha', hdst]
    exact sr.free _ _ (hs' p W).2
   ·have hi : i ≠ p.d := fun h => by rw [h, (hs' p W).1] at hy; cases hy
    rw [htmp i hi]
    exact (gm.slots i y hy).mono hHH
  have oth : (∀ e z, p.k ≠ .lt e z) → ∀ v y, y ∈ A → y.j ≠ p.j → Kv vals D y = Kv (La vals p.j v) (p.j :: D) y := fun hnl v y hy hyp =>
   Ys (A := A) hyp (fun q e z es M h => by
    have := (apq y hy q e z es M).2.1
    rw [h, Qk W hn] at this; exact hnl _ _ this) (hne v)
  have plain : (∀ e z, p.k ≠ .lt e z) → (∀ q e z es, p.k ≠ .ap q e z es) → (∀ ob, AX E n C [] o ⟨X4 A vals p.ds s, ob⟩ fun σ' => ∃ x, Aw.get σ'.slots p.d = some x ∧ p.k.okW (p.ds.map vals) x ∧ σ'.objs = ob ++ p.k.obN x) → _ := fun h1 h2 O => by
   have e1 : Kv vals D p = [] := by
    unfold Kv
    cases M : p.k with
    | ap q e z es => exact absurd M (h2 q e z es)
    | _ => dsimp only; rw [hDc]; rfl
   have e2 : ∀ x, Kv (La vals p.j x) (p.j :: D) p = p.k.obN x := fun x => by
    unfold Kv
    cases M : p.k with
    | ap q e z es => exact absurd M (h2 q e z es)
    | lt e z => exact absurd M (h1 e z)
    | _ => dsimp only; rw [hpc, cond_true, hself]; rfl
   refine fin [] p.k.obN [] (Fi vals D A) (.refl _) (by simp) ?_ (fun x _ => ?_) (fun v e z es M => ?_)
   ·exact fun H a w g => Dh (fun a w ⟨σ', H', v, ⟨x, q1, q2, q3⟩, q⟩ => ⟨σ', H', v, ⟨x, q1, q2, by rw [q3]; exact List.perm_append_comm⟩, q⟩) (fun _ _ _ h => h) (O (ob ++ Fi vals D A) H a w g)
   ·obtain ⟨G, a, b⟩ := I0 W hn e1 (e2 x) (oth h1 x)
    exact b.trans (List.Perm.append_left _ (by simpa using a.symm))
   ·rcases M with M | M | ⟨q, M⟩
    ·rw [M]; exact ⟨es, .head _⟩
    ·exact absurd M (h1 e z)
    ·exact absurd M (h2 q e z es)
  cases M : p.k with
  | lt e z =>
   obtain ⟨r, hr, e1, z1, es1, hkr⟩ : ∃ r, r ∈ A ∧ ∃ e z es, r.k = .ap p.j e z es := by
    have h1 := List.all_eq_true.1 hap p W
    simp only [M] at h1
    obtain ⟨r, hr, h2⟩ := List.any_eq_true.1 h1
    split at h2
    ·rename_i q e z es hkr
     rw [nq h2] at hkr
     exact ⟨r, hr, e, z, es, hkr⟩
    ·cases h2
   obtain ⟨r1, r2, r3⟩ := apq r hr p.j e1 z1 es1 hkr
   rw [Qk W hn, M] at r2
   cases r2
   have hrp : r.j ≠ p.j := fun h => by
    rw [back r hr p W h, M] at hkr; cases hkr
   have hrD : D.contains r.j = false := by
    cases h : D.contains r.j with
    | false => rfl
    | true => exact absurd ((hd r hr (by simpa using h)).2.2 p.j (by rw [r1]; simp)) hjD
   have hrD' : (p.j :: D).contains r.j = false := by simp [hrp]; simpa using hrD
   have o1 : Kv vals D r = [] := by unfold Kv; rw [hkr]; dsimp only; rw [hrD, hDc]; rfl
   have key : ∀ v, ∃ G, List.Perm (Fi vals D A) ([] ++ G) ∧ List.Perm (Fi (La vals p.j (.v v)) (p.j :: D) A) ([.us v e z []] ++ G) := fun v => I0 hr hn o1 (by unfold Kv; rw [hkr]; dsimp only; rw [hrD', hpc, hself]; rfl) fun y hy hyr => by
    by_cases hyp : y.j = p.j
    ·rw [back y hy p W hyp]
     unfold Kv
     rw [M]; dsimp only
     rw [hDc, hpc]; rfl
    ·exact Ys (A := A) hyp (fun q e' z' aa hky h => hyr (r3 y hy e' z' aa (h ▸ hky)).symm) (hne _)
   unfold cK at O; rw [M] at O
   refine fin [] (fun x => (NewK.lt e z).obN x) [] (Fi vals D A) (.refl _) (by simp) ?_ (fun x Y => ?_) (fun v e' z' aa hk' => ?_) _
   ·refine fun H a w g => Dh (fun a w ⟨σ', H', v, ⟨x, q1, q2, q3⟩, q⟩ => ⟨σ', H', v, ⟨x, q1, by rw [M]; exact q2, by rw [q3]; exact List.perm_append_comm⟩, q⟩) (fun _ _ _ h => h) (O (ob ++ Fi vals D A) H a w g)
   ·rw [M] at Y
    obtain ⟨v, rfl⟩ := Y
    obtain ⟨G, a, b⟩ := key v
    exact b.trans (List.Perm.append_left _ (by simpa using a.symm))
   ·rw [M] at hk'
    rcases hk' with h | h | ⟨q, h⟩ <;> cases h
    exact ⟨_, .head _⟩
  | ap q e z es =>
   obtain ⟨p1, p2, p3⟩ := apq p W q e z es M
   have hqD : q ∈ D := hds q (by rw [p1]; simp)
   obtain ⟨ql, hql, rfl⟩ := hDA q hqD
   obtain ⟨xl, hxl, hxl1⟩ : ∃ v, vals ql.j = .v v ∧ v.oneCell' = true := by
    have := (hd ql hql hqD).1
    rw [← Qk hql hn, p2] at this
    exact this
   have hqc : D.contains ql.j = true := by simpa using hqD
   have o1 : Kv vals D p = [.us xl e z []] := by unfold Kv; rw [M]; dsimp only; rw [hDc, hqc, cond_false, cond_true, hxl]; rfl
   have hnl : ∀ e z, p.k ≠ .lt e z := fun e z h => by rw [M] at h; cases h
   have key : ∀ v, ∃ G, List.Perm (Fi vals D A) ([.us xl e z []] ++ G) ∧ List.Perm (Fi (La vals p.j (.v v)) (p.j :: D) A) ([.us v e z es] ++ G) := fun v => I0 W hn o1 (by unfold Kv; rw [M]; dsimp only; rw [hpc, cond_true, hself]; rfl) (oth hnl _)
   obtain ⟨G, hp0, _⟩ := key xl
   unfold cK at O
   rw [M, p1] at O
   simp only [List.map_cons, List.map_nil, hxl] at O
   refine fin [.us xl e z []] (fun x => match x with | .v v => [.us v e z es] | _ => []) [0] G hp0 (fun i hi => by simp at hi; simp [hi]) ?_ (fun x Y => ?_) (fun v e' z' aa hk' => ?_) _
   ·rw [p1]
    exact fun H a w g => Dh (fun a w ⟨σ', H', v, ⟨x, q1, q3⟩, q⟩ => ⟨σ', H', v, ⟨.v x, q1, by rw [M]; exact ⟨x, rfl⟩, by rw [q3]; exact .refl _⟩, q⟩) (fun _ _ _ h => h) (O (ob ++ G) H a w g)
   ·rw [M] at Y
    obtain ⟨v, rfl⟩ := Y
    obtain ⟨rest', a, b⟩ := key v
    exact b.trans (List.Perm.append_left _ (List.Perm.cons_inv (hp0.symm.trans a)).symm)
   ·rw [M] at hk'
    rcases hk' with h | h | ⟨q, h⟩ <;> cases h
    exact ⟨_, .head _⟩
  | _ =>
   unfold cK at O
   rw [M] at O
   exact plain (fun e z h => by rw [M] at h; cases h) (fun q e z es h => by rw [M] at h; cases h) (by rw [M]; exact O) _
 ·rintro D a w hall ⟨vals, H, hd, hDA, hH, sr, gm, ag⟩
  have hall' : ∀ p, p ∈ A → p.j ∈ D := fun p W => hall (p.j, p.ds) (List.mem_map_of_mem (f := fun p : NewOp => (p.j, p.ds)) W)
  have kk := News.get vals A [] _ _ _ hb (fun i hi => by cases hi) (fun p W => (hd p W (hall' p W)).1) k
  rw [Oo hall'] at gm
  refine kk Hs ws H a w sr wr ag hH (fun q hqp => ?_) { gm with slots := fun i x Y => ?_ }
  ·obtain ⟨i, hi, hoi⟩ := hpp q hqp
   refine ⟨i, hi, ?_⟩
   dsimp only
   rw [← Oo hall', List.getElem?_append_left (gs hoi).1]; exact hoi
  ·rcases Yv Y with ⟨p, W, rfl, rfl⟩ | Y
   ·exact (hd p W (hall' p W)).2.1
   ·exact gm.slots i x Y
theorem AP.same {pl : PL} {so : Au} {M : List Nat} {G : List Ob} (t : Nat) (x : T) (hs : Aw.get s t = some x) (k : AP E n C ops M G pl so ⟨(t, x) :: s, ob⟩ R) : AP E n C ops M G pl so ⟨s, ob⟩ R :=
 fun Hs ws H a w sr wr W Z O Y => k Hs ws H a w sr wr W Z O (Y.same hs)
theorem nb {ob : List Ob} : ob = ob ++ [] := (List.append_nil ob).symm
end
structure MixOp where
 j : Nat
 ds : List Nat
 d : Nat
 x : T
 ks : List Nat
 os : List Ob
def MixOp.go (p : MixOp) (ob : List Ob) : List Ob := Fm ob p.ks p.os
def MixOp.lit (p : MixOp) : Bool := p.ks.isEmpty
theorem Gv {p : MixOp} (h : p.lit = true) (ob : List Ob) : p.go ob = ob := by
 unfold MixOp.go
 rw [List.isEmpty_iff.1 h]; cases p.os <;> rfl
theorem M4 {i : Nat} : ∀ {ks : List Nat} {os ob : List Ob}, i ∉ ks → (Fm ob ks os)[i]? = ob[i]?
 | [], os, ob, _ => by cases os <;> rfl
 | k :: ks, [], ob, _ => rfl
 | k :: ks, o :: os, ob, h => by
  simp only [Fm]
  rw [M4 (ks := ks) fun G => h (.tail _ G)]
  exact List.getElem?_set_ne fun e => h (by rw [e]; exact .head _)
def Ei (D : List Nat) : List MixOp → List Ob → List Ob
 | [], ob => ob
 | p :: l, ob => Ei D l (bif D.contains p.j then p.go ob else ob)
def dR (j : Nat) : List MixOp → List Ob → List Ob
 | [], ob => ob
 | p :: l, ob => bif Nat.beq p.j j then ob else dR j l (p.go ob)
def oS : List MixOp → List Ob → List Ob
 | [], ob => ob
 | p :: l, ob => oS l (p.go ob)
def dM : List MixOp → Nat → Nat
 | [], _ => 0
 | p :: l, j => bif Nat.beq p.j j then p.d else dM l j
def xM : List MixOp → Nat → T
 | [], _ => .tup []
 | p :: l, j => bif Nat.beq p.j j then p.x else xM l j
def oR (A : List MixOp) : List Nat → Au → Au
 | [], s => s
 | j :: ds, s => oR A ds ((dM A j, xM A j) :: s)
def rM : List MixOp → Au → Au
 | [], s => s
 | p :: l, s => rM l ((p.d, p.x) :: s)
def oQ : List MixOp → Bool
 | [] => true
 | p :: l => (p.lit || l.all fun q => q.lit || q.ds.contains p.j) && oQ l
def PAllM (F : MixOp → Prop) : List MixOp → Prop
 | [] => True
 | p :: l => F p ∧ PAllM F l
theorem PAllM.get {F : MixOp → Prop} : ∀ {l : List MixOp}, PAllM F l → ∀ p, p ∈ l → F p
 | q :: l, ⟨h1, h2⟩, p, h => by
  rcases List.mem_cons.1 h with rfl | h
  ·exact h1
  ·exact PAllM.get h2 p h
theorem kB : ∀ {l : List MixOp} {p : MixOp}, p ∈ l → (l.map MixOp.j).Nodup → dM l p.j = p.d ∧ xM l p.j = p.x
 | q :: l, p, G, hn => by
  simp only [List.map_cons, List.nodup_cons] at hn
  simp only [dM, xM]
  rcases List.mem_cons.1 G with rfl | G
  ·simp
  ·have : Nat.beq q.j p.j = false := by
    cases hb : Nat.beq q.j p.j with
    | false => rfl
    | true => exact absurd (nq hb ▸ List.mem_map_of_mem G) hn.1
   rw [this, cond_false, cond_false]; exact kB G hn.2
theorem Y9 {A : List MixOp} {i : Nat} {x : T} : ∀ {ds : List Nat} {s : Au}, Aw.get (oR A ds s) i = some x → (∃ d, d ∈ ds ∧ dM A d = i ∧ xM A d = x) ∨ Aw.get s i = some x
 | [], s, h => .inr h
 | d :: ds, s, h => by
  rcases Y9 (ds := ds) h with ⟨G, M, O⟩ | h
  ·exact .inl ⟨G, by simp [M], O⟩
  ·simp only [Aw.get] at h
   cases hb : Nat.beq (dM A d) i with
   | true => rw [hb, cond_true] at h; cases h; exact .inl ⟨d, by simp, nq hb, rfl⟩
   | false => rw [hb, cond_false] at h; exact .inr h
theorem Yy {i : Nat} {x : T} : ∀ {l : List MixOp} {s : Au}, Aw.get (rM l s) i = some x → (∃ p, p ∈ l ∧ p.d = i ∧ p.x = x) ∨ Aw.get s i = some x
 | [], s, h => .inr h
 | p :: l, s, h => by
  rcases Yy (l := l) h with ⟨q, G, M⟩ | h
  ·exact .inl ⟨q, .tail _ G, M⟩
  ·simp only [Aw.get] at h
   cases hb : Nat.beq p.d i with
   | true => rw [hb, cond_true] at h; cases h; exact .inl ⟨p, .head _, nq hb, rfl⟩
   | false => rw [hb, cond_false] at h; exact .inr h
theorem L5 {D : List Nat} : ∀ {l : List MixOp} {ob : List Ob}, (∀ p, p ∈ l → p.j ∈ D) → Ei D l ob = oS l ob
 | [], _, _ => rfl
 | p :: l, ob, h => by
  have G : D.contains p.j = true := by simpa using h p (.head _)
  simp only [Ei, oS, G, cond_true]
  exact L5 fun q M => h q (.tail _ M)
theorem Tj : ∀ {l : List MixOp} {ob : List Ob}, Ei [] l ob = ob
 | [], _ => rfl
 | p :: l, ob => by simp only [Ei]; exact Tj (l := l)
theorem Ke {D : List Nat} : ∀ {l : List MixOp} {ob : List Ob}, (∀ q, q ∈ l → q.lit = true ∨ q.j ∉ D) → Ei D l ob = ob
 | [], _, _ => rfl
 | p :: l, ob, h => by
  simp only [Ei]
  have : (bif D.contains p.j then p.go ob else ob) = ob := by
   rcases h p (.head _) with h | h
   ·rw [Gv h]; cases D.contains p.j <;> rfl
   ·have : D.contains p.j = false := by simpa using h
    rw [this]; rfl
  rw [this]
  exact Ke fun q G => h q (.tail _ G)
theorem Hg {D : List Nat} {p : MixOp} (hp : p.lit = false) : ∀ {l : List MixOp} {ob : List Ob}, p ∈ l → (l.map MixOp.j).Nodup → oQ l = true → (∀ d, d ∈ p.ds → d ∈ D) → p.j ∉ D → (∀ q, q ∈ l → q.j ∈ D → ∀ d, d ∈ q.ds → d ∈ D) →
  Ei D l ob = dR p.j l ob ∧ Ei (p.j :: D) l ob = p.go (dR p.j l ob)
 | q :: l, ob, Z, hn, hc, hd, hj, hcl => by
  simp only [List.map_cons, List.nodup_cons] at hn
  simp only [oQ, Bool.and_eq_true] at hc
  rcases List.mem_cons.1 Z with rfl | Z
  ·have ac : D.contains p.j = false := by simpa using hj
   have G : ∀ r, r ∈ l → r.lit = true ∨ r.j ∉ D := fun r O => by
    have Y : (p.lit || l.all fun q => q.lit || q.ds.contains p.j) = true := hc.1
    rw [hp, Bool.false_or] at Y
    have := List.all_eq_true.1 Y r O
    simp only [Bool.or_eq_true] at this
    rcases this with h | h
    ·exact .inl h
    ·exact .inr fun hrD => hj (hcl r (.tail _ O) hrD p.j (by simpa using h))
   have M : ∀ r, r ∈ l → r.lit = true ∨ r.j ∉ p.j :: D := fun r O => (G r O).imp id fun h W => by
    rcases List.mem_cons.1 W with W | W
    ·exact hn.1 (W ▸ List.mem_map_of_mem O)
    ·exact h W
   have e1 : Nat.beq p.j p.j = true := by simp
   have e2 : (p.j :: D).contains p.j = true := by simp
   simp only [Ei, dR, ac, e1, e2, cond_true, cond_false]
   exact ⟨Ke G, Ke M⟩
  ·have aa : q.j ≠ p.j := fun he => hn.1 (he ▸ List.mem_map_of_mem Z)
   have ab : Nat.beq q.j p.j = false := by
    cases hb : Nat.beq q.j p.j with
    | false => rfl
    | true => exact absurd (nq hb) aa
   have e : (bif D.contains q.j then q.go ob else ob) = q.go ob := by
    cases hq : q.lit with
    | true => rw [Gv hq]; cases D.contains q.j <;> rfl
    | false =>
     have Y := hc.1
     rw [hq, Bool.false_or] at Y
     have := List.all_eq_true.1 Y p Z
     rw [hp, Bool.false_or] at this
     have : D.contains q.j = true := by simpa using hd q.j (by simpa using this)
     rw [this]; rfl
   have e' : (bif (p.j :: D).contains q.j then q.go ob else ob) = q.go ob := by
    have : (p.j :: D).contains q.j = D.contains q.j := by simp [aa]
    rw [this, e]
   simp only [Ei, dR, ab, cond_false, e, e']
   exact Hg hp Z hn.2 hc.2 hd hj fun r O => hcl r (.tail _ O)
theorem Tk {D : List Nat} {p : MixOp} (M : p.lit = true) : ∀ {l : List MixOp} {ob : List Ob}, (∀ q, q ∈ l → q.j = p.j → q = p) → Ei (p.j :: D) l ob = Ei D l ob
 | [], _, _ => rfl
 | q :: l, ob, h => by
  simp only [Ei]
  have e : (bif (p.j :: D).contains q.j then q.go ob else ob) = bif D.contains q.j then q.go ob else ob := by
   by_cases G : q.j = p.j
   ·have := h q (.head _) G
    subst this
    rw [Gv M]
    cases (q.j :: D).contains q.j <;> cases D.contains q.j <;> rfl
   ·have : (p.j :: D).contains q.j = D.contains q.j := by simp [G]
    rw [this]
  rw [e]
  exact Tk M fun r O => h r (.tail _ O)
theorem Pr {D : List Nat} {i : Nat} {G : List Ob} : ∀ {l : List MixOp} {ob : List Ob}, ob[i]? = G[i]? → (∀ q, q ∈ l → i ∉ q.ks) → (Ei D l ob)[i]? = G[i]?
 | [], _, h, _ => h
 | q :: l, ob, h, hb => by
  simp only [Ei]
  refine Pr ?_ fun r M => hb r (.tail _ M)
  cases D.contains q.j with
  | false => exact h
  | true => exact (M4 (hb q (.head _))).trans h
section
variable {E : Env} {n : Nat} {C : Ctx} {ops : Array Oper} {s : Au} {ob : List Ob} {R : St → Prop}
theorem Xb {r : PL} {so : Au} {M : List Nat} {O : List Ob} {L : List (List Nat)} (A : List MixOp)
  (hB : (jU (A.map MixOp.j) && (oQ A && (A.all (fun p => A.all fun q => Nat.beq p.j q.j || !Nat.beq p.d q.d) && (A.all fun p => (Aw.get s p.d).isNone && (free so (some p.d) && M.all fun i => !p.ks.contains i))))) = true)
  (hstep : PAllM (fun p => ∃ o, ops[p.j]? = some o ∧ o.guard = none ∧ o.dst = some p.d ∧
   ∀ ob0, (bif p.lit then True else ob0 = dR p.j A ob) → AX E n C p.ks o ⟨oR A p.ds s, ob0⟩ fun σ' => Aw.get σ'.slots p.d = some p.x ∧ σ'.objs = p.go ob0) A)
  (k : AP E n C ops M O r so ⟨rM A s, oS A ob⟩ R) :
  AP E n C ops M O (.parS (A.map fun p => (p.j, p.ds)) L r) so ⟨s, ob⟩ R := by
 simp only [Bool.and_eq_true] at hB
 obtain ⟨hn, hc, hj, hs⟩ := hB
 have hn := Xi hn
 have hdd : ∀ p, p ∈ A → ∀ q, q ∈ A → p.d = q.d → p.j = q.j := fun p G q W he => by
  have := List.all_eq_true.1 (List.all_eq_true.1 hj p G) q W
  rw [he] at this
  simp at this
  exact this
 have hs0 : ∀ p, p ∈ A → Aw.get s p.d = none ∧ free so (some p.d) = true ∧ (M.all fun i => !p.ks.contains i) = true := fun p G => by
  have := List.all_eq_true.1 hs p G
  simp only [Bool.and_eq_true, Option.isNone_iff_eq_none] at this
  exact this
 have hs' : ∀ p, p ∈ A → Aw.get s p.d = none ∧ free so (some p.d) = true := fun p G => ⟨(hs0 p G).1, (hs0 p G).2.1⟩
 have back : ∀ p, p ∈ A → ∀ q, q ∈ A → p.j = q.j → p = q := by
  have : ∀ l : List MixOp, (l.map MixOp.j).Nodup → ∀ p, p ∈ l → ∀ q, q ∈ l → p.j = q.j → p = q := by
   intro l
   induction l with
   | nil => intro _ p G; cases G
   | cons x l ih =>
    intro hn p G q W he
    simp only [List.map_cons, List.nodup_cons] at hn
    rcases List.mem_cons.1 G with h1 | h1 <;> rcases List.mem_cons.1 W with h2 | h2
    ·rw [h1, h2]
    ·exact absurd (show x.j ∈ l.map MixOp.j by rw [← h1, he]; exact List.mem_map_of_mem h2) hn.1
    ·exact absurd (show x.j ∈ l.map MixOp.j by rw [← h2, ← he]; exact List.mem_map_of_mem h1) hn.1
    ·exact ih hn.2 p h1 q h2 he
  exact this A hn
 have hpr : ∀ D i, M.contains i = true → (Ei D A ob)[i]? = ob[i]? := fun D i hi => Pr rfl fun q W => by
  have := List.all_eq_true.1 (hs0 q W).2.2 i (by simpa using hi)
  simpa using this
 intro Hs ws H a w sr wr ag hH hpp gm
 refine ⟨fun D a w => ∃ H : GH, (∀ p, p ∈ A → p.j ∈ D → VR H (a.tmps.getD p.d undef) p.x ∧ ∀ x, x ∈ p.ds → x ∈ D) ∧ (∀ d, d ∈ D → ∃ p, p ∈ A ∧ p.j = d) ∧ (∀ b o, Hs b = some o → H b = some o) ∧ SR n so Hs a ∧
  Gam n C ⟨s, Ei D A ob⟩ H a w ∧ Jg Hs O ws w, ?_, ?_, ?_⟩
 ·exact ⟨H, by simp, by simp, hH, sr, by rw [Tj]; exact gm, ag⟩
 ·rintro D j ds a w hm hds hjD ⟨H, hd, hDA, hH, sr, gm, ag⟩
  obtain ⟨p, G, he⟩ := List.mem_map.1 hm
  simp only [Prod.mk.injEq] at he
  obtain ⟨rfl, rfl⟩ := he
  obtain ⟨o, ho, hg, hdst, hax⟩ := hstep.get p G
  have hmd' : ∀ i, M.contains i = true → p.ks.contains i = false := fun i hi => by
   have := (List.all_eq_true.1 (hs0 p G).2.2) i (by simpa using hi)
   simpa using this
  have hcl : ∀ q, q ∈ A → q.j ∈ D → ∀ d, d ∈ q.ds → d ∈ D := fun q W h => (hd q W h).2
  have hax := hax (Ei D A ob) (by
   cases hb : p.lit with
   | true => trivial
   | false => exact (Hg hb G hn hc hds hjD hcl).1)
  have hsl : ∀ i x, Aw.get (oR A p.ds s) i = some x → VR H (a.tmps.getD i undef) x := by
   intro i x h
   rcases Y9 h with ⟨d, h1, h2, h3⟩ | h
   ·obtain ⟨q, W, rfl⟩ := hDA d (hds d h1)
    rw [(kB W hn).1] at h2
    rw [(kB W hn).2] at h3
    rw [← h2, ← h3]; exact (hd q W (hds _ h1)).1
   ·exact gm.slots i x h
  have hax := hax H a w { gm with slots := hsl }
  simp only [wpOp, ho]
  rw [if_pos (by simp [Region.wanted, hg])]
  refine .inl (Dh ?_ (fun _ _ _ h => h.elim) hax)
  rintro a' w' ⟨σ', H', v, ⟨hget, hobj⟩, gm', ha', hHH, hfr⟩
  have hobj' : σ'.objs = Ei (p.j :: D) A ob := by
   rw [hobj]
   cases hb : p.lit with
   | true => rw [Gv hb]; exact (Tk hb fun q W he => back q W p G he).symm
   | false => rw [(Hg hb G hn hc hds hjD hcl).2, ← (Hg hb G hn hc hds hjD hcl).1]
  have ag' : Jg Hs O ws w' := by
   refine ⟨fun b o hb => gm'.held _ _ (hHH _ _ (hH _ _ hb)), fun q Y b hb => ?_⟩
   obtain ⟨i, hi, hoi⟩ := hpp q Y
   exact ((hfr i q (by dsimp only; rw [hpr D i hi]; exact hoi) (hmd' i hi)).2 b hb).trans (ag.2 q Y b hb)
  have htmp : ∀ i, i ≠ p.d → a'.tmps.getD i undef = a.tmps.getD i undef := fun i hi => by
   rw [ha', hdst]
   simp [Act.put, Array.getD_eq_getD_getElem?, Array.getElem?_setIfInBounds_ne (Ne.symm hi)]
  refine ⟨ag', H', fun q W hqD => ?_, fun d hdD => ?_, fun b o hb => hHH _ _ (hH _ _ hb), ?_, ?_, ag'⟩
  ·by_cases Y : q.j = p.j
   ·have := back q W p G Y
    subst this
    exact ⟨gm'.slots _ _ hget, fun y hy => List.mem_cons_of_mem _ (hds y hy)⟩
   ·have hqD' : q.j ∈ D := by
     rcases List.mem_cons.1 hqD with h | h
     ·exact absurd h Y
     ·exact h
    obtain ⟨h2, h3⟩ := hd q W hqD'
    rw [htmp q.d fun h => Y (hdd q W p G h)]
    exact ⟨h2.mono hHH, fun y hy => List.mem_cons_of_mem _ (h3 y hy)⟩
  ·rcases List.mem_cons.1 hdD with rfl | hdD
   ·exact ⟨p, G, rfl⟩
   ·exact hDA d hdD
  ·rw [ha', hdst]
   exact sr.free _ _ (hs' p G).2
  ·have gm'' : Gam n C ⟨σ'.slots, Ei (p.j :: D) A ob⟩ H' a' w' := by rw [← hobj']; exact gm'
   refine { gm'' with slots := fun i y hy => ?_ }
   have hi : i ≠ p.d := fun h => by rw [h, (hs' p G).1] at hy; cases hy
   rw [htmp i hi]
   exact (gm.slots i y hy).mono hHH
 ·rintro D a w hall ⟨H, hd, hDA, hH, sr, gm, ag⟩
  have Z : ∀ p, p ∈ A → p.j ∈ D := fun p G => hall (p.j, p.ds) (List.mem_map_of_mem (f := fun p : MixOp => (p.j, p.ds)) G)
  rw [L5 Z] at gm
  refine k Hs ws H a w sr wr ag hH (fun q Y => ?_) { gm with slots := fun i x hx => ?_ }
  ·obtain ⟨i, hi, hoi⟩ := hpp q Y
   refine ⟨i, hi, ?_⟩
   dsimp only
   rw [← L5 (D := D) Z, hpr D i hi]; exact hoi
  ·rcases Yy hx with ⟨p, G, rfl, rfl⟩ | hx
   ·exact (hd p G (Z p G)).1
   ·exact gm.slots i x hx
end
end Go.Aw
