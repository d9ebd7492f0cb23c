/- A program logic over the model. No condition. -/
import Derived.Test.YtaoclefkknloiaaGreatZwB1
import Derived.Scope
import Derived.Laws.StructEq
import Derived.Lib.LazyBuf
set_option maxRecDepth 100000
namespace Go.Aw
set_option linter.unusedVariables false
set_option linter.defProp false
set_option linter.unusedSimpArgs false
def wr (x : Int) : Int := IntKind.i64.wrap x
theorem Bp {x : Int} (h : -9223372036854775808 ≤ x ∧ x ≤ 9223372036854775807) : wr x = x := pW h
def ix {α : Type} (l : List α) (i : Int) : Option (Nat × α) := if 0 ≤ i then (l[i.toNat]?).map fun x => (i.toNat, x) else none
theorem V4 {α : Type} {l : List α} {i : Int} {p : Nat × α} (h : ix l i = some p) : i = (p.1 : Int) ∧ l[p.1]? = some p.2 := by
 unfold ix at h
 split at h
 ·obtain ⟨x, G, rfl⟩ := Option.map_eq_some_iff.1 h
  exact ⟨by dsimp only; omega, G⟩
 ·cases h
theorem Bd {α : Type} {l : List α} {k : Nat} {x : α} (h : l[k]? = some x) : ix l (k : Int) = some (k, x) := by simp [ix, h]
def kM : Nat := 68719476736
def Cy {α : Type} (l m : List α) : Option (List α) := if l.length + m.length ≤ kM then some (l ++ m) else none
theorem Ez {α : Type} {l m r : List α} (h : Cy l m = some r) : l.length + m.length ≤ 68719476736 ∧ l ++ m = r := by
 unfold Cy at h
 split at h
 ·rename_i G; exact ⟨G, by cases h; rfl⟩
 ·cases h
theorem Ga {α : Type} {l m : List α} (h : l.length + m.length ≤ 68719476736) : Cy l m = some (l ++ m) := if_pos h
def Su {α : Type} (n : Int) (z : α) : Option (List α) := if 0 ≤ n ∧ n ≤ (kM : Int) then some (List.replicate n.toNat z) else none
theorem lW {α : Type} {n : Int} {z : α} {r : List α} (h : Su n z = some r) : ∃ m : Nat, n = (m : Int) ∧ m ≤ 68719476736 ∧ List.replicate m z = r := by
 unfold Su at h
 split at h
 ·rename_i G
  refine ⟨n.toNat, by omega, ?_, by cases h; rfl⟩
  have : (kM : Int) = 68719476736 := rfl
  omega
 ·cases h
theorem oL {α : Type} {m : Nat} (z : α) (h : m ≤ 68719476736) : Su (m : Int) z = some (List.replicate m z) := by
 unfold Su
 have : (kM : Int) = 68719476736 := rfl
 rw [if_pos (by omega)]; simp
def Yc {α : Type} (l : List α) (a b : Int) : Option (List α) := if 0 ≤ a ∧ a ≤ b ∧ b ≤ (l.length : Int) then some ((l.drop a.toNat).take (b.toNat - a.toNat)) else none
theorem Rm {α : Type} {l r : List α} {a b : Int} (h : Yc l a b = some r) : ∃ x y : Nat, a = (x : Int) ∧ b = (y : Int) ∧ x ≤ y ∧ y ≤ l.length ∧ (l.drop x).take (y - x) = r := by
 unfold Yc at h
 split at h
 ·exact ⟨a.toNat, b.toNat, by omega, by omega, by omega, by omega, by cases h; rfl⟩
 ·cases h
def nR (a b : ByteArray) : Option ByteArray := if a.size + b.size ≤ 68719476736 then some (a ++ b) else none
theorem iL {a b r : ByteArray} (h : nR a b = some r) : a.size + b.size < 9223372036854775807 ∧ a ++ b = r := by
 unfold nR at h
 split at h
 ·rename_i G; exact ⟨by omega, by cases h; rfl⟩
 ·cases h
def mW (b : ByteArray) (i : Int) : Option (Nat × Int) := if 0 ≤ i ∧ i < (b.size : Int) then some (i.toNat, ((b.data.getD i.toNat 0).toNat : Int)) else none
theorem Mv {b : ByteArray} {i : Int} {p : Nat × Int} (h : mW b i = some p) : i = (p.1 : Int) ∧ p.1 < b.size ∧ ((b.data.getD p.1 0).toNat : Int) = p.2 := by
 unfold mW at h
 split at h
 ·cases h; exact ⟨by dsimp only; omega, by dsimp only; omega, rfl⟩
 ·cases h
def pV (a b : Int) : Option Int := if b ≠ 0 then some (wr (a.tdiv b)) else none
def fB (a b : Int) : Option Int := if b ≠ 0 then some (a.tmod b) else none
theorem W6 {a b r : Int} (h : fB a b = some r) : b ≠ 0 ∧ a.tmod b = r := by
 unfold fB at h
 split at h
 ·rename_i G; exact ⟨G, by cases h; rfl⟩
 ·cases h
def chk (p : Prop) [Decidable p] : Option Unit := if p then some () else none
theorem J0 {p : Prop} [Decidable p] {u : Unit} (h : chk p = some u) : p := by
 unfold chk at h
 split at h
 ·assumption
 ·cases h
theorem oU {p : Prop} [Decidable p] (h : p) : chk p = some () := if_pos h
def Wh (a b : ByteArray) : Bool := a.toList == b.toList
theorem Ad {α β : Type} {o : Option α} {f : α → Option β} {r : β} (h : o.bind f = some r) : ∃ x, o = some x ∧ f x = some r := Option.bind_eq_some_iff.1 h
def D7 {S B : Type} (f : S → Option (S ⊕ B)) : Nat → S → Option B
 | 0, _ => none
 | n + 1, s => match f s with
  | none => none
  | some (.inl s') => D7 f n s'
  | some (.inr b) => some b
def Gz : Nat := 18446744073709551616
def forL {α S B : Type} (f : Nat → α → S → Option (S ⊕ B)) : Nat → List α → S → Option (S ⊕ B)
 | _, [], s => some (.inl s)
 | k, x :: l, s => match f k x s with
  | none => none
  | some (.inl s') => forL f (k + 1) l s'
  | some (.inr b) => some (.inr b)
def forS {α S : Type} (f : Nat → α → S → Option S) : Nat → List α → S → Option S
 | _, [], s => some s
 | k, x :: l, s => match f k x s with
  | none => none
  | some s' => forS f (k + 1) l s'
def forI {S B : Type} (f : Nat → S → Option (S ⊕ B)) : Nat → Nat → S → Option (S ⊕ B)
 | _, 0, s => some (.inl s)
 | k, n + 1, s => match f k s with
  | none => none
  | some (.inl s') => forI f (k + 1) n s'
  | some (.inr b) => some (.inr b)
def forJ {S : Type} (f : Nat → S → Option S) : Nat → Nat → S → Option S
 | _, 0, s => some s
 | k, n + 1, s => match f k s with
  | none => none
  | some s' => forJ f (k + 1) n s'
structure Arr (α : Type) (n : Nat) where
 l : List α
 h : l.length = n
theorem Arr.ext' {α : Type} {n : Nat} {a b : Arr α n} (h : a.l = b.l) : a = b := by cases a; cases b; cases h; rfl
instance {α : Type} {n : Nat} [DecidableEq α] : DecidableEq (Arr α n) := fun a b => if h : a.l = b.l then .isTrue (Arr.ext' h) else .isFalse (fun h' => h (by rw [h']))
instance {α : Type} {n : Nat} [Inhabited α] : Inhabited (Arr α n) := ⟨⟨List.replicate n default, by simp⟩⟩
def Arr.set {α : Type} {n : Nat} (a : Arr α n) (i : Nat) (x : α) : Arr α n := ⟨a.l.set i x, by simp [a.h]⟩
def Arr.rep {α : Type} (n : Nat) (x : α) : Arr α n := ⟨List.replicate n x, by simp⟩
theorem Ey {α : Type} {f : α → T} {l : List α} {post : List T} {i : Nat} {x : α} (h : l[i]? = some x) : (l.map f ++ post)[i]? = some (f x) := by
 have G := (gs h).1
 rw [List.getElem?_append_left (by simpa using G)]; simp [h]
theorem Ed {G post : List T} {k i : Nat} {x : T} (M : G.length = k) (h : post[i]? = some x) : (G ++ post)[k + i]? = some x := by
 subst M; rw [List.getElem?_append_right (by omega)]; simpa using h
theorem I1 {α : Type} {f : α → T} {l : List α} {post : List T} {i : Nat} {y : α} (hi : i < l.length) : Ex (l.map f ++ post) i [f y] = (l.set i y).map f ++ post := by
 induction l generalizing i with
 | nil => simp at hi
 | cons a l ih =>
  cases i with
  | zero =>
   simp only [List.map_cons, List.cons_append, Ex, List.set_cons_zero]
   cases h : (l.map f ++ post) <;> rfl
  | succ i => simp only [List.map_cons, List.cons_append, Ex, List.set_cons_succ]; rw [ih (by simpa using hi)]
theorem Gu {G post post' : List T} {k i : Nat} {cs : List T} (M : G.length = k) (h : Ex post i cs = post') : Ex (G ++ post) (k + i) cs = G ++ post' := by
 subst M
 induction G with
 | nil => simpa using h
 | cons a l ih => simp only [List.cons_append, List.length_cons, Nat.add_right_comm, Ex]; rw [ih]
section
variable {E : Env} {n : Nat} {C : Ctx} {s : Aq} {ob : List Ob} {Q : Exit → St → Prop} {ops : Array Oper} {R : St → Prop}
theorem Ghost.pick (ks : List Nat) {K : List Ob} (hK : Cu ob ks = some K) (hn : ks.Nodup) : Ghost n C s ob s K := by
 intro H a w Z
 obtain ⟨p1, p2⟩ := Gh hK
 have G : ∀ (i : Nat) (p : Ob), K[i]? = some p → ∃ k, ks[i]? = some k ∧ ob[k]? = some p := by
  intro i p M
  have hil := (gs M).1
  obtain ⟨o, h1, h2⟩ := p2 i ks[i] (gq (by omega))
  rw [M] at h2
  cases h2
  exact ⟨_, gq (by omega), h1⟩
 have W : ∀ p, p ∈ K → p ∈ ob := fun p Y => by
  obtain ⟨i, M⟩ := List.mem_iff_getElem?.1 Y
  obtain ⟨k, _, h⟩ := G i p M
  exact mg h
 have hl := C0.1 Z.nodup
 refine ⟨H, fun _ _ h => h, { Z with objs := fun p Y => Z.objs p (W p Y), free := fun p Y => Z.free p (W p Y), new := fun p Y => Z.new p (W p Y), nodup := ?_ }⟩
 refine C0.2 ⟨fun i p M => ?_, fun i j p q M hj hne b hb => ?_⟩
 ·obtain ⟨k, _, h⟩ := G i p M
  exact hl.1 k p h
 ·obtain ⟨k, h1, h2⟩ := G i p M
  obtain ⟨k', h3, h4⟩ := G j q hj
  refine hl.2 k k' p q h2 h4 (fun he => hne ?_) b hb
  subst he
  exact (List.getElem?_inj (gs h1).1 hn).1 (h1.trans h3.symm)
theorem Ghost.refl : Ghost n C s ob s ob := fun H _ _ G => ⟨H, fun _ _ h => h, G⟩
theorem Ghost.slots {s' : Aq} (h : ∀ (H : GH) (a : Act) (w : World), Gam n C ⟨s, ob⟩ H a w → ∀ i x, get s' i = some x → VR H (a.tmps.getD i undef) x) : Ghost n C s ob s' ob := fun H a w G =>
 ⟨H, fun _ _ h => h, { G with slots := h H a w G }⟩
theorem Ar {so : Aq} {M : List Nat} {G : List Ob} {σ : St} (h : AO E n C ops [] σ R) : AP E n C ops M G .nil so σ R := fun _ _ H a w _ _ _ _ _ W => h H a w W
theorem D6 {pl : PL} {so : Aq} {prot : List Nat} {G : List Ob} {s' : Aq} {ob' : List Ob} (h : Ghost n C s ob s' ob') (hp : prot.map (fun i => ob'[i]?) = prot.map (fun i => ob[i]?))
  (k : AP E n C ops prot G pl so ⟨s', ob'⟩ R) : AP E n C ops prot G pl so ⟨s, ob⟩ R := by
 intro Hs ws H a w sr wr ag hH Y gm
 obtain ⟨H', h1, g⟩ := h H a w gm
 refine k Hs ws H' a w sr wr ag (fun b o hb => h1 _ _ (hH _ _ hb)) (fun p W => ?_) g
 obtain ⟨i, Z, he⟩ := Y p W
 have M : i ∈ prot := by simpa using Z
 have : ob'[i]? = ob[i]? := List.map_inj_left.1 hp i M
 exact ⟨i, Z, this.trans he⟩
theorem Iv {pl : PL} {so : Aq} {M : List Nat} {G : List Ob} (d : Nat) (k : AP E n C ops M G pl (pY so (some d)) ⟨s, ob⟩ R) : AP E n C ops M G pl so ⟨s, ob⟩ R :=
 fun Hs ws H a w W wr Y hH hp Z => k Hs ws H a w ⟨W.size, fun i x h => W.slots i x (Ht h).2⟩ wr Y hH hp Z
theorem A8 {pl : PL} {so : Aq} {M : List Nat} {G : List Ob} {b c : Bool} (t : Nat) (hs : get s t = some (.v (.bool b))) (hb : b = c) (k : AP E n C ops M G pl so ⟨(t, .v (.bool c)) :: s, ob⟩ R) : AP E n C ops M G pl so ⟨s, ob⟩ R := by
 intro Hs ws H a w sr wr W Z hp Y
 subst hb
 exact k Hs ws H a w sr wr W Z hp (Y.same hs)
theorem Ba {o : Oper} {x : T} (hy : Yd E.P n s ob o x) (Y : ∀ W, o.dst = some W → W < n) (k : R ⟨E5 s o.dst x, ob⟩) : AX E n C [] o ⟨s, ob⟩ R := by
 intro H a w M
 obtain ⟨v, hv, G⟩ := hy H a w M.sr M.wr
 simp only [Oper.wp, G w ⟨M.held, fun _ _ _ _ => rfl⟩, Oper.upon]
 refine ⟨_, H, v, k, ?_, rfl, fun _ _ h => h, fun i p Z _ => ⟨Z, by intros; trivial⟩⟩
 have := M.put hv Y
 cases h : o.dst <;> simpa [St.put, E5, h] using this
theorem Lc {H : GH} {a : Act} {j : Nat} {t : Tmp} (r : SR n s H a) (M : (ops[j]?).bind (·.dst) = some t) (W : get s t = some (.v undef)) : yielded ops a.tmps j = none := by
 have G := (r.slots t _ W).v_eq
 simp only [yielded, M, Option.bind_some]
 rw [Array.getD_eq_getD_getElem?] at G
 cases h : a.tmps[t]? with
 | none => rfl
 | some x => rw [h] at G; simp only [Option.getD_some] at G; subst G; rfl
theorem Cq {d : Option Nat} {op : Op} {ty : TypeId} {pos : String} {aft : Array Edge} {l : List Oper} {j : Nat} {G : Bool} {t : Tmp}
  (Z : (ops[j]?).bind (·.dst) = some t) (hs : get s t = some (.v undef)) (Y : ∀ M, d = some M → M < n) (k : AO E n C ops l ⟨E5 s d (.v undef), ob⟩ R) : AO E n C ops (⟨d, op, ty, pos, aft, some (j, G)⟩ :: l) ⟨s, ob⟩ R := by
 intro H a w W
 simp only [Ya]
 rw [if_neg (by simp [Region.wanted, Lc W.sr Z hs])]
 have := W.put (dst := d) (v := undef) (x := .v undef) (.v _) Y
 cases d <;> exact k H _ w this
theorem Ap {M : List Nat} {G : List Ob} {so : Aq} {i : Nat} {r : PL} {o : Oper} {j : Nat} {W : Bool} {t : Tmp} (ho : ops[i]? = some o)
  (hg : o.guard = some (j, W)) (hj : (ops[j]?).bind (·.dst) = some t) (hs : get s t = some (.v undef)) (hd : ∀ d, o.dst = some d → d < n)
  (k : AP E n C ops M G r so (St.put ⟨s, ob⟩ o.dst (.v undef)) R) (hf : free so o.dst = true := by rfl) : AP E n C ops M G (.still i r) so ⟨s, ob⟩ R := by
 intro Hs ws H a w sr wr Y hH hp Z
 have hw : Region.wanted o (yielded ops a.tmps) = false := by simp [Region.wanted, hg, Lc Z.sr hj hs]
 have hk := k Hs ws H _ w (sr.free o.dst undef hf) wr Y hH (by cases h : o.dst <;> simpa [St.put, h] using hp) (Z.put (.v undef) hd)
 exact ⟨o, undef, ho, .inr ⟨hw, rfl⟩, Y, hk⟩
theorem L9 {c : Code} (t : Nat) {sz : Nat} {es : List (List T)} (M : get s t = some (.list sz es)) (k : es.length ≤ 140737488355328 → AW E n C c ⟨s, ob⟩ Q) : AW E n C c ⟨s, ob⟩ Q :=
 fun H a w G => k (G.slots _ _ M).list_max H a w G
theorem kJ {c : Code} (k : Nat) {v : Value} {tt sz : Nat} {es : List (List T)} (W : ob[k]? = some (.us v tt sz es)) (Y : es.length ≤ 140737488355328 → AW E n C c ⟨s, ob⟩ Q) : AW E n C c ⟨s, ob⟩ Q := by
 intro H a w M
 have G : UsR H w v tt sz es := M.objs _ (mg W)
 refine Y ?_ H a w M
 rcases G with ⟨_, rfl⟩ | ⟨_, _, _, _, _, _, _, _, _, _, h, _⟩
 ·simp
 ·exact h
theorem eX {c : Code} (k : Nat) {v : Value} {tt tyi szi : Nat} {vs : List Value} {L : List (Option (List (List T)))} (Z : ob[k]? = some (.uss v tt tyi szi vs L)) (kk : L.length ≤ 140737488355328 → AW E n C c ⟨s, ob⟩ Q) : AW E n C c ⟨s, ob⟩ Q := by
 intro H a w M
 have G : OR H w (.uss v tt tyi szi vs L) := M.objs _ (mg Z)
 refine kk ?_ H a w M
 obtain ⟨W, Y, _⟩ := G
 rcases Y with ⟨_, h⟩ | ⟨_, _, _, _, _, _, _, _, _, _, h, _⟩
 ·have : vs = [] := by simpa using h
  rw [← W, this]; simp
 ·rw [← W]; simpa [Kw] using h
theorem Cd {α : Type} {f : α → List T} {l : List α} {c : Code} (t : Nat) {sz : Nat} (G : get s t = some (.list sz (l.map f))) (k : l.length ≤ 9223372036854775806 → AW E n C c ⟨s, ob⟩ Q) : AW E n C c ⟨s, ob⟩ Q :=
 L9 t G fun h => k (by rw [List.length_map] at h; omega)
theorem Gq {α : Type} {f : α → List T} {l : List α} {c : Code} (k : Nat) {v : Value} {tt sz : Nat} (G : ob[k]? = some (.us v tt sz (l.map f))) (M : l.length ≤ 9223372036854775806 → AW E n C c ⟨s, ob⟩ Q) : AW E n C c ⟨s, ob⟩ Q :=
 kJ k G fun h => M (by rw [List.length_map] at h; omega)
theorem fQ {α : Type} {f : α → Option (List (List T))} {l : List α} {c : Code} (k : Nat) {v : Value} {tt tyi szi : Nat} {vs : List Value} (G : ob[k]? = some (.uss v tt tyi szi vs (l.map f))) (M : l.length ≤ 9223372036854775806 → AW E n C c ⟨s, ob⟩ Q) : AW E n C c ⟨s, ob⟩ Q :=
 eX k G fun h => M (by rw [List.length_map] at h; omega)
theorem Cm {k m : Nat} (h : k < m) : decide ((k : Int) < (m : Int)) = true := decide_eq_true (by omega)
theorem Cn (m : Nat) : decide (((m : Nat) : Int) < (m : Int)) = false := by simp
def qA (Q : Exit → St → Prop) : Exit → St → Prop
 | .goto _, _ => False
 | e, σ => Q e σ
theorem AW.scope {c : Code} {σ : St} (h : AW E n C c σ (qA Q)) : AW E n C (.scope c) σ Q := fun H a w g =>
 Nf (Is (h H a w g) fun e a' w' ⟨σ', H', q, G⟩ => by
  cases e <;> first | exact ⟨σ', H', q, G⟩ | exact q.elim)
def Left (s' : Aq) (ob' : List Ob) (σ : St) : Prop := Sub s' σ.slots ∧ ∃ ks, Cu σ.objs ks = some ob' ∧ ks.Nodup
theorem Left.ghost {s' : Aq} {ob' : List Ob} {σ : St} (h : Left s' ob' σ) : Ghost n C σ.slots σ.objs s' ob' := by
 obtain ⟨G, Y, M, W⟩ := h
 exact (Ghost.pick Y M W).trans (Ghost.weaken G (List.Sublist.refl _))
theorem C6 {c : Code} {s' : Aq} {ob' : List Ob} {σ : St} (h : Left s' ob' σ) (k : AW E n C c ⟨s', ob'⟩ Q) : AW E n C c σ Q := qL h.ghost k
theorem Ak {x y : Code} (M : Aq → List Ob → Prop) (ks : Aq) (Y : Sub ks s)
  (h : AW E n C x ⟨s, ob⟩ (Kx (fun σ' => ∃ s' ob', M s' ob' ∧ Left (s' ++ ks) ob' σ') Q)) (k : ∀ s' ob', M s' ob' → AW E n C y ⟨s' ++ ks, ob'⟩ Q) : AW E n C (.seq x y) ⟨s, ob⟩ Q :=
 gJ _ h (fun _ ⟨_, _, G, W⟩ => C6 W (k _ _ G))
theorem Ac {x y : Code} {σ : St} (h : ∀ G, G = y → AW E n C x σ (Kx (fun σ' => AW E n C G σ' Q) Q)) : AW E n C (.seq x y) σ Q := qJ (h y rfl)
@[reducible] def pB {α β : Type} (o : Option α) (a : β) (f : α → β) : β := match o with
 | none => a
 | some x => f x
theorem nA {α β : Type} {o : Option α} {a r : β} {f : α → β} (G : o = none) (h : pB o a f = r) : a = r := by subst G; exact h
theorem mZ {α β : Type} {o : Option α} {x : α} {a r : β} {f : α → β} (G : o = some x) (h : pB o a f = r) : f x = r := by subst G; exact h
@[reducible] def nP {α : Type} (o : Option α) (A : Prop) (B : α → Prop) : Prop := match o with
 | none => A
 | some x => B x
theorem Pg {α : Type} {o : Option α} {f : FuncId} {xs : List T} {fp : List Ob} {A : T → List Ob → Prop} {B : T → List Ob → α → Prop} (G : o = none) (h : ACalls E f xs fp (fun x new => nP o (A x new) (fun l => B x new l))) : ACalls E f xs fp A := h.mono fun x new M => by subst G; exact M
theorem Pf {α : Type} {o : Option α} {f : FuncId} {xs : List T} {fp : List Ob} {A : T → List Ob → Prop} {B : T → List Ob → α → Prop} {x : α} (G : o = some x) (h : ACalls E f xs fp (fun x new => nP o (A x new) (fun l => B x new l))) : ACalls E f xs fp (fun y new => B y new x) := h.mono fun x new M => by subst G; exact M
theorem Mz {c : Code} (J : Nat → Aq → List Ob → Prop) {m : Nat} {Y : Aq} {G : List Ob} (Z : J m Y G) (hs : Left Y G ⟨s, ob⟩)
  (M : ∀ m s ob, J m s ob → AW E n C c ⟨s, ob⟩ (Kx (fun σ' => ∃ W s' ob', W < m ∧ J W s' ob' ∧ Left s' ob' σ') Q)) : AW E n C (.loop c) ⟨s, ob⟩ Q := by
 refine AW.loop (fun m σ => ∃ s' ob', J m s' ob' ∧ Left s' ob' σ) (m := m) ⟨Y, G, Z, hs⟩ ?_
 rintro m σ ⟨s', ob', hJ, h1⟩
 refine C6 h1 (AW.mono (M m s' ob' hJ) ?_)
 intro e σ' q
 cases e with
 | normal => obtain ⟨W, s', ob', q1, q2, q3⟩ := q; exact ⟨W, q1, s', ob', q2, q3⟩
 | _ => exact q
theorem Tr {M ks : Aq} {G : List Ob} (h1 : Sub M s) (h2 : Sub ks s) (W : ∃ p, Cu ob p = some G ∧ p.Nodup) : Left (M ++ ks) G ⟨s, ob⟩ := ⟨Sub.append h1 h2, W⟩
theorem Dm {c : Code} {S B : Type} {f : S → Option (S ⊕ B)} {M : Nat} {st0 : S} {b : B} (h : D7 f M st0 = some b) (ks : Aq) (hk : Sub ks s) (Φ : S → Aq → List Ob → Prop) {s0 : Aq} {aa : List Ob} (h0 : Φ st0 s0 aa) (hs : Sub s0 s) (ho : ∃ p, Cu ob p = some aa ∧ p.Nodup)
  (Z : ∀ (st : S) (r : S ⊕ B) s ob, Φ st s ob → f st = some r → (∀ b', r = .inr b' → b' = b) →
   AW E n C c ⟨s ++ ks, ob⟩ (Kx (fun σ' => ∃ G s' ob', r = .inl G ∧ Φ G s' ob' ∧ Left (s' ++ ks) ob' σ') Q)) : AW E n C (.loop c) ⟨s, ob⟩ Q := by
 refine Mz (fun m s1 Y => ∃ st s', Φ st s' Y ∧ D7 f m st = some b ∧ s1 = s' ++ ks) (m := M) ⟨st0, s0, h0, h, rfl⟩ (Tr hs hk ho) ?_
 rintro m s1 Y ⟨st, s', hΦ, W, rfl⟩
 cases m with
 | zero => simp [D7] at W
 | succ m =>
  simp only [D7] at W
  cases hf : f st with
  | none => rw [hf] at W; cases W
  | some r =>
   rw [hf] at W
   refine AW.mono (Z st r s' Y hΦ hf (fun b' hb => ?_)) ?_
   ·subst hb; simpa using W
   ·intro e σ' q
    cases e with
    | normal =>
     obtain ⟨G, s'', ob', rfl, q2, q3⟩ := q
     exact ⟨m, _, ob', Nat.lt_succ_self m, ⟨G, s'', q2, W, rfl⟩, q3⟩
    | _ => exact q
theorem aC {α S B : Type} {f : Nat → α → S → Option (S ⊕ B)} {l : List α} {k : Nat} {x : α} (G : l[k]? = some x) (st : S) : forL f k (l.drop k) st = (match f k x st with
  | none => none
  | some (.inl s') => forL f (k + 1) (l.drop (k + 1)) s'
  | some (.inr b) => some (.inr b)) := by
 have M := (gs G).1
 have W : l[k] = x := by rw [gq M] at G; cases G; rfl
 rw [List.drop_eq_getElem_cons M, W]; rfl
theorem Cg {c : Code} {α S B : Type} {f : Nat → α → S → Option (S ⊕ B)} {l : List α} {st0 : S} {o : S ⊕ B} (h : forL f 0 l st0 = some o) (ks : Aq) (hk : Sub ks s) (Φ : Nat → S → Aq → List Ob → Prop) {s0 : Aq} {aa : List Ob} (h0 : Φ 0 st0 s0 aa) (hs : Sub s0 s) (ho : ∃ p, Cu ob p = some aa ∧ p.Nodup)
  (Z : ∀ (k : Nat) (x : α) (st : S) (r : S ⊕ B) s ob, l[k]? = some x → k < l.length → Φ k st s ob → f k x st = some r → (∀ b', r = .inr b' → .inr b' = o) →
   AW E n C c ⟨s ++ ks, ob⟩ (Kx (fun σ' => ∃ W s' ob', r = .inl W ∧ Φ (k + 1) W s' ob' ∧ Left (s' ++ ks) ob' σ') Q))
  (fin : ∀ (st : S) s ob, Φ l.length st s ob → .inl st = o → AW E n C c ⟨s ++ ks, ob⟩ (Kx (fun _ => False) Q)) : AW E n C (.loop c) ⟨s, ob⟩ Q := by
 refine Mz (fun m s1 M => ∃ k st s', k + m = l.length ∧ Φ k st s' M ∧ forL f k (l.drop k) st = some o ∧ s1 = s' ++ ks) (m := l.length) ⟨0, st0, s0, by simp, h0, h, rfl⟩ (Tr hs hk ho) ?_
 rintro m s1 M ⟨k, st, s', hm, hΦ, G, rfl⟩
 rcases Nat.lt_or_ge k l.length with Y | Y
 ·have hx : l[k]? = some l[k] := gq Y
  rw [aC hx] at G
  cases hf : f k l[k] st with
  | none => rw [hf] at G; cases G
  | some r =>
   rw [hf] at G
   refine AW.mono (Z k _ st r s' M hx Y hΦ hf (fun b' hb => ?_)) ?_
   ·subst hb; simpa using G
   ·intro e σ' q
    cases e with
    | normal =>
     obtain ⟨W, s'', ob', rfl, q2, q3⟩ := q
     exact ⟨m - 1, _, ob', by omega, ⟨k + 1, W, s'', by omega, q2, G, rfl⟩, q3⟩
    | _ => exact q
 ·have : k = l.length := by omega
  subst this
  rw [List.drop_length] at G
  simp only [forL, Option.some.injEq] at G
  refine AW.mono (fin st s' M hΦ G) ?_
  intro e σ' q
  cases e with
  | normal => exact q.elim
  | _ => exact q
theorem Yo {α S : Type} {f : Nat → α → S → Option S} : ∀ (l : List α) (k : Nat) (st : S) (o : S), forS f k l st = some o → forL (B := Empty) (fun k x s => (f k x s).map .inl) k l st = some (.inl o)
 | [], _, _, o, h => by simp only [forS, Option.some.injEq] at h; subst h; rfl
 | x :: l, k, st, o, h => by
  simp only [forS] at h
  simp only [forL]
  cases hf : f k x st with
  | none => rw [hf] at h; cases h
  | some s' => rw [hf] at h; simpa using Yo l (k + 1) s' o h
theorem Cr {c : Code} {α S : Type} {f : Nat → α → S → Option S} {l : List α} {st0 : S} {o : S} (h : forS f 0 l st0 = some o) (ks : Aq) (hk : Sub ks s) (Φ : Nat → S → Aq → List Ob → Prop) {s0 : Aq} {M : List Ob} (h0 : Φ 0 st0 s0 M) (hs : Sub s0 s) (ho : ∃ p, Cu ob p = some M ∧ p.Nodup)
  (G : ∀ (k : Nat) (x : α) (st : S) (r : S) s ob, l[k]? = some x → k < l.length → Φ k st s ob → f k x st = some r →
   AW E n C c ⟨s ++ ks, ob⟩ (Kx (fun σ' => ∃ s' ob', Φ (k + 1) r s' ob' ∧ Left (s' ++ ks) ob' σ') Q))
  (W : ∀ (st : S) s ob, Φ l.length st s ob → st = o → AW E n C c ⟨s ++ ks, ob⟩ (Kx (fun _ => False) Q)) : AW E n C (.loop c) ⟨s, ob⟩ Q := by
 refine Cg (Yo l 0 st0 o h) ks hk Φ h0 hs ho ?_ ?_
 ·intro k x st r s ob hx Y hΦ hr _
  obtain ⟨r', Z, rfl⟩ := Option.map_eq_some_iff.1 hr
  refine AW.mono (G k x st r' s ob hx Y hΦ Z) ?_
  intro e σ' q
  cases e with
  | normal => obtain ⟨s', ob', q1, q2⟩ := q; exact ⟨r', s', ob', rfl, q1, q2⟩
  | _ => exact q
 ·intro st s ob hΦ he
  exact W st s ob hΦ (by injection he)
theorem fZ {S B : Type} {f : Nat → S → Option (S ⊕ B)} : ∀ (m k : Nat) (st : S), forI f k m st = forL (fun k (_ : Unit) s => f k s) k (List.replicate m ()) st
 | 0, _, _ => rfl
 | m + 1, k, st => by
  simp only [forI, List.replicate_succ, forL]
  cases f k st with
  | none => rfl
  | some r => cases r with
   | inl s' => exact fZ m (k + 1) s'
   | inr b => rfl
theorem Ee {c : Code} {S B : Type} {f : Nat → S → Option (S ⊕ B)} {m : Nat} {st0 : S} {o : S ⊕ B} (h : forI f 0 m st0 = some o) (ks : Aq) (hk : Sub ks s) (Φ : Nat → S → Aq → List Ob → Prop) {s0 : Aq} {M : List Ob} (h0 : Φ 0 st0 s0 M) (hs : Sub s0 s) (ho : ∃ p, Cu ob p = some M ∧ p.Nodup)
  (G : ∀ (k : Nat) (st : S) (r : S ⊕ B) s ob, k < m → Φ k st s ob → f k st = some r → (∀ b', r = .inr b' → .inr b' = o) →
   AW E n C c ⟨s ++ ks, ob⟩ (Kx (fun σ' => ∃ W s' ob', r = .inl W ∧ Φ (k + 1) W s' ob' ∧ Left (s' ++ ks) ob' σ') Q))
  (Y : ∀ (st : S) s ob, Φ m st s ob → .inl st = o → AW E n C c ⟨s ++ ks, ob⟩ (Kx (fun _ => False) Q)) : AW E n C (.loop c) ⟨s, ob⟩ Q := by
 rw [fZ] at h
 exact Cg h ks hk Φ h0 hs ho (fun k _ st r s ob _ Z => G k st r s ob (by simpa using Z)) (fun st s ob hΦ he => Y st s ob (by simpa using hΦ) he)
theorem fY {S : Type} {f : Nat → S → Option S} : ∀ (m k : Nat) (st : S) (o : S), forJ f k m st = some o → forI (B := Empty) (fun k s => (f k s).map .inl) k m st = some (.inl o)
 | 0, _, _, o, h => by simp only [forJ, Option.some.injEq] at h; subst h; rfl
 | m + 1, k, st, o, h => by
  simp only [forJ] at h
  simp only [forI]
  cases hf : f k st with
  | none => rw [hf] at h; cases h
  | some s' => rw [hf] at h; simpa using fY m (k + 1) s' o h
theorem D8 {c : Code} {S : Type} {f : Nat → S → Option S} {m : Nat} {st0 : S} {o : S} (h : forJ f 0 m st0 = some o) (ks : Aq) (hk : Sub ks s) (Φ : Nat → S → Aq → List Ob → Prop) {s0 : Aq} {M : List Ob} (h0 : Φ 0 st0 s0 M) (hs : Sub s0 s) (ho : ∃ p, Cu ob p = some M ∧ p.Nodup)
  (G : ∀ (k : Nat) (st : S) (r : S) s ob, k < m → Φ k st s ob → f k st = some r →
   AW E n C c ⟨s ++ ks, ob⟩ (Kx (fun σ' => ∃ s' ob', Φ (k + 1) r s' ob' ∧ Left (s' ++ ks) ob' σ') Q))
  (W : ∀ (st : S) s ob, Φ m st s ob → st = o → AW E n C c ⟨s ++ ks, ob⟩ (Kx (fun _ => False) Q)) : AW E n C (.loop c) ⟨s, ob⟩ Q := by
 refine Ee (fY m 0 st0 o h) ks hk Φ h0 hs ho ?_ ?_
 ·intro k st r s ob Y hΦ hr _
  obtain ⟨r', Z, rfl⟩ := Option.map_eq_some_iff.1 hr
  refine AW.mono (G k st r' s ob Y hΦ Z) ?_
  intro e σ' q
  cases e with
  | normal => obtain ⟨s', ob', q1, q2⟩ := q; exact ⟨r', s', ob', rfl, q1, q2⟩
  | _ => exact q
 ·intro st s ob hΦ he
  exact W st s ob hΦ (by injection he)
def Fh (k : Nat) (Rc : T → List Ob → List Ob → Prop) (x : T) (fp' : List Ob) : Prop := ∃ os new, fp' = os ++ new ∧ os.length = k ∧ Rc x os new
theorem Az {k m : Nat} (h : k < m) (G : m ≤ 9223372036854775806) : IntKind.i64.wrap ((k : Int) + 1) = ((k + 1 : Nat) : Int) := by
 rw [pW (by omega)]; omega
section typed
variable {dst : Option Tmp} {ty : TypeId} {pos : String} {aft : Array Edge} {g : Option (Nat × Bool)} {α : Type} {f : α → List T}
def rI (x : Int) : List T := [.v (.int .i64 x)]
def rK (k : IntKind) (x : Int) : List T := [.v (.int k x)]
def rB (x : Bool) : List T := [.v (.bool x)]
def rS (x : ByteArray) : List T := [.v (.string x)]
def rL {α : Type} (sz : Nat) (f : α → List T) (l : List α) : List T := [.list sz (l.map f)]
def cI (x : Int) : T := .v (.int .i64 x)
def cS (x : ByteArray) : T := .v (.string x)
def cL {α : Type} (sz : Nat) (f : α → List T) (l : List α) : T := .list sz (l.map f)
theorem Pu {x : Operand} {t : TypeId} {sz : Nat} {l : List α} {ti : TI} {e : Nat} (M : E.tab t = some ti) (G : ti.kind = .slice e) (W : A5 s x = some (.list sz (l.map f))) :
  Yp E.P n s ⟨dst, .call { callee := .builtin .len, args := #[x], argTypes := #[t] }, ty, pos, aft, g⟩ (.v (.int .i64 (l.length : Int))) := by
 have := So (E := E) (n := n) (dst := dst) (ty := ty) (pos := pos) (aft := aft) (g := g) M G W
 rwa [List.length_map] at this
theorem Bu (k : Nat) {x : Operand} {t : TypeId} {objs : List Ob} {v : Value} {tt sz : Nat} {l : List α} {ti : TI} {e : Nat} (W : E.tab t = some ti) (G : ti.kind = .slice e) (Y : A5 s x = some (.v v))
  (M : objs[k]? = some (.us v tt sz (l.map f))) : Yd E.P n s objs ⟨dst, .call { callee := .builtin .len, args := #[x], argTypes := #[t] }, ty, pos, aft, g⟩ (.v (.int .i64 (l.length : Int))) := by
 have := aK (E := E) (n := n) (dst := dst) (ty := ty) (pos := pos) (aft := aft) (g := g) k W G Y M
 rwa [List.length_map] at this
theorem Df {t : TypeId} {x y : Operand} {k : IntKind} {i : Int} {m : Nat} {b off len : Nat} {ti M : TI} {G : Nat}
  (Z : E.tab t = some ti) (W : ti.kind = .array len G) (hel : E.tab G = some M) (h1 : M.size = 1)
  (hx : A5 s x = some (.v (.pointer (some ⟨b, off, none⟩)))) (hy : A5 s y = some (.v (.int k i))) (hi : i = (m : Int)) (Y : m < len) :
  Yp E.P n s ⟨dst, .indexAddr t x y, ty, pos, aft, g⟩ (.v (.pointer (some ⟨b, off + m, none⟩))) := by
 have := Du (E := E) (n := n) (dst := dst) (ty := ty) (pos := pos) (aft := aft) (g := g) Z W hel hx hy hi Y
 rwa [h1, Nat.mul_one] at this
theorem C3 {t : TypeId} {x y : Operand} {b : ByteArray} {k : IntKind} {i c : Int} {m : Nat} {ti : TI} (W : E.tab t = some ti) (G : ti.kind = .string) (Y : A5 s x = some (.v (.string b)))
  (Z : A5 s y = some (.v (.int k i))) (hi : i = (m : Int)) (M : m < b.size) (hc : ((b.data.getD m 0).toNat : Int) = c) : Yp E.P n s ⟨dst, .index t x y, ty, pos, aft, g⟩ (.v (.int .u8 c)) :=
 hc ▸ X2 W G Y Z hi M
theorem iV {t W : TypeId} {x y : Operand} {a b r : ByteArray} (G : A5 s x = some (.v (.string a))) (M : A5 s y = some (.v (.string b)))
  (hc : a.size + b.size < 9223372036854775807 ∧ a ++ b = r) : Yp E.P n s ⟨dst, .binOp .add t x y W, ty, pos, aft, g⟩ (.v (.string r)) := hc.2 ▸ mK G M hc.1
theorem L6 (k : Nat) {β : Type} {x : Operand} {t : TypeId} {objs : List Ob} {v : Value} {tt tyi szi : Nat} {vs : List Value} {l : List β} {G : β → Option (List (List T))} {ti : TI} {e : Nat} (Y : E.tab t = some ti) (M : ti.kind = .slice e) (Z : A5 s x = some (.v v))
  (W : objs[k]? = some (.uss v tt tyi szi vs (l.map G))) : Yd E.P n s objs ⟨dst, .call { callee := .builtin .len, args := #[x], argTypes := #[t] }, ty, pos, aft, g⟩ (.v (.int .i64 (l.length : Int))) := by
 have := bT (E := E) (n := n) (dst := dst) (ty := ty) (pos := pos) (aft := aft) (g := g) k Y M Z W
 rwa [List.length_map] at this
theorem Oj {objs : List Ob} (k : Nat) {v : Value} {tt tyi szi : Nat} {vs : List Value} {l : List (List α)} (h : objs[k]? = some (.uss v tt tyi szi vs (l.map fun x => some (x.map f)))) : Lend objs (.v v) (.list 1 (l.map (rL szi f))) := by
 refine Lend.uss k (ty := tt) (tyi := tyi) (szi := szi) (vs := vs) (L := l.map fun x => x.map f) ?_ ?_
 ·rw [h, List.map_map]; rfl
 ·simp [Ge, List.map_map, rL, Function.comp_def]
theorem Jc {β γ : Type} {l : List β} {G : β → γ} {m : Nat} {x : β} (h : l[m]? = some x) : m < (l.map G).length := by rw [List.length_map]; exact (gs h).1
theorem Gs {β γ : Type} {l : List β} {G : β → Option γ} {m k : Nat} {x : β} (h : l[m]? = some x) : m < ((l.map G).set k none).length := by rw [List.length_set, List.length_map]; exact (gs h).1
theorem Jx {β γ : Type} {l : List β} {G : β → Option γ} {m : Nat} {x : β} (h : l[m]? = some x) : ((l.map G).set m none)[m]? = some none := by
 rw [List.getElem?_set_self]; rw [List.length_map]; exact (gs h).1
theorem Gw (k m tyi szi : Nat) {v : Value} {tt : Nat} {r : List (List α)} (M : List.replicate m [] = r) (G : ob[k]? = some (.us v tt 1 (List.replicate m [.v (.slice none 0 0)]))) :
  Ghost n C s ob s (ob.set k (.uss v tt tyi szi (List.replicate m (.slice none 0 0)) (r.map fun x => some (x.map f)))) := by
 have := X7 (n := n) (C := C) (s := s) k m tyi szi G
 rw [← M, List.map_replicate]; exact this
theorem X3 {H : GH} {w : World} {v : Value} {tt szi m : Nat} (h : UsR H w v tt 1 (List.replicate m [.v (.slice none 0 0)])) : UsR H w v tt 1 (List.replicate m [.list szi []]) := by
 rcases h with ⟨W, Y⟩ | ⟨b, c, M, W, Y, h3, cs, a1, a2, a3, a4, a5, a6⟩
 ·exact .inl ⟨W, by cases m with | zero => rfl | succ m => simp [List.replicate_succ] at Y⟩
 ·refine .inr ⟨b, c, M, by simpa using W, by simpa using Y, h3, cs, a1, a2, by simpa using a3, by simpa using a4, fun i e G => ?_, fun i e G j x Z => ?_⟩
  ·rw [List.getElem?_replicate] at G; split at G <;> cases G; rfl
  ·rw [List.getElem?_replicate] at G
   split at G
   ·rename_i hi
    cases G
    cases j with
    | zero =>
     simp at Z; subst Z
     have := a6 i [.v (.slice none 0 0)] (by rw [List.getElem?_replicate, if_pos hi]) 0 _ rfl
     refine ⟨this.1, ?_⟩
     rw [this.2.v_eq]; exact .empty _ _ _
    | succ j => simp at Z
   ·cases G
theorem Db (k m szi : Nat) {v : Value} {tt : Nat} {r : List (List α)} (M : List.replicate m [] = r) (G : ob[k]? = some (.us v tt 1 (List.replicate m [.v (.slice none 0 0)]))) :
  Ghost n C s ob s (ob.set k (.us v tt 1 (r.map (rL szi f)))) := by
 refine Nb k G (fun H w h => ?_) rfl
 rw [← M, List.map_replicate]
 exact X3 h
theorem Cj {l : List α} {m : Nat} {x : α} {e : List T} (h : e = f x) : (l.map f).set m e = (l.set m x).map f := by rw [h, List.map_set]
theorem Ps {l m r : List α} (h : l ++ m = r) : l.map f ++ m.map f = r.map f := by rw [← h, List.map_append]
theorem iO {m r : List α} (h : [] ++ m = r) : m.map f = r.map f := by rw [← h]; rfl
theorem Pt {l m : List α} (h : l.length + m.length ≤ 68719476736) : (l.map f).length + (m.map f).length ≤ 68719476736 := by simpa using h
theorem iP {m : List α} (h : ([] : List α).length + m.length ≤ 68719476736) : (m.map f).length ≤ 68719476736 := by simpa using h
theorem Mi {m : Nat} {z : α} {r : List α} {G : List T} (h : List.replicate m z = r) (M : G = f z) : List.replicate m G = r.map f := by rw [← h, List.map_replicate, M]
theorem lC {x y : Nat} {l r : List α} (h : (l.drop x).take (y - x) = r) : ((l.map f).drop x).take (y - x) = r.map f := by rw [← h, List.map_take, List.map_drop]
theorem Dg {x y : Operand} {t : TypeId} {k1 k2 : IntKind} {i : Int} {m : Nat} {ti G : TI} {e : Nat} {z : Value} {sz : Nat} {es' : List (List T)}
  (ht : E.tab t = some ti) (hk : ti.kind = .slice e) (he : E.tab e = some G) (hz : G.zero = some z) (h1 : z.cells.toList.all (·.oneCell') = true) (hsz : G.size = sz) (Z : z.cells.size = sz) (W : Nat.ble G.bytes 2048 = true)
  (hx : A5 s x = some (.v (.int k1 i))) (hy : A5 s y = some (.v (.int k2 i))) (hi : i = (m : Int)) (hm : m ≤ 68719476736) (Y : List.replicate m (E7 z) = es')
  (hd : ∀ d, dst = some d → d < n) (k : ∀ b, R ⟨E5 s dst (.v b), ob ++ [.us b e sz es']⟩) :
  AX E n C [] ⟨dst, .makeSlice t x y, ty, pos, aft, g⟩ ⟨s, ob⟩ R := by
 subst Y
 have M := Nat.le_of_ble_eq_true W
 refine AX.makeSlice ht hk he hz h1 hsz Z hx hy hi (by simp only [Kw]; omega) ?_ hd k
 have h1 : G.bytes * m ≤ 2048 * 68719476736 := Nat.mul_le_mul M hm
 have h2 : ((G.bytes * m : Nat) : Int) = (G.bytes : Int) * (m : Int) := by simp
 omega
theorem aJ {x : Operand} {t : TypeId} {lo hi mx : Option Operand} {sz : Nat} {l r : List α} {ti Z : TI} {e : Nat} (a b m : Nat)
  (ht : E.tab t = some ti) (hk : ti.kind = .slice e) (he : E.tab e = some Z) (hsz : Z.size = sz) (hx : A5 s x = some (.list sz (l.map f)))
  (h1 : Zl s lo 0 a) (h2 : Zl s hi l.length b) (Y : mx = none) (W : a ≤ b) (hh : b ≤ l.length) (hr : (l.drop a).take (b - a) = r) :
  Yp E.P n s ⟨dst, .slice t x lo hi mx, ty, pos, aft, g⟩ (.list sz (r.map f)) := by
 subst Y
 have := bQ (E := E) (n := n) (dst := dst) (ty := ty) (pos := pos) (aft := aft) (g := g) (mx := none) a b m ht hk he hsz hx h1 (by rw [List.length_map]; exact h2)
  (fun M G => ⟨M, rfl, by rw [List.length_map] at G; omega, Nat.le_refl _⟩) (fun _ => rfl) W (by rw [List.length_map]; exact hh)
 rwa [lC hr] at this
end typed
theorem Cb {α : Type} {c : Bool} {a b r : α} (hc : c = true) (h : (if c = true then a else b) = r) : a = r := by rw [if_pos hc] at h; exact h
theorem Cc {α : Type} {c : Bool} {a b r : α} (hc : c = false) (h : (if c = true then a else b) = r) : b = r := by rw [if_neg (by simp [hc])] at h; exact h
theorem Dp {α β γ : Type} {f : α → γ} {g : β → γ} {x : α} {r : γ} (h : Sum.elim f g (.inl x) = r) : f x = r := h
theorem Dj {α β γ : Type} {f : α → γ} {g : β → γ} {x : β} {r : γ} (h : Sum.elim f g (.inr x) = r) : g x = r := h
end
section
variable {P : Program} {n : Nat} {s : Aq} {dst : Option Tmp} {ty : TypeId} {pos : String} {aft : Array Edge} {g : Option (Nat × Bool)}
end
def kR (P : Program) (t : TypeId) : Bool :=
 match P.underlying t with
 | some (.struct ff) => ff.toList.all (fun f => f.name != "_") && !(P.stoodInHeld t) && !(P.eqGuardType P.depth t)
 | _ => false
def fG (P : Program) (t : TypeId) : Bool := !(P.eqGuardType P.depth t)
def pO (k : K) : T → T → Option Bool
 | .v (.int k1 a), .v (.int k2 b) => match k with | .int _ => (bif decide (k1 = k2) then some (a == b) else none) | _ => none
 | .v (.bool a), .v (.bool b) => match k with | .bool => some (a == b) | _ => none
 | .v (.string a), .v (.string b) => match k with | .string => some (Wh a b) | _ => none
 | _, _ => none
def fD (tab : Nat → Option TI) (cs ds : List T) : List (Nat × Nat) → Option Bool
 | [] => some true
 | (off, t) :: l => match tab t, cs[off]?, ds[off]?, fD tab cs ds l with
  | some ti, some x, some y, some r => match pO ti.kind x y with
   | some b => some (b && r)
   | none => none
  | _, _, _, _ => none
section
variable {E : Env} {n : Nat} {C : Ctx} {s : Aq} {ob : List Ob} {R : St → Prop} {dst : Option Tmp} {ty : TypeId} {pos : String} {aft : Array Edge} {g : Option (Nat × Bool)}
theorem gL {P : Program} {t : TypeId} {i : TI} (h : Ja P t = some i) (W : i.kind = .bool) : P.underlying t = some .bool := by
 obtain ⟨d, M, G⟩ := Gk h
 rw [W] at G
 cases d <;> simp [Lf] at G
 exact M
theorem Zy {P : Program} {t : TypeId} {i : TI} {k : IntKind} (h : Ja P t = some i) (W : i.kind = .int k) : P.underlying t = some (.int k) := by
 obtain ⟨d, M, G⟩ := Gk h
 rw [W] at G
 cases d <;> simp [Lf] at G
 subst G; exact M
theorem lX {t : TypeId} {ti : TI} (M : E.tab t = some ti) {x y : T} {b : Bool} (h : pO ti.kind x y = some b) {H : GH} {v u : Value} (hv : VR H v x) (W : VR H u y) (d : Nat) (w : World) :
  ti.isAgg = false ∧ (Op.equalIn (d + 1) t v u).run E.P w = .ok b w := by
 unfold pO at h
 split at h
 ·rename_i Y a k2 Z
  have := hv.v_eq; subst this
  have := W.v_eq; subst this
  split at h
  ·rename_i kk G
   cases hd : decide (Y = k2) with
   | false => rw [hd] at h; cases h
   | true =>
    rw [hd] at h
    have := of_decide_eq_true hd
    subst this
    cases h
    exact ⟨by simp [TI.isAgg, G], run_equalIn_int w d t Y kk a Z (Zy (E.ok _ _ M) G)⟩
  ·cases h
 ·have := hv.v_eq; subst this
  have := W.v_eq; subst this
  split at h
  ·rename_i G
   cases h
   exact ⟨by simp [TI.isAgg, G], run_equalIn_bool' w d t _ _ (gL (E.ok _ _ M) G)⟩
  ·cases h
 ·have := hv.v_eq; subst this
  have := W.v_eq; subst this
  split at h
  ·rename_i G
   cases h
   exact ⟨by simp [TI.isAgg, G], run_equalIn_string w d t _ _ (G8 (E.ok _ _ M) G)⟩
  ·cases h
 ·cases h
theorem Mq {t : TypeId} {ti : TI} (W : E.tab t = some ti) (G : ti.isAgg = false) {H : GH} {xs : Array Value} {cs : List T} (h : VR H (.agg xs) (.agg cs)) {off : Nat} {x : T} (Y : cs[off]? = some x) :
  ∃ v, VR H v x ∧ ∀ w, (part t xs off).run E.P w = .ok v w := by
 have M : Et ti cs off = some x := by simp [Et, G, Y]
 exact Sh h (E.ok _ _ W) M
theorem Xl {H : GH} {xs ys : Array Value} {cs ds : List T} (hx : VR H (.agg xs) (.agg cs)) (hy : VR H (.agg ys) (.agg ds)) (d : Nat) (w : World) : ∀ (M : List Field) (r : Bool), M.all (fun f => f.name != "_") = true →
  fD E.tab cs ds (M.map fun f => (f.offset, f.type)) = some r → (Op.eqFields (d + 1) xs ys M).run E.P w = .ok r w
 | [], r, _, h => by simp only [List.map_nil, fD, Option.some.injEq] at h; subst h; simp [Op.eqFields]
 | f :: M, r, hn, h => by
  simp only [List.all_cons, Bool.and_eq_true] at hn
  simp only [List.map_cons, fD] at h
  split at h
  ·rename_i ti x y r' Y h2 h3 h4
   split at h
   ·rename_i b G
    simp only [Option.some.injEq] at h
    subst h
    have W : ti.isAgg = false := by
     unfold pO at G
     unfold TI.isAgg
     cases hk : ti.kind <;> rw [hk] at G <;> first | rfl | (simp at G; split at G <;> simp at G)
    obtain ⟨v, hv, ab⟩ := Mq Y W hx h2
    obtain ⟨u, hu, aa⟩ := Mq Y W hy h3
    have he := (lX Y G hv hu d w).2
    have ih := Xl hx hy d w M r' hn.2 h4
    have Z : f.name ≠ "_" := by simpa using hn.1
    simp only [Op.eqFields, if_pos Z, Sem.run_bind, ab, aa, Result.andThen_ok, he]
    cases b with
    | true => simpa using ih
    | false => simp
   ·cases h
  ·cases h
theorem bN {P : Program} {t : TypeId} (h : kR P t = true) : ∃ G : Array Field, P.underlying t = some (.struct G) ∧ P.fieldsOf t = G ∧ G.toList.all (fun f => f.name != "_") = true ∧ P.stoodInHeld t = false ∧ P.eqGuardType P.depth t = false := by
 unfold kR at h
 split at h
 ·rename_i G M
  simp only [Bool.and_eq_true, Bool.not_eq_true'] at h
  exact ⟨G, M, by simp [Program.fieldsOf, M], h.1.1, h.1.2, h.2⟩
 ·cases h
theorem Pe {Y : BinOp} {t t' : TypeId} {x y : Operand} {ti : TI} {fs : List (Nat × Nat)} {cs ds : List T} {r q : Bool} (ht : E.tab t = some ti) (hk : ti.kind = .struct fs) (he : kR E.P t = true)
  (hx : A5 s x = some (.agg cs)) (hy : A5 s y = some (.agg ds)) (hr : fD E.tab cs ds fs = some r) (hq : (match Y with | .eql => some r | .neq => some (!r) | _ => none) = some q) :
  Yp E.P n s ⟨dst, .binOp Y t x y t', ty, pos, aft, g⟩ (.v (.bool q)) := by
 intro H A sr
 obtain ⟨ff, Z, h2, h3, h4, h5⟩ := bN he
 obtain ⟨ff', u1, u2⟩ := Iw (E.ok _ _ ht) hk
 rw [Z] at u1
 cases u1
 have vx := sr.eval hx
 have vy := sr.eval hy
 generalize M : A.eval x = a at vx
 generalize W : A.eval y = b at vy
 refine ⟨_, .v _, fun w => ?_⟩
 cases vx with
 | agg xs _ hl1 hc1 hv1 =>
  cases vy with
  | agg ys _ hl2 hc2 hv2 =>
   have hf := Xl (E := E) (.agg xs cs hl1 hc1 hv1) (.agg ys ds hl2 hc2 hv2) 9998 w ff.toList r h3 (by rw [u2]; exact hr)
   have G : (Op.equalIn 10000 t (.agg xs) (.agg ys)).run E.P w = .ok r w := by
    rw [show (10000 : Nat) = 9999 + 1 from rfl, run_equalIn_struct w 9999 t xs ys (by rw [h2]; exact Z) h4, h2]; exact hf
   cases Y <;> simp only [Option.some.injEq, reduceCtorEq] at hq <;> subst hq
   ·simp only [execOp, M, W, Sem.run_bind, run_eqGuard_agg w _ t x y xs ys h5, Result.andThen_ok, run_eql_struct, G, Sem.run_pure]
   ·simp only [execOp, M, W, Sem.run_bind, run_eqGuard_agg w _ t x y xs ys h5, Result.andThen_ok, run_neq_struct, G, Sem.run_pure]
theorem Sk {H : GH} {xs ys : Array Value} {a b : Li} (hx : VR H (.agg xs) (.agg (a.map cI))) (hy : VR H (.agg ys) (.agg (b.map cI))) {W : Nat} {ei : TI} (he : E.tab W = some ei) (M : ei.kind = .int .i64) (w : World) (d : Nat) (hl : a.length = b.length) :
  ∀ (m k : Nat), k + m = a.length →
  (forIn (List.range' k m) ((none, ()) : Option Bool × Unit) (fun i _ => do
   let p ← part W xs (i * 1)
   let q ← part W ys (i * 1)
   let r ← Op.equalIn (d + 1) W p q
   if !r then pure (ForInStep.done (some false, ())) else pure (ForInStep.yield (none, ()))) : Sem (Option Bool × Unit)).run E.P w =
   .ok (if a.drop k = b.drop k then none else some false, ()) w
 | 0, k, hk => by
  have h1 : a.drop k = [] := List.drop_eq_nil_of_le (by omega)
  have h2 : b.drop k = [] := List.drop_eq_nil_of_le (by omega)
  simp [h1, h2]
 | m + 1, k, hk => by
  have Y : ei.isAgg = false := by simp [TI.isAgg, M]
  have ha : a[k]? = some a[k] := gq (by omega)
  have hb : b[k]? = some b[k] := gq (by omega)
  obtain ⟨v, hv, hvr⟩ := Mq (E := E) he Y hx (off := k) (x := cI a[k]) (by simp [ha])
  obtain ⟨u, hu, hur⟩ := Mq (E := E) he Y hy (off := k) (x := cI b[k]) (by simp [hb])
  have := hv.v_eq; subst this
  have := hu.v_eq; subst this
  have heq := run_equalIn_int (P := E.P) w d W .i64 .i64 a[k] b[k] (Zy (E.ok _ _ he) M)
  have ih := Sk hx hy he M w d hl m (k + 1) (by omega)
  rw [List.range'_succ, List.forIn_cons]
  simp only [Sem.run_bind, Nat.mul_one, hvr, hur, Result.andThen_ok, heq]
  have hda : a.drop k = a[k] :: a.drop (k + 1) := List.drop_eq_getElem_cons (by omega)
  have hdb : b.drop k = b[k] :: b.drop (k + 1) := List.drop_eq_getElem_cons (by omega)
  rw [hda, hdb]
  by_cases h : a[k] = b[k]
  ·have G : (a[k] == b[k]) = true := by simp [h]
   simp only [G, Bool.not_true, Bool.false_eq_true, if_false, Sem.run_pure, Result.andThen_ok]
   simp only [Nat.mul_one] at ih
   have Z : (a[k] :: a.drop (k + 1) = b[k] :: b.drop (k + 1)) ↔ (a.drop (k + 1) = b.drop (k + 1)) := by rw [List.cons.injEq]; exact ⟨fun h => h.2, fun h' => ⟨h, h'⟩⟩
   rw [ih]
   simp only [Z]
  ·have G : (a[k] == b[k]) = false := by simp [h]
   simp only [G, Bool.not_false, if_true, Sem.run_pure, Result.andThen_ok]
   have hne : ¬ (a[k] :: a.drop (k + 1) = b[k] :: b.drop (k + 1)) := fun he => h (List.cons.inj he).1
   simp only [hne, if_false]
theorem iS {op : BinOp} {t t' : TypeId} {x y : Operand} {ti ei : TI} {len el : Nat} {a b : Arr Int len} {q : Bool} (ht : E.tab t = some ti) (hk : ti.kind = .array len el) (he : E.tab el = some ei) (hke : ei.kind = .int .i64) (hsz : ei.size = 1) (hg : fG E.P t = true)
  (hx : A5 s x = some (.agg (a.l.map cI))) (hy : A5 s y = some (.agg (b.l.map cI))) (hq : (match op with | .eql => some (decide (a = b)) | .neq => some (!decide (a = b)) | _ => none) = some q) :
  Yp E.P n s ⟨dst, .binOp op t x y t', ty, pos, aft, g⟩ (.v (.bool q)) := by
 intro H A sr
 have M : E.P.eqGuardType E.P.depth t = false := by simpa [fG] using hg
 have vx := sr.eval hx
 have vy := sr.eval hy
 generalize Y : A.eval x = u at vx
 generalize Z : A.eval y = v at vy
 refine ⟨_, .v _, fun w => ?_⟩
 have hab : decide (a.l = b.l) = decide (a = b) := decide_eq_decide.2 ⟨Arr.ext', fun h => by rw [h]⟩
 cases vx with
 | agg xs _ hl1 hc1 hv1 =>
  cases vy with
  | agg ys _ hl2 hc2 hv2 =>
   have G := Sk (E := E) (.agg xs _ hl1 hc1 hv1) (.agg ys _ hl2 hc2 hv2) he hke w 9998 (by rw [a.h, b.h]) len 0 (by rw [a.h]; omega)
   have W : (Op.equalIn 10000 t (.agg xs) (.agg ys)).run E.P w = .ok (decide (a = b)) w := by
    obtain ⟨D, hD⟩ : ∃ D, D = 9999 := ⟨_, rfl⟩
    rw [show (10000 : Nat) = D + 1 by omega]
    rw [show (9998 : Nat) + 1 = D by omega] at G
    clear hD
    simp only [Op.equalIn, Sem.run_bind, run_underlying (Km (E.ok _ _ ht) hk), Result.andThen_ok, Bw (E.ok _ _ he), hsz]
    rw [Std.Legacy.Range.forIn_eq_forIn_range']
    simp only [Std.Legacy.Range.size, Nat.sub_zero, Nat.add_sub_cancel, Nat.div_one]
    simp only [List.drop_zero] at G
    refine (congrArg (fun r => Result.andThen r _) G).trans ?_
    rw [← hab]
    by_cases h : a.l = b.l <;> simp [h]
   cases op <;> simp only [Option.some.injEq, reduceCtorEq] at hq <;> subst hq
   ·simp only [execOp, Y, Z, Sem.run_bind, run_eqGuard_agg w _ t x y xs ys M, Result.andThen_ok, run_eql_struct, W, Sem.run_pure]
   ·simp only [execOp, Y, Z, Sem.run_bind, run_eqGuard_agg w _ t x y xs ys M, Result.andThen_ok, run_neq_struct, W, Sem.run_pure]
theorem kG {t t' : TypeId} {x : Operand} {ti : TI} {e sz : Nat} {es : List (List T)} (ht : E.tab t = some ti) (Z : ti.kind = .slice e) (hx : A5 s x = some (.list sz es)) (Y : ∀ d, dst = some d → d < n)
  (k : ∀ b : Bool, (b = true → es = []) → R ⟨E5 s dst (.v (.bool b)), ob⟩) : AX E n C [] ⟨dst, .binOp .eql t x (.const (.slice none 0 0)) t', ty, pos, aft, g⟩ ⟨s, ob⟩ R := by
 refine AX.value fun H a w M => ?_
 have h := M.sr.eval hx
 generalize hv : a.eval x = v at h
 have hr : ∃ G l c, v = .slice G l c ∧ (G.isNone = true → es = []) := by
  cases h with
  | empty a cap sz => exact ⟨a, 0, cap, rfl, fun _ => rfl⟩
  | list b off cap sz es cs ty fr hb hcap hmax hsz hel h1 hvs => exact ⟨_, _, _, rfl, fun h => by simp at h⟩
 obtain ⟨G, l, c, rfl, hn⟩ := hr
 refine ⟨.bool G.isNone, w, _, H, ?_, k G.isNone hn, ?_, fun _ _ h => h, fun i p hp _ => ⟨hp, fun _ _ => rfl⟩⟩
 ·have := run_eql_slice_nil (P := E.P) w t e G l c (Ec (E.ok _ _ ht) Z)
  have W : a.eval (.const (.slice none 0 0)) = .slice none 0 0 := rfl
  simp only [execOp, hv, W, Sem.run_bind, eqGuard, Sem.run_pure, Result.andThen_ok, this]
  simp [this]
 ·have := M.put (dst := dst) (.v (.bool G.isNone)) Y
  cases dst <;> exact this
theorem Cl {α : Type} {f : α → List T} {c : Code} {Q : Exit → St → Prop} (q m : Nat) {v : Value} {tt sz : Nat} {l : List α} {x : α} (hq : ob[q]? = some (.us v tt sz (l.map f))) (Z : l[m]? = some x)
  (k : (∃ c, v = .slice (some ⟨S5 v, 0, none⟩) l.length c) → AW E n C c ⟨s, ob⟩ Q) : AW E n C c ⟨s, ob⟩ Q := by
 intro H a w M
 have G : UsR H w v tt sz (l.map f) := M.objs _ (mg hq)
 obtain ⟨c, Y, W, _⟩ := G.arr (Ae (f := f) Z)
 rw [List.length_map] at W
 exact k ⟨c, W⟩ H a w M
theorem Dt {α : Type} {f : α → List T} {c : Code} {Q : Exit → St → Prop} (q : Nat) {v : Value} {tt sz : Nat} {l : List α} (Z : ob[q]? = some (.us v tt sz (l.map f)))
  (k : (∃ a c, v = .slice a l.length c) → AW E n C c ⟨s, ob⟩ Q) : AW E n C c ⟨s, ob⟩ Q := by
 intro H a w M
 have G : UsR H w v tt sz (l.map f) := M.objs _ (mg Z)
 refine k ?_ H a w M
 rcases G with ⟨rfl, Y⟩ | ⟨b, c, W, rfl, _⟩
 ·have : l = [] := by simpa using Y
  subst this; exact ⟨none, 0, rfl⟩
 ·exact ⟨some ⟨b, 0, none⟩, c, by rw [List.length_map]⟩
theorem A3 {α : Type} {t : TypeId} {x y : Operand} {kk : IntKind} {i : Int} {m : Nat} {v : Value} {sz : Nat} {l : List α} {e : α} {ti W : TI} {M : Nat}
  (ht : E.tab t = some ti) (Y : ti.kind = .slice M) (hel : E.tab M = some W) (hsz : W.size = sz)
  (hx : A5 s x = some (.v v)) (hv : ∃ c, v = .slice (some ⟨S5 v, 0, none⟩) l.length c) (hy : A5 s y = some (.v (.int kk i))) (hi : i = (m : Int)) (Z : l[m]? = some e) :
  Yp E.P n s ⟨dst, .indexAddr t x y, ty, pos, aft, g⟩ (.v (.pointer (some ⟨S5 v, m * sz, none⟩))) := by
 obtain ⟨c, hv⟩ := hv
 have G : A5 s x = some (.v (.slice (some ⟨S5 v, 0, none⟩) l.length c)) := by rw [← hv]; exact hx
 have := Of (E := E) (n := n) (dst := dst) (ty := ty) (pos := pos) (aft := aft) (g := g) ht Y hel G hy hi (gs Z).1
 rwa [hsz, Nat.zero_add] at this
theorem Ds {α : Type} {x : Operand} {t : TypeId} {v : Value} {l : List α} {ti : TI} {e : Nat} (M : E.tab t = some ti) (G : ti.kind = .slice e) (W : A5 s x = some (.v v))
  (hv : ∃ a c, v = .slice a l.length c) : Yp E.P n s ⟨dst, .call { callee := .builtin .len, args := #[x], argTypes := #[t] }, ty, pos, aft, g⟩ (.v (.int .i64 (l.length : Int))) := by
 obtain ⟨a, c, rfl⟩ := hv
 exact Ef M G W
def Yu (l : Li) : Option ByteArray := if (l.all fun x => decide (0 ≤ x ∧ x < 256)) = true then some ⟨(l.map fun x => UInt8.ofNat x.toNat).toArray⟩ else none
theorem Zd {l : Li} (h : (l.all fun x => decide (0 ≤ x ∧ x < 256)) = true) : Fs (l.map fun x => UInt8.ofNat x.toNat) = l.map (rK .u8) := by
 unfold Fs
 rw [List.map_map]
 refine List.map_congr_left fun x M => ?_
 have := List.all_eq_true.1 h x M
 have := of_decide_eq_true this
 simp only [Function.comp_apply, rK]
 have G : ((UInt8.ofNat x.toNat).toNat : Int) = x := by
  rw [UInt8.toNat_ofNat']
  omega
 rw [G]
theorem eW (q : Nat) {t t' : TypeId} {x : Operand} {ti M ei : TI} {e tt : Nat} {l : Li} {v : Value} {r : ByteArray} (W : Yu l = some r) (ht : E.tab t = some ti) (hk : ti.kind = .slice e) (he : E.tab e = some ei) (Z : ei.kind = .int .u8) (aa : E.tab t' = some M) (Y : M.kind = .string)
  (hx : A5 s x = some (.v v)) (hq : ob[q]? = some (.us v tt 1 (l.map (rK .u8)))) (hd : ∀ d, dst = some d → d < n) (k : R ⟨E5 s dst (.v (.string r)), ob⟩) : AX E n C [] ⟨dst, .convert t t' x, ty, pos, aft, g⟩ ⟨s, ob⟩ R := by
 unfold Yu at W
 split at W
 ·rename_i G
  cases W
  exact X9 ht hk he Z aa Y (by rw [Zd G]; exact I0 q hx hq) hd k
 ·cases W
theorem UsR.one {H : GH} {w : World} {v : Value} {tt sz : Nat} {es : List (List T)} (h : UsR H w v tt sz es) : v.oneCell' = true := by
 rcases h with ⟨rfl, _⟩ | ⟨_, _, _, rfl, _⟩ <;> rfl
theorem AO.one {ops : Array Oper} {l : List Oper} (q : Nat) {v : Value} {tt sz : Nat} {es : List (List T)} (M : ob[q]? = some (.us v tt sz es)) (k : v.oneCell' = true → AO E n C ops l ⟨s, ob⟩ R) : AO E n C ops l ⟨s, ob⟩ R :=
 fun H a w G => k (UsR.one (show UsR H w v tt sz es from G.objs _ (mg M))) H a w G
theorem AP.one {ops : Array Oper} {pl : PL} {so : Aq} {M : List Nat} {G : List Ob} (q : Nat) {v : Value} {tt sz : Nat} {es : List (List T)} (hq : ob[q]? = some (.us v tt sz es)) (k : v.oneCell' = true → AP E n C ops M G pl so ⟨s, ob⟩ R) : AP E n C ops M G pl so ⟨s, ob⟩ R :=
 fun Hs ws H a w sr wr Z hH W Y => k (UsR.one (show UsR H w v tt sz es from Y.objs _ (mg hq))) Hs ws H a w sr wr Z hH W Y
def rC := @AP.one
theorem Bz {v : Value} (h : v.oneCell' = true) : Ej (.v v) = some [.v v] := by simp [Ej, h]
theorem Fr {G : Nat → Option (Nat × Nat)} {l : List T} : Gc s G l [] = some l := rfl
theorem Ce {G : Nat → Option (Nat × Nat)} {l l' : List T} {i off size : Nat} {x : Operand} {r : List (Nat × Operand)} {c : T} {cs : List T} (M : G i = some (off, size)) (Y : A5 s x = some c) (hc : Ej c = some cs)
  (hb : (Nat.beq cs.length size && Nat.ble (off + cs.length) l.length) = true) (W : Gc s G (Ex l off cs) r = some l') : Gc s G l ((i, x) :: r) = some l' := by
 simp only [Gc, M, Y, Option.bind_some, hc, hb, cond_true]; exact W
theorem Fq : ∀ {l cs : List T}, l.length = cs.length → Ex l 0 cs = cs
 | [], [], _ => rfl
 | [], _ :: _, h => by simp at h
 | _ :: _, [], h => by simp at h
 | x :: l, c :: cs, h => by simp only [Ex]; rw [Fq (by simpa using h)]
theorem P8 {α : Type} {l : List α} {i : Nat} {x : α} (h : l[i]? = some x) : i < l.length := (gs h).1
theorem Eu {α : Type} {k : Nat} {a : Arr α k} {i : Nat} {x : α} (h : a.l[i]? = some x) : i < k := by have := P8 h; rwa [a.h] at this
theorem V0 {i k : Nat} {off : Nat} {e : List T} (hi : i < k) (he : off + k ≤ e.length) : off + i + 1 ≤ e.length := by omega
theorem G6 {G : TI} {cs : List T} (M : G.isAgg = true) (h : G.size = cs.length) : Et G cs 0 = some (.agg cs) := by simp [Et, M, h]
theorem N2 {G : TI} {l post : List T} (M : G.isAgg = true) (h : l.length = G.size) : Et G (l ++ post) 0 = some (.agg l) := by
 unfold Et
 rw [M, cond_true]
 cases hb : (Nat.beq 0 0 && Nat.beq G.size (l ++ post).length) with
 | true =>
  simp only [Bool.and_eq_true] at hb
  have := nq hb.2
  rw [List.length_append] at this
  have : post = [] := List.length_eq_zero_iff.1 (by omega)
  subst this
  simp
 | false =>
  rw [cond_false]
  have : Nat.ble (0 + G.size) (l ++ post).length = true := by
   rw [Nat.zero_add]; exact Nat.ble_eq_true_of_le (by simp; omega)
  rw [this, cond_true, List.drop_zero, ← h, List.take_left]
theorem N1 {M : TI} {G post : List T} {k i j : Nat} {l : List T} (Z : M.isAgg = true) (hj : j = k + i) (hk : G.length = k) (h : Et M post i = some (.agg l)) (W : 0 < k := by decide) : Et M (G ++ post) j = some (.agg l) := by
 subst hj hk
 unfold Et at h ⊢
 rw [Z, cond_true] at h ⊢
 have h1 : Nat.beq (G.length + i) 0 = false := by
  cases hb : Nat.beq (G.length + i) 0 with
  | false => rfl
  | true => have := nq hb; omega
 rw [h1, Bool.false_and, cond_false]
 cases hb : (Nat.beq i 0 && Nat.beq M.size post.length) with
 | true =>
  rw [hb, cond_true] at h
  simp only [Bool.and_eq_true] at hb
  have h2 := nq hb.1
  have Y := nq hb.2
  cases h
  have : Nat.ble (G.length + i + M.size) (G ++ post).length = true := Nat.ble_eq_true_of_le (by simp; omega)
  rw [this, cond_true, h2, Nat.add_zero, List.drop_left, Y, List.take_length]
 | false =>
  rw [hb, cond_false] at h
  cases hc : Nat.ble (i + M.size) post.length with
  | false => rw [hc] at h; cases h
  | true =>
   rw [hc, cond_true] at h
   cases h
   have := Nat.le_of_ble_eq_true hc
   have : Nat.ble (G.length + i + M.size) (G ++ post).length = true := Nat.ble_eq_true_of_le (by simp; omega)
   rw [this, cond_true]
   rw [List.drop_append, show (G.drop (G.length + i)) = [] from List.drop_eq_nil_of_le (by omega), List.nil_append, Nat.add_sub_cancel_left]
theorem Hj {α : Type} {Y : α → T} {t : TypeId} {x y : Operand} {k : IntKind} {i : Int} {m len W : Nat} {l : List α} {z : α} {ti G : TI} (ht : E.tab t = some ti) (hk : ti.kind = .array len W) (hel : E.tab W = some G) (h1 : G.size = 1) (M : G.isAgg = false)
  (hx : A5 s x = some (.agg (l.map Y))) (hy : A5 s y = some (.v (.int k i))) (hi : i = (m : Int)) (Z : l[m]? = some z) (hlen : l.length = len := by first | rfl | exact Arr.h _) :
  Yp E.P n s ⟨dst, .index t x y, ty, pos, aft, g⟩ (Y z) :=
 Ze ht hk hel hx hy hi (by have := P8 Z; omega) (by rw [h1, Nat.mul_one]; simp [Et, M, Z])
theorem pI {x : Nat} (h : (0 : Int) = (x : Int)) : Zl s none 0 x := by show x = 0; omega
end
section
variable {E : Env} {n : Nat} {C : Ctx} {σ : St} {s : Aq} {dst : Option Tmp} {ty : TypeId} {pos : String} {aft : Array Edge} {g : Option (Nat × Bool)}
theorem Ic {H : GH} {w : World} {cs : List T} {b off tt sz cap : Nat} {es : List (List T)} (i j : Nat) {e : List T} (hor : ArrR H w b tt sz cap es) (he : es[i]? = some e) (ho : off = i * sz + j)
  {news : List Value} (M : news.length = cs.length) (Y : ∀ v, v ∈ news → v.oneCell' = true) (hvr : ∀ (i : Nat) (x : T), cs[i]? = some x → VR H (news.getD i undef) x) (hj : j + cs.length ≤ e.length) :
  ∃ w', (storeCells ⟨b, off, none⟩ news).run E.P w = .ok () w' ∧ ArrR H w' b tt sz cap (es.set i (Ex e j cs)) ∧ (w'.os = w.os ∧ w'.tape = w.tape ∧ w'.output = w.output) ∧ w'.heap.size = w.heap.size ∧
   ∀ i, i ≠ b → w'.heap[i]? = w.heap[i]? := by
 obtain ⟨W, a1, a2, a3, a4, a5, a6⟩ := hor
 have hil := (gs he).1
 have hel := a5 i e he
 have hmul : (i + 1) * sz ≤ cap * sz := Nat.mul_le_mul_right _ (by omega)
 rw [Nat.succ_mul] at hmul
 have hst := run_storeCells_at (P := E.P) b off tt news 0 W w a1 (by rw [M]; omega) Y
 simp only [Nat.add_zero] at hst
 refine ⟨w.setRow b (W.toList.take off ++ news ++ W.toList.drop (off + news.length)).toArray, hst, ?_, ⟨rfl, rfl, rfl⟩, Kd _ _ _, fun i hi => setRow_other w b i _ hi⟩
 refine ⟨_, setRow_heap w b W _ tt _ a1, ?_, by simpa using a3, by simpa using a4, ?_, ?_⟩
 ·simp only [List.size_toArray, List.length_append, List.length_take, List.length_drop, Array.length_toList, M]
  omega
 ·intro i' e' G
  rw [List.getElem?_set] at G
  split at G
  ·simp only [hil, if_true, Option.some.injEq] at G
   subst G; rw [Fi]; exact hel
  ·exact a5 i' e' G
 ·intro i' e' G j' x' aa
  rw [Jy (by rw [M]; omega)]
  rw [List.getElem?_set] at G
  split at G
  ·rename_i Z
   subst Z
   simp only [hil, if_true, Option.some.injEq] at G
   subst G
   rcases Jw e j cs j' x' aa with ⟨q1, q2, q3⟩ | ⟨q1, q2⟩
   ·rw [if_pos (by rw [M]; omega)]
    rw [show i * sz + j' - off = j' - j by omega]
    have hlt := (gs q3).1
    refine ⟨?_, hvr _ _ q3⟩
    rw [List.getD, gq (by omega)]
    exact Y _ (List.getElem_mem (by omega))
   ·rw [if_neg (by rw [M]; omega)]
    exact a6 i e he j' x' q2
  ·rename_i Z
   have hj'l := (gs aa).1
   have hel' := a5 i' e' G
   rw [if_neg ?_]
   ·exact a6 i' e' G j' x' aa
   ·rw [M]
    rintro ⟨q1, q2⟩
    rcases Nat.lt_or_gt_of_ne Z with h | h
    ·have : (i + 1) * sz ≤ i' * sz := Nat.mul_le_mul_right _ h
     rw [Nat.succ_mul] at this; omega
    ·have : (i' + 1) * sz ≤ i * sz := Nat.mul_le_mul_right _ h
     rw [Nat.succ_mul] at this; omega
theorem bR {t : TypeId} {x : Operand} {b off len e : Nat} {ti W : TI} (ht : E.tab t = some ti) (Z : ti.kind = .array len e) (he : E.tab e = some W) (hx : A5 s x = some (.v (.pointer (some ⟨b, off, none⟩)))) (hl : len ≠ 0) :
  Yp E.P n s ⟨dst, .slice t x none none none, ty, pos, aft, g⟩ (.v (.slice (some ⟨b, off, none⟩) len len)) := by
 intro H A r
 obtain ⟨d, Y, G⟩ := Gk (E.ok _ _ ht)
 rw [Z] at G
 have hu : E.P.underlying t = some (.array len e) := by
  cases d <;> simp [Lf] at G
  obtain ⟨rfl, rfl⟩ := G; exact Y
 refine ⟨_, .v _, fun w => ?_⟩
 have M := Dy (P := E.P) (w := w) (isS := false) (len := len) (cap := len) r (lo := none) (hi := none) (mx := none) (l := 0) (h := len) (m := len) rfl rfl rfl (fun _ => rfl) (Nat.zero_le _) (Nat.le_refl _) (Nat.le_refl _)
 simp only [Option.map_none] at M
 simp [execOp, Instr.sliceAt, Instr.sureAddr, r.evalv hx, run_underlying hu, M, Bw (E.ok _ _ he), hl, Dh]
theorem kH (k : Nat) {x y : Operand} {t t2 : TypeId} {b off len tt sz cap e : Nat} {ti ei : TI} {es : List (List T)} {rows M : List (List T)} {W : List T} {R : St → Prop}
  (ht : E.tab t = some ti) (hk : ti.kind = .slice e) (he : E.tab e = some ei) (hsz : ei.size = 1) (Y : A5 σ.slots x = some (.v (.slice (some ⟨b, off, none⟩) len len))) (G : σ.objs[k]? = some (.arr b tt sz cap rows)) (hrow : rows[0]? = some W)
  (hy : AppSrc σ.slots σ.objs y 1 es) (hle : es.length ≤ len) (hj : off + es.length ≤ W.length) (hs : rows.set 0 (Ex W off es.flatten) = M) (hd : ∀ d, dst = some d → d < n)
  (kk : R ⟨E5 σ.slots dst (.v (.int .i64 (es.length : Int))), σ.objs.set k (.arr b tt sz cap M)⟩) :
  AX E n C [k] ⟨dst, .call { callee := .builtin .copy, args := #[x, y], argTypes := #[t, t2] }, ty, pos, aft, g⟩ σ R := by
 subst hs
 refine AX.value fun H a w Z => ?_
 obtain ⟨ad, c, news, q1, q2, q3, q4, q5, q6⟩ := hy n H a w Z.sr Z.wr
 have hone : ∀ (i : Nat) (e : List T), es[i]? = some e → ∃ z, e = [z] := fun i e he => List.length_eq_one_iff.1 (q6 i e he).1
 have aa : es.flatten.length = es.length := by
  have : ∀ l : List (List T), (∀ e, e ∈ l → e.length = 1) → l.flatten.length = l.length := by
   intro l; induction l with
   | nil => simp
   | cons a l ih => intro h; simp only [List.flatten_cons, List.length_append, List.length_cons, h a (by simp), ih (fun e he => h e (by simp [he]))]; omega
  exact this es fun e he => by obtain ⟨i, hi⟩ := List.mem_iff_getElem?.1 he; exact (q6 i e hi).1
 have ab : ∀ (i : Nat) (x : T), es.flatten[i]? = some x → es[i]? = some [x] := by
  have : ∀ l : List (List T), (∀ e, e ∈ l → e.length = 1) → ∀ (i : Nat) (x : T), l.flatten[i]? = some x → l[i]? = some [x] := by
   intro l; induction l with
   | nil => intro _ i x h; simp at h
   | cons a l ih =>
    intro h i x Y
    obtain ⟨z, rfl⟩ := List.length_eq_one_iff.1 (h a (by simp))
    cases i with
    | zero => simp at Y; simp [Y]
    | succ i => simpa using ih (fun e he => h e (by simp [he])) i x (by simpa using Y)
  exact this es fun e he => by obtain ⟨i, hi⟩ := List.mem_iff_getElem?.1 he; exact (q6 i e hi).1
 have hor : ArrR H w b tt sz cap rows := Z.objs _ (mg G)
 obtain ⟨w', h1, h2, h3, h4, h5⟩ := Ic (E := E) (cs := es.flatten) (off := off) 0 off hor hrow (by simp) (news := news) (by rw [q2, aa]; simp) q3 (fun i x Y => by
  have := (q6 i _ (ab i x Y)).2 0 x (by simp)
  simpa using this) (by rw [aa]; exact hj)
 have hmin : Nat.min es.length len = es.length := Nat.min_eq_left hle
 have hund := Ec (E.ok _ _ ht) hk
 have hfc : (Builtin.firstCells 1 es.length (a.eval y)).run E.P w = .ok news.toArray w := by
  rw [q1]
  cases ad with
  | none =>
   have := q4 rfl
   subst this
   have : news = [] := by simpa using q2
   subst this
   simp [Builtin.firstCells]
  | some ad =>
   have hl : news.length = es.length := by simpa using q2
   have := run_firstCells_some (P := E.P) w 1 es.length ad 0 c news (by rw [hl]; simp) (fun j u h => q5 ad rfl j u h)
   exact this
 have hrun : (execOp a.eval ⟨dst, .call { callee := .builtin .copy, args := #[x, y], argTypes := #[t, t2] }, ty, pos, aft, g⟩).run E.P w = .ok (.value (.int .i64 (es.length : Int))) w' := by
  have hev := Z.sr.evalv Y
  have hlen : (Builtin.lenOf (a.eval y)).run E.P w = .ok es.length w := by rw [q1]; rfl
  simp only [execOp, resolve, invoke, builtin, Sem.run_bind, Sem.run_pure, Result.andThen_ok, List.map_toArray, List.map_cons, List.map_nil, hev]
  simp only [Builtin.copy_, Sem.run_bind, Sem.run_pure, Result.andThen_ok, List.getElem?_toArray, List.getElem?_cons_zero, List.getElem?_cons_succ, run_underlying hund, hlen, Bw (E.ok _ _ he), hsz, hmin, hfc, h1]
  rfl
 refine ⟨.int .i64 (es.length : Int), w', _, H, hrun, kk, ?_, fun _ _ h => h, fun i p hp hm => ?_⟩
 ·have := (Z.set G h3 (by omega) (fun i _ hi => h5 i (by simpa [Ob.fp] using hi)) (o' := .arr b tt sz cap (rows.set 0 (Ex W off es.flatten))) h2 (fun b hb => .inr hb) (by simp [Ob.fp])).put (dst := dst) (.v (.int .i64 (es.length : Int))) hd
  cases dst <;> exact this
 ·have hne : k ≠ i := fun h => by subst h; simp at hm
  exact ⟨H6 hp hne, fun b' hb' => h5 b' (fun h => Z.apart G hp hne b' hb' (by simp [Ob.fp, h]))⟩
def fE {α : Type} {m : Nat} (a : Arr α m) (l : List α) : Option (Arr α m) := if h : l.length ≤ m then some ⟨l ++ a.l.drop l.length, by simp [a.h]; omega⟩ else none
theorem R8 {α : Type} {m : Nat} {a r : Arr α m} {l : List α} (h : fE a l = some r) : l.length ≤ m ∧ r.l = l ++ a.l.drop l.length := by
 unfold fE at h
 split at h
 ·rename_i G; cases h; exact ⟨G, rfl⟩
 ·cases h
theorem Th : ∀ (e cs : List T), cs.length ≤ e.length → Ex e 0 cs = cs ++ e.drop cs.length
 | [], [], _ => rfl
 | [], _ :: _, h => by simp at h
 | _ :: _, [], _ => rfl
 | a :: e, c :: cs, h => by simp only [Ex, List.cons_append, List.length_cons, List.drop_succ_cons]; rw [Th e cs (by simpa using h)]
theorem iE {α : Type} {f : α → T} {l : List α} : (l.map fun x => [f x]).flatten = l.map f := by induction l with
 | nil => rfl
 | cons a l ih => simp [ih]
theorem gS {α : Type} {m : Nat} {f : α → T} {a r : Arr α m} {l : List α} {post : List T} (h : fE a l = some r) : Ex (a.l.map f ++ post) 0 (l.map fun x => [f x]).flatten = r.l.map f ++ post := by
 obtain ⟨M, G⟩ := R8 h
 rw [iE, Th _ _ (by simp [a.h]; omega), G]
 simp only [List.length_map, List.map_append, List.append_assoc, List.map_drop]
 rw [List.drop_append_of_le_length (by simp [a.h]; omega)]
theorem iX (k m : Nat) {x : Operand} {t : TypeId} {objs : List Ob} {v : Value} {tt tyi szi : Nat} {vs : List Value} {L : List (Option (List (List T)))} {es : List (List T)} {len : Nat} {ti : TI} {e : Nat} (Y : E.tab t = some ti) (W : ti.kind = .slice e)
  (M : A5 s x = some (.v (vs.getD m undef))) (ho : objs[k]? = some (.uss v tt tyi szi vs L)) (hm : L[m]? = some (some es)) (hl : es.length = len) :
  Yd E.P n s objs ⟨dst, .call { callee := .builtin .len, args := #[x], argTypes := #[t] }, ty, pos, aft, g⟩ (.v (.int .i64 (len : Int))) := by
 subst hl
 intro H a w r wr
 have Z : OR H w (.uss v tt tyi szi vs L) := wr.objs _ (mg ho)
 obtain ⟨h0, h1, h2⟩ := Z
 have hml := (gs hm).1
 have aa : vs[m]? = some (vs.getD m undef) := by
  have : m < vs.length := by omega
  simp [List.getD, this]
 have G := h2 m _ es aa hm
 generalize vs.getD m undef = u at M G
 rcases G with ⟨rfl, rfl⟩ | ⟨b, c, cap, rfl, q1, q2, q3⟩
 ·exact ⟨_, .v _, fun w' _ => (Ef (E := E) (n := n) Y W M H a r).choose_spec.2 w' |> fun h => by rw [h]; have := (Ef (E := E) (n := n) (dst := dst) (ty := ty) (pos := pos) (aft := aft) (g := g) Y W M H a r).choose_spec.1.v_eq; rw [this]; rfl⟩
 ·exact ⟨_, .v _, fun w' _ => (Ef (E := E) (n := n) Y W M H a r).choose_spec.2 w' |> fun h => by rw [h]; have := (Ef (E := E) (n := n) (dst := dst) (ty := ty) (pos := pos) (aft := aft) (g := g) Y W M H a r).choose_spec.1.v_eq; rw [this]⟩
theorem gQ {α β : Type} {f : α → β} {l : List α} {m : Nat} {x : α} (h : l[m]? = some x) : (l.map fun x => some (f x))[m]? = some (some (f x)) := by rw [List.getElem?_map, h]; rfl
theorem Ghost.lit (t : Nat) {ob : List Ob} {sz : Nat} {es es' : List (List T)} (h : get s t = some (.list sz es)) (hl : LendLL [] es es') : Ghost n C s ob ((t, .list sz es') :: s) ob := Ghost.slots fun H a w M i x G => by
 simp only [get] at G
 cases hb : Nat.beq t i with
 | true =>
  have := nq hb
  subst this
  rw [hb, cond_true] at G
  cases G
  refine VR.rows (M.slots t _ h) hl.length fun i W Y => ?_
  obtain ⟨e, q1, q2, q3⟩ := Oi (H := H) (H1 := H) (w := w) (objs := []) (by simp) (by simp) (fun _ _ h => h) hl i W Y
  exact ⟨e, q1, q2, fun j y hy v Z => q3 j y hy Z⟩
 | false =>
  rw [hb, cond_false] at G
  exact M.slots i x G
theorem AX.take (k m : Nat) {md : List Nat} {o : Oper} {ob : List Ob} {R : St → Prop} {v : Value} {ty tyi szi : Nat} {vs : List Value} {L : List (Option (List (List T)))} {es : List (List T)} (hk : ob[k]? = some (.uss v ty tyi szi vs L)) (hm : L[m]? = some (some es))
  (h : AX E n C md o ⟨s, ob.set k (.uss v ty tyi szi vs (L.set m none)) ++ [.us (vs.getD m undef) tyi szi es]⟩ R) : AX E n C (k :: md) o ⟨s, ob⟩ R := by
 intro H a w gm
 obtain ⟨H1, h1, g1⟩ := Ghost.take (n := n) (C := C) (s := s) k m hk hm H a w gm
 refine Cx ?_ (fun _ _ _ h => h) (h H1 a w g1)
 rintro a' w' ⟨σ', H', v, hr, M, ha, W, Y⟩
 refine ⟨σ', H', v, hr, M, ha, fun b o hb => W _ _ (h1 _ _ hb), fun i p Z G => ?_⟩
 simp only [List.contains_cons, Bool.or_eq_false_iff, beq_eq_false_iff_ne] at G
 refine Y i p ?_ G.2
 dsimp only at Z ⊢
 rw [List.getElem?_append_left (by simpa using (gs Z).1), List.getElem?_set_ne (Ne.symm G.1)]; exact Z
end
inductive NewK where
 | us (e z : Nat) (es : List (List T))
 | box (ty m : Nat) (cs : List T)
 | fn (f : List T → T)
 | lt (e z : Nat)
 | ap (q e z : Nat) (es : List (List T))
structure NewOp where
 j : Nat
 ds : List Nat
 d : Nat
 k : NewK
def NewK.obs : NewK → T → List Ob
 | .us e z es, .v v => [.us v e z es]
 | .box ty m cs, .v (.pointer (some a)) => [.arr a.block ty m 1 [cs]]
 | .ap _ e z es, .v v => [.us v e z es]
 | _, _ => []
def NewK.obN : NewK → T → List Ob
 | .lt e z, .v v => [.us v e z []]
 | k, x => k.obs x
def NewK.ok (xs : List T) (x : T) : NewK → Prop
 | .us _ _ _ => ∃ v, x = .v v ∧ v.oneCell' = true
 | .box _ _ _ => ∃ b, x = .v (.pointer (some ⟨b, 0, none⟩))
 | .fn f => x = f xs
 | .lt _ _ => ∃ v, x = .v v ∧ v.oneCell' = true
 | .ap _ _ _ _ => ∃ v, x = .v v ∧ v.oneCell' = true
def NewK.okW (xs : List T) (x : T) : NewK → Prop
 | .us _ _ _ => ∃ v, x = .v v
 | .box _ _ _ => ∃ b, x = .v (.pointer (some ⟨b, 0, none⟩))
 | .fn f => x = f xs
 | .lt _ _ => ∃ v, x = .v v
 | .ap _ _ _ _ => ∃ v, x = .v v
def Kt (v : Nat → T) (j : Nat) (x : T) : Nat → T := fun i => bif Nat.beq i j then x else v i
def News : List NewOp → (Nat → T) → Aq → List Ob → (Aq → List Ob → Prop) → Prop
 | [], _, s, ob, F => F s ob
 | ⟨j, _, d, .us e z es⟩ :: l, v, s, ob, F => ∀ x : Value, x.oneCell' = true → News l (Kt v j (.v x)) ((d, .v x) :: s) (ob ++ [.us x e z es]) F
 | ⟨j, _, d, .box ty m cs⟩ :: l, v, s, ob, F => ∀ b : Nat, News l (Kt v j (.v (.pointer (some ⟨b, 0, none⟩)))) ((d, .v (.pointer (some ⟨b, 0, none⟩))) :: s) (ob ++ [.arr b ty m 1 [cs]]) F
 | ⟨j, ds, d, .fn f⟩ :: l, v, s, ob, F => News l (Kt v j (f (ds.map v))) ((d, f (ds.map v)) :: s) ob F
 | ⟨j, _, d, .lt _ _⟩ :: l, v, s, ob, F => ∀ x : Value, x.oneCell' = true → News l (Kt v j (.v x)) ((d, .v x) :: s) ob F
 | ⟨j, _, d, .ap _ e z es⟩ :: l, v, s, ob, F => ∀ x : Value, x.oneCell' = true → News l (Kt v j (.v x)) ((d, .v x) :: s) (ob ++ [.us x e z es]) F
def Wj (v : Nat → T) : List NewOp → Aq → Aq
 | [], s => s
 | p :: l, s => Wj v l ((p.d, v p.j) :: s)
def Sv (v : Nat → T) : List NewOp → List Ob → List Ob
 | [], ob => ob
 | p :: l, ob => Sv v l (ob ++ p.k.obs (v p.j))
def kP : List Nat → List NewOp → Bool
 | _, [] => true
 | P, p :: l => p.ds.all P.contains && kP (p.j :: P) l
theorem News.get (vals : Nat → T) {F : Aq → List Ob → Prop} : ∀ (l : List NewOp) (P : List Nat) (v : Nat → T) (s : Aq) (ob : List Ob), kP P l = true → (∀ i, i ∈ P → v i = vals i) → (∀ p, p ∈ l → p.k.ok (p.ds.map vals) (vals p.j)) → News l v s ob F → F (Wj vals l s) (Sv vals l ob)
 | [], P, v, s, ob, _, _, _, h => h
 | ⟨j, ds, d, k⟩ :: l, P, v, s, ob, hb, hv, ho, h => by
  simp only [kP, Bool.and_eq_true] at hb
  have Y := ho _ (.head _)
  have M : ∀ x, x = vals j → ∀ i, i ∈ j :: P → Kt v j x i = vals i := by
   intro x G i hi
   unfold Kt
   cases hij : Nat.beq i j with
   | true => rw [cond_true, G, nq hij]
   | false =>
    rw [cond_false]
    rcases List.mem_cons.1 hi with rfl | hi
    ·simp at hij
    ·exact hv i hi
  cases k with
  | us e z es =>
   obtain ⟨x, G, Z⟩ := Y
   have := News.get vals l (j :: P) _ _ _ hb.2 (M _ G.symm) (fun p W => ho p (.tail _ W)) (h x Z)
   simp only [Wj, Sv, G, NewK.obs]; exact this
  | box ty m cs =>
   obtain ⟨b, G⟩ := Y
   have := News.get vals l (j :: P) _ _ _ hb.2 (M _ G.symm) (fun p W => ho p (.tail _ W)) (h b)
   simp only [Wj, Sv, G, NewK.obs]; exact this
  | fn f =>
   have hm : ds.map v = ds.map vals := List.map_congr_left fun i hi => hv i (by have := List.all_eq_true.1 hb.1 i hi; simpa using this)
   have G : vals j = f (ds.map vals) := Y
   have h' : News l (Kt v j (f (ds.map v))) ((d, f (ds.map v)) :: s) ob F := h
   rw [hm, ← G] at h'
   have := News.get vals l (j :: P) _ _ _ hb.2 (M _ rfl) (fun p W => ho p (.tail _ W)) h'
   simp only [Wj, Sv, NewK.obs, List.append_nil]; exact this
  | lt e z =>
   obtain ⟨x, G, Z⟩ := Y
   have := News.get vals l (j :: P) _ _ _ hb.2 (M _ G.symm) (fun p W => ho p (.tail _ W)) (h x Z)
   simp only [Wj, Sv, G, NewK.obs, List.append_nil]; exact this
  | ap q e z es =>
   obtain ⟨x, G, Z⟩ := Y
   have := News.get vals l (j :: P) _ _ _ hb.2 (M _ G.symm) (fun p W => ho p (.tail _ W)) (h x Z)
   simp only [Wj, Sv, G, NewK.obs]; exact this
theorem Xc {vals : Nat → T} {i : Nat} {x : T} : ∀ {l : List NewOp} {s : Aq}, Aw.get (Wj vals l s) i = some x → (∃ p, p ∈ l ∧ p.d = i ∧ vals p.j = x) ∨ Aw.get s i = some x
 | [], s, h => .inr h
 | p :: l, s, h => by
  rcases Xc (l := l) h with ⟨q, G, M⟩ | h
  ·exact .inl ⟨q, .tail _ G, M⟩
  ·simp only [Aw.get] at h
   cases hb : Nat.beq p.d i with
   | true => rw [hb, cond_true] at h; cases h; exact .inl ⟨p, .head _, nq hb, rfl⟩
   | false => rw [hb, cond_false] at h; exact .inr h
def Ku (vals : Nat → T) (D : List Nat) (p : NewOp) : List Ob :=
 match p.k with
 | .ap q e z es => bif D.contains p.j then (NewK.ap q e z es).obs (vals p.j) else bif D.contains q then (NewK.us e z []).obs (vals q) else []
 | k => bif D.contains p.j then k.obs (vals p.j) else []
def Fg (vals : Nat → T) (D : List Nat) (l : List NewOp) : List Ob := l.flatMap (Ku vals D)
theorem Od {vals : Nat → T} {D : List Nat} : ∀ {l : List NewOp} {ob : List Ob}, (∀ p, p ∈ l → p.j ∈ D) → ob ++ Fg vals D l = Sv vals l ob
 | [], ob, _ => by simp [Fg, Sv]
 | p :: l, ob, h => by
  have G : D.contains p.j = true := by simpa using h p (.head _)
  have e : Ku vals D p = p.k.obs (vals p.j) := by
   unfold Ku
   cases hk : p.k <;> simp only [G, cond_true]
  unfold Fg
  simp only [Sv, List.flatMap_cons, e]
  rw [← List.append_assoc]
  exact Od fun q M => h q (.tail _ M)
theorem Ts {vals : Nat → T} : ∀ {l : List NewOp}, Fg vals [] l = []
 | [] => rfl
 | p :: l => by
  have e : Ku vals [] p = [] := by unfold Ku; cases p.k <;> rfl
  unfold Fg
  rw [List.flatMap_cons, e]; exact Ts (l := l)
theorem Iy {vals G : Nat → T} {D D' : List Nat} {r : NewOp} {old new : List Ob} : ∀ {l : List NewOp}, r ∈ l → (l.map NewOp.j).Nodup → Ku vals D r = old → Ku G D' r = new → (∀ x, x ∈ l → x.j ≠ r.j → Ku vals D x = Ku G D' x) → ∃ rest, List.Perm (Fg vals D l) (old ++ rest) ∧ List.Perm (Fg G D' l) (new ++ rest)
 | q :: l, Y, hn, h1, h2, W => by
  simp only [List.map_cons, List.nodup_cons] at hn
  unfold Fg
  simp only [List.flatMap_cons]
  rcases List.mem_cons.1 Y with rfl | Y
  ·refine ⟨l.flatMap (Ku vals D), by rw [h1], ?_⟩
   have e : l.flatMap (Ku vals D) = l.flatMap (Ku G D') := by
    have : ∀ m : List NewOp, (∀ x, x ∈ m → Ku vals D x = Ku G D' x) → m.flatMap (Ku vals D) = m.flatMap (Ku G D') := by
     intro m
     induction m with
     | nil => intro _; rfl
     | cons y m ih => intro h; rw [List.flatMap_cons, List.flatMap_cons, h y (.head _), ih fun x W => h x (.tail _ W)]
    exact this l fun x M => W x (.tail _ M) fun Z => hn.1 (Z ▸ List.mem_map_of_mem M)
   rw [h2, e]
  ·have aa : q.j ≠ r.j := fun Z => hn.1 (Z ▸ List.mem_map_of_mem Y)
   obtain ⟨rest, a, b⟩ := Iy Y hn.2 h1 h2 fun x M => W x (.tail _ M)
   have e := W q (.head _) aa
   unfold Fg at a b
   refine ⟨Ku vals D q ++ rest, ?_, ?_⟩
   ·refine (List.Perm.append_left _ a).trans ?_
    rw [← List.append_assoc, ← List.append_assoc]
    exact List.Perm.append_right _ List.perm_append_comm
   ·rw [← e]
    refine (List.Perm.append_left _ b).trans ?_
    rw [← List.append_assoc, ← List.append_assoc]
    exact List.Perm.append_right _ List.perm_append_comm
theorem bL {l m : List Ob} (h : List.Perm l m) : List.Perm (l.flatMap Ob.fp) (m.flatMap Ob.fp) := by
 induction h with
 | nil => exact .nil
 | cons x _ ih => simp only [List.flatMap_cons]; exact List.Perm.append_left _ ih
 | swap x y l =>
  simp only [List.flatMap_cons, ← List.append_assoc]
  exact List.Perm.append_right _ List.perm_append_comm
 | trans _ _ a b => exact a.trans b
def PAllN (F : NewOp → Prop) : List NewOp → Prop
 | [] => True
 | p :: l => F p ∧ PAllN F l
theorem PAllN.get {F : NewOp → Prop} : ∀ {l : List NewOp}, PAllN F l → ∀ p, p ∈ l → F p
 | q :: l, ⟨h1, h2⟩, p, h => by
  rcases List.mem_cons.1 h with rfl | h
  ·exact h1
  ·exact PAllN.get h2 p h
section
variable {E : Env} {n : Nat} {C : Ctx} {ops : Array Oper} {s : Aq} {ob : List Ob} {R : St → Prop}
theorem Gam.perm {H : GH} {a : Act} {w : World} {ob' : List Ob} (g : Gam n C ⟨s, ob⟩ H a w) (h : List.Perm ob ob') : Gam n C ⟨s, ob'⟩ H a w :=
 { g with objs := fun p G => g.objs p (h.mem_iff.2 G), free := fun p G => g.free p (h.mem_iff.2 G), new := fun p G => g.new p (h.mem_iff.2 G), nodup := (bL h).nodup_iff.1 g.nodup }
def aP : List NewOp → Nat → NewOp
 | [], _ => ⟨0, [], 0, .lt 0 0⟩
 | p :: l, j => bif Nat.beq p.j j then p else aP l j
theorem Pr : ∀ {l : List NewOp} {p : NewOp}, p ∈ l → (l.map NewOp.j).Nodup → aP l p.j = p
 | q :: l, p, G, hn => by
  simp only [List.map_cons, List.nodup_cons] at hn
  simp only [aP]
  rcases List.mem_cons.1 G with rfl | G
  ·simp
  ·have : Nat.beq q.j p.j = false := by
    cases hb : Nat.beq q.j p.j with
    | false => rfl
    | true => exact absurd (nq hb ▸ List.mem_map_of_mem G) hn.1
   rw [this, cond_false]; exact Pr G hn.2
def K1 (A : List NewOp) (j : Nat) : Nat := (aP A j).d
def eZ (A : List NewOp) (j : Nat) : NewK := (aP A j).k
def aQ (A : List NewOp) (j : Nat) : List Nat := (aP A j).ds
theorem iH {l : List NewOp} {p : NewOp} (h : p ∈ l) (G : (l.map NewOp.j).Nodup) : K1 l p.j = p.d := by unfold K1; rw [Pr h G]
theorem P7 {l : List NewOp} {p : NewOp} (h : p ∈ l) (G : (l.map NewOp.j).Nodup) : eZ l p.j = p.k := by unfold eZ; rw [Pr h G]
theorem lY {l : List NewOp} {p : NewOp} (h : p ∈ l) (G : (l.map NewOp.j).Nodup) : aQ l p.j = p.ds := by unfold aQ; rw [Pr h G]
def DepV (A : List NewOp) : List Nat → List T → (List T → Prop) → Prop
 | [], ys, F => F ys
 | j :: ds, ys, F => match eZ A j with
  | .fn _ => ∀ x : T, DepV A ds (ys ++ [x]) F
  | .box _ _ _ => ∀ b : Nat, DepV A ds (ys ++ [.v (.pointer (some ⟨b, 0, none⟩))]) F
  | _ => ∀ v : Value, v.oneCell' = true → DepV A ds (ys ++ [.v v]) F
theorem DepV.get {A : List NewOp} {vals : Nat → T} {F : List T → Prop} : ∀ {ds : List Nat} {G : List T}, (∀ d, d ∈ ds → ∃ G, NewK.ok G (vals d) (eZ A d)) → DepV A ds G F → F (G ++ ds.map vals)
 | [], G, _, h => by simpa [DepV] using h
 | j :: ds, G, hv, h => by
  obtain ⟨zs, W⟩ := hv j (by simp)
  have Y := fun d hd => hv d (List.mem_cons_of_mem _ hd)
  rw [List.map_cons, show G ++ vals j :: ds.map vals = (G ++ [vals j]) ++ ds.map vals by simp]
  simp only [DepV] at h
  cases hk : eZ A j <;> rw [hk] at h W <;> first | exact DepV.get Y (h _) | (obtain ⟨v, M, Z⟩ := W; rw [M]; exact DepV.get Y (h v Z)) | (obtain ⟨b, M⟩ := W; rw [M]; exact DepV.get Y (h b))
def DepN (A : List NewOp) : List Nat → Aq → List T → (Aq → List T → Prop) → Prop
 | [], s, xs, F => F s xs
 | j :: ds, s, xs, F => match eZ A j with
  | .us _ _ _ => ∀ v : Value, v.oneCell' = true → DepN A ds ((K1 A j, .v v) :: s) (xs ++ [.v v]) F
  | .box _ _ _ => ∀ b : Nat, DepN A ds ((K1 A j, .v (.pointer (some ⟨b, 0, none⟩))) :: s) (xs ++ [.v (.pointer (some ⟨b, 0, none⟩))]) F
  | .fn f => DepV A (aQ A j) [] fun G => DepN A ds ((K1 A j, f G) :: s) (xs ++ [f G]) F
  | .lt _ _ => ∀ v : Value, v.oneCell' = true → DepN A ds ((K1 A j, .v v) :: s) (xs ++ [.v v]) F
  | .ap _ _ _ _ => ∀ v : Value, v.oneCell' = true → DepN A ds ((K1 A j, .v v) :: s) (xs ++ [.v v]) F
def Wk (A : List NewOp) (vals : Nat → T) : List Nat → Aq → Aq
 | [], s => s
 | j :: ds, s => Wk A vals ds ((K1 A j, vals j) :: s)
theorem DepN.get {A : List NewOp} {vals : Nat → T} {F : Aq → List T → Prop} : ∀ {ds : List Nat} {s : Aq} {xs : List T}, (∀ d, d ∈ ds → NewK.ok ((aQ A d).map vals) (vals d) (eZ A d) ∧ ∀ x, x ∈ aQ A d → ∃ ys, NewK.ok ys (vals x) (eZ A x)) → DepN A ds s xs F → F (Wk A vals ds s) (xs ++ ds.map vals)
 | [], s, xs, _, h => by simpa [DepN, Wk] using h
 | j :: ds, s, xs, hv, h => by
  have G := hv j (by simp)
  have Y := fun d Z => hv d (List.mem_cons_of_mem _ Z)
  simp only [DepN] at h
  obtain ⟨G, hx⟩ := G
  simp only [Wk, List.map_cons]
  rw [show xs ++ vals j :: ds.map vals = (xs ++ [vals j]) ++ ds.map vals by simp]
  cases hk : eZ A j with
  | us e z es =>
   rw [hk] at h G
   obtain ⟨v, M, W⟩ := G
   rw [M]; exact DepN.get Y (h v W)
  | box ty m cs =>
   rw [hk] at h G
   obtain ⟨b, M⟩ := G
   rw [M]; exact DepN.get Y (h b)
  | fn f =>
   rw [hk] at h G
   have := DepV.get hx h
   rw [List.nil_append, ← show vals j = f ((aQ A j).map vals) from G] at this
   exact DepN.get Y this
  | lt e z =>
   rw [hk] at h G
   obtain ⟨v, M, W⟩ := G
   rw [M]; exact DepN.get Y (h v W)
  | ap q e z es =>
   rw [hk] at h G
   obtain ⟨v, M, W⟩ := G
   rw [M]; exact DepN.get Y (h v W)
theorem Xo {A : List NewOp} {vals : Nat → T} {i : Nat} {x : T} : ∀ {ds : List Nat} {s : Aq}, Aw.get (Wk A vals ds s) i = some x → (∃ d, d ∈ ds ∧ K1 A d = i ∧ vals d = x) ∨ Aw.get s i = some x
 | [], s, h => .inr h
 | d :: ds, s, h => by
  rcases Xo (ds := ds) h with ⟨G, M, W⟩ | h
  ·exact .inl ⟨G, by simp [M], W⟩
  ·simp only [Aw.get] at h
   cases hb : Nat.beq (K1 A d) i with
   | true => rw [hb, cond_true] at h; cases h; exact .inl ⟨d, by simp, nq hb, rfl⟩
   | false => rw [hb, cond_false] at h; exact .inr h
def fC : List Nat → Bool
 | [] => true
 | x :: l => (l.all fun y => !Nat.beq x y) && fC l
theorem V2 : ∀ {l : List Nat}, fC l = true → l.Nodup
 | [], _ => .nil
 | x :: l, h => by
  simp only [fC, Bool.and_eq_true] at h
  refine List.nodup_cons.2 ⟨fun G => ?_, V2 h.2⟩
  have := List.all_eq_true.1 h.1 x G
  simp at this
def Zu (E : Env) (n : Nat) (C : Ctx) (o : Oper) (p : NewOp) (s' : Aq) (xs : List T) : Prop :=
 match p.k, xs with
 | .ap _ e z es, [.v xl] => ∀ ob, AX E n C [0] o ⟨s', .us xl e z [] :: ob⟩ fun σ' => ∃ v, Aw.get σ'.slots p.d = some (.v v) ∧ σ'.objs = .us v e z es :: ob
 | .ap _ _ _ _, _ => False
 | k, xs => ∀ ob, AX E n C [] o ⟨s', ob⟩ fun σ' => ∃ x, Aw.get σ'.slots p.d = some x ∧ k.okW xs x ∧ σ'.objs = ob ++ k.obN x
def pZ (A : List NewOp) : Bool := A.all fun p => match p.k with
 | .ap q e z _ => (match p.ds with | [x] => Nat.beq x q | _ => false) && ((match eZ A q with | .lt e' z' => Nat.beq e e' && Nat.beq z z' | _ => false) && A.all fun r => match r.k with | .ap q' _ _ _ => Nat.beq p.j r.j || !Nat.beq q q' | _ => true)
 | .lt _ _ => A.any fun r => match r.k with | .ap q _ _ _ => Nat.beq q p.j | _ => false
 | _ => true
theorem W9 {A : List NewOp} {vals G : Nat → T} {D : List Nat} {j : Nat} {x : NewOp} (Z : x.j ≠ j) (Y : ∀ q e z es, x.k = .ap q e z es → q ≠ j) (hv : ∀ i, i ∈ D → G i = vals i) : Ku vals D x = Ku G (j :: D) x := by
 have c : ∀ i, i ≠ j → (j :: D).contains i = D.contains i := fun i W => by simp [W]
 have M : ∀ (k : NewK) (y : List Ob), (bif D.contains x.j then k.obs (vals x.j) else y) = bif (j :: D).contains x.j then k.obs (G x.j) else y := fun k y => by
  rw [c _ Z]
  cases h : D.contains x.j with
  | true => rw [cond_true, cond_true, hv _ (by simpa using h)]
  | false => rfl
 unfold Ku
 cases hk : x.k with
 | ap q e z es =>
  dsimp only
  rw [M, c q (Y q e z es hk)]
  cases h : D.contains q with
  | true => rw [hv q (by simpa using h)]
  | false => rfl
 | _ => exact M _ _
theorem AP.any {r : PL} {so : Aq} {prot : List Nat} {aa : List Ob} (A : List NewOp)
  (hB : (fC (A.map NewOp.j) && (kP [] A && ((A.all (fun p => A.all fun q => Nat.beq p.j q.j || !Nat.beq p.d q.d) && (A.all fun p => (Aw.get s p.d).isNone && free so (some p.d))) && pZ A))) = true)
  (hstep : PAllN (fun p => ∃ o, ops[p.j]? = some o ∧ o.guard = none ∧ o.dst = some p.d ∧ DepN A p.ds s [] (Zu E n C o p)) A)
  (k : News A (fun _ => .tup []) s ob (fun s' ob' => AP E n C ops prot aa r so ⟨s', ob'⟩ R)) :
  AP E n C ops prot aa (.par (A.map fun p => (p.j, p.ds)) r) so ⟨s, ob⟩ R := by
 simp only [Bool.and_eq_true] at hB
 obtain ⟨hn, hb, ⟨hj, hs⟩, hap⟩ := hB
 have hn := V2 hn
 have hdd : ∀ p, p ∈ A → ∀ q, q ∈ A → p.d = q.d → p.j = q.j := fun p Y q hq he => by
  have := List.all_eq_true.1 (List.all_eq_true.1 hj p Y) q hq
  rw [he] at this
  simpa using this
 have hs' : ∀ p, p ∈ A → Aw.get s p.d = none ∧ free so (some p.d) = true := fun p Y => by simpa using List.all_eq_true.1 hs p Y
 have back : ∀ p, p ∈ A → ∀ q, q ∈ A → p.j = q.j → p = q := fun p Y q hq he => by
  obtain ⟨i, hi⟩ := List.getElem?_of_mem Y
  obtain ⟨i', hi'⟩ := List.getElem?_of_mem hq
  have h1 : (A.map NewOp.j)[i]? = some p.j := by rw [List.getElem?_map, hi]; rfl
  have h2 : (A.map NewOp.j)[i']? = some q.j := by rw [List.getElem?_map, hi']; rfl
  have := (List.getElem?_inj (gs h1).1 hn).1 (h1.trans (by rw [h2, he]))
  rw [this, hi'] at hi; cases hi; rfl
 have apq : ∀ p, p ∈ A → ∀ q e z es, p.k = .ap q e z es → p.ds = [q] ∧ eZ A q = .lt e z ∧ ∀ r, r ∈ A → ∀ e' z' ab, r.k = .ap q e' z' ab → p.j = r.j := by
  intro p Y q e z es M
  have h1 := List.all_eq_true.1 hap p Y
  simp only [M, Bool.and_eq_true] at h1
  obtain ⟨h1, h2, h3⟩ := h1
  refine ⟨?_, ?_, fun r hr e' z' ab hkr => ?_⟩
  ·split at h1
   ·rename_i x Z; rw [Z, nq h1]
   ·cases h1
  ·split at h2
   ·rename_i e' z' Z
    simp only [Bool.and_eq_true] at h2
    rw [Z, ← nq h2.1, ← nq h2.2]
   ·cases h2
  ·have := List.all_eq_true.1 h3 r hr
   simpa [hkr] using this
 intro Hs ws H a w sr wr ag hH hpp gm
 let I := fun (D : List Nat) (a : Act) (w : World) => ∃ (vals : Nat → T) (H : GH), (∀ p, p ∈ A → p.j ∈ D → p.k.ok (p.ds.map vals) (vals p.j) ∧ VR H (a.tmps.getD p.d undef) (vals p.j) ∧ ∀ x, x ∈ p.ds → x ∈ D) ∧ (∀ d, d ∈ D → ∃ p, p ∈ A ∧ p.j = d) ∧ (∀ b o, Hs b = some o → H b = some o) ∧ SR n so Hs a ∧
  Gam n C ⟨s, ob ++ Fg vals D A⟩ H a w ∧ Hv Hs aa ws w
 refine ⟨I, ?_, ?_, ?_⟩
 ·exact ⟨fun _ => .tup [], H, by simp, by simp, hH, sr, by rw [Ts, List.append_nil]; exact gm, ag⟩
 ·rintro D j ds a w hm hds hjD hh
  obtain ⟨vals, H, hd, hDA, hH, sr, gm, ag⟩ := hh
  obtain ⟨p, Y, he⟩ := List.mem_map.1 hm
  simp only [Prod.mk.injEq] at he
  obtain ⟨rfl, rfl⟩ := he
  obtain ⟨o, ho, hg, hdst, W⟩ := hstep.get p Y
  have W := DepN.get (vals := vals) (fun d hdd => by
   obtain ⟨q, hq, rfl⟩ := hDA d (hds d hdd)
   have hq0 := hd q hq (hds _ hdd)
   rw [P7 hq hn, lY hq hn]
   refine ⟨hq0.1, fun x Z => ?_⟩
   obtain ⟨y, hy, rfl⟩ := hDA x (hq0.2.2 x Z)
   rw [P7 hy hn]; exact ⟨_, (hd y hy (hq0.2.2 _ Z)).1⟩) W
  have hsl : ∀ i x, Aw.get (Wk A vals p.ds s) i = some x → VR H (a.tmps.getD i undef) x := by
   intro i x h
   rcases Xo h with ⟨d, h1, h2, h3⟩ | h
   ·obtain ⟨q, hq, rfl⟩ := hDA d (hds d h1)
    rw [iH hq hn] at h2
    rw [← h2, ← h3]; exact (hd q hq (hds _ h1)).2.1
   ·exact gm.slots i x h
  rw [List.nil_append] at W
  have hDc : D.contains p.j = false := by simpa using hjD
  have hpc : (p.j :: D).contains p.j = true := by simp
  have hne : ∀ x i, i ∈ D → Kt vals p.j x i = vals i := fun x i hi => by
   unfold Kt
   cases hij : Nat.beq i p.j with
   | true => exact absurd (nq hij ▸ hi) hjD
   | false => rfl
  have hself : ∀ x, Kt vals p.j x p.j = x := fun x => by unfold Kt; simp
  simp only [wpOp, ho]
  rw [if_pos (by simp [Region.wanted, hg])]
  refine .inl ?_
  have fin : ∀ (old : List Ob) (new : T → List Ob) (md : List Nat) (G : List Ob), List.Perm (Fg vals D A) (old ++ G) → (∀ i, md.contains i = true → i < old.length) →
    AX E n C md o ⟨Wk A vals p.ds s, old ++ (ob ++ G)⟩ (fun σ' => ∃ x, Aw.get σ'.slots p.d = some x ∧ p.k.okW (p.ds.map vals) x ∧ List.Perm σ'.objs (new x ++ (ob ++ G))) → (∀ x, p.k.okW (p.ds.map vals) x → List.Perm (Fg (Kt vals p.j x) (p.j :: D) A) (new x ++ G)) →
    (∀ v e z es, (p.k = .us e z es ∨ p.k = .lt e z ∨ ∃ q, p.k = .ap q e z es) → ∃ ab, Ob.us v e z ab ∈ new (.v v)) →
    ∀ Q : Exit → Act → World → Prop, o.wp E.P a w (fun a' w' => Hv Hs aa ws w' ∧ I (p.j :: D) a' w') Q := by
   intro old new md G hp0 hmd W hpn hob Q
   have mid : ∀ l : List Ob, List.Perm (ob ++ (l ++ G)) (l ++ (ob ++ G)) := fun l => by
    rw [← List.append_assoc, ← List.append_assoc]
    exact List.Perm.append_right _ List.perm_append_comm
   refine Cx ?_ (fun _ _ _ h => h.elim) (W H a w { gm.perm ((List.Perm.append_left _ hp0).trans (mid old)) with slots := hsl })
   rintro a' w' ⟨σ', H', v, ⟨x, hget, Z, hobj⟩, gm', ha', hHH, hfr⟩
   have htmp : ∀ i, i ≠ p.d → a'.tmps.getD i undef = a.tmps.getD i undef := fun i hi => by
    rw [ha', hdst]
    simp [Act.put, Array.getD_eq_getD_getElem?, Array.getElem?_setIfInBounds_ne (Ne.symm hi)]
   have ag' : Hv Hs aa ws w' := ⟨fun b o hb => gm'.held _ _ (hHH _ _ (hH _ _ hb)), fun q hqp b hb => by
    obtain ⟨i, hi, hoi⟩ := hpp q hqp
    have hi' : (old ++ (ob ++ G))[old.length + i]? = some q := by
     rw [List.getElem?_append_right (by omega), show old.length + i - old.length = i by omega, List.getElem?_append_left (gs hoi).1]; exact hoi
    refine ((hfr (old.length + i) q hi' ?_).2 b hb).trans (ag.2 q hqp b hb)
    cases hc : md.contains (old.length + i) with
    | true => have := hmd _ hc; omega
    | false => rfl⟩
   have hxo : p.k.ok (p.ds.map vals) x := by
    have hone : ∀ v e z es, (p.k = .us e z es ∨ p.k = .lt e z ∨ ∃ q, p.k = .ap q e z es) → x = .v v → v.oneCell' = true := fun v e z es M hv => by
     subst hv
     obtain ⟨ab, he⟩ := hob v e z es M
     exact UsR.one (show UsR H' w' v e z ab from gm'.objs _ (hobj.mem_iff.2 (List.mem_append_left _ he)))
    cases M : p.k with
    | us e z es => rw [M] at Z; obtain ⟨v, rfl⟩ := Z; exact ⟨v, rfl, hone v e z es (.inl M) rfl⟩
    | lt e z => rw [M] at Z; obtain ⟨v, rfl⟩ := Z; exact ⟨v, rfl, hone v e z [] (.inr (.inl M)) rfl⟩
    | ap q e z es => rw [M] at Z; obtain ⟨v, rfl⟩ := Z; exact ⟨v, rfl, hone v e z es (.inr (.inr ⟨q, M⟩)) rfl⟩
    | _ => rw [M] at Z; exact Z
   refine ⟨ag', Kt vals p.j x, H', fun q hq hqD => ?_, fun d hdD => ?_, fun b o hb => hHH _ _ (hH _ _ hb), ?_, Gam.perm (ob := σ'.objs) { gm' with slots := fun i y hy => ?_ } ((hobj.trans (mid _).symm).trans (List.Perm.append_left _ (hpn x Z).symm)), ag'⟩
   ·by_cases hqp : q.j = p.j
    ·have := back q hq p Y hqp
     subst this
     rw [hself, List.map_congr_left fun i hi => hne x i (hds i hi)]
     exact ⟨hxo, gm'.slots _ _ hget, fun y hy => List.mem_cons_of_mem _ (hds y hy)⟩
    ·have hqD' := (List.mem_cons.1 hqD).resolve_left hqp
     obtain ⟨h1, h2, h3⟩ := hd q hq hqD'
     rw [hne _ _ hqD', List.map_congr_left fun i hi => hne x i (h3 i hi), htmp q.d fun h => hqp (hdd q hq p Y h)]
     exact ⟨h1, h2.mono hHH, fun y hy => List.mem_cons_of_mem _ (h3 y hy)⟩
   ·rcases List.mem_cons.1 hdD with rfl | hdD
    ·exact ⟨p, Y, rfl⟩
    ·exact hDA d hdD
   ·rw [ha', hdst]
    exact sr.free _ _ (hs' p Y).2
   ·have hi : i ≠ p.d := fun h => by rw [h, (hs' p Y).1] at hy; cases hy
    rw [htmp i hi]
    exact (gm.slots i y hy).mono hHH
  have oth : (∀ e z, p.k ≠ .lt e z) → ∀ v y, y ∈ A → y.j ≠ p.j → Ku vals D y = Ku (Kt vals p.j v) (p.j :: D) y := fun hnl v y hy hyp =>
   W9 (A := A) hyp (fun q e z es M h => by
    have := (apq y hy q e z es M).2.1
    rw [h, P7 Y hn] at this; exact hnl _ _ this) (hne v)
  have plain : (∀ e z, p.k ≠ .lt e z) → (∀ q e z es, p.k ≠ .ap q e z es) → (∀ ob, AX E n C [] o ⟨Wk A vals p.ds s, ob⟩ fun σ' => ∃ x, Aw.get σ'.slots p.d = some x ∧ p.k.okW (p.ds.map vals) x ∧ σ'.objs = ob ++ p.k.obN x) → _ := fun h1 h2 W => by
   have e1 : Ku vals D p = [] := by
    unfold Ku
    cases M : p.k with
    | ap q e z es => exact absurd M (h2 q e z es)
    | _ => dsimp only; rw [hDc]; rfl
   have e2 : ∀ x, Ku (Kt vals p.j x) (p.j :: D) p = p.k.obN x := fun x => by
    unfold Ku
    cases M : p.k with
    | ap q e z es => exact absurd M (h2 q e z es)
    | lt e z => exact absurd M (h1 e z)
    | _ => dsimp only; rw [hpc, cond_true, hself]; rfl
   refine fin [] p.k.obN [] (Fg vals D A) (.refl _) (by simp) ?_ (fun x _ => ?_) (fun v e z es M => ?_)
   ·exact fun H a w g => Cx (fun a w ⟨σ', H', v, ⟨x, q1, q2, q3⟩, q⟩ => ⟨σ', H', v, ⟨x, q1, q2, by rw [q3]; exact List.perm_append_comm⟩, q⟩) (fun _ _ _ h => h) (W (ob ++ Fg vals D A) H a w g)
   ·obtain ⟨G, a, b⟩ := Iy Y hn e1 (e2 x) (oth h1 x)
    exact b.trans (List.Perm.append_left _ (by simpa using a.symm))
   ·rcases M with M | M | ⟨q, M⟩
    ·rw [M]; exact ⟨es, .head _⟩
    ·exact absurd M (h1 e z)
    ·exact absurd M (h2 q e z es)
  cases M : p.k with
  | lt e z =>
   obtain ⟨r, hr, e1, z1, es1, hkr⟩ : ∃ r, r ∈ A ∧ ∃ e z es, r.k = .ap p.j e z es := by
    have h1 := List.all_eq_true.1 hap p Y
    simp only [M] at h1
    obtain ⟨r, hr, h2⟩ := List.any_eq_true.1 h1
    split at h2
    ·rename_i q e z es hkr
     rw [nq h2] at hkr
     exact ⟨r, hr, e, z, es, hkr⟩
    ·cases h2
   obtain ⟨r1, r2, r3⟩ := apq r hr p.j e1 z1 es1 hkr
   rw [P7 Y hn, M] at r2
   cases r2
   have hrp : r.j ≠ p.j := fun h => by
    rw [back r hr p Y h, M] at hkr; cases hkr
   have hrD : D.contains r.j = false := by
    cases h : D.contains r.j with
    | false => rfl
    | true => exact absurd ((hd r hr (by simpa using h)).2.2 p.j (by rw [r1]; simp)) hjD
   have hrD' : (p.j :: D).contains r.j = false := by simp [hrp]; simpa using hrD
   have o1 : Ku vals D r = [] := by unfold Ku; rw [hkr]; dsimp only; rw [hrD, hDc]; rfl
   have key : ∀ v, ∃ G, List.Perm (Fg vals D A) ([] ++ G) ∧ List.Perm (Fg (Kt vals p.j (.v v)) (p.j :: D) A) ([.us v e z []] ++ G) := fun v => Iy hr hn o1 (by unfold Ku; rw [hkr]; dsimp only; rw [hrD', hpc, hself]; rfl) fun y hy hyr => by
    by_cases hyp : y.j = p.j
    ·rw [back y hy p Y hyp]
     unfold Ku
     rw [M]; dsimp only
     rw [hDc, hpc]; rfl
    ·exact W9 (A := A) hyp (fun q e' z' ab hky h => hyr (r3 y hy e' z' ab (h ▸ hky)).symm) (hne _)
   unfold Zu at W; rw [M] at W
   refine fin [] (fun x => (NewK.lt e z).obN x) [] (Fg vals D A) (.refl _) (by simp) ?_ (fun x Z => ?_) (fun v e' z' ab hk' => ?_) _
   ·refine fun H a w g => Cx (fun a w ⟨σ', H', v, ⟨x, q1, q2, q3⟩, q⟩ => ⟨σ', H', v, ⟨x, q1, by rw [M]; exact q2, by rw [q3]; exact List.perm_append_comm⟩, q⟩) (fun _ _ _ h => h) (W (ob ++ Fg vals D A) H a w g)
   ·rw [M] at Z
    obtain ⟨v, rfl⟩ := Z
    obtain ⟨G, a, b⟩ := key v
    exact b.trans (List.Perm.append_left _ (by simpa using a.symm))
   ·rw [M] at hk'
    rcases hk' with h | h | ⟨q, h⟩ <;> cases h
    exact ⟨_, .head _⟩
  | ap q e z es =>
   obtain ⟨p1, p2, p3⟩ := apq p Y q e z es M
   have hqD : q ∈ D := hds q (by rw [p1]; simp)
   obtain ⟨ql, hql, rfl⟩ := hDA q hqD
   obtain ⟨xl, hxl, hxl1⟩ : ∃ v, vals ql.j = .v v ∧ v.oneCell' = true := by
    have := (hd ql hql hqD).1
    rw [← P7 hql hn, p2] at this
    exact this
   have hqc : D.contains ql.j = true := by simpa using hqD
   have o1 : Ku vals D p = [.us xl e z []] := by unfold Ku; rw [M]; dsimp only; rw [hDc, hqc, cond_false, cond_true, hxl]; rfl
   have hnl : ∀ e z, p.k ≠ .lt e z := fun e z h => by rw [M] at h; cases h
   have key : ∀ v, ∃ G, List.Perm (Fg vals D A) ([.us xl e z []] ++ G) ∧ List.Perm (Fg (Kt vals p.j (.v v)) (p.j :: D) A) ([.us v e z es] ++ G) := fun v => Iy Y hn o1 (by unfold Ku; rw [M]; dsimp only; rw [hpc, cond_true, hself]; rfl) (oth hnl _)
   obtain ⟨G, hp0, _⟩ := key xl
   unfold Zu at W
   rw [M, p1] at W
   simp only [List.map_cons, List.map_nil, hxl] at W
   refine fin [.us xl e z []] (fun x => match x with | .v v => [.us v e z es] | _ => []) [0] G hp0 (fun i hi => by simp at hi; simp [hi]) ?_ (fun x Z => ?_) (fun v e' z' ab hk' => ?_) _
   ·rw [p1]
    exact fun H a w g => Cx (fun a w ⟨σ', H', v, ⟨x, q1, q3⟩, q⟩ => ⟨σ', H', v, ⟨.v x, q1, by rw [M]; exact ⟨x, rfl⟩, by rw [q3]; exact .refl _⟩, q⟩) (fun _ _ _ h => h) (W (ob ++ G) H a w g)
   ·rw [M] at Z
    obtain ⟨v, rfl⟩ := Z
    obtain ⟨rest', a, b⟩ := key v
    exact b.trans (List.Perm.append_left _ (List.Perm.cons_inv (hp0.symm.trans a)).symm)
   ·rw [M] at hk'
    rcases hk' with h | h | ⟨q, h⟩ <;> cases h
    exact ⟨_, .head _⟩
  | _ =>
   unfold Zu at W
   rw [M] at W
   exact plain (fun e z h => by rw [M] at h; cases h) (fun q e z es h => by rw [M] at h; cases h) (by rw [M]; exact W) _
 ·rintro D a w hall ⟨vals, H, hd, hDA, hH, sr, gm, ag⟩
  have hall' : ∀ p, p ∈ A → p.j ∈ D := fun p Y => hall (p.j, p.ds) (List.mem_map_of_mem (f := fun p : NewOp => (p.j, p.ds)) Y)
  have kk := News.get vals A [] _ _ _ hb (fun i hi => by cases hi) (fun p Y => (hd p Y (hall' p Y)).1) k
  rw [Od hall'] at gm
  refine kk Hs ws H a w sr wr ag hH (fun q hqp => ?_) { gm with slots := fun i x Z => ?_ }
  ·obtain ⟨i, hi, hoi⟩ := hpp q hqp
   refine ⟨i, hi, ?_⟩
   dsimp only
   rw [← Od hall', List.getElem?_append_left (gs hoi).1]; exact hoi
  ·rcases Xc Z with ⟨p, Y, rfl, rfl⟩ | Z
   ·exact (hd p Y (hall' p Y)).2.1
   ·exact gm.slots i x Z
theorem AP.same {pl : PL} {so : Aq} {M : List Nat} {G : List Ob} (t : Nat) (x : T) (hs : Aw.get s t = some x) (k : AP E n C ops M G pl so ⟨(t, x) :: s, ob⟩ R) : AP E n C ops M G pl so ⟨s, ob⟩ R :=
 fun Hs ws H a w sr wr Y hH W Z => k Hs ws H a w sr wr Y hH W (Z.same hs)
theorem nb {ob : List Ob} : ob = ob ++ [] := (List.append_nil ob).symm
end
structure MixOp where
 j : Nat
 ds : List Nat
 d : Nat
 x : T
 ks : List Nat
 os : List Ob
def MixOp.go (p : MixOp) (ob : List Ob) : List Ob := Fl ob p.ks p.os
def MixOp.lit (p : MixOp) : Bool := p.ks.isEmpty
theorem Gv {p : MixOp} (h : p.lit = true) (ob : List Ob) : p.go ob = ob := by
 unfold MixOp.go
 rw [List.isEmpty_iff.1 h]; cases p.os <;> rfl
theorem M2 {i : Nat} : ∀ {ks : List Nat} {os ob : List Ob}, i ∉ ks → (Fl ob ks os)[i]? = ob[i]?
 | [], os, ob, _ => by cases os <;> rfl
 | k :: ks, [], ob, _ => rfl
 | k :: ks, o :: os, ob, h => by
  simp only [Fl]
  rw [M2 (ks := ks) fun G => h (.tail _ G)]
  exact List.getElem?_set_ne fun e => h (by rw [e]; exact .head _)
def Ek (D : List Nat) : List MixOp → List Ob → List Ob
 | [], ob => ob
 | p :: l, ob => Ek D l (bif D.contains p.j then p.go ob else ob)
def aN (j : Nat) : List MixOp → List Ob → List Ob
 | [], ob => ob
 | p :: l, ob => bif Nat.beq p.j j then ob else aN j l (p.go ob)
def kU : List MixOp → List Ob → List Ob
 | [], ob => ob
 | p :: l, ob => kU l (p.go ob)
def dM : List MixOp → Nat → Nat
 | [], _ => 0
 | p :: l, j => bif Nat.beq p.j j then p.d else dM l j
def xM : List MixOp → Nat → T
 | [], _ => .tup []
 | p :: l, j => bif Nat.beq p.j j then p.x else xM l j
def kS (A : List MixOp) : List Nat → Aq → Aq
 | [], s => s
 | j :: ds, s => kS A ds ((dM A j, xM A j) :: s)
def nQ : List MixOp → Aq → Aq
 | [], s => s
 | p :: l, s => nQ l ((p.d, p.x) :: s)
def kQ : List MixOp → Bool
 | [] => true
 | p :: l => (p.lit || l.all fun q => q.lit || q.ds.contains p.j) && kQ l
def PAllM (F : MixOp → Prop) : List MixOp → Prop
 | [] => True
 | p :: l => F p ∧ PAllM F l
theorem PAllM.get {F : MixOp → Prop} : ∀ {l : List MixOp}, PAllM F l → ∀ p, p ∈ l → F p
 | q :: l, ⟨h1, h2⟩, p, h => by
  rcases List.mem_cons.1 h with rfl | h
  ·exact h1
  ·exact PAllM.get h2 p h
theorem fH : ∀ {l : List MixOp} {p : MixOp}, p ∈ l → (l.map MixOp.j).Nodup → dM l p.j = p.d ∧ xM l p.j = p.x
 | q :: l, p, G, hn => by
  simp only [List.map_cons, List.nodup_cons] at hn
  simp only [dM, xM]
  rcases List.mem_cons.1 G with rfl | G
  ·simp
  ·have : Nat.beq q.j p.j = false := by
    cases hb : Nat.beq q.j p.j with
    | false => rfl
    | true => exact absurd (nq hb ▸ List.mem_map_of_mem G) hn.1
   rw [this, cond_false, cond_false]; exact fH G hn.2
theorem Xn {A : List MixOp} {i : Nat} {x : T} : ∀ {ds : List Nat} {s : Aq}, Aw.get (kS A ds s) i = some x → (∃ d, d ∈ ds ∧ dM A d = i ∧ xM A d = x) ∨ Aw.get s i = some x
 | [], s, h => .inr h
 | d :: ds, s, h => by
  rcases Xn (ds := ds) h with ⟨G, M, W⟩ | h
  ·exact .inl ⟨G, by simp [M], W⟩
  ·simp only [Aw.get] at h
   cases hb : Nat.beq (dM A d) i with
   | true => rw [hb, cond_true] at h; cases h; exact .inl ⟨d, by simp, nq hb, rfl⟩
   | false => rw [hb, cond_false] at h; exact .inr h
theorem Xe {i : Nat} {x : T} : ∀ {l : List MixOp} {s : Aq}, Aw.get (nQ l s) i = some x → (∃ p, p ∈ l ∧ p.d = i ∧ p.x = x) ∨ Aw.get s i = some x
 | [], s, h => .inr h
 | p :: l, s, h => by
  rcases Xe (l := l) h with ⟨q, G, M⟩ | h
  ·exact .inl ⟨q, .tail _ G, M⟩
  ·simp only [Aw.get] at h
   cases hb : Nat.beq p.d i with
   | true => rw [hb, cond_true] at h; cases h; exact .inl ⟨p, .head _, nq hb, rfl⟩
   | false => rw [hb, cond_false] at h; exact .inr h
theorem L5 {D : List Nat} : ∀ {l : List MixOp} {ob : List Ob}, (∀ p, p ∈ l → p.j ∈ D) → Ek D l ob = kU l ob
 | [], _, _ => rfl
 | p :: l, ob, h => by
  have G : D.contains p.j = true := by simpa using h p (.head _)
  simp only [Ek, kU, G, cond_true]
  exact L5 fun q M => h q (.tail _ M)
theorem Sl : ∀ {l : List MixOp} {ob : List Ob}, Ek [] l ob = ob
 | [], _ => rfl
 | p :: l, ob => by simp only [Ek]; exact Sl (l := l)
theorem Kf {D : List Nat} : ∀ {l : List MixOp} {ob : List Ob}, (∀ q, q ∈ l → q.lit = true ∨ q.j ∉ D) → Ek D l ob = ob
 | [], _, _ => rfl
 | p :: l, ob, h => by
  simp only [Ek]
  have : (bif D.contains p.j then p.go ob else ob) = ob := by
   rcases h p (.head _) with h | h
   ·rw [Gv h]; cases D.contains p.j <;> rfl
   ·have : D.contains p.j = false := by simpa using h
    rw [this]; rfl
  rw [this]
  exact Kf fun q G => h q (.tail _ G)
theorem Hi {D : List Nat} {p : MixOp} (hp : p.lit = false) : ∀ {l : List MixOp} {ob : List Ob}, p ∈ l → (l.map MixOp.j).Nodup → kQ l = true → (∀ d, d ∈ p.ds → d ∈ D) → p.j ∉ D → (∀ q, q ∈ l → q.j ∈ D → ∀ d, d ∈ q.ds → d ∈ D) →
  Ek D l ob = aN p.j l ob ∧ Ek (p.j :: D) l ob = p.go (aN p.j l ob)
 | q :: l, ob, hm, hn, hc, hd, hj, hcl => by
  simp only [List.map_cons, List.nodup_cons] at hn
  simp only [kQ, Bool.and_eq_true] at hc
  rcases List.mem_cons.1 hm with rfl | hm
  ·have hjf : D.contains p.j = false := by simpa using hj
   have G : ∀ r, r ∈ l → r.lit = true ∨ r.j ∉ D := fun r W => by
    have Z : (p.lit || l.all fun q => q.lit || q.ds.contains p.j) = true := hc.1
    rw [hp, Bool.false_or] at Z
    have := List.all_eq_true.1 Z r W
    simp only [Bool.or_eq_true] at this
    rcases this with h | h
    ·exact .inl h
    ·exact .inr fun hrD => hj (hcl r (.tail _ W) hrD p.j (by simpa using h))
   have M : ∀ r, r ∈ l → r.lit = true ∨ r.j ∉ p.j :: D := fun r W => (G r W).imp id fun h Y => by
    rcases List.mem_cons.1 Y with Y | Y
    ·exact hn.1 (Y ▸ List.mem_map_of_mem W)
    ·exact h Y
   have e1 : Nat.beq p.j p.j = true := by simp
   have e2 : (p.j :: D).contains p.j = true := by simp
   simp only [Ek, aN, hjf, e1, e2, cond_true, cond_false]
   exact ⟨Kf G, Kf M⟩
  ·have hne : q.j ≠ p.j := fun he => hn.1 (he ▸ List.mem_map_of_mem hm)
   have hbe : Nat.beq q.j p.j = false := by
    cases hb : Nat.beq q.j p.j with
    | false => rfl
    | true => exact absurd (nq hb) hne
   have e : (bif D.contains q.j then q.go ob else ob) = q.go ob := by
    cases hq : q.lit with
    | true => rw [Gv hq]; cases D.contains q.j <;> rfl
    | false =>
     have Z := hc.1
     rw [hq, Bool.false_or] at Z
     have := List.all_eq_true.1 Z p hm
     rw [hp, Bool.false_or] at this
     have : D.contains q.j = true := by simpa using hd q.j (by simpa using this)
     rw [this]; rfl
   have e' : (bif (p.j :: D).contains q.j then q.go ob else ob) = q.go ob := by
    have : (p.j :: D).contains q.j = D.contains q.j := by simp [hne]
    rw [this, e]
   simp only [Ek, aN, hbe, cond_false, e, e']
   exact Hi hp hm hn.2 hc.2 hd hj fun r W => hcl r (.tail _ W)
theorem Sm {D : List Nat} {p : MixOp} (M : p.lit = true) : ∀ {l : List MixOp} {ob : List Ob}, (∀ q, q ∈ l → q.j = p.j → q = p) → Ek (p.j :: D) l ob = Ek D l ob
 | [], _, _ => rfl
 | q :: l, ob, h => by
  simp only [Ek]
  have e : (bif (p.j :: D).contains q.j then q.go ob else ob) = bif D.contains q.j then q.go ob else ob := by
   by_cases G : q.j = p.j
   ·have := h q (.head _) G
    subst this
    rw [Gv M]
    cases (q.j :: D).contains q.j <;> cases D.contains q.j <;> rfl
   ·have : (p.j :: D).contains q.j = D.contains q.j := by simp [G]
    rw [this]
  rw [e]
  exact Sm M fun r W => h r (.tail _ W)
theorem Pc {D : List Nat} {i : Nat} {G : List Ob} : ∀ {l : List MixOp} {ob : List Ob}, ob[i]? = G[i]? → (∀ q, q ∈ l → i ∉ q.ks) → (Ek D l ob)[i]? = G[i]?
 | [], _, h, _ => h
 | q :: l, ob, h, hb => by
  simp only [Ek]
  refine Pc ?_ fun r M => hb r (.tail _ M)
  cases D.contains q.j with
  | false => exact h
  | true => exact (M2 (hb q (.head _))).trans h
section
variable {E : Env} {n : Nat} {C : Ctx} {ops : Array Oper} {s : Aq} {ob : List Ob} {R : St → Prop}
theorem gK {r : PL} {so : Aq} {M : List Nat} {W : List Ob} {L : List (List Nat)} (A : List MixOp)
  (hB : (fC (A.map MixOp.j) && (kQ A && (A.all (fun p => A.all fun q => Nat.beq p.j q.j || !Nat.beq p.d q.d) && (A.all fun p => (Aw.get s p.d).isNone && (free so (some p.d) && M.all fun i => !p.ks.contains i))))) = true)
  (hstep : PAllM (fun p => ∃ o, ops[p.j]? = some o ∧ o.guard = none ∧ o.dst = some p.d ∧
   ∀ ob0, (bif p.lit then True else ob0 = aN p.j A ob) → AX E n C p.ks o ⟨kS A p.ds s, ob0⟩ fun σ' => Aw.get σ'.slots p.d = some p.x ∧ σ'.objs = p.go ob0) A)
  (k : AP E n C ops M W r so ⟨nQ A s, kU A ob⟩ R) :
  AP E n C ops M W (.parS (A.map fun p => (p.j, p.ds)) L r) so ⟨s, ob⟩ R := by
 simp only [Bool.and_eq_true] at hB
 obtain ⟨hn, hc, hj, hs⟩ := hB
 have hn := V2 hn
 have hdd : ∀ p, p ∈ A → ∀ q, q ∈ A → p.d = q.d → p.j = q.j := fun p G q Y he => by
  have := List.all_eq_true.1 (List.all_eq_true.1 hj p G) q Y
  rw [he] at this
  simp at this
  exact this
 have hs0 : ∀ p, p ∈ A → Aw.get s p.d = none ∧ free so (some p.d) = true ∧ (M.all fun i => !p.ks.contains i) = true := fun p G => by
  have := List.all_eq_true.1 hs p G
  simp only [Bool.and_eq_true, Option.isNone_iff_eq_none] at this
  exact this
 have hs' : ∀ p, p ∈ A → Aw.get s p.d = none ∧ free so (some p.d) = true := fun p G => ⟨(hs0 p G).1, (hs0 p G).2.1⟩
 have back : ∀ p, p ∈ A → ∀ q, q ∈ A → p.j = q.j → p = q := by
  have : ∀ l : List MixOp, (l.map MixOp.j).Nodup → ∀ p, p ∈ l → ∀ q, q ∈ l → p.j = q.j → p = q := by
   intro l
   induction l with
   | nil => intro _ p G; cases G
   | cons x l ih =>
    intro hn p G q Y he
    simp only [List.map_cons, List.nodup_cons] at hn
    rcases List.mem_cons.1 G with h1 | h1 <;> rcases List.mem_cons.1 Y with h2 | h2
    ·rw [h1, h2]
    ·exact absurd (show x.j ∈ l.map MixOp.j by rw [← h1, he]; exact List.mem_map_of_mem h2) hn.1
    ·exact absurd (show x.j ∈ l.map MixOp.j by rw [← h2, ← he]; exact List.mem_map_of_mem h1) hn.1
    ·exact ih hn.2 p h1 q h2 he
  exact this A hn
 have hpr : ∀ D i, M.contains i = true → (Ek D A ob)[i]? = ob[i]? := fun D i hi => Pc rfl fun q Y => by
  have := List.all_eq_true.1 (hs0 q Y).2.2 i (by simpa using hi)
  simpa using this
 intro Hs ws H a w sr wr ag hH hpp gm
 refine ⟨fun D a w => ∃ H : GH, (∀ p, p ∈ A → p.j ∈ D → VR H (a.tmps.getD p.d undef) p.x ∧ ∀ x, x ∈ p.ds → x ∈ D) ∧ (∀ d, d ∈ D → ∃ p, p ∈ A ∧ p.j = d) ∧ (∀ b o, Hs b = some o → H b = some o) ∧ SR n so Hs a ∧
  Gam n C ⟨s, Ek D A ob⟩ H a w ∧ Hv Hs W ws w, ?_, ?_, ?_⟩
 ·exact ⟨H, by simp, by simp, hH, sr, by rw [Sl]; exact gm, ag⟩
 ·rintro D j ds a w hm hds hjD ⟨H, hd, hDA, hH, sr, gm, ag⟩
  obtain ⟨p, G, he⟩ := List.mem_map.1 hm
  simp only [Prod.mk.injEq] at he
  obtain ⟨rfl, rfl⟩ := he
  obtain ⟨o, ho, hg, hdst, hax⟩ := hstep.get p G
  have hmd' : ∀ i, M.contains i = true → p.ks.contains i = false := fun i hi => by
   have := (List.all_eq_true.1 (hs0 p G).2.2) i (by simpa using hi)
   simpa using this
  have hcl : ∀ q, q ∈ A → q.j ∈ D → ∀ d, d ∈ q.ds → d ∈ D := fun q Y h => (hd q Y h).2
  have hax := hax (Ek D A ob) (by
   cases hb : p.lit with
   | true => trivial
   | false => exact (Hi hb G hn hc hds hjD hcl).1)
  have hsl : ∀ i x, Aw.get (kS A p.ds s) i = some x → VR H (a.tmps.getD i undef) x := by
   intro i x h
   rcases Xn h with ⟨d, h1, h2, h3⟩ | h
   ·obtain ⟨q, Y, rfl⟩ := hDA d (hds d h1)
    rw [(fH Y hn).1] at h2
    rw [(fH Y hn).2] at h3
    rw [← h2, ← h3]; exact (hd q Y (hds _ h1)).1
   ·exact gm.slots i x h
  have hax := hax H a w { gm with slots := hsl }
  simp only [wpOp, ho]
  rw [if_pos (by simp [Region.wanted, hg])]
  refine .inl (Cx ?_ (fun _ _ _ h => h.elim) hax)
  rintro a' w' ⟨σ', H', v, ⟨hget, hobj⟩, gm', ha', hHH, hfr⟩
  have hobj' : σ'.objs = Ek (p.j :: D) A ob := by
   rw [hobj]
   cases hb : p.lit with
   | true => rw [Gv hb]; exact (Sm hb fun q Y he => back q Y p G he).symm
   | false => rw [(Hi hb G hn hc hds hjD hcl).2, ← (Hi hb G hn hc hds hjD hcl).1]
  have ag' : Hv Hs W ws w' := by
   refine ⟨fun b o hb => gm'.held _ _ (hHH _ _ (hH _ _ hb)), fun q Z b hb => ?_⟩
   obtain ⟨i, hi, hoi⟩ := hpp q Z
   exact ((hfr i q (by dsimp only; rw [hpr D i hi]; exact hoi) (hmd' i hi)).2 b hb).trans (ag.2 q Z b hb)
  have htmp : ∀ i, i ≠ p.d → a'.tmps.getD i undef = a.tmps.getD i undef := fun i hi => by
   rw [ha', hdst]
   simp [Act.put, Array.getD_eq_getD_getElem?, Array.getElem?_setIfInBounds_ne (Ne.symm hi)]
  refine ⟨ag', H', fun q Y hqD => ?_, fun d hdD => ?_, fun b o hb => hHH _ _ (hH _ _ hb), ?_, ?_, ag'⟩
  ·by_cases Z : q.j = p.j
   ·have := back q Y p G Z
    subst this
    exact ⟨gm'.slots _ _ hget, fun y hy => List.mem_cons_of_mem _ (hds y hy)⟩
   ·have hqD' : q.j ∈ D := by
     rcases List.mem_cons.1 hqD with h | h
     ·exact absurd h Z
     ·exact h
    obtain ⟨h2, h3⟩ := hd q Y hqD'
    rw [htmp q.d fun h => Z (hdd q Y p G h)]
    exact ⟨h2.mono hHH, fun y hy => List.mem_cons_of_mem _ (h3 y hy)⟩
  ·rcases List.mem_cons.1 hdD with rfl | hdD
   ·exact ⟨p, G, rfl⟩
   ·exact hDA d hdD
  ·rw [ha', hdst]
   exact sr.free _ _ (hs' p G).2
  ·have gm'' : Gam n C ⟨σ'.slots, Ek (p.j :: D) A ob⟩ H' a' w' := by rw [← hobj']; exact gm'
   refine { gm'' with slots := fun i y hy => ?_ }
   have hi : i ≠ p.d := fun h => by rw [h, (hs' p G).1] at hy; cases hy
   rw [htmp i hi]
   exact (gm.slots i y hy).mono hHH
 ·rintro D a w hall ⟨H, hd, hDA, hH, sr, gm, ag⟩
  have aa : ∀ p, p ∈ A → p.j ∈ D := fun p G => hall (p.j, p.ds) (List.mem_map_of_mem (f := fun p : MixOp => (p.j, p.ds)) G)
  rw [L5 aa] at gm
  refine k Hs ws H a w sr wr ag hH (fun q Z => ?_) { gm with slots := fun i x hx => ?_ }
  ·obtain ⟨i, hi, hoi⟩ := hpp q Z
   refine ⟨i, hi, ?_⟩
   dsimp only
   rw [← L5 (D := D) aa, hpr D i hi]; exact hoi
  ·rcases Xe hx with ⟨p, G, rfl, rfl⟩ | hx
   ·exact (hd p G (aa p G)).1
   ·exact gm.slots i x hx
end
end Go.Aw
