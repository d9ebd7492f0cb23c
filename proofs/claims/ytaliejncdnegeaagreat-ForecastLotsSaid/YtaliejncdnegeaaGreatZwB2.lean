/- A program logic over the model. No condition. -/
import Derived.Test.YtaliejncdnegeaaGreatZwB1
import Derived.Scope
import Derived.Laws.StructEq
import Derived.Lib.LazyBuf
import Derived.KernelRfl
set_option maxRecDepth 100000
namespace Go.Aw
set_option linter.unusedVariables false
set_option linter.unusedSimpArgs false
def wr (x : Int) : Int := IntKind.i64.wrap x
theorem wr_id {x : Int} (h : -9223372036854775808 ≤ x ∧ x ≤ 9223372036854775807) : wr x = x := w64 h
def ix {α : Type} (l : List α) (i : Int) : Option (Nat × α) := if 0 ≤ i then (l[i.toNat]?).map fun x => (i.toNat, x) else none
theorem ix_some {α : Type} {l : List α} {i : Int} {p : Nat × α} (h : ix l i = some p) : i = (p.1 : Int) ∧ l[p.1]? = some p.2 := by
 unfold ix at h
 split at h
 ·obtain ⟨x, hx, rfl⟩ := Option.map_eq_some_iff.1 h
  exact ⟨by dsimp only; omega, hx⟩
 ·cases h
theorem ix_nat {α : Type} {l : List α} {k : Nat} {x : α} (h : l[k]? = some x) : ix l (k : Int) = some (k, x) := by simp [ix, h]
def room : Nat := 68719476736
def app? {α : Type} (l m : List α) : Option (List α) := if l.length + m.length ≤ room then some (l ++ m) else none
theorem app_some {α : Type} {l m r : List α} (h : app? l m = some r) : l.length + m.length ≤ 68719476736 ∧ l ++ m = r := by
 unfold app? at h
 split at h
 ·rename_i hr; exact ⟨hr, by cases h; rfl⟩
 ·cases h
theorem app?_eq {α : Type} {l m : List α} (h : l.length + m.length ≤ 68719476736) : app? l m = some (l ++ m) := if_pos h
def mk? {α : Type} (n : Int) (z : α) : Option (List α) := if 0 ≤ n ∧ n ≤ (room : Int) then some (List.replicate n.toNat z) else none
theorem mk_some {α : Type} {n : Int} {z : α} {r : List α} (h : mk? n z = some r) : ∃ m : Nat, n = (m : Int) ∧ m ≤ 68719476736 ∧ List.replicate m z = r := by
 unfold mk? at h
 split at h
 ·rename_i hr
  refine ⟨n.toNat, by omega, ?_, by cases h; rfl⟩
  have : (room : Int) = 68719476736 := rfl
  omega
 ·cases h
theorem mk?_eq {α : Type} {m : Nat} (z : α) (h : m ≤ 68719476736) : mk? (m : Int) z = some (List.replicate m z) := by
 unfold mk?
 have : (room : Int) = 68719476736 := rfl
 rw [if_pos (by omega)]; simp
def sub? {α : Type} (l : List α) (a b : Int) : Option (List α) := if 0 ≤ a ∧ a ≤ b ∧ b ≤ (l.length : Int) then some ((l.drop a.toNat).take (b.toNat - a.toNat)) else none
theorem sub_some {α : Type} {l r : List α} {a b : Int} (h : sub? l a b = some r) : ∃ x y : Nat, a = (x : Int) ∧ b = (y : Int) ∧ x ≤ y ∧ y ≤ l.length ∧ (l.drop x).take (y - x) = r := by
 unfold sub? at h
 split at h
 ·exact ⟨a.toNat, b.toNat, by omega, by omega, by omega, by omega, by cases h; rfl⟩
 ·cases h
def cat? (a b : ByteArray) : Option ByteArray := if a.size + b.size ≤ 68719476736 then some (a ++ b) else none
def ixs (b : ByteArray) (i : Int) : Option (Nat × Int) := if 0 ≤ i ∧ i < (b.size : Int) then some (i.toNat, ((b.data.getD i.toNat 0).toNat : Int)) else none
theorem ixs_some {b : ByteArray} {i : Int} {p : Nat × Int} (h : ixs b i = some p) : i = (p.1 : Int) ∧ p.1 < b.size ∧ ((b.data.getD p.1 0).toNat : Int) = p.2 := by
 unfold ixs at h
 split at h
 ·cases h; exact ⟨by dsimp only; omega, by dsimp only; omega, rfl⟩
 ·cases h
def quo? (a b : Int) : Option Int := if b ≠ 0 then some (wr (a.tdiv b)) else none
theorem quo_some {a b r : Int} (h : quo? a b = some r) : b ≠ 0 ∧ IntKind.i64.wrap (a.tdiv b) = r := by
 unfold quo? at h
 split at h
 ·rename_i hb; exact ⟨hb, by cases h; rfl⟩
 ·cases h
def rem? (a b : Int) : Option Int := if b ≠ 0 then some (a.tmod b) else none
theorem rem_some {a b r : Int} (h : rem? a b = some r) : b ≠ 0 ∧ a.tmod b = r := by
 unfold rem? at h
 split at h
 ·rename_i hb; exact ⟨hb, by cases h; rfl⟩
 ·cases h
def chk (p : Prop) [Decidable p] : Option Unit := if p then some () else none
theorem chk_some {p : Prop} [Decidable p] {u : Unit} (h : chk p = some u) : p := by
 unfold chk at h
 split at h
 ·assumption
 ·cases h
theorem chk_eq {p : Prop} [Decidable p] (h : p) : chk p = some () := if_pos h
def sEq (a b : ByteArray) : Bool := a.toList == b.toList
theorem ob_some {α β : Type} {o : Option α} {f : α → Option β} {r : β} (h : o.bind f = some r) : ∃ x, o = some x ∧ f x = some r := Option.bind_eq_some_iff.1 h
def loopN {S B : Type} (f : S → Option (S ⊕ B)) : Nat → S → Option B
 | 0, _ => none
 | n + 1, s => match f s with
  | none => none
  | some (.inl s') => loopN f n s'
  | some (.inr b) => some b
def lots : Nat := 18446744073709551616
def forL {α S B : Type} (f : Nat → α → S → Option (S ⊕ B)) : Nat → List α → S → Option (S ⊕ B)
 | _, [], s => some (.inl s)
 | k, x :: l, s => match f k x s with
  | none => none
  | some (.inl s') => forL f (k + 1) l s'
  | some (.inr b) => some (.inr b)
def forS {α S : Type} (f : Nat → α → S → Option S) : Nat → List α → S → Option S
 | _, [], s => some s
 | k, x :: l, s => match f k x s with
  | none => none
  | some s' => forS f (k + 1) l s'
def forI {S B : Type} (f : Nat → S → Option (S ⊕ B)) : Nat → Nat → S → Option (S ⊕ B)
 | _, 0, s => some (.inl s)
 | k, n + 1, s => match f k s with
  | none => none
  | some (.inl s') => forI f (k + 1) n s'
  | some (.inr b) => some (.inr b)
def forJ {S : Type} (f : Nat → S → Option S) : Nat → Nat → S → Option S
 | _, 0, s => some s
 | k, n + 1, s => match f k s with
  | none => none
  | some s' => forJ f (k + 1) n s'
structure Arr (α : Type) (n : Nat) where
 l : List α
 h : l.length = n
theorem Arr.ext' {α : Type} {n : Nat} {a b : Arr α n} (h : a.l = b.l) : a = b := by cases a; cases b; cases h; rfl
instance {α : Type} {n : Nat} [DecidableEq α] : DecidableEq (Arr α n) := fun a b => if h : a.l = b.l then .isTrue (Arr.ext' h) else .isFalse (fun h' => h (by rw [h']))
instance {α : Type} {n : Nat} [Inhabited α] : Inhabited (Arr α n) := ⟨⟨List.replicate n default, by simp⟩⟩
def Arr.set {α : Type} {n : Nat} (a : Arr α n) (i : Nat) (x : α) : Arr α n := ⟨a.l.set i x, by simp [a.h]⟩
def Arr.rep {α : Type} (n : Nat) (x : α) : Arr α n := ⟨List.replicate n x, by simp⟩
theorem seg_here {α : Type} {f : α → T} {l : List α} {post : List T} {i : Nat} {x : α} (h : l[i]? = some x) : (l.map f ++ post)[i]? = some (f x) := by
 have hi := (List.getElem?_eq_some_iff.1 h).1
 rw [List.getElem?_append_left (by simpa using hi)]; simp [h]
theorem seg_skip {pre post : List T} {k i : Nat} {x : T} (hk : pre.length = k) (h : post[i]? = some x) : (pre ++ post)[k + i]? = some x := by
 subst hk; rw [List.getElem?_append_right (by omega)]; simpa using h
theorem seg_set_here {α : Type} {f : α → T} {l : List α} {post : List T} {i : Nat} {y : α} (hi : i < l.length) : setC (l.map f ++ post) i [f y] = (l.set i y).map f ++ post := by
 induction l generalizing i with
 | nil => simp at hi
 | cons a l ih =>
  cases i with
  | zero =>
   simp only [List.map_cons, List.cons_append, setC, List.set_cons_zero]
   cases h : (l.map f ++ post) <;> rfl
  | succ i => simp only [List.map_cons, List.cons_append, setC, List.set_cons_succ]; rw [ih (by simpa using hi)]
theorem seg_set_skip {pre post post' : List T} {k i : Nat} {cs : List T} (hk : pre.length = k) (h : setC post i cs = post') : setC (pre ++ post) (k + i) cs = pre ++ post' := by
 subst hk
 induction pre with
 | nil => simpa using h
 | cons a l ih => simp only [List.cons_append, List.length_cons, Nat.add_right_comm, setC]; rw [ih]
section
variable {E : Env} {n : Nat} {C : Ctx} {s : Slots} {ob : List Ob} {Q : Exit → St → Prop} {ops : Array Oper} {R : St → Prop}
theorem Ghost.pick (ks : List Nat) {K : List Ob} (hK : pickAll ob ks = some K) (hn : ks.Nodup) : Ghost n C s ob s K := by
 intro H a w gm
 obtain ⟨p1, p2⟩ := pickAll_mem hK
 have hmem : ∀ (i : Nat) (p : Ob), K[i]? = some p → ∃ k, ks[i]? = some k ∧ ob[k]? = some p := by
  intro i p hi
  have hil := (List.getElem?_eq_some_iff.1 hi).1
  obtain ⟨o, h1, h2⟩ := p2 i ks[i] (List.getElem?_eq_getElem (by omega))
  rw [hi] at h2
  cases h2
  exact ⟨_, List.getElem?_eq_getElem (by omega), h1⟩
 have hin : ∀ p, p ∈ K → p ∈ ob := fun p hp => by
  obtain ⟨i, hi⟩ := List.mem_iff_getElem?.1 hp
  obtain ⟨k, _, h⟩ := hmem i p hi
  exact List.mem_of_getElem? h
 have hl := nodup_places.1 gm.nodup
 refine ⟨H, fun _ _ h => h, { gm with objs := fun p hp => gm.objs p (hin p hp), free := fun p hp => gm.free p (hin p hp), new := fun p hp => gm.new p (hin p hp), nodup := ?_ }⟩
 refine nodup_places.2 ⟨fun i p hi => ?_, fun i j p q hi hj hne b hb => ?_⟩
 ·obtain ⟨k, _, h⟩ := hmem i p hi
  exact hl.1 k p h
 ·obtain ⟨k, h1, h2⟩ := hmem i p hi
  obtain ⟨k', h3, h4⟩ := hmem j q hj
  refine hl.2 k k' p q h2 h4 (fun he => hne ?_) b hb
  subst he
  exact (List.getElem?_inj (List.getElem?_eq_some_iff.1 h1).1 hn).1 (h1.trans h3.symm)
theorem Ghost.refl : Ghost n C s ob s ob := fun H _ _ gm => ⟨H, fun _ _ h => h, gm⟩
theorem Ghost.slots {s' : Slots} (h : ∀ (H : GH) (a : Act) (w : World), Gam n C ⟨s, ob⟩ H a w → ∀ i x, get s' i = some x → VR H (a.tmps.getD i undef) x) : Ghost n C s ob s' ob := fun H a w gm =>
 ⟨H, fun _ _ h => h, { gm with slots := h H a w gm }⟩
theorem AP.ofAO {so : Slots} {prot : List Nat} {pobjs : List Ob} {σ : St} (h : AO E n C ops [] σ R) : AP E n C ops prot pobjs .nil so σ R := fun _ _ H a w _ _ _ _ _ gm => h H a w gm
theorem AP.ghostS {pl : PL} {so : Slots} {prot : List Nat} {pobjs : List Ob} {s' : Slots} {ob' : List Ob} (h : Ghost n C s ob s' ob') (hp : prot.map (fun i => ob'[i]?) = prot.map (fun i => ob[i]?))
  (k : AP E n C ops prot pobjs pl so ⟨s', ob'⟩ R) : AP E n C ops prot pobjs pl so ⟨s, ob⟩ R := by
 intro Hs ws H a w sr wr ag hH hpp gm
 obtain ⟨H', h1, g⟩ := h H a w gm
 refine k Hs ws H' a w sr wr ag (fun b o hb => h1 _ _ (hH _ _ hb)) (fun p hpm => ?_) g
 obtain ⟨i, hi, he⟩ := hpp p hpm
 have hi' : i ∈ prot := by simpa using hi
 have : ob'[i]? = ob[i]? := List.map_inj_left.1 hp i hi'
 exact ⟨i, hi, this.trans he⟩
theorem AP.eraS {pl : PL} {so : Slots} {prot : List Nat} {pobjs : List Ob} (d : Nat) (k : AP E n C ops prot pobjs pl (era so (some d)) ⟨s, ob⟩ R) : AP E n C ops prot pobjs pl so ⟨s, ob⟩ R :=
 fun Hs ws H a w sr wr ag hH hp gm => k Hs ws H a w ⟨sr.size, fun i x h => sr.slots i x (get_filter_ne h).2⟩ wr ag hH hp gm
theorem AP.known {pl : PL} {so : Slots} {prot : List Nat} {pobjs : List Ob} {b c : Bool} (t : Nat) (hs : get s t = some (.v (.bool b))) (hb : b = c) (k : AP E n C ops prot pobjs pl so ⟨(t, .v (.bool c)) :: s, ob⟩ R) : AP E n C ops prot pobjs pl so ⟨s, ob⟩ R := by
 intro Hs ws H a w sr wr ag hH hp gm
 subst hb
 exact k Hs ws H a w sr wr ag hH hp (gm.same hs)
theorem AX.of_yd {o : Oper} {x : T} (hy : Yd E.P n s ob o x) (hd : ∀ d', o.dst = some d' → d' < n) (k : R ⟨putS s o.dst x, ob⟩) : AX E n C [] o ⟨s, ob⟩ R := by
 intro H a w gm
 obtain ⟨v, hv, hrun⟩ := hy H a w gm.sr gm.wr
 simp only [Oper.wp, hrun w ⟨gm.held, fun _ _ _ _ => rfl⟩, Oper.upon]
 refine ⟨_, H, v, k, ?_, rfl, fun _ _ h => h, fun i p hp _ => ⟨hp, by intros; trivial⟩⟩
 have := gm.put hv hd
 cases h : o.dst <;> simpa [St.put, putS, h] using this
theorem yielded_undef {H : GH} {a : Act} {j : Nat} {t : Tmp} (r : SR n s H a) (hj : (ops[j]?).bind (·.dst) = some t) (hs : get s t = some (.v undef)) : yielded ops a.tmps j = none := by
 have hv := (r.slots t _ hs).v_eq
 simp only [yielded, hj, Option.bind_some]
 rw [Array.getD_eq_getD_getElem?] at hv
 cases h : a.tmps[t]? with
 | none => rfl
 | some x => rw [h] at hv; simp only [Option.getD_some] at hv; subst hv; rfl
theorem AO.skipU {d : Option Nat} {op : Op} {ty : TypeId} {pos : String} {aft : Array Edge} {l : List Oper} {j : Nat} {want : Bool} {t : Tmp}
  (hj : (ops[j]?).bind (·.dst) = some t) (hs : get s t = some (.v undef)) (hd : ∀ d', d = some d' → d' < n) (k : AO E n C ops l ⟨putS s d (.v undef), ob⟩ R) : AO E n C ops (⟨d, op, ty, pos, aft, some (j, want)⟩ :: l) ⟨s, ob⟩ R := by
 intro H a w gm
 simp only [wpL]
 rw [if_neg (by simp [Region.wanted, yielded_undef gm.sr hj hs])]
 have := gm.put (dst := d) (v := undef) (x := .v undef) (.v _) hd
 cases d <;> exact k H _ w this
theorem AP.skipU {prot : List Nat} {pobjs : List Ob} {so : Slots} {i : Nat} {r : PL} {o : Oper} {j : Nat} {want : Bool} {t : Tmp} (ho : ops[i]? = some o)
  (hg : o.guard = some (j, want)) (hj : (ops[j]?).bind (·.dst) = some t) (hs : get s t = some (.v undef)) (hd : ∀ d, o.dst = some d → d < n)
  (k : AP E n C ops prot pobjs r so (St.put ⟨s, ob⟩ o.dst (.v undef)) R) (hf : free so o.dst = true := by rfl) : AP E n C ops prot pobjs (.still i r) so ⟨s, ob⟩ R := by
 intro Hs ws H a w sr wr ag hH hp gm
 have hw : Region.wanted o (yielded ops a.tmps) = false := by simp [Region.wanted, hg, yielded_undef gm.sr hj hs]
 have hk := k Hs ws H _ w (sr.free o.dst undef hf) wr ag hH (by cases h : o.dst <;> simpa [St.put, h] using hp) (gm.put (.v undef) hd)
 exact ⟨o, undef, ho, .inr ⟨hw, rfl⟩, ag, hk⟩
theorem AW.listMax {c : Code} (t : Nat) {sz : Nat} {es : List (List T)} (hs : get s t = some (.list sz es)) (k : es.length ≤ 140737488355328 → AW E n C c ⟨s, ob⟩ Q) : AW E n C c ⟨s, ob⟩ Q :=
 fun H a w gm => k (gm.slots _ _ hs).list_max H a w gm
theorem AW.usMax {c : Code} (k : Nat) {v : Value} {tt sz : Nat} {es : List (List T)} (hk : ob[k]? = some (.us v tt sz es)) (kk : es.length ≤ 140737488355328 → AW E n C c ⟨s, ob⟩ Q) : AW E n C c ⟨s, ob⟩ Q := by
 intro H a w gm
 have hor : UsR H w v tt sz es := gm.objs _ (List.mem_of_getElem? hk)
 refine kk ?_ H a w gm
 rcases hor with ⟨_, rfl⟩ | ⟨_, _, _, _, _, _, _, _, _, _, h, _⟩
 ·simp
 ·exact h
theorem AW.ussMax {c : Code} (k : Nat) {v : Value} {tt tyi szi : Nat} {vs : List Value} {L : List (Option (List (List T)))} (hk : ob[k]? = some (.uss v tt tyi szi vs L)) (kk : L.length ≤ 140737488355328 → AW E n C c ⟨s, ob⟩ Q) : AW E n C c ⟨s, ob⟩ Q := by
 intro H a w gm
 have hor : OR H w (.uss v tt tyi szi vs L) := gm.objs _ (List.mem_of_getElem? hk)
 refine kk ?_ H a w gm
 obtain ⟨h0, h1, _⟩ := hor
 rcases h1 with ⟨_, h⟩ | ⟨_, _, _, _, _, _, _, _, _, _, h, _⟩
 ·have : vs = [] := by simpa using h
  rw [← h0, this]; simp
 ·rw [← h0]; simpa [maxL] using h
def NoG (Q : Exit → St → Prop) : Exit → St → Prop
 | .goto _, _ => False
 | e, σ => Q e σ
theorem AW.scope {c : Code} {σ : St} (h : AW E n C c σ (NoG Q)) : AW E n C (.scope c) σ Q := fun H a w g =>
 cw_scope_straight (cw_mono (h H a w g) fun e a' w' ⟨σ', H', q, g'⟩ => by
  cases e <;> first | exact ⟨σ', H', q, g'⟩ | exact q.elim)
def Left (s' : Slots) (ob' : List Ob) (σ : St) : Prop := Sub s' σ.slots ∧ ∃ ks, pickAll σ.objs ks = some ob' ∧ ks.Nodup
theorem Left.ghost {s' : Slots} {ob' : List Ob} {σ : St} (h : Left s' ob' σ) : Ghost n C σ.slots σ.objs s' ob' := by
 obtain ⟨h1, ks, h2, h3⟩ := h
 exact (Ghost.pick ks h2 h3).trans (Ghost.weaken h1 (List.Sublist.refl _))
theorem AW.left {c : Code} {s' : Slots} {ob' : List Ob} {σ : St} (h : Left s' ob' σ) (k : AW E n C c ⟨s', ob'⟩ Q) : AW E n C c σ Q := AW.ghost h.ghost k
theorem AW.cutX {x y : Code} (M : Slots → List Ob → Prop) (ks : Slots) (hk : Sub ks s)
  (h : AW E n C x ⟨s, ob⟩ (Then (fun σ' => ∃ s' ob', M s' ob' ∧ Left (s' ++ ks) ob' σ') Q)) (k : ∀ s' ob', M s' ob' → AW E n C y ⟨s' ++ ks, ob'⟩ Q) : AW E n C (.seq x y) ⟨s, ob⟩ Q :=
 AW.cut _ h (fun _ ⟨_, _, q1, q2⟩ => AW.left q2 (k _ _ q1))
theorem AW.seqG {x y : Code} {σ : St} (h : ∀ y', y' = y → AW E n C x σ (Then (fun σ' => AW E n C y' σ' Q) Q)) : AW E n C (.seq x y) σ Q := AW.seq (h y rfl)
@[reducible] def opE {α β : Type} (o : Option α) (a : β) (f : α → β) : β := match o with
 | none => a
 | some x => f x
theorem opE_n {α β : Type} {o : Option α} {a r : β} {f : α → β} (ho : o = none) (h : opE o a f = r) : a = r := by subst ho; exact h
theorem opE_s {α β : Type} {o : Option α} {x : α} {a r : β} {f : α → β} (ho : o = some x) (h : opE o a f = r) : f x = r := by subst ho; exact h
@[reducible] def optR {α : Type} (o : Option α) (A : Prop) (B : α → Prop) : Prop := match o with
 | none => A
 | some x => B x
theorem ACalls.optN {α : Type} {o : Option α} {f : FuncId} {xs : List T} {fp : List Ob} {A : T → List Ob → Prop} {B : T → List Ob → α → Prop} (ho : o = none) (h : ACalls E f xs fp (fun x new => optR o (A x new) (fun l => B x new l))) : ACalls E f xs fp A := h.mono fun x new hr => by subst ho; exact hr
theorem ACalls.optS {α : Type} {o : Option α} {f : FuncId} {xs : List T} {fp : List Ob} {A : T → List Ob → Prop} {B : T → List Ob → α → Prop} {x : α} (ho : o = some x) (h : ACalls E f xs fp (fun x new => optR o (A x new) (fun l => B x new l))) : ACalls E f xs fp (fun y new => B y new x) := h.mono fun x new hr => by subst ho; exact hr
theorem AW.loopW {c : Code} (J : Nat → Slots → List Ob → Prop) {m : Nat} {s0 : Slots} {ob0 : List Ob} (h0 : J m s0 ob0) (hs : Left s0 ob0 ⟨s, ob⟩)
  (round : ∀ m s ob, J m s ob → AW E n C c ⟨s, ob⟩ (Then (fun σ' => ∃ m' s' ob', m' < m ∧ J m' s' ob' ∧ Left s' ob' σ') Q)) : AW E n C (.loop c) ⟨s, ob⟩ Q := by
 refine AW.loop (fun m σ => ∃ s' ob', J m s' ob' ∧ Left s' ob' σ) (m := m) ⟨s0, ob0, h0, hs⟩ ?_
 rintro m σ ⟨s', ob', hJ, h1⟩
 refine AW.left h1 (AW.mono (round m s' ob' hJ) ?_)
 intro e σ' q
 cases e with
 | normal => obtain ⟨m', s', ob', q1, q2, q3⟩ := q; exact ⟨m', q1, s', ob', q2, q3⟩
 | _ => exact q
theorem left_keep {s0 ks : Slots} {ob0 : List Ob} (h1 : Sub s0 s) (h2 : Sub ks s) (h3 : ∃ p, pickAll ob p = some ob0 ∧ p.Nodup) : Left (s0 ++ ks) ob0 ⟨s, ob⟩ := ⟨Sub.append h1 h2, h3⟩
theorem AW.loopX {c : Code} {S B : Type} {f : S → Option (S ⊕ B)} {fuel : Nat} {st0 : S} {b : B} (h : loopN f fuel st0 = some b) (ks : Slots) (hk : Sub ks s) (Φ : S → Slots → List Ob → Prop) {s0 : Slots} {ob0 : List Ob} (h0 : Φ st0 s0 ob0) (hs : Sub s0 s) (ho : ∃ p, pickAll ob p = some ob0 ∧ p.Nodup)
  (round : ∀ (st : S) (r : S ⊕ B) s ob, Φ st s ob → f st = some r → (∀ b', r = .inr b' → b' = b) →
   AW E n C c ⟨s ++ ks, ob⟩ (Then (fun σ' => ∃ st' s' ob', r = .inl st' ∧ Φ st' s' ob' ∧ Left (s' ++ ks) ob' σ') Q)) : AW E n C (.loop c) ⟨s, ob⟩ Q := by
 refine AW.loopW (fun m s1 ob1 => ∃ st s', Φ st s' ob1 ∧ loopN f m st = some b ∧ s1 = s' ++ ks) (m := fuel) ⟨st0, s0, h0, h, rfl⟩ (left_keep hs hk ho) ?_
 rintro m s1 ob1 ⟨st, s', hΦ, hl, rfl⟩
 cases m with
 | zero => simp [loopN] at hl
 | succ m =>
  simp only [loopN] at hl
  cases hf : f st with
  | none => rw [hf] at hl; cases hl
  | some r =>
   rw [hf] at hl
   refine AW.mono (round st r s' ob1 hΦ hf (fun b' hb => ?_)) ?_
   ·subst hb; simpa using hl
   ·intro e σ' q
    cases e with
    | normal =>
     obtain ⟨st', s'', ob', rfl, q2, q3⟩ := q
     exact ⟨m, _, ob', Nat.lt_succ_self m, ⟨st', s'', q2, hl, rfl⟩, q3⟩
    | _ => exact q
theorem forL_at {α S B : Type} {f : Nat → α → S → Option (S ⊕ B)} {l : List α} {k : Nat} {x : α} (hx : l[k]? = some x) (st : S) : forL f k (l.drop k) st = (match f k x st with
  | none => none
  | some (.inl s') => forL f (k + 1) (l.drop (k + 1)) s'
  | some (.inr b) => some (.inr b)) := by
 have hk := (List.getElem?_eq_some_iff.1 hx).1
 have he : l[k] = x := by rw [List.getElem?_eq_getElem hk] at hx; cases hx; rfl
 rw [List.drop_eq_getElem_cons hk, he]; rfl
theorem AW.forX {c : Code} {α S B : Type} {f : Nat → α → S → Option (S ⊕ B)} {l : List α} {st0 : S} {o : S ⊕ B} (h : forL f 0 l st0 = some o) (ks : Slots) (hk : Sub ks s) (Φ : Nat → S → Slots → List Ob → Prop) {s0 : Slots} {ob0 : List Ob} (h0 : Φ 0 st0 s0 ob0) (hs : Sub s0 s) (ho : ∃ p, pickAll ob p = some ob0 ∧ p.Nodup)
  (round : ∀ (k : Nat) (x : α) (st : S) (r : S ⊕ B) s ob, l[k]? = some x → k < l.length → Φ k st s ob → f k x st = some r → (∀ b', r = .inr b' → .inr b' = o) →
   AW E n C c ⟨s ++ ks, ob⟩ (Then (fun σ' => ∃ st' s' ob', r = .inl st' ∧ Φ (k + 1) st' s' ob' ∧ Left (s' ++ ks) ob' σ') Q))
  (fin : ∀ (st : S) s ob, Φ l.length st s ob → .inl st = o → AW E n C c ⟨s ++ ks, ob⟩ (Then (fun _ => False) Q)) : AW E n C (.loop c) ⟨s, ob⟩ Q := by
 refine AW.loopW (fun m s1 ob1 => ∃ k st s', k + m = l.length ∧ Φ k st s' ob1 ∧ forL f k (l.drop k) st = some o ∧ s1 = s' ++ ks) (m := l.length) ⟨0, st0, s0, by simp, h0, h, rfl⟩ (left_keep hs hk ho) ?_
 rintro m s1 ob1 ⟨k, st, s', hm, hΦ, hl, rfl⟩
 rcases Nat.lt_or_ge k l.length with hkl | hkl
 ·have hx : l[k]? = some l[k] := List.getElem?_eq_getElem hkl
  rw [forL_at hx] at hl
  cases hf : f k l[k] st with
  | none => rw [hf] at hl; cases hl
  | some r =>
   rw [hf] at hl
   refine AW.mono (round k _ st r s' ob1 hx hkl hΦ hf (fun b' hb => ?_)) ?_
   ·subst hb; simpa using hl
   ·intro e σ' q
    cases e with
    | normal =>
     obtain ⟨st', s'', ob', rfl, q2, q3⟩ := q
     exact ⟨m - 1, _, ob', by omega, ⟨k + 1, st', s'', by omega, q2, hl, rfl⟩, q3⟩
    | _ => exact q
 ·have : k = l.length := by omega
  subst this
  rw [List.drop_length] at hl
  simp only [forL, Option.some.injEq] at hl
  refine AW.mono (fin st s' ob1 hΦ hl) ?_
  intro e σ' q
  cases e with
  | normal => exact q.elim
  | _ => exact q
theorem forS_L {α S : Type} {f : Nat → α → S → Option S} : ∀ (l : List α) (k : Nat) (st : S) (o : S), forS f k l st = some o → forL (B := Empty) (fun k x s => (f k x s).map .inl) k l st = some (.inl o)
 | [], _, _, o, h => by simp only [forS, Option.some.injEq] at h; subst h; rfl
 | x :: l, k, st, o, h => by
  simp only [forS] at h
  simp only [forL]
  cases hf : f k x st with
  | none => rw [hf] at h; cases h
  | some s' => rw [hf] at h; simpa using forS_L l (k + 1) s' o h
theorem AW.forY {c : Code} {α S : Type} {f : Nat → α → S → Option S} {l : List α} {st0 : S} {o : S} (h : forS f 0 l st0 = some o) (ks : Slots) (hk : Sub ks s) (Φ : Nat → S → Slots → List Ob → Prop) {s0 : Slots} {ob0 : List Ob} (h0 : Φ 0 st0 s0 ob0) (hs : Sub s0 s) (ho : ∃ p, pickAll ob p = some ob0 ∧ p.Nodup)
  (round : ∀ (k : Nat) (x : α) (st : S) (r : S) s ob, l[k]? = some x → k < l.length → Φ k st s ob → f k x st = some r →
   AW E n C c ⟨s ++ ks, ob⟩ (Then (fun σ' => ∃ s' ob', Φ (k + 1) r s' ob' ∧ Left (s' ++ ks) ob' σ') Q))
  (fin : ∀ (st : S) s ob, Φ l.length st s ob → st = o → AW E n C c ⟨s ++ ks, ob⟩ (Then (fun _ => False) Q)) : AW E n C (.loop c) ⟨s, ob⟩ Q := by
 refine AW.forX (forS_L l 0 st0 o h) ks hk Φ h0 hs ho ?_ ?_
 ·intro k x st r s ob hx hkl hΦ hr _
  obtain ⟨r', hr', rfl⟩ := Option.map_eq_some_iff.1 hr
  refine AW.mono (round k x st r' s ob hx hkl hΦ hr') ?_
  intro e σ' q
  cases e with
  | normal => obtain ⟨s', ob', q1, q2⟩ := q; exact ⟨r', s', ob', rfl, q1, q2⟩
  | _ => exact q
 ·intro st s ob hΦ he
  exact fin st s ob hΦ (by injection he)
theorem forI_L {S B : Type} {f : Nat → S → Option (S ⊕ B)} : ∀ (m k : Nat) (st : S), forI f k m st = forL (fun k (_ : Unit) s => f k s) k (List.replicate m ()) st
 | 0, _, _ => rfl
 | m + 1, k, st => by
  simp only [forI, List.replicate_succ, forL]
  cases f k st with
  | none => rfl
  | some r => cases r with
   | inl s' => exact forI_L m (k + 1) s'
   | inr b => rfl
theorem AW.forIX {c : Code} {S B : Type} {f : Nat → S → Option (S ⊕ B)} {m : Nat} {st0 : S} {o : S ⊕ B} (h : forI f 0 m st0 = some o) (ks : Slots) (hk : Sub ks s) (Φ : Nat → S → Slots → List Ob → Prop) {s0 : Slots} {ob0 : List Ob} (h0 : Φ 0 st0 s0 ob0) (hs : Sub s0 s) (ho : ∃ p, pickAll ob p = some ob0 ∧ p.Nodup)
  (round : ∀ (k : Nat) (st : S) (r : S ⊕ B) s ob, k < m → Φ k st s ob → f k st = some r → (∀ b', r = .inr b' → .inr b' = o) →
   AW E n C c ⟨s ++ ks, ob⟩ (Then (fun σ' => ∃ st' s' ob', r = .inl st' ∧ Φ (k + 1) st' s' ob' ∧ Left (s' ++ ks) ob' σ') Q))
  (fin : ∀ (st : S) s ob, Φ m st s ob → .inl st = o → AW E n C c ⟨s ++ ks, ob⟩ (Then (fun _ => False) Q)) : AW E n C (.loop c) ⟨s, ob⟩ Q := by
 rw [forI_L] at h
 exact AW.forX h ks hk Φ h0 hs ho (fun k _ st r s ob _ hkl => round k st r s ob (by simpa using hkl)) (fun st s ob hΦ he => fin st s ob (by simpa using hΦ) he)
theorem forJ_I {S : Type} {f : Nat → S → Option S} : ∀ (m k : Nat) (st : S) (o : S), forJ f k m st = some o → forI (B := Empty) (fun k s => (f k s).map .inl) k m st = some (.inl o)
 | 0, _, _, o, h => by simp only [forJ, Option.some.injEq] at h; subst h; rfl
 | m + 1, k, st, o, h => by
  simp only [forJ] at h
  simp only [forI]
  cases hf : f k st with
  | none => rw [hf] at h; cases h
  | some s' => rw [hf] at h; simpa using forJ_I m (k + 1) s' o h
theorem AW.forJY {c : Code} {S : Type} {f : Nat → S → Option S} {m : Nat} {st0 : S} {o : S} (h : forJ f 0 m st0 = some o) (ks : Slots) (hk : Sub ks s) (Φ : Nat → S → Slots → List Ob → Prop) {s0 : Slots} {ob0 : List Ob} (h0 : Φ 0 st0 s0 ob0) (hs : Sub s0 s) (ho : ∃ p, pickAll ob p = some ob0 ∧ p.Nodup)
  (round : ∀ (k : Nat) (st : S) (r : S) s ob, k < m → Φ k st s ob → f k st = some r →
   AW E n C c ⟨s ++ ks, ob⟩ (Then (fun σ' => ∃ s' ob', Φ (k + 1) r s' ob' ∧ Left (s' ++ ks) ob' σ') Q))
  (fin : ∀ (st : S) s ob, Φ m st s ob → st = o → AW E n C c ⟨s ++ ks, ob⟩ (Then (fun _ => False) Q)) : AW E n C (.loop c) ⟨s, ob⟩ Q := by
 refine AW.forIX (forJ_I m 0 st0 o h) ks hk Φ h0 hs ho ?_ ?_
 ·intro k st r s ob hkl hΦ hr _
  obtain ⟨r', hr', rfl⟩ := Option.map_eq_some_iff.1 hr
  refine AW.mono (round k st r' s ob hkl hΦ hr') ?_
  intro e σ' q
  cases e with
  | normal => obtain ⟨s', ob', q1, q2⟩ := q; exact ⟨r', s', ob', rfl, q1, q2⟩
  | _ => exact q
 ·intro st s ob hΦ he
  exact fin st s ob hΦ (by injection he)
def Gives (k : Nat) (Rc : T → List Ob → List Ob → Prop) (x : T) (fp' : List Ob) : Prop := ∃ os new, fp' = os ++ new ∧ os.length = k ∧ Rc x os new
theorem cast_wr {k m : Nat} (h : k < m) (hm : m ≤ 9223372036854775806) : IntKind.i64.wrap ((k : Int) + 1) = ((k + 1 : Nat) : Int) := by
 rw [w64 (by omega)]; omega
section typed
variable {dst : Option Tmp} {ty : TypeId} {pos : String} {aft : Array Edge} {g : Option (Nat × Bool)} {α : Type} {f : α → List T}
def rI (x : Int) : List T := [.v (.int .i64 x)]
def rB (x : Bool) : List T := [.v (.bool x)]
def rS (x : ByteArray) : List T := [.v (.string x)]
def rL {α : Type} (sz : Nat) (f : α → List T) (l : List α) : List T := [.list sz (l.map f)]
def cI (x : Int) : T := .v (.int .i64 x)
def cS (x : ByteArray) : T := .v (.string x)
def cL {α : Type} (sz : Nat) (f : α → List T) (l : List α) : T := .list sz (l.map f)
theorem Yp.lenM {x : Operand} {t : TypeId} {sz : Nat} {l : List α} {ti : TI} {e : Nat} (ht : E.tab t = some ti) (hk : ti.kind = .slice e) (hx : evalT s x = some (.list sz (l.map f))) :
  Yp E.P n s ⟨dst, .call { callee := .builtin .len, args := #[x], argTypes := #[t] }, ty, pos, aft, g⟩ (.v (.int .i64 (l.length : Int))) := by
 have := Yp.lenList (E := E) (n := n) (dst := dst) (ty := ty) (pos := pos) (aft := aft) (g := g) ht hk hx
 rwa [List.length_map] at this
theorem Yd.lenUM (k : Nat) {x : Operand} {t : TypeId} {objs : List Ob} {v : Value} {tt sz : Nat} {l : List α} {ti : TI} {e : Nat} (ht : E.tab t = some ti) (hk : ti.kind = .slice e) (hx : evalT s x = some (.v v))
  (ho : objs[k]? = some (.us v tt sz (l.map f))) : Yd E.P n s objs ⟨dst, .call { callee := .builtin .len, args := #[x], argTypes := #[t] }, ty, pos, aft, g⟩ (.v (.int .i64 (l.length : Int))) := by
 have := Yd.lenU (E := E) (n := n) (dst := dst) (ty := ty) (pos := pos) (aft := aft) (g := g) k ht hk hx ho
 rwa [List.length_map] at this
theorem Yp.indexA1 {t : TypeId} {x y : Operand} {k : IntKind} {i : Int} {m : Nat} {b off len : Nat} {ti fi : TI} {el : Nat}
  (ht : E.tab t = some ti) (hk : ti.kind = .array len el) (hel : E.tab el = some fi) (h1 : fi.size = 1)
  (hx : evalT s x = some (.v (.pointer (some ⟨b, off, none⟩)))) (hy : evalT s y = some (.v (.int k i))) (hi : i = (m : Int)) (hm : m < len) :
  Yp E.P n s ⟨dst, .indexAddr t x y, ty, pos, aft, g⟩ (.v (.pointer (some ⟨b, off + m, none⟩))) := by
 have := Yp.indexA (E := E) (n := n) (dst := dst) (ty := ty) (pos := pos) (aft := aft) (g := g) ht hk hel hx hy hi hm
 rwa [h1, Nat.mul_one] at this
theorem Yp.indexStrX {t : TypeId} {x y : Operand} {b : ByteArray} {k : IntKind} {i c : Int} {m : Nat} {ti : TI} (ht : E.tab t = some ti) (hk : ti.kind = .string) (hx : evalT s x = some (.v (.string b)))
  (hy : evalT s y = some (.v (.int k i))) (hi : i = (m : Int)) (hm : m < b.size) (hc : ((b.data.getD m 0).toNat : Int) = c) : Yp E.P n s ⟨dst, .index t x y, ty, pos, aft, g⟩ (.v (.int .u8 c)) :=
 hc ▸ Yp.indexStr ht hk hx hy hi hm
theorem Yd.lenUssM (k : Nat) {β : Type} {x : Operand} {t : TypeId} {objs : List Ob} {v : Value} {tt tyi szi : Nat} {vs : List Value} {l : List β} {ff : β → Option (List (List T))} {ti : TI} {e : Nat} (ht : E.tab t = some ti) (hk : ti.kind = .slice e) (hx : evalT s x = some (.v v))
  (ho : objs[k]? = some (.uss v tt tyi szi vs (l.map ff))) : Yd E.P n s objs ⟨dst, .call { callee := .builtin .len, args := #[x], argTypes := #[t] }, ty, pos, aft, g⟩ (.v (.int .i64 (l.length : Int))) := by
 have := Yd.lenUss (E := E) (n := n) (dst := dst) (ty := ty) (pos := pos) (aft := aft) (g := g) k ht hk hx ho
 rwa [List.length_map] at this
theorem Lend.ussM {objs : List Ob} (k : Nat) {v : Value} {tt tyi szi : Nat} {vs : List Value} {l : List (List α)} (h : objs[k]? = some (.uss v tt tyi szi vs (l.map fun x => some (x.map f)))) : Lend objs (.v v) (.list 1 (l.map (rL szi f))) := by
 refine Lend.uss k (ty := tt) (tyi := tyi) (szi := szi) (vs := vs) (L := l.map fun x => x.map f) ?_ ?_
 ·rw [h, List.map_map]; rfl
 ·simp [listRows, List.map_map, rL, Function.comp_def]
theorem uss_lt {β γ : Type} {l : List β} {ff : β → γ} {m : Nat} {x : β} (h : l[m]? = some x) : m < (l.map ff).length := by rw [List.length_map]; exact (List.getElem?_eq_some_iff.1 h).1
theorem uss_lt' {β γ : Type} {l : List β} {ff : β → Option γ} {m k : Nat} {x : β} (h : l[m]? = some x) : m < ((l.map ff).set k none).length := by rw [List.length_set, List.length_map]; exact (List.getElem?_eq_some_iff.1 h).1
theorem hole_get {β γ : Type} {l : List β} {ff : β → Option γ} {m : Nat} {x : β} (h : l[m]? = some x) : ((l.map ff).set m none)[m]? = some none := by
 rw [List.getElem?_set_self]; rw [List.length_map]; exact (List.getElem?_eq_some_iff.1 h).1
theorem Ghost.toUssM (k m tyi szi : Nat) {v : Value} {tt : Nat} {r : List (List α)} (hr : List.replicate m [] = r) (hk : ob[k]? = some (.us v tt 1 (List.replicate m [.v (.slice none 0 0)]))) :
  Ghost n C s ob s (ob.set k (.uss v tt tyi szi (List.replicate m (.slice none 0 0)) (r.map fun x => some (x.map f)))) := by
 have := Ghost.toUss (n := n) (C := C) (s := s) k m tyi szi hk
 rw [← hr, List.map_replicate]; exact this
theorem UsR.toLists {H : GH} {w : World} {v : Value} {tt szi m : Nat} (h : UsR H w v tt 1 (List.replicate m [.v (.slice none 0 0)])) : UsR H w v tt 1 (List.replicate m [.list szi []]) := by
 rcases h with ⟨h1, h2⟩ | ⟨b, c, cap, h1, h2, h3, cs, a1, a2, a3, a4, a5, a6⟩
 ·exact .inl ⟨h1, by cases m with | zero => rfl | succ m => simp [List.replicate_succ] at h2⟩
 ·refine .inr ⟨b, c, cap, by simpa using h1, by simpa using h2, h3, cs, a1, a2, by simpa using a3, by simpa using a4, fun i e he => ?_, fun i e he j x hx => ?_⟩
  ·rw [List.getElem?_replicate] at he; split at he <;> cases he; rfl
  ·rw [List.getElem?_replicate] at he
   split at he
   ·rename_i hi
    cases he
    cases j with
    | zero =>
     simp at hx; subst hx
     have := a6 i [.v (.slice none 0 0)] (by rw [List.getElem?_replicate, if_pos hi]) 0 _ rfl
     refine ⟨this.1, ?_⟩
     rw [this.2.v_eq]; exact .empty _ _ _
    | succ j => simp at hx
   ·cases he
theorem Ghost.toLists (k m szi : Nat) {v : Value} {tt : Nat} {r : List (List α)} (hr : List.replicate m [] = r) (hk : ob[k]? = some (.us v tt 1 (List.replicate m [.v (.slice none 0 0)]))) :
  Ghost n C s ob s (ob.set k (.us v tt 1 (r.map (rL szi f)))) := by
 refine Ghost.recell k hk (fun H w h => ?_) rfl
 rw [← hr, List.map_replicate]
 exact UsR.toLists h
theorem us_set {l : List α} {m : Nat} {x : α} {e : List T} (h : e = f x) : (l.map f).set m e = (l.set m x).map f := by rw [h, List.map_set]
theorem app_map {l m r : List α} (h : l ++ m = r) : l.map f ++ m.map f = r.map f := by rw [← h, List.map_append]
theorem app_len {l m : List α} (h : l.length + m.length ≤ 68719476736) : (l.map f).length + (m.map f).length ≤ 68719476736 := by simpa using h
theorem rep_map {m : Nat} {z : α} {r : List α} {zt : List T} (h : List.replicate m z = r) (hz : zt = f z) : List.replicate m zt = r.map f := by rw [← h, List.map_replicate, hz]
theorem sub_map {x y : Nat} {l r : List α} (h : (l.drop x).take (y - x) = r) : ((l.map f).drop x).take (y - x) = r.map f := by rw [← h, List.map_take, List.map_drop]
theorem AX.makeU {x y : Operand} {t : TypeId} {k1 k2 : IntKind} {i : Int} {m : Nat} {ti ei : TI} {e : Nat} {z : Value} {sz : Nat} {es' : List (List T)}
  (ht : E.tab t = some ti) (hk : ti.kind = .slice e) (he : E.tab e = some ei) (hz : ei.zero = some z) (h1 : z.cells.toList.all (·.oneCell') = true) (hsz : ei.size = sz) (hzs : z.cells.size = sz) (hby : Nat.ble ei.bytes 2048 = true)
  (hx : evalT s x = some (.v (.int k1 i))) (hy : evalT s y = some (.v (.int k2 i))) (hi : i = (m : Int)) (hm : m ≤ 68719476736) (hes : List.replicate m (zeroT z) = es')
  (hd : ∀ d, dst = some d → d < n) (k : ∀ b, R ⟨putS s dst (.v b), ob ++ [.us b e sz es']⟩) :
  AX E n C [] ⟨dst, .makeSlice t x y, ty, pos, aft, g⟩ ⟨s, ob⟩ R := by
 subst hes
 have hby' := Nat.le_of_ble_eq_true hby
 refine AX.makeSlice ht hk he hz h1 hsz hzs hx hy hi (by simp only [maxL]; omega) ?_ hd k
 have h1 : ei.bytes * m ≤ 2048 * 68719476736 := Nat.mul_le_mul hby' hm
 have h2 : ((ei.bytes * m : Nat) : Int) = (ei.bytes : Int) * (m : Int) := by simp
 omega
theorem Yp.subL {x : Operand} {t : TypeId} {lo hi mx : Option Operand} {sz : Nat} {l r : List α} {ti ei : TI} {e : Nat} (a b m : Nat)
  (ht : E.tab t = some ti) (hk : ti.kind = .slice e) (he : E.tab e = some ei) (hsz : ei.size = sz) (hx : evalT s x = some (.list sz (l.map f)))
  (h1 : bnd s lo 0 a) (h2 : bnd s hi l.length b) (hmn : mx = none) (hlh : a ≤ b) (hh : b ≤ l.length) (hr : (l.drop a).take (b - a) = r) :
  Yp E.P n s ⟨dst, .slice t x lo hi mx, ty, pos, aft, g⟩ (.list sz (r.map f)) := by
 subst hmn
 have := Yp.sliceL (E := E) (n := n) (dst := dst) (ty := ty) (pos := pos) (aft := aft) (g := g) (mx := none) a b m ht hk he hsz hx h1 (by rw [List.length_map]; exact h2)
  (fun cap hcap => ⟨cap, rfl, by rw [List.length_map] at hcap; omega, Nat.le_refl _⟩) (fun _ => rfl) hlh (by rw [List.length_map]; exact hh)
 rwa [sub_map hr] at this
end typed
theorem ife_t {α : Type} {c : Bool} {a b r : α} (hc : c = true) (h : (if c = true then a else b) = r) : a = r := by rw [if_pos hc] at h; exact h
theorem ife_f {α : Type} {c : Bool} {a b r : α} (hc : c = false) (h : (if c = true then a else b) = r) : b = r := by rw [if_neg (by simp [hc])] at h; exact h
theorem se_l {α β γ : Type} {f : α → γ} {g : β → γ} {x : α} {r : γ} (h : Sum.elim f g (.inl x) = r) : f x = r := h
theorem se_r {α β γ : Type} {f : α → γ} {g : β → γ} {x : β} {r : γ} (h : Sum.elim f g (.inr x) = r) : g x = r := h
end
section
variable {P : Program} {n : Nat} {s : Slots} {dst : Option Tmp} {ty : TypeId} {pos : String} {aft : Array Edge} {g : Option (Nat × Bool)}
end
def eqOk (P : Program) (t : TypeId) : Bool :=
 match P.underlying t with
 | some (.struct ff) => ff.toList.all (fun f => f.name != "_") && !(P.stoodInHeld t) && !(P.eqGuardType P.depth t)
 | _ => false
def eqOkA (P : Program) (t : TypeId) : Bool := !(P.eqGuardType P.depth t)
def eqS (k : K) : T → T → Option Bool
 | .v (.int k1 a), .v (.int k2 b) => match k with | .int _ => (bif decide (k1 = k2) then some (a == b) else none) | _ => none
 | .v (.bool a), .v (.bool b) => match k with | .bool => some (a == b) | _ => none
 | .v (.string a), .v (.string b) => match k with | .string => some (sEq a b) | _ => none
 | _, _ => none
def eqFs (tab : Nat → Option TI) (cs ds : List T) : List (Nat × Nat) → Option Bool
 | [] => some true
 | (off, t) :: l => match tab t, cs[off]?, ds[off]?, eqFs tab cs ds l with
  | some ti, some x, some y, some r => match eqS ti.kind x y with
   | some b => some (b && r)
   | none => none
  | _, _, _, _ => none
section
variable {E : Env} {n : Nat} {C : Ctx} {s : Slots} {ob : List Ob} {R : St → Prop} {dst : Option Tmp} {ty : TypeId} {pos : String} {aft : Array Edge} {g : Option (Nat × Bool)}
theorem und_bool {P : Program} {t : TypeId} {i : TI} (h : tiOf P t = some i) (hk : i.kind = .bool) : P.underlying t = some .bool := by
 obtain ⟨d, h1, h2⟩ := und_ti h
 rw [hk] at h2
 cases d <;> simp [K.of] at h2
 exact h1
theorem und_int {P : Program} {t : TypeId} {i : TI} {k : IntKind} (h : tiOf P t = some i) (hk : i.kind = .int k) : P.underlying t = some (.int k) := by
 obtain ⟨d, h1, h2⟩ := und_ti h
 rw [hk] at h2
 cases d <;> simp [K.of] at h2
 subst h2; exact h1
theorem eqS_run {t : TypeId} {ti : TI} (ht : E.tab t = some ti) {x y : T} {b : Bool} (h : eqS ti.kind x y = some b) {H : GH} {v u : Value} (hv : VR H v x) (hu : VR H u y) (d : Nat) (w : World) :
  ti.isAgg = false ∧ (Op.equalIn (d + 1) t v u).run E.P w = .ok b w := by
 unfold eqS at h
 split at h
 ·rename_i k1 a k2 b'
  have := hv.v_eq; subst this
  have := hu.v_eq; subst this
  split at h
  ·rename_i kk hk
   cases hd : decide (k1 = k2) with
   | false => rw [hd] at h; cases h
   | true =>
    rw [hd] at h
    have := of_decide_eq_true hd
    subst this
    cases h
    exact ⟨by simp [TI.isAgg, hk], run_equalIn_int w d t k1 kk a b' (und_int (E.ok _ _ ht) hk)⟩
  ·cases h
 ·have := hv.v_eq; subst this
  have := hu.v_eq; subst this
  split at h
  ·rename_i hk
   cases h
   exact ⟨by simp [TI.isAgg, hk], run_equalIn_bool' w d t _ _ (und_bool (E.ok _ _ ht) hk)⟩
  ·cases h
 ·have := hv.v_eq; subst this
  have := hu.v_eq; subst this
  split at h
  ·rename_i hk
   cases h
   exact ⟨by simp [TI.isAgg, hk], run_equalIn_string w d t _ _ (und_string (E.ok _ _ ht) hk)⟩
  ·cases h
 ·cases h
theorem part_run {t : TypeId} {ti : TI} (ht : E.tab t = some ti) (ha : ti.isAgg = false) {H : GH} {xs : Array Value} {cs : List T} (h : VR H (.agg xs) (.agg cs)) {off : Nat} {x : T} (hx : cs[off]? = some x) :
  ∃ v, VR H v x ∧ ∀ w, (part t xs off).run E.P w = .ok v w := by
 have hp : partT ti cs off = some x := by simp [partT, ha, hx]
 exact partT_spec h (E.ok _ _ ht) hp
theorem eqFs_run {H : GH} {xs ys : Array Value} {cs ds : List T} (hx : VR H (.agg xs) (.agg cs)) (hy : VR H (.agg ys) (.agg ds)) (d : Nat) (w : World) : ∀ (ff : List Field) (r : Bool), ff.all (fun f => f.name != "_") = true →
  eqFs E.tab cs ds (ff.map fun f => (f.offset, f.type)) = some r → (Op.eqFields (d + 1) xs ys ff).run E.P w = .ok r w
 | [], r, _, h => by simp only [List.map_nil, eqFs, Option.some.injEq] at h; subst h; simp [Op.eqFields]
 | f :: ff, r, hn, h => by
  simp only [List.all_cons, Bool.and_eq_true] at hn
  simp only [List.map_cons, eqFs] at h
  split at h
  ·rename_i ti x y r' h1 h2 h3 h4
   split at h
   ·rename_i b hb
    simp only [Option.some.injEq] at h
    subst h
    have hag : ti.isAgg = false := by
     unfold eqS at hb
     unfold TI.isAgg
     cases hk : ti.kind <;> rw [hk] at hb <;> first | rfl | (simp at hb; split at hb <;> simp at hb)
    obtain ⟨v, hv, hvr⟩ := part_run h1 hag hx h2
    obtain ⟨u, hu, hur⟩ := part_run h1 hag hy h3
    have he := (eqS_run h1 hb hv hu d w).2
    have ih := eqFs_run hx hy d w ff r' hn.2 h4
    have hne : f.name ≠ "_" := by simpa using hn.1
    simp only [Op.eqFields, if_pos hne, Sem.run_bind, hvr, hur, Result.andThen_ok, he]
    cases b with
    | true => simpa using ih
    | false => simp
   ·cases h
  ·cases h
theorem eqOk_spec {P : Program} {t : TypeId} (h : eqOk P t = true) : ∃ ff : Array Field, P.underlying t = some (.struct ff) ∧ P.fieldsOf t = ff ∧ ff.toList.all (fun f => f.name != "_") = true ∧ P.stoodInHeld t = false ∧ P.eqGuardType P.depth t = false := by
 unfold eqOk at h
 split at h
 ·rename_i ff hu
  simp only [Bool.and_eq_true, Bool.not_eq_true'] at h
  exact ⟨ff, hu, by simp [Program.fieldsOf, hu], h.1.1, h.1.2, h.2⟩
 ·cases h
theorem Yp.eqStruct {op : BinOp} {t t' : TypeId} {x y : Operand} {ti : TI} {fs : List (Nat × Nat)} {cs ds : List T} {r q : Bool} (ht : E.tab t = some ti) (hk : ti.kind = .struct fs) (he : eqOk E.P t = true)
  (hx : evalT s x = some (.agg cs)) (hy : evalT s y = some (.agg ds)) (hr : eqFs E.tab cs ds fs = some r) (hq : (match op with | .eql => some r | .neq => some (!r) | _ => none) = some q) :
  Yp E.P n s ⟨dst, .binOp op t x y t', ty, pos, aft, g⟩ (.v (.bool q)) := by
 intro H A sr
 obtain ⟨ff, h1, h2, h3, h4, h5⟩ := eqOk_spec he
 obtain ⟨ff', u1, u2⟩ := und_struct (E.ok _ _ ht) hk
 rw [h1] at u1
 cases u1
 have vx := sr.eval hx
 have vy := sr.eval hy
 generalize hvx : A.eval x = a at vx
 generalize hvy : A.eval y = b at vy
 refine ⟨_, .v _, fun w => ?_⟩
 cases vx with
 | agg xs _ hl1 hc1 hv1 =>
  cases vy with
  | agg ys _ hl2 hc2 hv2 =>
   have hf := eqFs_run (E := E) (.agg xs cs hl1 hc1 hv1) (.agg ys ds hl2 hc2 hv2) 9998 w ff.toList r h3 (by rw [u2]; exact hr)
   have hst : (Op.equalIn 10000 t (.agg xs) (.agg ys)).run E.P w = .ok r w := by
    rw [show (10000 : Nat) = 9999 + 1 from rfl, run_equalIn_struct w 9999 t xs ys (by rw [h2]; exact h1) h4, h2]; exact hf
   cases op <;> simp only [Option.some.injEq, reduceCtorEq] at hq <;> subst hq
   ·simp only [execOp, hvx, hvy, Sem.run_bind, run_eqGuard_agg w _ t x y xs ys h5, Result.andThen_ok, run_eql_struct, hst, Sem.run_pure]
   ·simp only [execOp, hvx, hvy, Sem.run_bind, run_eqGuard_agg w _ t x y xs ys h5, Result.andThen_ok, run_neq_struct, hst, Sem.run_pure]
theorem eqArr_loop {H : GH} {xs ys : Array Value} {a b : List Int} (hx : VR H (.agg xs) (.agg (a.map cI))) (hy : VR H (.agg ys) (.agg (b.map cI))) {el : Nat} {ei : TI} (he : E.tab el = some ei) (hke : ei.kind = .int .i64) (w : World) (d : Nat) (hl : a.length = b.length) :
  ∀ (m k : Nat), k + m = a.length →
  (forIn (List.range' k m) ((none, ()) : Option Bool × Unit) (fun i _ => do
   let p ← part el xs (i * 1)
   let q ← part el ys (i * 1)
   let r ← Op.equalIn (d + 1) el p q
   if !r then pure (ForInStep.done (some false, ())) else pure (ForInStep.yield (none, ()))) : Sem (Option Bool × Unit)).run E.P w =
   .ok (if a.drop k = b.drop k then none else some false, ()) w
 | 0, k, hk => by
  have h1 : a.drop k = [] := List.drop_eq_nil_of_le (by omega)
  have h2 : b.drop k = [] := List.drop_eq_nil_of_le (by omega)
  simp [h1, h2]
 | m + 1, k, hk => by
  have hag : ei.isAgg = false := by simp [TI.isAgg, hke]
  have ha : a[k]? = some a[k] := List.getElem?_eq_getElem (by omega)
  have hb : b[k]? = some b[k] := List.getElem?_eq_getElem (by omega)
  obtain ⟨v, hv, hvr⟩ := part_run (E := E) he hag hx (off := k) (x := cI a[k]) (by simp [ha])
  obtain ⟨u, hu, hur⟩ := part_run (E := E) he hag hy (off := k) (x := cI b[k]) (by simp [hb])
  have := hv.v_eq; subst this
  have := hu.v_eq; subst this
  have heq := run_equalIn_int (P := E.P) w d el .i64 .i64 a[k] b[k] (und_int (E.ok _ _ he) hke)
  have ih := eqArr_loop hx hy he hke w d hl m (k + 1) (by omega)
  rw [List.range'_succ, List.forIn_cons]
  simp only [Sem.run_bind, Nat.mul_one, hvr, hur, Result.andThen_ok, heq]
  have hda : a.drop k = a[k] :: a.drop (k + 1) := List.drop_eq_getElem_cons (by omega)
  have hdb : b.drop k = b[k] :: b.drop (k + 1) := List.drop_eq_getElem_cons (by omega)
  rw [hda, hdb]
  by_cases h : a[k] = b[k]
  ·have hbq : (a[k] == b[k]) = true := by simp [h]
   simp only [hbq, Bool.not_true, Bool.false_eq_true, if_false, Sem.run_pure, Result.andThen_ok]
   simp only [Nat.mul_one] at ih
   have hiff : (a[k] :: a.drop (k + 1) = b[k] :: b.drop (k + 1)) ↔ (a.drop (k + 1) = b.drop (k + 1)) := by rw [List.cons.injEq]; exact ⟨fun h => h.2, fun h' => ⟨h, h'⟩⟩
   rw [ih]
   simp only [hiff]
  ·have hbq : (a[k] == b[k]) = false := by simp [h]
   simp only [hbq, Bool.not_false, if_true, Sem.run_pure, Result.andThen_ok]
   have hne : ¬ (a[k] :: a.drop (k + 1) = b[k] :: b.drop (k + 1)) := fun he => h (List.cons.inj he).1
   simp only [hne, if_false]
theorem Yp.eqArr {op : BinOp} {t t' : TypeId} {x y : Operand} {ti ei : TI} {len el : Nat} {a b : Arr Int len} {q : Bool} (ht : E.tab t = some ti) (hk : ti.kind = .array len el) (he : E.tab el = some ei) (hke : ei.kind = .int .i64) (hsz : ei.size = 1) (hg : eqOkA E.P t = true)
  (hx : evalT s x = some (.agg (a.l.map cI))) (hy : evalT s y = some (.agg (b.l.map cI))) (hq : (match op with | .eql => some (decide (a = b)) | .neq => some (!decide (a = b)) | _ => none) = some q) :
  Yp E.P n s ⟨dst, .binOp op t x y t', ty, pos, aft, g⟩ (.v (.bool q)) := by
 intro H A sr
 have hg' : E.P.eqGuardType E.P.depth t = false := by simpa [eqOkA] using hg
 have vx := sr.eval hx
 have vy := sr.eval hy
 generalize hvx : A.eval x = u at vx
 generalize hvy : A.eval y = v at vy
 refine ⟨_, .v _, fun w => ?_⟩
 have hab : decide (a.l = b.l) = decide (a = b) := decide_eq_decide.2 ⟨Arr.ext', fun h => by rw [h]⟩
 cases vx with
 | agg xs _ hl1 hc1 hv1 =>
  cases vy with
  | agg ys _ hl2 hc2 hv2 =>
   have hloop := eqArr_loop (E := E) (.agg xs _ hl1 hc1 hv1) (.agg ys _ hl2 hc2 hv2) he hke w 9998 (by rw [a.h, b.h]) len 0 (by rw [a.h]; omega)
   have hst : (Op.equalIn 10000 t (.agg xs) (.agg ys)).run E.P w = .ok (decide (a = b)) w := by
    obtain ⟨D, hD⟩ : ∃ D, D = 9999 := ⟨_, rfl⟩
    rw [show (10000 : Nat) = D + 1 by omega]
    rw [show (9998 : Nat) + 1 = D by omega] at hloop
    clear hD
    simp only [Op.equalIn, Sem.run_bind, run_underlying (und_array (E.ok _ _ ht) hk), Result.andThen_ok, run_sizeOf_ti (E.ok _ _ he), hsz]
    rw [Std.Legacy.Range.forIn_eq_forIn_range']
    simp only [Std.Legacy.Range.size, Nat.sub_zero, Nat.add_sub_cancel, Nat.div_one]
    simp only [List.drop_zero] at hloop
    refine (congrArg (fun r => Result.andThen r _) hloop).trans ?_
    rw [← hab]
    by_cases h : a.l = b.l <;> simp [h]
   cases op <;> simp only [Option.some.injEq, reduceCtorEq] at hq <;> subst hq
   ·simp only [execOp, hvx, hvy, Sem.run_bind, run_eqGuard_agg w _ t x y xs ys hg', Result.andThen_ok, run_eql_struct, hst, Sem.run_pure]
   ·simp only [execOp, hvx, hvy, Sem.run_bind, run_eqGuard_agg w _ t x y xs ys hg', Result.andThen_ok, run_neq_struct, hst, Sem.run_pure]
theorem AX.eqNil {t t' : TypeId} {x : Operand} {ti : TI} {e sz : Nat} {es : List (List T)} (ht : E.tab t = some ti) (hk : ti.kind = .slice e) (hx : evalT s x = some (.list sz es)) (hd : ∀ d, dst = some d → d < n)
  (k : ∀ b : Bool, (b = true → es = []) → R ⟨putS s dst (.v (.bool b)), ob⟩) : AX E n C [] ⟨dst, .binOp .eql t x (.const (.slice none 0 0)) t', ty, pos, aft, g⟩ ⟨s, ob⟩ R := by
 refine AX.value fun H a w gm => ?_
 have h := gm.sr.eval hx
 generalize hv : a.eval x = v at h
 have hr : ∃ ad l c, v = .slice ad l c ∧ (ad.isNone = true → es = []) := by
  cases h with
  | empty a cap sz => exact ⟨a, 0, cap, rfl, fun _ => rfl⟩
  | list b off cap sz es cs ty fr hb hcap hmax hsz hel h1 hvs => exact ⟨_, _, _, rfl, fun h => by simp at h⟩
 obtain ⟨ad, l, c, rfl, hn⟩ := hr
 refine ⟨.bool ad.isNone, w, _, H, ?_, k ad.isNone hn, ?_, fun _ _ h => h, fun i p hp _ => ⟨hp, fun _ _ => rfl⟩⟩
 ·have := run_eql_slice_nil (P := E.P) w t e ad l c (und_slice (E.ok _ _ ht) hk)
  have hc : a.eval (.const (.slice none 0 0)) = .slice none 0 0 := rfl
  simp only [execOp, hv, hc, Sem.run_bind, eqGuard, Sem.run_pure, Result.andThen_ok, this]
  simp [this]
 ·have := gm.put (dst := dst) (.v (.bool ad.isNone)) hd
  cases dst <;> exact this
theorem AW.form {α : Type} {f : α → List T} {c : Code} {Q : Exit → St → Prop} (q m : Nat) {v : Value} {tt sz : Nat} {l : List α} {x : α} (hq : ob[q]? = some (.us v tt sz (l.map f))) (hm : l[m]? = some x)
  (k : (∃ c, v = .slice (some ⟨blk v, 0, none⟩) l.length c) → AW E n C c ⟨s, ob⟩ Q) : AW E n C c ⟨s, ob⟩ Q := by
 intro H a w gm
 have hor : UsR H w v tt sz (l.map f) := gm.objs _ (List.mem_of_getElem? hq)
 obtain ⟨c, cap, hv, _⟩ := hor.arr (map_get (f := f) hm)
 rw [List.length_map] at hv
 exact k ⟨c, hv⟩ H a w gm
theorem AW.formL {α : Type} {f : α → List T} {c : Code} {Q : Exit → St → Prop} (q : Nat) {v : Value} {tt sz : Nat} {l : List α} (hq : ob[q]? = some (.us v tt sz (l.map f)))
  (k : (∃ a c, v = .slice a l.length c) → AW E n C c ⟨s, ob⟩ Q) : AW E n C c ⟨s, ob⟩ Q := by
 intro H a w gm
 have hor : UsR H w v tt sz (l.map f) := gm.objs _ (List.mem_of_getElem? hq)
 refine k ?_ H a w gm
 rcases hor with ⟨rfl, he⟩ | ⟨b, c, cap, rfl, _⟩
 ·have : l = [] := by simpa using he
  subst this; exact ⟨none, 0, rfl⟩
 ·exact ⟨some ⟨b, 0, none⟩, c, by rw [List.length_map]⟩
theorem Yp.indexUf {α : Type} {t : TypeId} {x y : Operand} {kk : IntKind} {i : Int} {m : Nat} {v : Value} {sz : Nat} {l : List α} {e : α} {ti fi : TI} {el : Nat}
  (ht : E.tab t = some ti) (hk : ti.kind = .slice el) (hel : E.tab el = some fi) (hsz : fi.size = sz)
  (hx : evalT s x = some (.v v)) (hv : ∃ c, v = .slice (some ⟨blk v, 0, none⟩) l.length c) (hy : evalT s y = some (.v (.int kk i))) (hi : i = (m : Int)) (hm : l[m]? = some e) :
  Yp E.P n s ⟨dst, .indexAddr t x y, ty, pos, aft, g⟩ (.v (.pointer (some ⟨blk v, m * sz, none⟩))) := by
 obtain ⟨c, hv⟩ := hv
 have hx' : evalT s x = some (.v (.slice (some ⟨blk v, 0, none⟩) l.length c)) := by rw [← hv]; exact hx
 have := Yp.indexS (E := E) (n := n) (dst := dst) (ty := ty) (pos := pos) (aft := aft) (g := g) ht hk hel hx' hy hi (List.getElem?_eq_some_iff.1 hm).1
 rwa [hsz, Nat.zero_add] at this
theorem Yp.lenUf {α : Type} {x : Operand} {t : TypeId} {v : Value} {l : List α} {ti : TI} {e : Nat} (ht : E.tab t = some ti) (hk : ti.kind = .slice e) (hx : evalT s x = some (.v v))
  (hv : ∃ a c, v = .slice a l.length c) : Yp E.P n s ⟨dst, .call { callee := .builtin .len, args := #[x], argTypes := #[t] }, ty, pos, aft, g⟩ (.v (.int .i64 (l.length : Int))) := by
 obtain ⟨a, c, rfl⟩ := hv
 exact Yp.lenSlice ht hk hx
def bytes? (l : List Int) : Option ByteArray := if (l.all fun x => decide (0 ≤ x ∧ x < 256)) = true then some ⟨(l.map fun x => UInt8.ofNat x.toNat).toArray⟩ else none
theorem UsR.one {H : GH} {w : World} {v : Value} {tt sz : Nat} {es : List (List T)} (h : UsR H w v tt sz es) : v.oneCell' = true := by
 rcases h with ⟨rfl, _⟩ | ⟨_, _, _, rfl, _⟩ <;> rfl
theorem AO.one {ops : Array Oper} {l : List Oper} (q : Nat) {v : Value} {tt sz : Nat} {es : List (List T)} (hq : ob[q]? = some (.us v tt sz es)) (k : v.oneCell' = true → AO E n C ops l ⟨s, ob⟩ R) : AO E n C ops l ⟨s, ob⟩ R :=
 fun H a w gm => k (UsR.one (show UsR H w v tt sz es from gm.objs _ (List.mem_of_getElem? hq))) H a w gm
theorem AP.one {ops : Array Oper} {pl : PL} {so : Slots} {prot : List Nat} {pobjs : List Ob} (q : Nat) {v : Value} {tt sz : Nat} {es : List (List T)} (hq : ob[q]? = some (.us v tt sz es)) (k : v.oneCell' = true → AP E n C ops prot pobjs pl so ⟨s, ob⟩ R) : AP E n C ops prot pobjs pl so ⟨s, ob⟩ R :=
 fun Hs ws H a w sr wr ag hH hpp gm => k (UsR.one (show UsR H w v tt sz es from gm.objs _ (List.mem_of_getElem? hq))) Hs ws H a w sr wr ag hH hpp gm
theorem cells_v {v : Value} (h : v.oneCell' = true) : cellsT (.v v) = some [.v v] := by simp [cellsT, h]
theorem fill_nil {place : Nat → Option (Nat × Nat)} {l : List T} : fillT s place l [] = some l := rfl
theorem fill_step {place : Nat → Option (Nat × Nat)} {l l' : List T} {i off size : Nat} {x : Operand} {r : List (Nat × Operand)} {c : T} {cs : List T} (hp : place i = some (off, size)) (hx : evalT s x = some c) (hc : cellsT c = some cs)
  (hb : (Nat.beq cs.length size && Nat.ble (off + cs.length) l.length) = true) (hr : fillT s place (setC l off cs) r = some l') : fillT s place l ((i, x) :: r) = some l' := by
 simp only [fillT, hp, hx, Option.bind_some, hc, hb, cond_true]; exact hr
theorem setC_all : ∀ {l cs : List T}, l.length = cs.length → setC l 0 cs = cs
 | [], [], _ => rfl
 | [], _ :: _, h => by simp at h
 | _ :: _, [], h => by simp at h
 | x :: l, c :: cs, h => by simp only [setC]; rw [setC_all (by simpa using h)]
theorem get_lt {α : Type} {l : List α} {i : Nat} {x : α} (h : l[i]? = some x) : i < l.length := (List.getElem?_eq_some_iff.1 h).1
theorem arr_lt {α : Type} {k : Nat} {a : Arr α k} {i : Nat} {x : α} (h : a.l[i]? = some x) : i < k := by have := get_lt h; rwa [a.h] at this
theorem seg_len {i k : Nat} {off : Nat} {e : List T} (hi : i < k) (he : off + k ≤ e.length) : off + i + 1 ≤ e.length := by omega
theorem part_all {fi : TI} {cs : List T} (ha : fi.isAgg = true) (h : fi.size = cs.length) : partT fi cs 0 = some (.agg cs) := by simp [partT, ha, h]
theorem part_here {fi : TI} {l post : List T} (ha : fi.isAgg = true) (h : l.length = fi.size) : partT fi (l ++ post) 0 = some (.agg l) := by
 unfold partT
 rw [ha, cond_true]
 cases hb : (Nat.beq 0 0 && Nat.beq fi.size (l ++ post).length) with
 | true =>
  simp only [Bool.and_eq_true] at hb
  have := Nat.eq_of_beq_eq_true hb.2
  rw [List.length_append] at this
  have : post = [] := List.length_eq_zero_iff.1 (by omega)
  subst this
  simp
 | false =>
  rw [cond_false]
  have : Nat.ble (0 + fi.size) (l ++ post).length = true := by
   rw [Nat.zero_add]; exact Nat.ble_eq_true_of_le (by simp; omega)
  rw [this, cond_true, List.drop_zero, ← h, List.take_left]
theorem part_skip {fi : TI} {pre post : List T} {k i j : Nat} {l : List T} (ha : fi.isAgg = true) (hj : j = k + i) (hk : pre.length = k) (h : partT fi post i = some (.agg l)) (hpos : 0 < k := by decide) : partT fi (pre ++ post) j = some (.agg l) := by
 subst hj hk
 unfold partT at h ⊢
 rw [ha, cond_true] at h ⊢
 have h1 : Nat.beq (pre.length + i) 0 = false := by
  cases hb : Nat.beq (pre.length + i) 0 with
  | false => rfl
  | true => have := Nat.eq_of_beq_eq_true hb; omega
 rw [h1, Bool.false_and, cond_false]
 cases hb : (Nat.beq i 0 && Nat.beq fi.size post.length) with
 | true =>
  rw [hb, cond_true] at h
  simp only [Bool.and_eq_true] at hb
  have h2 := Nat.eq_of_beq_eq_true hb.1
  have h3 := Nat.eq_of_beq_eq_true hb.2
  cases h
  have : Nat.ble (pre.length + i + fi.size) (pre ++ post).length = true := Nat.ble_eq_true_of_le (by simp; omega)
  rw [this, cond_true, h2, Nat.add_zero, List.drop_left, h3, List.take_length]
 | false =>
  rw [hb, cond_false] at h
  cases hc : Nat.ble (i + fi.size) post.length with
  | false => rw [hc] at h; cases h
  | true =>
   rw [hc, cond_true] at h
   cases h
   have := Nat.le_of_ble_eq_true hc
   have : Nat.ble (pre.length + i + fi.size) (pre ++ post).length = true := Nat.ble_eq_true_of_le (by simp; omega)
   rw [this, cond_true]
   rw [List.drop_append, show (pre.drop (pre.length + i)) = [] from List.drop_eq_nil_of_le (by omega), List.nil_append, Nat.add_sub_cancel_left]
theorem Yp.indexAgM {α : Type} {ff : α → T} {t : TypeId} {x y : Operand} {k : IntKind} {i : Int} {m len el : Nat} {l : List α} {z : α} {ti fi : TI} (ht : E.tab t = some ti) (hk : ti.kind = .array len el) (hel : E.tab el = some fi) (h1 : fi.size = 1) (hag : fi.isAgg = false)
  (hx : evalT s x = some (.agg (l.map ff))) (hy : evalT s y = some (.v (.int k i))) (hi : i = (m : Int)) (hm : l[m]? = some z) (hlen : l.length = len := by first | rfl | exact Arr.h _) :
  Yp E.P n s ⟨dst, .index t x y, ty, pos, aft, g⟩ (ff z) :=
 Yp.indexAg ht hk hel hx hy hi (by have := get_lt hm; omega) (by rw [h1, Nat.mul_one]; simp [partT, hag, hm])
theorem bnd0 {x : Nat} (h : (0 : Int) = (x : Int)) : bnd s none 0 x := by show x = 0; omega
theorem bndL {l y : Nat} (h : (l : Int) = (y : Int)) : bnd s none l y := by show y = l; omega
end
section
variable {E : Env} {n : Nat} {C : Ctx} {σ : St} {s : Slots} {dst : Option Tmp} {ty : TypeId} {pos : String} {aft : Array Edge} {g : Option (Nat × Bool)}
theorem store_cells_core {H : GH} {w : World} {cs : List T} {b off tt sz cap : Nat} {es : List (List T)} (i j : Nat) {e : List T} (hor : ArrR H w b tt sz cap es) (he : es[i]? = some e) (ho : off = i * sz + j)
  {news : List Value} (hvl : news.length = cs.length) (hone : ∀ v, v ∈ news → v.oneCell' = true) (hvr : ∀ (i : Nat) (x : T), cs[i]? = some x → VR H (news.getD i undef) x) (hj : j + cs.length ≤ e.length) :
  ∃ w', (storeCells ⟨b, off, none⟩ news).run E.P w = .ok () w' ∧ ArrR H w' b tt sz cap (es.set i (setC e j cs)) ∧ (w'.os = w.os ∧ w'.tape = w.tape ∧ w'.output = w.output) ∧ w'.heap.size = w.heap.size ∧
   ∀ i, i ≠ b → w'.heap[i]? = w.heap[i]? := by
 obtain ⟨cur, a1, a2, a3, a4, a5, a6⟩ := hor
 have hil := (List.getElem?_eq_some_iff.1 he).1
 have hel := a5 i e he
 have hmul : (i + 1) * sz ≤ cap * sz := Nat.mul_le_mul_right _ (by omega)
 rw [Nat.succ_mul] at hmul
 have hst := run_storeCells_at (P := E.P) b off tt news 0 cur w a1 (by rw [hvl]; omega) hone
 simp only [Nat.add_zero] at hst
 refine ⟨w.setRow b (cur.toList.take off ++ news ++ cur.toList.drop (off + news.length)).toArray, hst, ?_, ⟨rfl, rfl, rfl⟩, setRow_size _ _ _, fun i hi => setRow_other w b i _ hi⟩
 refine ⟨_, setRow_heap w b cur _ tt _ a1, ?_, by simpa using a3, by simpa using a4, ?_, ?_⟩
 ·simp only [List.size_toArray, List.length_append, List.length_take, List.length_drop, Array.length_toList, hvl]
  omega
 ·intro i' e' he'
  rw [List.getElem?_set] at he'
  split at he'
  ·simp only [hil, if_true, Option.some.injEq] at he'
   subst he'; rw [setC_length]; exact hel
  ·exact a5 i' e' he'
 ·intro i' e' he' j' x' hx'
  rw [getD_seg (by rw [hvl]; omega)]
  rw [List.getElem?_set] at he'
  split at he'
  ·rename_i hii
   subst hii
   simp only [hil, if_true, Option.some.injEq] at he'
   subst he'
   rcases setC_get e j cs j' x' hx' with ⟨q1, q2, q3⟩ | ⟨q1, q2⟩
   ·rw [if_pos (by rw [hvl]; omega)]
    rw [show i * sz + j' - off = j' - j by omega]
    have hlt := (List.getElem?_eq_some_iff.1 q3).1
    refine ⟨?_, hvr _ _ q3⟩
    rw [List.getD, List.getElem?_eq_getElem (by omega)]
    exact hone _ (List.getElem_mem (by omega))
   ·rw [if_neg (by rw [hvl]; omega)]
    exact a6 i e he j' x' q2
  ·rename_i hii
   have hj'l := (List.getElem?_eq_some_iff.1 hx').1
   have hel' := a5 i' e' he'
   rw [if_neg ?_]
   ·exact a6 i' e' he' j' x' hx'
   ·rw [hvl]
    rintro ⟨q1, q2⟩
    rcases Nat.lt_or_gt_of_ne hii with h | h
    ·have : (i + 1) * sz ≤ i' * sz := Nat.mul_le_mul_right _ h
     rw [Nat.succ_mul] at this; omega
    ·have : (i' + 1) * sz ≤ i * sz := Nat.mul_le_mul_right _ h
     rw [Nat.succ_mul] at this; omega
theorem Yp.sliceA {t : TypeId} {x : Operand} {b off len e : Nat} {ti ei : TI} (ht : E.tab t = some ti) (hk : ti.kind = .array len e) (he : E.tab e = some ei) (hx : evalT s x = some (.v (.pointer (some ⟨b, off, none⟩)))) (hl : len ≠ 0) :
  Yp E.P n s ⟨dst, .slice t x none none none, ty, pos, aft, g⟩ (.v (.slice (some ⟨b, off, none⟩) len len)) := by
 intro H A r
 obtain ⟨d, h1, h2⟩ := und_ti (E.ok _ _ ht)
 rw [hk] at h2
 have hu : E.P.underlying t = some (.array len e) := by
  cases d <;> simp [K.of] at h2
  obtain ⟨rfl, rfl⟩ := h2; exact h1
 refine ⟨_, .v _, fun w => ?_⟩
 have hb := sliceBounds_run (P := E.P) (w := w) (isS := false) (len := len) (cap := len) r (lo := none) (hi := none) (mx := none) (l := 0) (h := len) (m := len) rfl rfl rfl (fun _ => rfl) (Nat.zero_le _) (Nat.le_refl _) (Nat.le_refl _)
 simp only [Option.map_none] at hb
 simp [execOp, Instr.sliceAt, Instr.sureAddr, r.evalv hx, run_underlying hu, hb, run_sizeOf_ti (E.ok _ _ he), hl, Addr.add_mk]
theorem AX.copyA (k : Nat) {x y : Operand} {t t2 : TypeId} {b off len tt sz cap e : Nat} {ti ei : TI} {es : List (List T)} {rows rows' : List (List T)} {row : List T} {R : St → Prop}
  (ht : E.tab t = some ti) (hk : ti.kind = .slice e) (he : E.tab e = some ei) (hsz : ei.size = 1) (hx : evalT σ.slots x = some (.v (.slice (some ⟨b, off, none⟩) len len))) (hobj : σ.objs[k]? = some (.arr b tt sz cap rows)) (hrow : rows[0]? = some row)
  (hy : AppSrc σ.slots σ.objs y 1 es) (hle : es.length ≤ len) (hj : off + es.length ≤ row.length) (hs : rows.set 0 (setC row off es.flatten) = rows') (hd : ∀ d, dst = some d → d < n)
  (kk : R ⟨putS σ.slots dst (.v (.int .i64 (es.length : Int))), σ.objs.set k (.arr b tt sz cap rows')⟩) :
  AX E n C [k] ⟨dst, .call { callee := .builtin .copy, args := #[x, y], argTypes := #[t, t2] }, ty, pos, aft, g⟩ σ R := by
 subst hs
 refine AX.value fun H a w gm => ?_
 obtain ⟨ad, c, news, q1, q2, q3, q4, q5, q6⟩ := hy n H a w gm.sr gm.wr
 have hone : ∀ (i : Nat) (e : List T), es[i]? = some e → ∃ z, e = [z] := fun i e he => List.length_eq_one_iff.1 (q6 i e he).1
 have hfl : es.flatten.length = es.length := by
  have : ∀ l : List (List T), (∀ e, e ∈ l → e.length = 1) → l.flatten.length = l.length := by
   intro l; induction l with
   | nil => simp
   | cons a l ih => intro h; simp only [List.flatten_cons, List.length_append, List.length_cons, h a (by simp), ih (fun e he => h e (by simp [he]))]; omega
  exact this es fun e he => by obtain ⟨i, hi⟩ := List.mem_iff_getElem?.1 he; exact (q6 i e hi).1
 have hget : ∀ (i : Nat) (x : T), es.flatten[i]? = some x → es[i]? = some [x] := by
  have : ∀ l : List (List T), (∀ e, e ∈ l → e.length = 1) → ∀ (i : Nat) (x : T), l.flatten[i]? = some x → l[i]? = some [x] := by
   intro l; induction l with
   | nil => intro _ i x h; simp at h
   | cons a l ih =>
    intro h i x hx
    obtain ⟨z, rfl⟩ := List.length_eq_one_iff.1 (h a (by simp))
    cases i with
    | zero => simp at hx; simp [hx]
    | succ i => simpa using ih (fun e he => h e (by simp [he])) i x (by simpa using hx)
  exact this es fun e he => by obtain ⟨i, hi⟩ := List.mem_iff_getElem?.1 he; exact (q6 i e hi).1
 have hor : ArrR H w b tt sz cap rows := gm.objs _ (List.mem_of_getElem? hobj)
 obtain ⟨w', h1, h2, h3, h4, h5⟩ := store_cells_core (E := E) (cs := es.flatten) (off := off) 0 off hor hrow (by simp) (news := news) (by rw [q2, hfl]; simp) q3 (fun i x hx => by
  have := (q6 i _ (hget i x hx)).2 0 x (by simp)
  simpa using this) (by rw [hfl]; exact hj)
 have hmin : Nat.min es.length len = es.length := Nat.min_eq_left hle
 have hund := und_slice (E.ok _ _ ht) hk
 have hfc : (Builtin.firstCells 1 es.length (a.eval y)).run E.P w = .ok news.toArray w := by
  rw [q1]
  cases ad with
  | none =>
   have := q4 rfl
   subst this
   have : news = [] := by simpa using q2
   subst this
   simp [Builtin.firstCells]
  | some ad =>
   have hl : news.length = es.length := by simpa using q2
   have := run_firstCells_some (P := E.P) w 1 es.length ad 0 c news (by rw [hl]; simp) (fun j u h => q5 ad rfl j u h)
   exact this
 have hrun : (execOp a.eval ⟨dst, .call { callee := .builtin .copy, args := #[x, y], argTypes := #[t, t2] }, ty, pos, aft, g⟩).run E.P w = .ok (.value (.int .i64 (es.length : Int))) w' := by
  have hev := gm.sr.evalv hx
  have hlen : (Builtin.lenOf (a.eval y)).run E.P w = .ok es.length w := by rw [q1]; rfl
  simp only [execOp, resolve, invoke, builtin, Sem.run_bind, Sem.run_pure, Result.andThen_ok, List.map_toArray, List.map_cons, List.map_nil, hev]
  simp only [Builtin.copy_, Sem.run_bind, Sem.run_pure, Result.andThen_ok, List.getElem?_toArray, List.getElem?_cons_zero, List.getElem?_cons_succ, run_underlying hund, hlen, run_sizeOf_ti (E.ok _ _ he), hsz, hmin, hfc, h1]
  rfl
 refine ⟨.int .i64 (es.length : Int), w', _, H, hrun, kk, ?_, fun _ _ h => h, fun i p hp hm => ?_⟩
 ·have := (gm.set hobj h3 (by omega) (fun i _ hi => h5 i (by simpa [Ob.fp] using hi)) (o' := .arr b tt sz cap (rows.set 0 (setC row off es.flatten))) h2 (fun b hb => .inr hb) (by simp [Ob.fp])).put (dst := dst) (.v (.int .i64 (es.length : Int))) hd
  cases dst <;> exact this
 ·have hne : k ≠ i := fun h => by subst h; simp at hm
  exact ⟨set_keeps hp hne, fun b' hb' => h5 b' (fun h => gm.apart hobj hp hne b' hb' (by simp [Ob.fp, h]))⟩
def cpyA {α : Type} {m : Nat} (a : Arr α m) (l : List α) : Option (Arr α m) := if h : l.length ≤ m then some ⟨l ++ a.l.drop l.length, by simp [a.h]; omega⟩ else none
theorem cpy_some {α : Type} {m : Nat} {a r : Arr α m} {l : List α} (h : cpyA a l = some r) : l.length ≤ m ∧ r.l = l ++ a.l.drop l.length := by
 unfold cpyA at h
 split at h
 ·rename_i hl; cases h; exact ⟨hl, rfl⟩
 ·cases h
theorem setC_over : ∀ (e cs : List T), cs.length ≤ e.length → setC e 0 cs = cs ++ e.drop cs.length
 | [], [], _ => rfl
 | [], _ :: _, h => by simp at h
 | _ :: _, [], _ => rfl
 | a :: e, c :: cs, h => by simp only [setC, List.cons_append, List.length_cons, List.drop_succ_cons]; rw [setC_over e cs (by simpa using h)]
theorem flat_one {α : Type} {f : α → T} {l : List α} : (l.map fun x => [f x]).flatten = l.map f := by induction l with
 | nil => rfl
 | cons a l ih => simp [ih]
theorem seg_copy {α : Type} {m : Nat} {f : α → T} {a r : Arr α m} {l : List α} {post : List T} (h : cpyA a l = some r) : setC (a.l.map f ++ post) 0 (l.map fun x => [f x]).flatten = r.l.map f ++ post := by
 obtain ⟨h1, h2⟩ := cpy_some h
 rw [flat_one, setC_over _ _ (by simp [a.h]; omega), h2]
 simp only [List.length_map, List.map_append, List.append_assoc, List.map_drop]
 rw [List.drop_append_of_le_length (by simp [a.h]; omega)]
theorem Ghost.lit (t : Nat) {ob : List Ob} {sz : Nat} {es es' : List (List T)} (h : get s t = some (.list sz es)) (hl : LendLL [] es es') : Ghost n C s ob ((t, .list sz es') :: s) ob := Ghost.slots fun H a w gm i x hx => by
 simp only [get] at hx
 cases hb : Nat.beq t i with
 | true =>
  have := Nat.eq_of_beq_eq_true hb
  subst this
  rw [hb, cond_true] at hx
  cases hx
  refine VR.rows (gm.slots t _ h) hl.length fun i e' he => ?_
  obtain ⟨e, q1, q2, q3⟩ := LendLL.vr (H := H) (H1 := H) (w := w) (objs := []) (by simp) (by simp) (fun _ _ h => h) hl i e' he
  exact ⟨e, q1, q2, fun j y hy v hv => q3 j y hy hv⟩
 | false =>
  rw [hb, cond_false] at hx
  exact gm.slots i x hx
theorem AX.take (k m : Nat) {md : List Nat} {o : Oper} {ob : List Ob} {R : St → Prop} {v : Value} {ty tyi szi : Nat} {vs : List Value} {L : List (Option (List (List T)))} {es : List (List T)} (hk : ob[k]? = some (.uss v ty tyi szi vs L)) (hm : L[m]? = some (some es))
  (h : AX E n C md o ⟨s, ob.set k (.uss v ty tyi szi vs (L.set m none)) ++ [.us (vs.getD m undef) tyi szi es]⟩ R) : AX E n C (k :: md) o ⟨s, ob⟩ R := by
 intro H a w gm
 obtain ⟨H1, h1, g1⟩ := Ghost.take (n := n) (C := C) (s := s) k m hk hm H a w gm
 refine Oper.wp_monoQ ?_ (fun _ _ _ h => h) (h H1 a w g1)
 rintro a' w' ⟨σ', H', v, hr, gm', ha, hHH, hfr⟩
 refine ⟨σ', H', v, hr, gm', ha, fun b o hb => hHH _ _ (h1 _ _ hb), fun i p hp hmd => ?_⟩
 simp only [List.contains_cons, Bool.or_eq_false_iff, beq_eq_false_iff_ne] at hmd
 refine hfr i p ?_ hmd.2
 dsimp only at hp ⊢
 rw [List.getElem?_append_left (by simpa using (List.getElem?_eq_some_iff.1 hp).1), List.getElem?_set_ne (Ne.symm hmd.1)]; exact hp
end
def ints2 (s : Slots) (x y : Operand) : Option (IntKind × Int × IntKind × Int) :=
 match evalT s x with
 | some (.v (.int k a)) => match evalT s y with
  | some (.v (.int k' b)) => some (k, a, k', b)
  | _ => none
 | _ => none
def binT (s : Slots) (op : BinOp) (x y : Operand) : Option T :=
 match ints2 s x y with
 | some (.i64, a, .i64, b) => match op with
  | .lss => some (.v (.bool (decide (a < b))))
  | .leq => some (.v (.bool (decide (a ≤ b))))
  | .gtr => some (.v (.bool (decide (a > b))))
  | .geq => some (.v (.bool (decide (a ≥ b))))
  | .eql => some (.v (.bool (a == b)))
  | .neq => some (.v (.bool (a != b)))
  | .add => some (.v (.int .i64 (wr (a + b))))
  | .sub => some (.v (.int .i64 (wr (a - b))))
  | .mul => some (.v (.int .i64 (wr (a * b))))
  | _ => none
 | _ => none
def fieldT (E : Env) (s : Slots) (t : TypeId) (x : Operand) (f : Nat) : Option T :=
 match E.tab t with
 | some ti => match ti.kind with
  | .struct fs => match fs[f]? with
   | some (off, ft) => match E.tab ft with
    | some fi => bif Nat.beq fi.size 0 then none else
     match evalT s x with
     | some (.v (.pointer (some ⟨b, o, none⟩))) => some (.v (.pointer (some ⟨b, o + off, none⟩)))
     | some (.eptr cs) => bif Nat.ble off cs.length then some (.eptr (cs.drop off)) else none
     | _ => none
    | none => none
   | none => none
  | _ => none
 | none => none
def callT (E : Env) (s : Slots) (c : Call) : Option T :=
 match c with
 | ⟨.builtin .min, ⟨[x, y]⟩, _⟩ => match ints2 s x y with
  | some (.i64, a, .i64, b) => some (.v (.int .i64 (min a b)))
  | _ => none
 | ⟨.builtin .max, ⟨[x, y]⟩, _⟩ => match ints2 s x y with
  | some (.i64, a, .i64, b) => some (.v (.int .i64 (max a b)))
  | _ => none
 | ⟨.builtin .len, ⟨[x]⟩, ⟨[t]⟩⟩ => match E.tab t with
  | some ti => match ti.kind with
   | .string => match evalT s x with
    | some (.v (.string b)) => some (.v (.int .i64 b.size))
    | _ => none
   | _ => none
  | none => none
 | _ => none
def stepT (E : Env) (s : Slots) : Op → Option T
 | .move x => evalT s x
 | .assign x => evalT s x
 | .pick c a b => match evalT s c with
  | some (.v (.bool true)) => evalT s a
  | some (.v (.bool false)) => evalT s b
  | _ => none
 | .nilCheck x => match evalT s x with
  | some (.v (.pointer (some b))) => some (.v (.pointer (some b)))
  | some (.eptr cs) => some (.eptr cs)
  | _ => none
 | .extract x i => match evalT s x with
  | some (.tup l) => l[i]?
  | _ => none
 | .unOp .not _ x => match evalT s x with
  | some (.v (.bool b)) => some (.v (.bool (!b)))
  | _ => none
 | .unOp .neg _ x => match evalT s x with
  | some (.v (.int .i64 a)) => some (.v (.int .i64 (wr (0 - a))))
  | _ => none
 | .binOp op _ x y _ => binT s op x y
 | .fieldAddr t x f => fieldT E s t x f
 | .call c => callT E s c
 | _ => none
section
variable {E : Env} {n : Nat} {C : Ctx} {s : Slots} {ob : List Ob} {ops : Array Oper} {R : St → Prop} {dst : Option Tmp} {ty : TypeId} {pos : String} {aft : Array Edge} {g : Option (Nat × Bool)}
theorem ints2_ok {x y : Operand} {k k' : IntKind} {a b : Int} (h : ints2 s x y = some (k, a, k', b)) : evalT s x = some (.v (.int k a)) ∧ evalT s y = some (.v (.int k' b)) := by
 unfold ints2 at h
 split at h
 ·rename_i h1
  split at h
  ·rename_i h2
   cases h
   exact ⟨h1, h2⟩
  ·cases h
 ·cases h
theorem binT_ok {op : BinOp} {t t' : TypeId} {x y : Operand} {z : T} (h : binT s op x y = some z) : Yp E.P n s ⟨dst, .binOp op t x y t', ty, pos, aft, g⟩ z := by
 unfold binT at h
 split at h <;> first | cases h | skip
 rename_i hi
 obtain ⟨hx, hy⟩ := ints2_ok hi
 split at h <;> first | cases h | skip
 ·exact Yp.cmpI hx hy rfl
 ·exact Yp.cmpI hx hy rfl
 ·exact Yp.cmpI hx hy rfl
 ·exact Yp.cmpI hx hy rfl
 ·exact Yp.cmpI hx hy rfl
 ·exact Yp.cmpI hx hy rfl
 ·exact Yp.binI hx hy rfl
 ·exact Yp.binI hx hy rfl
 ·exact Yp.binI hx hy rfl
theorem fieldT_ok {t : TypeId} {x : Operand} {f : Nat} {z : T} (h : fieldT E s t x f = some z) : Yp E.P n s ⟨dst, .fieldAddr t x f, ty, pos, aft, g⟩ z := by
 unfold fieldT at h
 split at h <;> first | cases h | skip
 rename_i ti ht
 split at h <;> first | cases h | skip
 rename_i fs hk
 split at h <;> first | cases h | skip
 rename_i off ft hf
 split at h <;> first | cases h | skip
 rename_i fi hft
 cases hz : Nat.beq fi.size 0 with
 | true => rw [hz] at h; cases h
 | false =>
  rw [hz, cond_false] at h
  split at h <;> first | cases h | skip
  ·rename_i hx
   exact Yp.fieldPtr ht hk hf hft hz hx
  ·rename_i cs hx
   cases hle : Nat.ble off cs.length with
   | true => rw [hle, cond_true] at h; cases h; exact Yp.fieldE ht hk hf hft hz hx hle
   | false => rw [hle] at h; cases h
theorem callT_ok {c : Call} {z : T} (h : callT E s c = some z) : Yp E.P n s ⟨dst, .call c, ty, pos, aft, g⟩ z := by
 unfold callT at h
 split at h <;> first | cases h | skip
 ·split at h <;> first | cases h | skip
  rename_i hi
  obtain ⟨hx, hy⟩ := ints2_ok hi
  exact Yp.minI hx hy
 ·split at h <;> first | cases h | skip
  rename_i hi
  obtain ⟨hx, hy⟩ := ints2_ok hi
  exact Yp.maxI hx hy
 ·split at h <;> first | cases h | skip
  rename_i ti ht
  split at h <;> first | cases h | skip
  rename_i hk
  split at h <;> first | cases h | skip
  rename_i hx
  exact Yp.lenString ht hk hx
theorem stepT_ok {op : Op} {z : T} (h : stepT E s op = some z) : Yp E.P n s ⟨dst, op, ty, pos, aft, g⟩ z := by
 unfold stepT at h
 split at h <;> first | cases h | skip
 ·exact Yp.move h
 ·exact Yp.assign h
 ·split at h <;> first | cases h | skip
  ·rename_i hc; exact Yp.pickT hc h
  ·rename_i hc; exact Yp.pickF hc h
 ·split at h <;> first | cases h | skip
  ·rename_i hx; exact Yp.nilCheckP hx
  ·rename_i hx; exact Yp.nilCheckE hx
 ·split at h <;> first | cases h | skip
  rename_i hx; exact Yp.extract hx h
 ·split at h <;> first | cases h | skip
  rename_i hx; exact Yp.not hx
 ·split at h <;> first | cases h | skip
  rename_i hx; exact Yp.neg hx rfl
 ·exact binT_ok h
 ·exact fieldT_ok h
 ·exact callT_ok h
end
def partW (fi : TI) (cs : List T) (off : Nat) : Option T :=
 bif fi.isAgg then (bif Nat.beq off 0 && Nat.beq fi.size cs.length then some (.agg cs) else none) else cs[off]?
theorem partW_ok {fi : TI} {cs : List T} {off : Nat} {y : T} (h : partW fi cs off = some y) : partT fi cs off = some y := by
 unfold partW at h
 unfold partT
 cases ha : fi.isAgg with
 | false => rw [ha, cond_false] at h; rw [cond_false]; exact h
 | true =>
  rw [ha, cond_true] at h
  rw [cond_true]
  cases hb : (Nat.beq off 0 && Nat.beq fi.size cs.length) with
  | true => rw [hb, cond_true] at h; rw [cond_true]; exact h
  | false => rw [hb] at h; cases h
def stepR (E : Env) (s : Slots) : Op → Option T
 | .load t x => match evalT s x with
  | some (.eptr cs) => match E.tab t with
   | some fi => partW fi cs 0
   | none => none
  | _ => none
 | op => stepT E s op
inductive Hn where
 | o (i k : Nat)
 | f (i : Nat) (x : T)
 | l (i : Nat) (c : Int)
 | x (i : Nat) (m : Nat) (e : List T)
 | k (i : Nat) (c : Int)
def Hn.at : Hn → Nat
 | .o i _ => i
 | .f i _ => i
 | .l i _ => i
 | .x i _ _ => i
 | .k i _ => i
def loadH (E : Env) (s : Slots) (ob : List Ob) (k : Nat) : Op → Option (T × Prop)
 | .load t x => match evalT s x with
  | some (.v (.pointer (some ⟨b, off, none⟩))) => match ob[k]? with
   | some (.arr b' _ _ _ [e]) => match E.tab t with
    | some fi => match partW fi e off with
     | some y => some (y, b = b')
     | none => none
    | none => none
   | _ => none
  | _ => none
 | _ => none
def lenH (E : Env) (s : Slots) (c : Int) : Op → Option (T × Prop)
 | .call ⟨.builtin .len, ⟨[x]⟩, ⟨[t]⟩⟩ => match E.tab t with
  | some ti => match ti.kind with
   | .slice _ => match evalT s x with
    | some (.list _ es) => some (.v (.int .i64 c), (es.length : Int) = c)
    | _ => none
   | _ => none
  | none => none
 | _ => none
def idxH (E : Env) (s : Slots) (m : Nat) (e : List T) : Op → Option (T × Prop)
 | .indexAddr t x y => match E.tab t with
  | some ti => match ti.kind with
   | .slice el => match E.tab el with
    | some fi => match evalT s x with
     | some (.list sz es) => bif Nat.beq fi.size sz then
      (match evalT s y with
      | some (.v (.int _ i)) => some (.eptr e, i = (m : Int) ∧ es[m]? = some e)
      | _ => none) else none
     | _ => none
    | none => none
   | _ => none
  | none => none
 | _ => none
def stepH (E : Env) (n : Nat) (s : Slots) (ob : List Ob) (d : Nat) (o : Oper) : Hn → Option (T × Prop)
 | .o _ k => loadH E s ob k o.op
 | .f _ x => some (x, Yd E.P n s ob ⟨some d, o.op, o.type, o.pos, o.after, none⟩ x)
 | .l _ c => lenH E s c o.op
 | .x _ m e => idxH E s m e o.op
 | .k _ c => match stepT E s o.op with
  | some (.v (.int kk e)) => some (.v (.int kk c), e = c)
  | _ => none
section
variable {E : Env} {n : Nat} {C : Ctx} {s : Slots} {ob : List Ob} {ops : Array Oper} {R : St → Prop} {dst : Option Tmp} {ty : TypeId} {pos : String} {aft : Array Edge} {g : Option (Nat × Bool)}
theorem stepR_ok {op : Op} {z : T} (h : stepR E s op = some z) : Yd E.P n s ob ⟨dst, op, ty, pos, aft, g⟩ z := by
 unfold stepR at h
 split at h
 ·split at h <;> first | cases h | skip
  rename_i hx
  split at h <;> first | cases h | skip
  rename_i ht
  exact Yd.loadE ht hx (partW_ok h)
 ·exact (stepT_ok h).yd
theorem stepH_ok {d : Nat} {o : Oper} {hn : Hn} {z : T} {p : Prop} (h : stepH E n s ob d o hn = some (z, p)) (hp : p) : Yd E.P n s ob ⟨some d, o.op, o.type, o.pos, o.after, none⟩ z := by
 unfold stepH at h
 split at h
 ·unfold loadH at h
  split at h <;> first | cases h | skip
  rename_i ho
  split at h <;> first | cases h | skip
  rename_i hx
  split at h <;> first | cases h | skip
  rename_i hk
  split at h <;> first | cases h | skip
  rename_i ht
  split at h <;> first | cases h | skip
  rename_i hy
  subst hp
  rw [ho]
  exact Yd.loadO _ 0 _ ht hx hk rfl (by omega) (partW_ok hy)
 ·cases h; exact hp
 ·unfold lenH at h
  split at h <;> first | cases h | skip
  rename_i ho
  split at h <;> first | cases h | skip
  rename_i ht
  split at h <;> first | cases h | skip
  rename_i hk
  split at h <;> first | cases h | skip
  rename_i hx
  subst hp
  rw [ho]
  exact (Yp.lenList ht hk hx).yd
 ·unfold idxH at h
  split at h <;> first | cases h | skip
  rename_i ho
  split at h <;> first | cases h | skip
  rename_i ht
  split at h <;> first | cases h | skip
  rename_i hk
  split at h <;> first | cases h | skip
  split at h <;> first | cases h | skip
  rename_i fi hel _ sz es hx
  cases hb : Nat.beq fi.size sz with
  | false => rw [hb] at h; cases h
  | true =>
   rw [hb, cond_true] at h
   split at h <;> first | cases h | skip
   rename_i hy
   rw [ho]
   exact (Yp.indexE ht hk hel (Nat.eq_of_beq_eq_true hb) hx hy hp.1 hp.2).yd
 ·split at h <;> first | cases h | skip
  rename_i hx
  subst hp
  exact (stepT_ok hx).yd
end
def guardT (ops : Array Oper) (s : Slots) : Option (Nat × Bool) → Option Bool
 | none => some true
 | some (j, want) => match ops[j]? with
  | some o => match o.dst with
   | some t => match get s t with
    | some (.v (.bool true)) => some want
    | some (.v (.bool false)) => some (!want)
    | _ => none
   | none => none
  | none => none
def runO (E : Env) (n : Nat) (ops : Array Oper) (ob : List Ob) : Nat → Nat → List Oper → Slots → List Hn → Prop → Option (Prop × List Oper × Slots)
 | 0, _, l, s, _, p => some (p, l, s)
 | _ + 1, _, [], _, _, _ => none
 | m + 1, i, o :: l, s, hs, p => match o.dst with
  | none => none
  | some d => bif Nat.blt d n then
   (match guardT ops s o.guard with
   | none => none
   | some false => runO E n ops ob m (i + 1) l ((d, .v undef) :: s) hs p
   | some true => match hs with
    | [] => match stepR E s o.op with
     | some x => runO E n ops ob m (i + 1) l ((d, x) :: s) [] p
     | none => none
    | h :: hs => bif Nat.beq h.at i then
      (match stepH E n s ob d o h with
      | some (x, q) => runO E n ops ob m (i + 1) l ((d, x) :: s) hs (q ∧ p)
      | none => none)
     else
      (match stepR E s o.op with
      | some x => runO E n ops ob m (i + 1) l ((d, x) :: s) (h :: hs) p
      | none => none)) else none
section
variable {E : Env} {n : Nat} {C : Ctx} {s : Slots} {ob : List Ob} {ops : Array Oper} {R : St → Prop}
theorem guardT_ok {j : Nat} {want v : Bool} (h : guardT ops s (some (j, want)) = some v) : ∃ t b, (ops[j]?).bind (·.dst) = some t ∧ get s t = some (.v (.bool b)) ∧ (v = true → b = want) ∧ (v = false → b = !want) := by
 simp only [guardT] at h
 split at h
 ·rename_i o ho
  split at h
  ·rename_i t hd
   have hj : (ops[j]?).bind (·.dst) = some t := by rw [ho]; exact hd
   split at h
   ·rename_i hs
    cases h
    exact ⟨t, true, hj, hs, by cases want <;> simp, by cases want <;> simp⟩
   ·rename_i hs
    cases h
    exact ⟨t, false, hj, hs, by cases want <;> simp, by cases want <;> simp⟩
   ·cases h
  ·cases h
 ·cases h
theorem AO.go1 {d : Nat} {o : Oper} {l : List Oper} {x : T} (hg : guardT ops s o.guard = some true) (hdst : o.dst = some d) (hy : Yd E.P n s ob ⟨some d, o.op, o.type, o.pos, o.after, none⟩ x) (hd : Nat.blt d n = true)
  (k : AO E n C ops l ⟨(d, x) :: s, ob⟩ R) : AO E n C ops (o :: l) ⟨s, ob⟩ R := by
 obtain ⟨dst, op, ty, pos, aft, g⟩ := o
 cases hdst
 cases g with
 | none => exact AO.d hy hd k
 | some g =>
  obtain ⟨j, want⟩ := g
  obtain ⟨t, b, h1, h2, h3, _⟩ := guardT_ok hg
  have := h3 rfl
  exact AO.guard h1 h2 (dst_some hd) (fun _ => AO.d hy hd k) (fun h => by rw [this] at h; cases want <;> cases h)
theorem AO.go0 {d : Nat} {o : Oper} {l : List Oper} (hg : guardT ops s o.guard = some false) (hdst : o.dst = some d) (hd : Nat.blt d n = true)
  (k : AO E n C ops l ⟨(d, .v undef) :: s, ob⟩ R) : AO E n C ops (o :: l) ⟨s, ob⟩ R := by
 obtain ⟨dst, op, ty, pos, aft, g⟩ := o
 cases hdst
 cases g with
 | none => cases hg
 | some g =>
  obtain ⟨j, want⟩ := g
  obtain ⟨t, b, h1, h2, _, h3⟩ := guardT_ok hg
  have := h3 rfl
  exact AO.guard h1 h2 (dst_some hd) (fun h => by rw [this] at h; cases want <;> cases h) (fun _ => k)
theorem runO_ok : ∀ (m i : Nat) (l : List Oper) (s : Slots) (hs : List Hn) (p : Prop) {P : Prop} {l' : List Oper} {s' : Slots}, runO E n ops ob m i l s hs p = some (P, l', s') → P →
  p ∧ (AO E n C ops l' ⟨s', ob⟩ R → AO E n C ops l ⟨s, ob⟩ R)
 | 0, i, l, s, hs, p, P, l', s', h, hP => by cases h; exact ⟨hP, id⟩
 | m + 1, i, [], s, hs, p, P, l', s', h, hP => by cases h
 | m + 1, i, o :: l, s, hs, p, P, l', s', h, hP => by
  simp only [runO] at h
  split at h
  ·cases h
  ·rename_i d hdst
   cases hd : Nat.blt d n with
   | false => rw [hd] at h; cases h
   | true =>
    rw [hd, cond_true] at h
    split at h
    ·cases h
    ·rename_i hg
     obtain ⟨h1, h2⟩ := runO_ok m (i + 1) l _ hs p h hP
     exact ⟨h1, fun k => AO.go0 hg hdst hd (h2 k)⟩
    ·rename_i hg
     split at h
     ·split at h
      ·rename_i x hx
       obtain ⟨h1, h2⟩ := runO_ok m (i + 1) l _ _ p h hP
       exact ⟨h1, fun k => AO.go1 hg hdst (stepR_ok hx) hd (h2 k)⟩
      ·cases h
     ·rename_i hn hs
      cases hb : Nat.beq hn.at i with
      | true =>
       rw [hb, cond_true] at h
       split at h
       ·rename_i x q hx
        obtain ⟨h1, h2⟩ := runO_ok m (i + 1) l _ _ _ h hP
        exact ⟨h1.2, fun k => AO.go1 hg hdst (stepH_ok hx h1.1) hd (h2 k)⟩
       ·cases h
      | false =>
       rw [hb, cond_false] at h
       split at h
       ·rename_i x hx
        obtain ⟨h1, h2⟩ := runO_ok m (i + 1) l _ _ p h hP
        exact ⟨h1, fun k => AO.go1 hg hdst (stepR_ok hx) hd (h2 k)⟩
       ·cases h
theorem bz : (∀ b, (true && b) = b) ∧ (∀ b, (false && b) = false) ∧ (∀ b, (true || b) = true) ∧ (∀ b, (false || b) = b) ∧ (!true) = false ∧ (!false) = true ∧ (∀ a b : Bool, cond true a b = a) ∧ (∀ a b : Bool, cond false a b = b) := by simp
theorem len_m {α : Type} {f : α → List T} {l : List α} : ((l.map f).length : Int) = (l.length : Int) := by rw [List.length_map]
theorem AO.q (m : Nat) {l l' : List Oper} {s' : Slots} (h : runO E n ops ob m 0 l s [] True = some (True, l', s')) (k : AO E n C ops l' ⟨s', ob⟩ R) : AO E n C ops l ⟨s, ob⟩ R :=
 (runO_ok m 0 l s [] True h trivial).2 k
theorem AW.z {id : Nat} {y : Code} {Q : Exit → St → Prop} {s' : Slots} (h : runO E n ops ob ops.size 0 ops.toList s [] True = some (True, [], s')) (k : AW E n C y ⟨s', ob⟩ Q) : AW E n C (.seq (.region id ops false) y) ⟨s, ob⟩ Q :=
 AW.seq (AW.region ((runO_ok _ 0 _ s [] True h trivial).2 (AO.nil k)))
theorem AW.zr {id : Nat} {y : Code} {Q : Exit → St → Prop} {s' : Slots} {P : Prop} (hs : List Hn) (h : runO E n ops ob ops.size 0 ops.toList s hs True = some (P, [], s')) (hP : P) (k : AW E n C y ⟨s', ob⟩ Q) :
  AW E n C (.seq (.region id ops false) y) ⟨s, ob⟩ Q :=
 AW.seq (AW.region ((runO_ok _ 0 _ s hs True h hP).2 (AO.nil k)))
theorem AW.t {id : Nat} {Q : Exit → St → Prop} {s' : Slots} (h : runO E n ops ob ops.size 0 ops.toList s [] True = some (True, [], s')) (k : Q .normal ⟨s', ob⟩) : AW E n C (.region id ops false) ⟨s, ob⟩ Q :=
 AW.region ((runO_ok _ 0 _ s [] True h trivial).2 (AO.nil k))
theorem AW.tr {id : Nat} {Q : Exit → St → Prop} {s' : Slots} {P : Prop} (hs : List Hn) (h : runO E n ops ob ops.size 0 ops.toList s hs True = some (P, [], s')) (hP : P) (k : Q .normal ⟨s', ob⟩) :
  AW E n C (.region id ops false) ⟨s, ob⟩ Q :=
 AW.region ((runO_ok _ 0 _ s hs True h hP).2 (AO.nil k))
theorem AO.r (m : Nat) (hs : List Hn) {l l' : List Oper} {s' : Slots} {P : Prop} (h : runO E n ops ob m 0 l s hs True = some (P, l', s')) (hP : P) (k : AO E n C ops l' ⟨s', ob⟩ R) : AO E n C ops l ⟨s, ob⟩ R :=
 (runO_ok m 0 l s hs True h hP).2 k
def stepO (E : Env) (so s : Slots) (d : Nat) (op : Op) : Option (T × Bool) :=
 match (match op with
  | .pick .. => none
  | op => stepR E so op) with
 | some x => some (x, true)
 | none => match stepT E s op with
  | some x => bif free so (some d) then some (x, false) else none
  | none => none
def putB (b : Bool) (so : Slots) (d : Nat) (x : T) : Slots := bif b then (d, x) :: so else so
def pd : Nat → Nat → List Nat → PL
 | 0, _, _ => .nil
 | m + 1, i, a => bif a.contains i then .act i (pd m (i + 1) a) else .still i (pd m (i + 1) a)
def runP (E : Env) (n : Nat) (ops : Array Oper) (pobjs : List Ob) : Nat → Nat → PL → Slots → Slots → List Hn → Prop → Option (Prop × PL × Slots × Slots)
 | 0, _, l, so, s, _, p => some (p, l, so, s)
 | m + 1, i, .still j l, so, s, hs, p => match ops[j]? with
  | none => none
  | some o => match o.dst with
   | none => none
   | some d => bif Nat.blt d n then
    (match guardT ops s o.guard with
    | none => none
    | some false => bif free so (some d) then runP E n ops pobjs m (i + 1) l so ((d, .v undef) :: s) hs p else none
    | some true => match hs with
     | [] => match stepO E so s d o.op with
      | some (x, b) => runP E n ops pobjs m (i + 1) l (putB b so d x) ((d, x) :: s) [] p
      | none => none
     | h :: hs => bif Nat.beq h.at i then
       (match stepH E n so pobjs d o h with
       | some (x, q) => runP E n ops pobjs m (i + 1) l ((d, x) :: so) ((d, x) :: s) hs (q ∧ p)
       | none => none)
      else
       (match stepO E so s d o.op with
       | some (x, b) => runP E n ops pobjs m (i + 1) l (putB b so d x) ((d, x) :: s) (h :: hs) p
       | none => none)) else none
 | m + 1, i, .act j l, so, s, hs, p => match ops[j]? with
  | none => none
  | some o => match o.dst with
   | none => none
   | some d => bif Nat.blt d n && free so (some d) then
    (match guardT ops s o.guard with
    | some false => runP E n ops pobjs m (i + 1) l so ((d, .v undef) :: s) hs p
    | _ => none) else none
 | _ + 1, _, _, _, _, _, _ => none
section
variable {prot : List Nat} {pobjs : List Ob} {so : Slots}
theorem AP.goOld {j d : Nat} {o : Oper} {l : PL} {x : T} (ho : ops[j]? = some o) (hg : guardT ops s o.guard = some true) (hdst : o.dst = some d)
  (hy : Yd E.P n so pobjs ⟨some d, o.op, o.type, o.pos, o.after, none⟩ x) (hd : Nat.blt d n = true)
  (k : AP E n C ops prot pobjs l ((d, x) :: so) ⟨(d, x) :: s, ob⟩ R) : AP E n C ops prot pobjs (.still j l) so ⟨s, ob⟩ R := by
 obtain ⟨dst, op, ty, pos, aft, g⟩ := o
 cases hdst
 cases g with
 | none => exact AP.old ho hy rfl (dst_some hd) k
 | some g =>
  obtain ⟨i, want⟩ := g
  obtain ⟨t, b, h1, h2, h3, _⟩ := guardT_ok hg
  exact AP.oldG ho h1 h2 (h3 rfl) hy (dst_some hd) k
theorem AP.goNew {j d : Nat} {o : Oper} {l : PL} {x : T} (ho : ops[j]? = some o) (hg : guardT ops s o.guard = some true) (hdst : o.dst = some d)
  (hy : Yp E.P n s ⟨some d, o.op, o.type, o.pos, o.after, none⟩ x) (hd : Nat.blt d n = true) (hf : free so (some d) = true)
  (k : AP E n C ops prot pobjs l so ⟨(d, x) :: s, ob⟩ R) : AP E n C ops prot pobjs (.still j l) so ⟨s, ob⟩ R := by
 obtain ⟨dst, op, ty, pos, aft, g⟩ := o
 cases hdst
 cases g with
 | none => exact AP.new ho hy rfl (dst_some hd) k hf
 | some g =>
  obtain ⟨i, want⟩ := g
  obtain ⟨t, b, h1, h2, h3, _⟩ := guardT_ok hg
  exact AP.newG ho h1 h2 (h3 rfl) hy (dst_some hd) k hf
theorem AP.goSkip {j d : Nat} {o : Oper} {l : PL} (ho : ops[j]? = some o) (hg : guardT ops s o.guard = some false) (hdst : o.dst = some d) (hd : Nat.blt d n = true) (hf : free so (some d) = true)
  (k : AP E n C ops prot pobjs l so ⟨(d, .v undef) :: s, ob⟩ R) : AP E n C ops prot pobjs (.still j l) so ⟨s, ob⟩ R ∧ AP E n C ops prot pobjs (.act j l) so ⟨s, ob⟩ R := by
 obtain ⟨dst, op, ty, pos, aft, g⟩ := o
 cases hdst
 cases g with
 | none => cases hg
 | some g =>
  obtain ⟨i, want⟩ := g
  obtain ⟨t, b, h1, h2, _, h3⟩ := guardT_ok hg
  exact ⟨AP.skip ho rfl h1 h2 (h3 rfl) (dst_some hd) k hf, AP.skipA ho rfl h1 h2 (h3 rfl) (dst_some hd) k hf⟩
theorem AP.goStep {j d : Nat} {o : Oper} {l : PL} {x : T} {b : Bool} (ho : ops[j]? = some o) (hg : guardT ops s o.guard = some true) (hdst : o.dst = some d) (hd : Nat.blt d n = true)
  (hx : stepO E so s d o.op = some (x, b)) (k : AP E n C ops prot pobjs l (putB b so d x) ⟨(d, x) :: s, ob⟩ R) : AP E n C ops prot pobjs (.still j l) so ⟨s, ob⟩ R := by
 unfold stepO at hx
 split at hx
 ·rename_i h
  cases hx
  split at h
  ·cases h
  ·exact AP.goOld ho hg hdst (stepR_ok h) hd k
 ·split at hx
  ·rename_i h
   cases hf : free so (some d) with
   | false => rw [hf] at hx; cases hx
   | true =>
    rw [hf, cond_true] at hx
    cases hx
    exact AP.goNew ho hg hdst (stepT_ok h) hd hf k
  ·cases hx
theorem runP_ok : ∀ (m i : Nat) (l : PL) (so s : Slots) (hs : List Hn) (p : Prop) {P : Prop} {l' : PL} {so' s' : Slots}, runP E n ops pobjs m i l so s hs p = some (P, l', so', s') → P →
  p ∧ (AP E n C ops prot pobjs l' so' ⟨s', ob⟩ R → AP E n C ops prot pobjs l so ⟨s, ob⟩ R)
 | 0, i, l, so, s, hs, p, P, l', so', s', h, hP => by
  cases l <;> (simp only [runP] at h; cases h; exact ⟨hP, id⟩)
 | m + 1, i, .still j l, so, s, hs, p, P, l', so', s', h, hP => by
  simp only [runP] at h
  split at h
  ·cases h
  ·rename_i o ho
   split at h
   ·cases h
   ·rename_i d hdst
    cases hd : Nat.blt d n with
    | false => rw [hd] at h; cases h
    | true =>
     rw [hd, cond_true] at h
     split at h
     ·cases h
     ·rename_i hg
      cases hf : free so (some d) with
      | false => rw [hf] at h; cases h
      | true =>
       rw [hf, cond_true] at h
       obtain ⟨h1, h2⟩ := runP_ok m (i + 1) l so _ hs p h hP
       exact ⟨h1, fun k => (AP.goSkip ho hg hdst hd hf (h2 k)).1⟩
     ·rename_i hg
      split at h
      ·split at h
       ·rename_i x b hx
        obtain ⟨h1, h2⟩ := runP_ok m (i + 1) l _ _ _ p h hP
        exact ⟨h1, fun k => AP.goStep ho hg hdst hd hx (h2 k)⟩
       ·cases h
      ·rename_i hn hs
       cases hb : Nat.beq hn.at i with
       | true =>
        rw [hb, cond_true] at h
        split at h
        ·rename_i x q hx
         obtain ⟨h1, h2⟩ := runP_ok m (i + 1) l _ _ _ _ h hP
         exact ⟨h1.2, fun k => AP.goOld ho hg hdst (stepH_ok hx h1.1) hd (h2 k)⟩
        ·cases h
       | false =>
        rw [hb, cond_false] at h
        split at h
        ·rename_i x b hx
         obtain ⟨h1, h2⟩ := runP_ok m (i + 1) l _ _ _ p h hP
         exact ⟨h1, fun k => AP.goStep ho hg hdst hd hx (h2 k)⟩
        ·cases h
 | m + 1, i, .act j l, so, s, hs, p, P, l', so', s', h, hP => by
  simp only [runP] at h
  split at h
  ·cases h
  ·rename_i o ho
   split at h
   ·cases h
   ·rename_i d hdst
    cases hd : Nat.blt d n with
    | false => rw [hd] at h; cases h
    | true =>
     cases hf : free so (some d) with
     | false => rw [hd, hf] at h; cases h
     | true =>
      rw [hd, hf] at h
      simp only [Bool.and_true, cond_true] at h
      split at h
      ·rename_i hg
       obtain ⟨h1, h2⟩ := runP_ok m (i + 1) l so _ hs p h hP
       exact ⟨h1, fun k => (AP.goSkip ho hg hdst hd hf (h2 k)).2⟩
      ·cases h
 | m + 1, i, .nil, so, s, hs, p, P, l', so', s', h, hP => by simp [runP] at h
 | m + 1, i, .two .., so, s, hs, p, P, l', so', s', h, hP => by simp [runP] at h
 | m + 1, i, .three .., so, s, hs, p, P, l', so', s', h, hP => by simp [runP] at h
 | m + 1, i, .four .., so, s, hs, p, P, l', so', s', h, hP => by simp [runP] at h
 | m + 1, i, .five .., so, s, hs, p, P, l', so', s', h, hP => by simp [runP] at h
 | m + 1, i, .par .., so, s, hs, p, P, l', so', s', h, hP => by simp [runP] at h
 | m + 1, i, .drop .., so, s, hs, p, P, l', so', s', h, hP => by simp [runP] at h
theorem AP.q (m : Nat) {l l' : PL} {so' s' : Slots} (h : runP E n ops pobjs m 0 l so s [] True = some (True, l', so', s')) (k : AP E n C ops prot pobjs l' so' ⟨s', ob⟩ R) :
  AP E n C ops prot pobjs l so ⟨s, ob⟩ R :=
 (runP_ok m 0 l so s [] True h trivial).2 k
theorem AP.r (m : Nat) (hs : List Hn) {l l' : PL} {so' s' : Slots} {P : Prop} (h : runP E n ops pobjs m 0 l so s hs True = some (P, l', so', s')) (hP : P) (k : AP E n C ops prot pobjs l' so' ⟨s', ob⟩ R) :
  AP E n C ops prot pobjs l so ⟨s, ob⟩ R :=
 (runP_ok m 0 l so s hs True h hP).2 k
theorem AX.cl {d : Nat} {c : Operand} {args : Array Operand} {tys : Array TypeId} {ty : TypeId} {pos : String} {aft : Array Edge} {f : FuncId} {xs pre suf ys : List T} {y X : T}
  (h : ACalls E f ys [] (fun x new => x = X ∧ new = [])) (k : R ⟨(d, X) :: s, ob⟩)
  (hc : evalT s c = some y) (hf : fnT y = some (f, pre, suf)) (hx : evalL s args.toList = some xs) (hys : pre ++ xs ++ suf = ys)
  (hd : Nat.blt d n = true) (hfl : flatT X = true) :
  AX E n C [] ⟨some d, .call { callee := .value c, args := args, argTypes := tys }, ty, pos, aft, none⟩ ⟨s, ob⟩ R :=
 AX.callL hc (.refl _) hf hx (.rest _) hys h (dst_some hd) (fun _ _ h => by rw [h.1]; exact hfl) (fun x h => by obtain ⟨_, rfl, _⟩ := h; exact k)
theorem AO.c {d : Nat} {c : Operand} {args : Array Operand} {tys : Array TypeId} {ty : TypeId} {pos : String} {aft : Array Edge} {f : FuncId} {xs pre suf ys : List T} {y X : T} {l : List Oper}
  (h : ACalls E f ys [] (fun x new => x = X ∧ new = [])) (k : AO E n C ops l ⟨(d, X) :: s, ob⟩ R)
  (hc : evalT s c = some y := by exact rfl) (hf : fnT y = some (f, pre, suf) := by exact rfl) (hx : evalL s args.toList = some xs := by exact rfl) (hys : pre ++ xs ++ suf = ys := by exact rfl)
  (hd : Nat.blt d n = true := by exact rfl) (hfl : flatT X = true := by exact rfl) :
  AO E n C ops (⟨some d, .call { callee := .value c, args := args, argTypes := tys }, ty, pos, aft, none⟩ :: l) ⟨s, ob⟩ R :=
 AO.act [] rfl (AX.cl h k hc hf hx hys hd hfl)
theorem AP.c {i d : Nat} {c : Operand} {args : Array Operand} {tys : Array TypeId} {ty : TypeId} {pos : String} {aft : Array Edge} {f : FuncId} {xs pre suf ys : List T} {y X : T} {l : PL}
  (ho : ops[i]? = some ⟨some d, .call { callee := .value c, args := args, argTypes := tys }, ty, pos, aft, none⟩) (h : ACalls E f ys [] (fun x new => x = X ∧ new = [])) (k : AP E n C ops prot pobjs l so ⟨(d, X) :: s, ob⟩ R)
  (hc : evalT s c = some y := by exact rfl) (hf : fnT y = some (f, pre, suf) := by exact rfl) (hx : evalL s args.toList = some xs := by exact rfl) (hys : pre ++ xs ++ suf = ys := by exact rfl)
  (hd : Nat.blt d n = true := by exact rfl) (hfl : flatT X = true := by exact rfl) (hfr : free so (some d) = true := by exact rfl) :
  AP E n C ops prot pobjs (.act i l) so ⟨s, ob⟩ R :=
 AP.act [] ho rfl (by simp) (AX.cl h k hc hf hx hys hd hfl) hfr
theorem AP.cG {i d j t : Nat} {want b : Bool} {c : Operand} {args : Array Operand} {tys : Array TypeId} {ty : TypeId} {pos : String} {aft : Array Edge} {f : FuncId} {xs pre suf ys : List T} {y X : T} {l : PL}
  (ho : ops[i]? = some ⟨some d, .call { callee := .value c, args := args, argTypes := tys }, ty, pos, aft, some (j, want)⟩) (h : ACalls E f ys [] (fun x new => x = X ∧ new = [])) (k : AP E n C ops prot pobjs l so ⟨(d, X) :: s, ob⟩ R)
  (hj : (ops[j]?).bind (·.dst) = some t := by exact rfl) (hs : get s t = some (.v (.bool b)) := by exact rfl) (hb : b = want := by exact rfl)
  (hc : evalT s c = some y := by exact rfl) (hf : fnT y = some (f, pre, suf) := by exact rfl) (hx : evalL s args.toList = some xs := by exact rfl) (hys : pre ++ xs ++ suf = ys := by exact rfl)
  (hd : Nat.blt d n = true := by exact rfl) (hfl : flatT X = true := by exact rfl) (hfr : free so (some d) = true := by exact rfl) :
  AP E n C ops prot pobjs (.act i l) so ⟨s, ob⟩ R :=
 AP.actG [] ho hj hs hb (by simp) (AX.cl h k hc hf hx hys hd hfl) hfr
end
theorem AW.dz {id : Nat} {y : Code} {Q : Exit → St → Prop} {s' so' : Slots} {P : Prop} (pl : PL) (prot : List Nat) (pobjs : List Ob) (hs : List Hn) (hp : prot.map (fun i => ob[i]?) = pobjs.map some)
  (h : runP E n ops pobjs ops.size 0 pl s s hs True = some (P, .nil, so', s')) (hP : P) (k : AW E n C y ⟨s', ob⟩ Q) (hB : planB ops pl = true := by kernel_rfl) :
  AW E n C (.seq (.region id ops true) y) ⟨s, ob⟩ Q :=
 AW.seq (AW.regionD pl prot pobjs hB hp ((runP_ok _ 0 pl s s hs True h hP).2 (AP.nil k)))
theorem AW.dt {id : Nat} {Q : Exit → St → Prop} {s' so' : Slots} {P : Prop} (pl : PL) (prot : List Nat) (pobjs : List Ob) (hs : List Hn) (hp : prot.map (fun i => ob[i]?) = pobjs.map some)
  (h : runP E n ops pobjs ops.size 0 pl s s hs True = some (P, .nil, so', s')) (hP : P) (k : Q .normal ⟨s', ob⟩) (hB : planB ops pl = true := by kernel_rfl) :
  AW E n C (.region id ops true) ⟨s, ob⟩ Q :=
 AW.regionD pl prot pobjs hB hp ((runP_ok _ 0 pl s s hs True h hP).2 (AP.nil k))
theorem AW.rd {id : Nat} {Q : Exit → St → Prop} (pl : PL) (prot : List Nat) (pobjs : List Ob) (hp : prot.map (fun i => ob[i]?) = pobjs.map some)
  (h : AP E n C ops prot pobjs pl s ⟨s, ob⟩ (fun σ' => Q .normal σ')) (hB : planB ops pl = true := by kernel_rfl) : AW E n C (.region id ops true) ⟨s, ob⟩ Q := AW.regionD pl prot pobjs hB hp h
theorem lf {M : Slots → List Ob → Prop} {kp s' : Slots} {ob' : List Ob} (hM : M s' ob') (hs : Sub (s' ++ kp) s) (ks : List Nat) (hk : pickAll ob ks = some ob') (hn : ks.Nodup := by decide) :
  ∃ s' ob', M s' ob' ∧ Left (s' ++ kp) ob' ⟨s, ob⟩ := ⟨_, _, hM, hs, ks, hk, hn⟩
theorem subI {s : Slots} : ∀ {l : Slots}, l.map (fun p => get s p.1) = l.map (fun p => some p.2) → Sub l s
 | [], _ => trivial
 | (i, x) :: l, h => by
  simp only [List.map_cons, List.cons.injEq] at h
  exact ⟨h.1, subI h.2⟩
theorem lg {M : Slots → List Ob → Prop} {kp s' : Slots} {ob' : List Ob} (hM : M s' ob') (ks : List Nat) (hs : (s' ++ kp).map (fun p => get s p.1) = (s' ++ kp).map (fun p => some p.2) := by exact rfl)
  (hk : pickAll ob ks = some ob' := by exact rfl) (hn : ks.Nodup := by decide) :
  ∃ s' ob', M s' ob' ∧ Left (s' ++ kp) ob' ⟨s, ob⟩ := ⟨_, _, hM, subI hs, ks, hk, hn⟩
theorem AW.ch {t : Nat} {x y : Code} {Q : Exit → St → Prop} {b : Bool} {α : Type} {A B r : α} (h : (if b = true then A else B) = r) (hs : get s t = some (.v (.bool b)))
  (h1 : b = true → A = r → AW E n C x ⟨s, ob⟩ Q) (h2 : b = false → B = r → AW E n C y ⟨s, ob⟩ Q) : AW E n C (.cond (.tmp t) x y) ⟨s, ob⟩ Q :=
 AW.cond rfl hs (fun hb => h1 hb (ife_t hb h)) (fun hb => h2 hb (ife_f hb h))
section
variable {σ : St} {dst : Option Tmp} {ty : TypeId} {pos : String} {aft : Array Edge} {g : Option (Nat × Bool)}
theorem AX.lt {d : Nat} {t : TypeId} {m : Nat} {parts : Array (Nat × Operand)} {ti ei : TI} {e : Nat} {z : Value} {l : List T} (sz : Nat) (es : List (List T)) (k : R ⟨(d, .list sz es) :: s, ob⟩)
  (ht : E.tab t = some ti := by exact rfl) (hk : ti.kind = .slice e := by exact rfl) (he : E.tab e = some ei := by exact rfl) (hz : ei.zero = some z := by exact rfl) (h1 : z.cells.toList.all (·.oneCell') = true := by exact rfl)
  (hsz : ei.size = sz := by exact rfl) (hzs : z.cells.size = sz := by exact rfl) (hb : Nat.ble (m * sz) 16777216 = true := by exact rfl)
  (hm : Nat.ble m 16777216 = true := by exact rfl) (hf : fillT s (fun i => some (i * sz, sz)) (repT (zeroT z) m) parts.toList = some l := by exact rfl) (hr : rows sz m l = es := by exact rfl) (hd : Nat.blt d n = true := by exact rfl) :
  AX E n C [] ⟨some d, .buildSlice t m parts, ty, pos, aft, g⟩ ⟨s, ob⟩ R := AX.litF ht hk he hz h1 hsz hzs hb hm hf hr (dst_some hd) k
theorem AX.cg (ks : List Nat) {d : Nat} {c : Operand} {args : Array Operand} {tys : Array TypeId} {f : FuncId} {pre suf xs ys : List T} {fp : List Ob} {Rc : T → List Ob → List Ob → Prop} {R : St → Prop}
  (h : ACalls E f ys fp (fun x fp' => ∃ os new, fp' = os ++ new ∧ os.length = fp.length ∧ Rc x os new)) (k : ∀ x os new, os.length = fp.length → Rc x os new → R ⟨putS σ.slots (some d) x, setAll σ.objs ks os ++ new⟩)
  (hc : (evalT σ.slots c).bind fnT = some (f, pre, suf) := by exact rfl) (hx : evalL σ.slots args.toList = some xs := by exact rfl) (hys : pre ++ xs ++ suf = ys := by exact rfl)
  (hk : pickAll σ.objs ks = some fp := by exact rfl) (hkn : ks.Nodup := by decide) (hd : Nat.blt d n = true := by exact rfl) :
  AX E n C ks ⟨some d, .call { callee := .value c, args := args, argTypes := tys }, ty, pos, aft, g⟩ σ R := AX.callG ks hc hx hys hk hkn h (dst_some hd) k
theorem AX.ap {α : Type} {fr : α → List T} {la lm lr : List α} (ks : Nat) {d : Nat} {so x : Operand} {t : TypeId} {ti ei : TI} {e sz : Nat} {z v : Value} {R : St → Prop}
  (hks : σ.objs[ks]? = some (.us v e sz (la.map fr))) (ha : app? la lm = some lr)
  (k : ∀ v', R ⟨putS σ.slots (some d) (.v v'), σ.objs.set ks (.us v' e sz (lr.map fr))⟩)
  (hx : evalT σ.slots x = some (.list sz (lm.map fr)) := by exact rfl) (hs : evalT σ.slots so = some (.v v) := by exact rfl)
  (ht : E.tab t = some ti := by exact rfl) (hk : ti.kind = .slice e := by exact rfl) (he : E.tab e = some ei := by exact rfl) (hz : ei.zero = some z := by exact rfl) (hsz : ei.size = sz := by exact rfl)
  (hzs : z.cells.size = sz := by exact rfl) (hby : Nat.ble ei.bytes 2048 = true := by exact rfl) (hd : Nat.blt d n = true := by exact rfl) :
  AX E n C [ks] ⟨some d, .call { callee := .builtin .append, args := #[so, x], argTypes := #[t, t] }, ty, pos, aft, g⟩ σ R :=
 AX.appendU ks ht hk he hz hsz hzs hby hs hks (.list hx) (app_len (app_some ha).1) (app_map (app_some ha).2) (dst_some hd) k
end
theorem rt {E : Env} {fn : Func} {Rc : T → List Ob → Prop} {t : Nat} {x : T} (hf : fn.results.toList = [.tmp t]) (hx : get s t = some x) (hR : Rc x []) : Post E fn Rc .ret ⟨s, ob⟩ := ⟨.inr rfl, [x], [], by rw [hf]; exact ⟨hx, trivial⟩, List.nil_sublist _, hR⟩
end
theorem AX.c0 {E : Env} {n : Nat} {C : Ctx} {σ : St} {ty : TypeId} {pos : String} {aft : Array Edge} {g : Option (Nat × Bool)} (ks : List Nat) {d : Nat} {c : Operand} {args : Array Operand} {tys : Array TypeId} {f : FuncId} {pre suf xs ys : List T} {fp : List Ob} {X : T} {O N : List Ob} {R : St → Prop}
  (h : ACalls E f ys fp (Gives fp.length (fun x os new => x = X ∧ os = O ∧ new = N))) (k : R ⟨putS σ.slots (some d) X, setAll σ.objs ks O ++ N⟩)
  (hc : (evalT σ.slots c).bind fnT = some (f, pre, suf) := by exact rfl) (hx : evalL σ.slots args.toList = some xs := by exact rfl) (hys : pre ++ xs ++ suf = ys := by exact rfl)
  (hk : pickAll σ.objs ks = some fp := by exact rfl) (hkn : ks.Nodup := by decide) (hd : Nat.blt d n = true := by exact rfl) :
  AX E n C ks ⟨some d, .call { callee := .value c, args := args, argTypes := tys }, ty, pos, aft, g⟩ σ R :=
 AX.cg ks h (by rintro _ _ _ _ ⟨rfl, rfl, rfl⟩; exact k) hc hx hys hk hkn hd
theorem pr {E : Env} {fn : Func} {σ : St} {X : T} (h : ResR E σ.slots σ.objs fn.results.toList [X] := by exact ⟨rfl, True.intro⟩) : Post E fn (fun x new => x = X ∧ new = []) .ret σ := ⟨.inr rfl, [X], [], h, sl_n, rfl, rfl⟩
theorem g0 {n : Nat} {C : Ctx} {s : Slots} {ob : List Ob} : Ghost n C s ob s [] := Ghost.pick [] (K := []) rfl (by decide)
structure Yl where
 l : Nat
 fn : FuncId
 tmps : Array Value
 ps : Array Tmp
 assign : Code
 body : Code
 D : Nat
def Yl.lp (Y : Yl) (st : LoopState) (pe : Option Code) : Loop := { state := st, pending := pe, fn := Y.fn, tmps := Y.tmps, params := Y.ps, assign := Y.assign, body := Y.body, defers := Y.D }
def Yl.ob (Y : Yl) (st : LoopState) (pe : Option Code) : Ob := .raw Y.l (.loop (Y.lp st pe))
def jumpC : Exit → Option Code
 | .ret => some .ret
 | .exit id => some (.exit id)
 | _ => none
def setP : List Tmp → List T → Slots → Slots
 | t :: ts, x :: xs, s => setP ts xs ((t, x) :: s)
 | _, _, s => s
section
variable {E : Env} {n : Nat} {C : Ctx} {s : Slots} {ob : List Ob} {Q : Exit → St → Prop} {R : St → Prop} {Y : Yl}
def Entry (H : GH) (w : World) (fp : List Ob) : Prop := ((∀ b o, H b = some o → w.heap[b]? = some o) ∧ Held H) ∧ (∀ p, p ∈ fp → OR H w p ∧ ∀ b, b ∈ p.fp → H b = none) ∧ (fp.flatMap Ob.fp).Nodup
def Round (E : Env) (H0 : GH) (Y : Yl) (v : List T) (ob : List Ob) (K : List Ob → Prop) (X : Exit → List Ob → Prop) : Prop :=
 ∀ (H : GH) (w : World) (vs : Array Value), vs.size = v.length → (∀ (i : Nat) (x : T), v[i]? = some x → VR H (vs.getD i undef) x) → (∀ b o, H0 b = some o → H b = some o) → Entry H w (Y.ob .ready none :: ob) →
  ∃ tmps, (Instr.yield Y.l vs).run E.P w = .ok (.round Y.l Y.fn tmps Y.assign Y.body) w ∧ RoundIn Fence.wide 0 E.P Y.l Y.fn tmps Y.assign Y.body w fun e w' => ∃ b H' fp', e = .returned (.bool b) ∧
   Leaves H w (Y.ob .ready none :: ob) w' H' fp' ∧ ((b = true ∧ ∃ ob', K ob' ∧ fp' = Y.ob .ready none :: ob') ∨ (b = false ∧ ∃ x c ob', jumpC x = some c ∧ X x ob' ∧ fp' = Y.ob .done (some c) :: ob'))
theorem setP_slots {H : GH} : ∀ (ps : List Tmp) (v : List T) (vs : List Value) (tm : Array Value) (S : Slots), ps.length = v.length → vs.length = v.length → ps.all (fun t => Nat.blt t n) = true → tm.size = n →
  (∀ (i : Nat) (x : T), v[i]? = some x → VR H (vs.getD i undef) x) → (∀ i x, get S i = some x → VR H (tm.getD i undef) x) →
  ((ps.zip vs).foldl (fun t (p : Tmp × Value) => t.setIfInBounds p.1 p.2) tm).size = n ∧ ∀ i x, get (setP ps v S) i = some x → VR H (((ps.zip vs).foldl (fun t (p : Tmp × Value) => t.setIfInBounds p.1 p.2) tm).getD i undef) x
 | [], [], [], tm, S, _, _, _, hn, _, hS => ⟨by simpa using hn, by simpa [setP] using hS⟩
 | t :: ts, x :: xs, y :: ys, tm, S, h1, h2, h3, hn, hv, hS => by
  simp only [List.all_cons, Bool.and_eq_true] at h3
  have ht : t < n := Nat.le_of_ble_eq_true h3.1
  refine setP_slots ts xs ys (tm.setIfInBounds t y) ((t, x) :: S) (by simpa using h1) (by simpa using h2) h3.2 (by simpa using hn) (fun i z hz => by simpa using hv (i + 1) z (by simpa using hz)) ?_
  intro i z hz
  simp only [get] at hz
  cases hb : Nat.beq t i with
  | true =>
   have := Nat.eq_of_beq_eq_true hb
   subst this
   rw [hb, cond_true] at hz
   cases hz
   have h0 := hv 0 x (by simp)
   have : t < tm.size := by rw [hn]; exact ht
   simpa [Array.getD, this] using h0
  | false =>
   rw [hb, cond_false] at hz
   have hne : t ≠ i := fun h => by rw [h] at hb; simp at hb
   have he : (tm.setIfInBounds t y).getD i undef = tm.getD i undef := by simp [Array.getD_eq_getD_getElem?, Array.getElem?_setIfInBounds_ne hne]
   rw [he]; exact hS i z hz
 | [], _ :: _, _, _, _, h1, _, _, _, _, _ => by simp at h1
 | _ :: _, [], _, _, _, h1, _, _, _, _, _ => by simp at h1
 | [], [], _ :: _, _, _, _, h2, _, _, _, _ => by simp at h2
 | _ :: _, _ :: _, [], _, _, _, h2, _, _, _, _ => by simp at h2
def OL (ob' : List Ob) (σ : St) : Prop := ∃ ks, pickAll σ.objs ks = some ob' ∧ ks.Nodup
theorem OL.gam {H : GH} {a : Act} {w : World} {σ : St} {ob' : List Ob} (h : OL ob' σ) (gm : Gam n C σ H a w) : Gam n C ⟨[], ob'⟩ H a w := by
 obtain ⟨ks, h1, h2⟩ := h
 obtain ⟨p1, p2⟩ := pickAll_mem h1
 have hm : ∀ (i : Nat) (p : Ob), ob'[i]? = some p → ∃ k, ks[i]? = some k ∧ σ.objs[k]? = some p := by
  intro i p hi
  have hil := (List.getElem?_eq_some_iff.1 hi).1
  obtain ⟨o, q1, q2⟩ := p2 i ks[i] (List.getElem?_eq_getElem (by omega))
  rw [hi] at q2; cases q2
  exact ⟨_, List.getElem?_eq_getElem (by omega), q1⟩
 have hmem : ∀ p, p ∈ ob' → p ∈ σ.objs := fun p hp => by
  obtain ⟨i, hi⟩ := List.mem_iff_getElem?.1 hp
  obtain ⟨k, _, hk⟩ := hm i p hi
  exact List.mem_of_getElem? hk
 refine { gm with slots := fun i x h => by simp [get] at h, objs := fun p hp => gm.objs p (hmem p hp), free := fun p hp => gm.free p (hmem p hp), new := fun p hp => gm.new p (hmem p hp), nodup := ?_ }
 refine nodup_places.2 ⟨fun i p hi => ?_, fun i j p q hi hj hne b hb => ?_⟩
 ·obtain ⟨k, _, hk⟩ := hm i p hi
  exact (nodup_places.1 gm.nodup).1 k p hk
 ·obtain ⟨k, k1, k2⟩ := hm i p hi
  obtain ⟨k', k1', k2'⟩ := hm j q hj
  refine at_ne gm.nodup k2 k2' (fun he => hne ?_) b hb
  exact (List.getElem?_inj (List.getElem?_eq_some_iff.1 k1).1 h2).1 (by rw [k1, k1', he])
theorem Round.of_body {H0 : GH} {S S1 : Slots} {v : List T} {K : List Ob → Prop} {X : Exit → List Ob → Prop} (hY : Y.tmps.size = n) (hS : ∀ i x, get S i = some x → VR H0 (Y.tmps.getD i undef) x)
  (hps : Y.ps.toList.length = v.length) (hpn : Y.ps.toList.all (fun t => Nat.blt t n) = true) (hn1 : nd Y.assign = true) (hn2 : nd Y.body = true)
  (ha : ∀ C : Ctx, AW E n C Y.assign ⟨setP Y.ps.toList v S, ob⟩ (fun e σ' => e = .normal ∧ σ' = ⟨S1, ob⟩))
  (hb : ∀ C : Ctx, C.fp = ob.flatMap Ob.fp → AW E n C Y.body ⟨S1, ob⟩ (fun e σ' => ∃ ob', OL ob' σ' ∧ ((e = .normal ∧ K ob') ∨ ∃ c, jumpC e = some c ∧ X e ob'))) : Round E H0 Y v ob K X := by
 intro H w vs hvs hv h0 ⟨⟨hheld, hg⟩, hfp, hnd⟩
 have hl : w.heap[Y.l]? = some (.loop (Y.lp .ready none)) := (hfp (Y.ob .ready none) (by simp)).1
 have hlH : H Y.l = none := (hfp (Y.ob .ready none) (by simp)).2 _ (by simp [Yl.ob, Ob.fp])
 have hll : Y.l < w.heap.size := (Array.getElem?_eq_some_iff.1 hl).1
 have hlo : ∀ p, p ∈ ob → ∀ b, b ∈ p.fp → b ≠ Y.l := by
  intro p hp b hb he
  rw [List.flatMap_cons, List.nodup_append] at hnd
  exact hnd.2.2 Y.l (by simp [Yl.ob, Ob.fp]) b (List.mem_flatMap.2 ⟨p, hp, hb⟩) he.symm
 have hlo' : Y.l ∉ ob.flatMap Ob.fp := fun h => by obtain ⟨p, hp, hb⟩ := List.mem_flatMap.1 h; exact hlo p hp _ hb rfl
 have hnd' : (ob.flatMap Ob.fp).Nodup := by rw [List.flatMap_cons, List.nodup_append] at hnd; exact hnd.2.1
 have hyr := run_yield (P := E.P) (args := vs) hl (by rw [hvs, ← hps]; simp [Yl.lp])
 refine ⟨_, hyr, roundIn_of_wpIn trivial ?_⟩
 have htm : ((Y.ps.zip vs).foldl (fun t (p : Tmp × Value) => t.setIfInBounds p.1 p.2) Y.tmps) = ((Y.ps.toList.zip vs.toList).foldl (fun t (p : Tmp × Value) => t.setIfInBounds p.1 p.2) Y.tmps) := by
  rw [← Array.foldl_toList, Array.toList_zip]
 obtain ⟨t1, t2⟩ := setP_slots (n := n) (H := H) Y.ps.toList v vs.toList Y.tmps S hps (by simpa using hvs) hpn hY (fun i x hx => by simpa [Array.getD_eq_getD_getElem?, List.getD] using hv i x hx) (fun i x hx => (hS i x hx).mono h0)
 rw [← htm] at t1 t2
 have gm1 : Gam n ⟨w, H, ob.flatMap Ob.fp, hg⟩ ⟨setP Y.ps.toList v S, ob⟩ H { tmps := (Y.ps.zip vs).foldl (fun t (p : Tmp × Value) => t.setIfInBounds p.1 p.2) Y.tmps, defers := [] } w :=
  ⟨.nil, t1, t2, fun p hp => (hfp p (by simp [hp])).1, fun p hp => (hfp p (by simp [hp])).2, fun p hp b hb => .inr (List.mem_flatMap.2 ⟨p, hp, hb⟩), hnd', hheld, fun _ _ h => h, Nat.le_refl _, fun _ _ _ => ⟨rfl, rfl⟩, ⟨rfl, rfl, rfl⟩⟩
 refine wpIn_mono (ha _ H _ w gm1 (some Y.l) (fun _ => hn1)) ?_
 rintro e a1 w1 ⟨σ1, H2, ⟨rfl, rfl⟩, gm3⟩
 have hl1 : w1.heap[Y.l]? = some (.loop (Y.lp .ready none)) := ((gm3.frame Y.l hll hlo').1).trans hl
 have hl1H : H2 Y.l = none := ((gm3.frame Y.l hll hlo').2).trans hlH
 have hl1l : Y.l < w1.heap.size := (Array.getElem?_eq_some_iff.1 hl1).1
 refine ⟨_, run_beginRound hl1 rfl, ?_⟩
 obtain ⟨bz, hbz⟩ : ∃ bz, bz = Obj.loop { Y.lp .ready none with state := .busy } := ⟨_, rfl⟩
 rw [← hbz]
 have ho1 : ∀ b, b ≠ Y.l → (w1.putObj Y.l bz).heap[b]? = w1.heap[b]? := fun b hb => World.putObj_heap_other hb
 have ho0 : ∀ b, b ≠ Y.l → (w.putObj Y.l bz).heap[b]? = w.heap[b]? := fun b hb => World.putObj_heap_other hb
 have gm4 : Gam n ⟨w.putObj Y.l bz, H, ob.flatMap Ob.fp, hg⟩ ⟨S1, ob⟩ H2 a1 (w1.putObj Y.l bz) := by
  refine ⟨by have := gm3.defers; simpa using this, gm3.size, gm3.slots, fun p hp => (gm3.objs p hp).mono (fun _ _ h => h) (fun b hb => ho1 b (hlo p hp b hb)), gm3.free, fun p hp b hb => .inr (List.mem_flatMap.2 ⟨p, hp, hb⟩), gm3.nodup, fun b o hb => ?_, gm3.grow, by simpa using gm3.heap, fun b hb hf => ?_, gm3.env⟩
  ·have : b ≠ Y.l := fun he => by rw [he, hl1H] at hb; cases hb
   rw [ho1 b this]; exact gm3.held b o hb
  ·by_cases hbl : b = Y.l
   ·subst hbl
    refine ⟨?_, hl1H.trans hlH.symm⟩
    rw [World.putObj_heap_same hl1l, World.putObj_heap_same hll]
   ·have := gm3.frame b (by simpa using hb) hf
    exact ⟨(ho1 b hbl).trans (this.1.trans (ho0 b hbl).symm), this.2⟩
 refine wpIn_mono (hb ⟨w.putObj Y.l bz, H, ob.flatMap Ob.fp, hg⟩ rfl H2 a1 _ gm4 (some Y.l) (fun _ => hn2)) ?_
 rintro e a2 w2 ⟨σ2, H3, ⟨ob', hol, hq⟩, gm5⟩
 have gm6 := hol.gam gm5
 have hf2 := gm6.frame Y.l (by simpa using hll) hlo'
 have hl2 : w2.heap[Y.l]? = some bz := hf2.1.trans (World.putObj_heap_same hll)
 have hl2H : H3 Y.l = none := hf2.2.trans hlH
 have hl2l : Y.l < w2.heap.size := (Array.getElem?_eq_some_iff.1 hl2).1
 rw [hbz] at hl2
 have fin : ∀ (jump : Option Code), (Instr.endRound Y.l jump).run E.P w2 = .ok (.bool jump.isNone) (w2.putObj Y.l (.loop (Y.lp (if jump.isNone then .ready else .done) jump))) ∧
   Leaves H w (Y.ob .ready none :: ob) (w2.putObj Y.l (.loop (Y.lp (if jump.isNone then .ready else .done) jump))) H3 (Y.ob (if jump.isNone then .ready else .done) jump :: ob') := by
  intro jump
  refine ⟨run_endRound jump hl2, gm6.grow, fun b o hb => ?_, fun p hp => ?_, ?_, by have := gm6.heap; simpa using this, gm6.env, fun b hb hf => ?_⟩
  ·have : b ≠ Y.l := fun he => by rw [he, hl2H] at hb; cases hb
   rw [World.putObj_heap_other this]; exact gm6.held b o hb
  ·rcases List.mem_cons.1 hp with rfl | hp
   ·refine ⟨World.putObj_heap_same hl2l, fun b hb => ?_⟩
    simp only [Yl.ob, Ob.fp, List.mem_singleton] at hb
    subst hb
    exact ⟨hl2H, .inr (by simp [Yl.ob, Ob.fp])⟩
   ·have hne : ∀ b, b ∈ p.fp → b ≠ Y.l := by
     intro b hb he
     rcases gm6.new p hp b hb with h | h
     ·have h' : w.heap.size ≤ b := by simpa using h
      omega
     ·exact hlo' (he ▸ h)
    refine ⟨(gm6.objs p hp).mono (fun _ _ h => h) (fun b hb => World.putObj_heap_other (hne b hb)), fun b hb => ⟨gm6.free p hp b hb, ?_⟩⟩
    rcases gm6.new p hp b hb with h | h
    ·exact .inl (by simpa using h)
    ·exact .inr (by rw [List.flatMap_cons]; exact List.mem_append_right _ h)
  ·rw [List.flatMap_cons, List.nodup_append]
   refine ⟨by simp [Yl.ob, Ob.fp], gm6.nodup, ?_⟩
   intro x hx y hy hxy
   simp only [Yl.ob, Ob.fp, List.mem_singleton] at hx
   subst hx hxy
   obtain ⟨p, hp, hb⟩ := List.mem_flatMap.1 hy
   rcases gm6.new p hp _ hb with h | h
   ·have h' : w.heap.size ≤ Y.l := by simpa using h
    omega
   ·exact hlo' h
  ·rw [List.flatMap_cons, List.mem_append, not_or] at hf
   have hbl : b ≠ Y.l := fun he => hf.1 (by simp [Yl.ob, Ob.fp, he])
   have := gm6.frame b (by simpa using hb) hf.2
   exact ⟨(World.putObj_heap_other hbl).trans (this.1.trans (ho0 b hbl)), this.2⟩
 rcases hq with ⟨rfl, hK⟩ | ⟨c, hc, hX⟩
 ·obtain ⟨f1, f2⟩ := fin none
  exact ⟨_, _, f1, true, H3, _, rfl, f2, .inl ⟨rfl, ob', hK, rfl⟩⟩
 ·cases e with
  | ret =>
   obtain ⟨f1, f2⟩ := fin (some .ret)
   exact ⟨_, _, f1, false, H3, _, rfl, f2, .inr ⟨rfl, _, _, ob', rfl, hX, rfl⟩⟩
  | exit id =>
   obtain ⟨f1, f2⟩ := fin (some (.exit id))
   exact ⟨_, _, f1, false, H3, _, rfl, f2, .inr ⟨rfl, _, _, ob', rfl, hX, rfl⟩⟩
  | _ => simp [jumpC] at hc
theorem AO.yield {ops : Array Oper} {l : List Oper} {d : Nat} {c : Operand} {args : Array Operand} {tys : Array TypeId} {ty : TypeId} {pos : String} {aft : Array Edge} {v : List T} {its : List Ob} {K : List Ob → Prop} {X : Exit → List Ob → Prop} (hR : Round E C.H0 Y v ob K X)
  (hc : evalT s c = some (.v (.func (.yield Y.l) #[] #[]))) (hx : evalL s args.toList = some v) (hd : Nat.blt d n = true)
  (k1 : ∀ ob', K ob' → AO E n C ops l ⟨(d, .v (.bool true)) :: s, Y.ob .ready none :: (ob' ++ its)⟩ R)
  (k2 : ∀ x c ob', jumpC x = some c → X x ob' → AO E n C ops l ⟨(d, .v (.bool false)) :: s, Y.ob .done (some c) :: (ob' ++ its)⟩ R) :
  AO E n C ops (⟨some d, .call { callee := .value c, args := args, argTypes := tys }, ty, pos, aft, none⟩ :: l) ⟨s, Y.ob .ready none :: (ob ++ its)⟩ R := by
 intro H a w gm
 simp only [wpL]
 rw [if_pos (by simp [Region.wanted])]
 refine ⟨fun _ _ => trivial, ?_⟩
 obtain ⟨q1, q2⟩ := evalL_spec gm.sr hx
 have hev : a.eval c = .func (.yield Y.l) #[] #[] := (gm.sr.eval hc).v_eq
 have hsub : ∀ p, p ∈ Y.ob .ready none :: ob → p ∈ Y.ob .ready none :: (ob ++ its) := fun p hp => by
  rcases List.mem_cons.1 hp with h | h
  ·exact List.mem_cons.2 (.inl h)
  ·exact List.mem_cons.2 (.inr (List.mem_append_left _ h))
 have hnd := gm.nodup
 have hnd1 : ((Y.ob .ready none :: ob).flatMap Ob.fp).Nodup := (sublist_flatMap (List.Sublist.cons_cons _ (List.sublist_append_left ob its))).nodup hnd
 have hits : ∀ p, p ∈ its → ∀ b, b ∈ p.fp → b ∉ (Y.ob .ready none :: ob).flatMap Ob.fp := by
  intro p hp b hb hm
  have h1 : ((Y.ob .ready none :: (ob ++ its)).flatMap Ob.fp) = (Y.ob .ready none :: ob).flatMap Ob.fp ++ its.flatMap Ob.fp := by simp
  dsimp only at hnd
  rw [h1, List.nodup_append] at hnd
  exact hnd.2.2 b hm b (List.mem_flatMap.2 ⟨p, hp, hb⟩) rfl
 obtain ⟨tmps, y1, y2⟩ := hR H w (args.map a.eval) (by simpa using q1) (fun i x hi => by
  have := q2 i x hi
  simpa [Array.getD_eq_getD_getElem?, List.getD] using this) gm.grow ⟨⟨gm.held, fun b l h => (C.hg b l h).mono gm.grow⟩, fun p hp => ⟨gm.objs p (hsub p hp), gm.free p (hsub p hp)⟩, hnd1⟩
 have hrun : (Oper.semAt Fence.wide.round a.eval ⟨some d, .call { callee := .value c, args := args, argTypes := tys }, ty, pos, aft, none⟩).run E.P w = .ok (.round Y.l Y.fn tmps Y.assign Y.body) w := by
  change (execOp a.eval ⟨some d, .call { callee := .value c, args := args, argTypes := tys }, ty, pos, aft, none⟩).run E.P w = _
  simp [execOp, resolve, hev, Deferred.ofValue, invoke, y1]
 rw [hrun]
 refine ⟨fun h => (by cases h), y2.mono ?_⟩
 rintro e w' ⟨b, H', fp', rfl, ⟨l1, l2, l3, l4, l5, l6, l7⟩, hq⟩
 have hnd2 : ∀ p, p ∈ its → ∀ b, b ∈ p.fp → b ∉ fp'.flatMap Ob.fp := by
  intro p hp b hb hm
  obtain ⟨q, hq, hbq⟩ := List.mem_flatMap.1 hm
  have hpm : p ∈ Y.ob .ready none :: (ob ++ its) := by simp [hp]
  rcases ((l3 q hq).2 b hbq).2 with h | h
  ·have := (gm.objs p hpm).lt b hb; omega
  ·exact hits p hp b hb h
 have g2 : Gam n C ⟨s, fp' ++ its⟩ H' a w' := by
  refine Gam.called (σ := ⟨s, Y.ob .ready none :: (ob ++ its)⟩) gm (fp := Y.ob .ready none :: ob) (fp' := fp') hsub l1 l2 l3 l5 l6 l7 (fun p hp => ?_) ?_
  ·rcases List.mem_append.1 hp with h | h
   ·exact .inl h
   ·exact .inr ⟨by simp [h], hits p h⟩
  ·rw [List.flatMap_append, List.nodup_append]
   refine ⟨l4, ?_, fun x hx y hy hxy => ?_⟩
   ·have : its.Sublist (Y.ob .ready none :: (ob ++ its)) := (List.sublist_append_right ob its).cons _
    exact (sublist_flatMap this).nodup hnd
   ·subst hxy
    obtain ⟨p, hp, hb⟩ := List.mem_flatMap.1 hy
    exact hnd2 p hp x hb hx
 have hd' : ∀ d', some d = some d' → d' < n := dst_some hd
 rcases hq with ⟨rfl, ob', hK, rfl⟩ | ⟨rfl, x, c', ob', hj, hX, rfl⟩
 ·have := g2.put (dst := some d) (v := .bool true) (x := .v (.bool true)) (.v _) hd'
  exact k1 ob' hK H' _ w' this
 ·have := g2.put (dst := some d) (v := .bool false) (x := .v (.bool false)) (.v _) hd'
  exact k2 x c' ob' hj hX H' _ w' this
def VS (n : Nat) (C : Ctx) (σ : St) (P : St → Prop) : Prop := ∀ H a w, Gam n C σ H a w → ∃ σ' H', P σ' ∧ Gam n C σ' H' a w
theorem VS.ret {σ : St} {P : St → Prop} (h : P σ) : VS n C σ P := fun H a w gm => ⟨σ, H, h, gm⟩
theorem VS.ghost {s' : Slots} {ob' : List Ob} {P : St → Prop} (g : Ghost n C s ob s' ob') (k : VS n C ⟨s', ob'⟩ P) : VS n C ⟨s, ob⟩ P := fun H a w gm => let ⟨H', _, gm'⟩ := g H a w gm; k H' a w gm'
theorem AW.range {g : Operand} {ps : Array Tmp} {assign body : Code} {f : FuncId} {caps : List T} {fn : Func} {c : Code} (hg : (evalT s g).bind fnT = some (f, [], caps)) (hf : E.P.funcs[f]? = some fn) (hb : fn.body = some c) (hname : (fn.name == "runtime.NumGoroutine") = false)
  (hn : Nat.ble (caps.length + 1) fn.ntmps = true) (X : Exit → List Ob → Prop) (Z : List Ob → Prop)
  (walk : ∀ (Y : Yl) (C : Ctx), Y.ps = ps → Y.assign = assign → Y.body = body → Y.tmps.size = n → (∀ i x, get s i = some x → VR C.H0 (Y.tmps.getD i undef) x) →
   AW E fn.ntmps C c ⟨argS 0 (.v (.func (.yield Y.l) #[] #[]) :: caps), Y.ob .ready none :: ob⟩ (Post E fn (fun _ fp' => (∃ ob', Z ob' ∧ fp' = Y.ob .ready none :: ob') ∨ ∃ x c ob', jumpC x = some c ∧ X x ob' ∧ fp' = Y.ob .done (some c) :: ob')))
  (kz : ∀ ob', Z ob' → VS n C ⟨s, ob'⟩ (Q .normal)) (kx : ∀ x ob', X x ob' → Q x ⟨s, ob'⟩) : AW E n C (.rangeFunc g ps assign body) ⟨s, ob⟩ Q := by
 intro H a w gm ro hro
 cases ro with
 | some l => exact absurd (hro rfl) (by simp [nd])
 | none =>
 refine wpIn_rangeFunc ?_
 intro fid _
 obtain ⟨y, hy, hfn⟩ := Option.bind_eq_some_iff.1 hg
 obtain ⟨first, captured, hev, z1, z2, z3, z4⟩ := fnT_spec (gm.sr.eval hy) hfn
 have hfirst : first = #[] := by simpa using z1
 subst hfirst
 obtain ⟨Y, hY⟩ : ∃ Y : Yl, Y = ⟨w.heap.size + 1, fid, a.tmps, ps, assign, body, w.heap.size⟩ := ⟨_, rfl⟩
 obtain ⟨wD, hwD⟩ : ∃ wD, wD = w.alloc (.deferred (some [])) := ⟨_, rfl⟩
 obtain ⟨w1, hw1⟩ : ∃ w1, w1 = wD.alloc (.loop (Y.lp .ready none)) := ⟨_, rfl⟩
 have hsD : wD.heap.size = w.heap.size + 1 := by rw [hwD]; simp
 have hs1 : w1.heap.size = w.heap.size + 2 := by rw [hw1]; simp [hsD]
 have hDold : ∀ b, b < w.heap.size → w1.heap[b]? = w.heap[b]? := fun b hb => by
  rw [hw1, heap_alloc_old wD _ (by omega), hwD, heap_alloc_old w _ hb]
 have hDD : w1.heap[w.heap.size]? = some (.deferred (some [])) := by
  rw [hw1, heap_alloc_old wD _ (by omega), hwD]; exact World.alloc_heap_new w _
 have hll : w1.heap[Y.l]? = some (.loop (Y.lp .ready none)) := by
  have : Y.l = wD.heap.size := by rw [hY, hsD]
  rw [hw1, this]; exact World.alloc_heap_new wD _
 have hYl : Y.l = w.heap.size + 1 := by rw [hY]
 have hYt : Y.tmps = a.tmps := by rw [hY]
 obtain ⟨HD, hHD⟩ : ∃ HD : GH, HD = fun b => if b = w.heap.size then some (.deferred (some [])) else H b := ⟨_, rfl⟩
 have hlt : ∀ b o, H b = some o → b < w.heap.size := fun b o h => (Array.getElem?_eq_some_iff.1 (gm.held b o h)).1
 have hHHD : ∀ b o, H b = some o → HD b = some o := fun b o h => by
  have := hlt b o h
  rw [hHD]; simp only [show b ≠ w.heap.size by omega, if_false]; exact h
 have hHDlt : ∀ b, b ≠ w.heap.size → HD b = H b := fun b hb => by rw [hHD]; simp only [hb, if_false]
 have hheldD : ∀ b o, HD b = some o → w1.heap[b]? = some o := fun b o h => by
  by_cases hb : b = w.heap.size
  ·rw [hHD] at h; simp only [hb, if_true] at h; rw [hb]; rw [hDD]; exact h
  ·rw [hHDlt b hb] at h; rw [hDold b (hlt b o h)]; exact gm.held b o h
 have hHl : ∀ b, w.heap.size < b → HD b = none := fun b hb => by
  rw [hHDlt b (by omega)]
  cases h : H b with
  | none => rfl
  | some o => have := hlt b o h; omega
 have hobl : ∀ p, p ∈ ob → ∀ b, b ∈ p.fp → b < w.heap.size := fun p hp b hb => (gm.objs p hp).lt b hb
 have hent : Entry HD w1 (Y.ob .ready none :: ob) := by
  refine ⟨⟨hheldD, fun b l h => (C.hg b l h).mono (fun b o h => hHHD b o (gm.grow b o h))⟩, fun p hp => ?_, ?_⟩
  ·rcases List.mem_cons.1 hp with rfl | hp
   ·refine ⟨hll, fun b hb => ?_⟩
    simp only [Yl.ob, Ob.fp, List.mem_singleton] at hb
    exact hHl b (by omega)
   ·refine ⟨(gm.objs p hp).mono hHHD (fun b hb => hDold b (hobl p hp b hb)), fun b hb => ?_⟩
    rw [hHDlt b (by have := hobl p hp b hb; omega)]; exact gm.free p hp b hb
  ·rw [List.flatMap_cons, List.nodup_append]
   refine ⟨by simp [Yl.ob, Ob.fp], gm.nodup, fun x hx y hy hxy => ?_⟩
   simp only [Yl.ob, Ob.fp, List.mem_singleton] at hx
   obtain ⟨p, hp, hb⟩ := List.mem_flatMap.1 hy
   have := hobl p hp y hb
   omega
 have hcall := ACalls.at_body (E := E) hf hb (xs := .v (.func (.yield Y.l) #[] #[]) :: caps) (by simpa using hn) (H := HD) (w := w1) (vs := #[.func (.yield Y.l) #[] #[]] ++ captured) (by simp [z2]; omega)
  (fun i x hi => by
   cases i with
   | zero => simp at hi; subst hi; simpa [Array.getD_eq_getD_getElem?, Array.getElem?_append] using VR.v _
   | succ i =>
    have := (z4 i x (by simpa using hi)).mono hHHD
    simpa [Array.getD_eq_getD_getElem?, Array.getElem?_append, List.getD] using this)
  hent.1 hent.2.1 hent.2.2 (walk Y ⟨w1, HD, _, hent.1.2⟩ (by rw [hY]) (by rw [hY]) (by rw [hY]) (by rw [hY]; exact gm.size) (fun i x hx => hYt.symm ▸ (gm.slots i x hx).mono hHHD))
 refine ⟨Y.l, [{ target := .collected w.heap.size, args := #[] }], w1, { target := .fn (.func f) captured, args := #[.func (.yield Y.l) #[] #[]] }, w1, f, #[.func (.yield Y.l) #[] #[]] ++ captured, w1, ?_, ?_, fun _ _ => trivial, ?_, fun h => (by cases h), ?_⟩
 ·have := run_enterLoop_outer (P := E.P) (w := w) fid a.tmps ps assign body
  rw [hYl, hw1, hwD, hY]; exact this
 ·simp [resolve, hev, Deferred.ofValue]; rfl
 ·have f3 : ¬ fn.body = none := by rw [hb]; simp
  have f2 : ¬ fn.name = "runtime.NumGoroutine" := by simpa using hname
  simp [invoke, callFunc, hf, f2, f3]
 ·refine (callsIn_wide.2 hcall).mono ?_
  rintro e w3 ⟨v, x, fp', H3, rfl, hq, _, ⟨l1, l2, l3, l4, l5, l6, l7⟩⟩
  have fin : ∀ (st : LoopState) (pe : Option Code) (ob' : List Ob), st ≠ .busy → fp' = Y.ob st pe :: ob' → (Instr.endLoop Y.l).run E.P w3 = .ok pe (w3.putObj Y.l (.loop { Y.lp st pe with state := .exhausted })) ∧
    Gam n C ⟨s, ob'⟩ H3 { a with defers := { target := .collected w.heap.size, args := #[] } :: a.defers } (w3.putObj Y.l (.loop { Y.lp st pe with state := .exhausted })) := by
   intro st pe ob' hst he
   subst he
   have hl3 : w3.heap[Y.l]? = some (.loop (Y.lp st pe)) := (l3 (Y.ob st pe) (by simp)).1
   have hl3H : H3 Y.l = none := ((l3 (Y.ob st pe) (by simp)).2 Y.l (by simp [Yl.ob, Ob.fp])).1
   have hoth : ∀ b, b ≠ Y.l → (w3.putObj Y.l (.loop { Y.lp st pe with state := .exhausted })).heap[b]? = w3.heap[b]? := fun b hb => World.putObj_heap_other hb
   have hne : ∀ p, p ∈ ob' → ∀ b, b ∈ p.fp → b ≠ Y.l := fun p hp b hb he => by
    rw [List.flatMap_cons, List.nodup_append] at l4
    exact l4.2.2 Y.l (by simp [Yl.ob, Ob.fp]) b (List.mem_flatMap.2 ⟨p, hp, hb⟩) he.symm
   refine ⟨run_endLoop hl3 hst, ⟨?_, gm.size, fun i x hx => (gm.slots i x hx).mono (fun b o h => l1 _ _ (hHHD _ _ h)), fun p hp => (l3 p (by simp [hp])).1.mono (fun _ _ h => h) (fun b hb => hoth b (hne p hp b hb)), fun p hp b hb => ((l3 p (by simp [hp])).2 b hb).1, fun p hp b hb => ?_, ?_, fun b o hb => ?_, fun b o hb => l1 _ _ (hHHD _ _ (gm.grow _ _ hb)), ?_, fun b hb hf => ?_, ?_⟩⟩
   ·refine ⟨List.nodup_cons.2 ⟨fun hm => ?_, gm.defers.1⟩, fun d hd => ?_⟩
    ·obtain ⟨b, e1, e2, e3⟩ := gm.defers.2 _ hm
     have := hlt b _ e2
     simp only [Deferred.mk.injEq, Target.collected.injEq] at e1
     omega
    ·rcases List.mem_cons.1 hd with rfl | hd
     ·exact ⟨w.heap.size, rfl, l1 _ _ (by rw [hHD]; simp), gm.heap⟩
     ·obtain ⟨b, e1, e2, e3⟩ := gm.defers.2 d hd
      exact ⟨b, e1, l1 _ _ (hHHD _ _ e2), e3⟩
   ·rcases ((l3 p (by simp [hp])).2 b hb).2 with h | h
    ·exact .inl (Nat.le_trans gm.heap (by omega))
    ·rw [List.flatMap_cons, List.mem_append] at h
     rcases h with h | h
     ·simp only [Yl.ob, Ob.fp, List.mem_singleton] at h
      exact absurd h (hne p hp b hb)
     ·obtain ⟨q, hq, hbq⟩ := List.mem_flatMap.1 h
      exact gm.new q hq b hbq
   ·rw [List.flatMap_cons, List.nodup_append] at l4; exact l4.2.1
   ·have : b ≠ Y.l := fun he => by rw [he, hl3H] at hb; cases hb
    rw [hoth b this]; exact l2 _ _ hb
   ·have := gm.heap; simp; omega
   ·have hb' : b < w.heap.size := Nat.lt_of_lt_of_le hb gm.heap
    have hbl : b ≠ Y.l := by omega
    have hnf : b ∉ (Y.ob .ready none :: ob).flatMap Ob.fp := fun hm => by
     rw [List.flatMap_cons, List.mem_append] at hm
     rcases hm with h | h
     ·simp only [Yl.ob, Ob.fp, List.mem_singleton] at h; exact hbl h
     ·obtain ⟨q, hq, hbq⟩ := List.mem_flatMap.1 h
      rcases gm.new q hq b hbq with h | h
      ·omega
      ·exact hf h
    have h7 := l7 b (by omega) hnf
    have hfr := gm.frame b hb hf
    refine ⟨(hoth b hbl).trans (h7.1.trans ((hDold b hb').trans hfr.1)), h7.2.trans ((hHDlt b (by omega)).trans hfr.2)⟩
   ·have e := gm.env
    obtain ⟨e1, e2, e3⟩ := l6
    rw [hw1, hwD] at e1 e2 e3
    exact ⟨e1.trans e.1, e2.trans e.2.1, e3.trans e.2.2⟩
  rcases hq with ⟨ob', hZ, he⟩ | ⟨x, c', ob', hj, hX, he⟩
  ·obtain ⟨f1, f2⟩ := fin _ _ ob' (by simp) he
   exact ⟨none, _, f1, kz ob' hZ H3 _ _ f2⟩
  ·obtain ⟨f1, f2⟩ := fin _ _ ob' (by simp) he
   refine ⟨some c', _, f1, ?_⟩
   cases x with
   | ret => simp only [jumpC, Option.some.injEq] at hj; subst hj; exact wpIn_ret ⟨_, H3, kx _ ob' hX, f2⟩
   | exit id => simp only [jumpC, Option.some.injEq] at hj; subst hj; exact wpIn_exit ⟨_, H3, kx _ ob' hX, f2⟩
   | _ => simp [jumpC] at hj
def Itr (E : Env) (f : FuncId) (caps : List T) (need : List Ob → Prop) (vals : List (List T)) : Prop :=
 ∃ fn c, E.P.funcs[f]? = some fn ∧ fn.body = some c ∧ (fn.name == "runtime.NumGoroutine") = false ∧ Nat.ble (caps.length + 1) fn.ntmps = true ∧
  ∀ (C : Ctx) (Y : Yl) (J : Nat → List Ob → Prop) (X : Exit → List Ob → Prop) (ob : List Ob), J 0 ob → (∀ k ob, J k ob → need ob) →
   (∀ k v ob, vals[k]? = some v → J k ob → Round E C.H0 Y v ob (J (k + 1)) X) →
   AW E fn.ntmps C c ⟨argS 0 (.v (.func (.yield Y.l) #[] #[]) :: caps), Y.ob .ready none :: ob⟩
    (Post E fn (fun _ fp' => (∃ ob', J vals.length ob' ∧ fp' = Y.ob .ready none :: ob') ∨ ∃ x c ob', jumpC x = some c ∧ X x ob' ∧ fp' = Y.ob .done (some c) :: ob'))
def ThenR (s : Slots) (M : St → Prop) (Q : Exit → St → Prop) : Exit → St → Prop
 | .normal, σ => M σ
 | .ret, σ => ∃ ob', OL ob' σ ∧ Q .ret ⟨s, ob'⟩
 | .exit id, σ => ∃ ob', OL ob' σ ∧ Q (.exit id) ⟨s, ob'⟩
 | _, _ => False
theorem OL.all {σ : St} : OL σ.objs σ := ⟨List.range σ.objs.length, by
 have : ∀ (l pre : List Ob), pickAll (pre ++ l) (List.range' pre.length l.length) = some l := by
  intro l
  induction l with
  | nil => intro pre; simp [pickAll]
  | cons a l ih =>
   intro pre
   have := ih (pre ++ [a])
   simp only [List.length_append, List.length_cons, List.length_nil, List.append_assoc, List.cons_append, List.nil_append] at this
   simp only [List.length_cons, List.range'_succ, pickAll, List.getElem?_append_right (Nat.le_refl _), Nat.sub_self, List.getElem?_cons_zero, this]
 have h := this σ.objs []
 rw [List.range_eq_range']; exact h, List.nodup_range⟩
theorem OL.app {s : Slots} {l its : List Ob} : OL l ⟨s, l ++ its⟩ := ⟨List.range l.length, by
 have : ∀ (l pre : List Ob), pickAll (pre ++ l ++ its) (List.range' pre.length l.length) = some l := by
  intro l
  induction l with
  | nil => intro pre; simp [pickAll]
  | cons a l ih =>
   intro pre
   have := ih (pre ++ [a])
   simp only [List.length_append, List.length_cons, List.length_nil, List.append_assoc, List.cons_append, List.nil_append] at this
   have hg : (pre ++ (a :: l) ++ its)[pre.length]? = some a := by simp
   simp only [List.length_cons, List.range'_succ, pickAll, hg]
   simp only [List.append_assoc, List.cons_append] at this ⊢
   rw [this]
 have h := this l []
 rw [List.range_eq_range']; simpa using h, List.nodup_range⟩
theorem AX.storeLast {t : TypeId} {x y : Operand} {ti : TI} {c : T} {cs : List T} {b off tt sz cap : Nat} {es es' : List (List T)} (i j : Nat) {e : List T} {ty : TypeId} {pos : String} {aft : Array Edge} {g : Option (Nat × Bool)}
  (ht : E.tab t = some ti) (hx : evalT s x = some (.v (.pointer (some ⟨b, off, none⟩)))) (he : es[i]? = some e) (ho : off = i * sz + j)
  (hy : evalT s y = some c) (hc : cellsT c = some cs) (hsz : ti.size = cs.length) (hj : j + cs.length ≤ e.length) (hes : es.set i (setC e j cs) = es')
  (kk : R ⟨s, ob ++ [.arr b tt sz cap es']⟩) :
  AX E n C [ob.length] ⟨none, .store t x y, ty, pos, aft, g⟩ ⟨s, ob ++ [.arr b tt sz cap es]⟩ R := by
 refine AX.store ob.length (tt := tt) (sz := sz) (cap := cap) i j ht hx (by simp) he ho hy hc hsz hj rfl hes ?_
 have : (ob ++ [Ob.arr b tt sz cap es]).set ob.length (Ob.arr b tt sz cap es') = ob ++ [Ob.arr b tt sz cap es'] := by simp
 dsimp only; rw [this]; exact kk
theorem part_get {fi : TI} {cs : List T} {j : Nat} {y : T} (hag : fi.isAgg = false) (h : cs[j]? = some y) : partT fi cs j = some y := by simp [partT, hag, h]
def RowAt (b i j : Nat) (x y : T) (ob : List Ob) : Prop := ∃ (k ty sz : Nat) (cs : List T), ob[k]? = some (Ob.arr b ty sz 1 [cs]) ∧ cs[i]? = some x ∧ cs[j]? = some y
theorem forS_at {α S : Type} {f : Nat → α → S → Option S} {l : List α} {k : Nat} {x : α} {o : S} (hx : l[k]? = some x) {st : S} (h : forS f k (l.drop k) st = some o) : ∃ st', f k x st = some st' ∧ forS f (k + 1) (l.drop (k + 1)) st' = some o := by
 have hk := (List.getElem?_eq_some_iff.1 hx).1
 rw [List.drop_eq_getElem_cons hk] at h
 have he : l[k] = x := (List.getElem?_eq_some_iff.1 hx).2
 rw [he] at h
 simp only [forS] at h
 split at h
 ·cases h
 ·rename_i s' hs; exact ⟨s', hs, h⟩
theorem gather {α β : Type} {f : Nat → α → List β → Option (List β)} (hf : ∀ k x a r, f k x a = some r → ∃ t, r = a ++ t) : ∀ (l : List α) (k : Nat) (a r : List β), forS f k l a = some r → ∃ t, r = a ++ t
 | [], k, a, r, h => ⟨[], by simp only [forS, Option.some.injEq] at h; simp [h]⟩
 | x :: l, k, a, r, h => by
  simp only [forS] at h
  split at h
  ·cases h
  ·rename_i a' ha
   obtain ⟨t, rfl⟩ := hf _ _ _ _ ha
   obtain ⟨t', rfl⟩ := gather hf l (k + 1) _ _ h
   exact ⟨t ++ t', by simp⟩
theorem AW.rangeX {g : Operand} {ps : Array Tmp} {assign body : Code} {f : FuncId} {caps : List T} {need : List Ob → Prop} {vals : List (List T)} {α S B : Type} {F : Nat → α → S → Option (S ⊕ B)} {l : List α} {st0 : S} {o : S ⊕ B} (h : forL F 0 l st0 = some o)
  (hI : Itr E f caps need vals) (enc : α → List T) (hv : vals = l.map enc) (hg : (evalT s g).bind fnT = some (f, [], caps)) (hps : ∀ x, ps.toList.length = (enc x).length) (hpn : ps.toList.all (fun t => Nat.blt t n) = true) (hn1 : nd assign = true) (hn2 : nd body = true)
  (Φ : Nat → S → List Ob → Prop) {ob0 : List Ob} (h0 : Φ 0 st0 ob0) (ho : ∃ p, pickAll ob p = some ob0 ∧ p.Nodup) (hneed : ∀ k st ob, Φ k st ob → need ob) {S1 : α → Slots}
  (ha : ∀ (C : Ctx) (x : α) (ob : List Ob), AW E n C assign ⟨setP ps.toList (enc x) s, ob⟩ (fun e σ' => e = .normal ∧ σ' = ⟨S1 x, ob⟩))
  (round : ∀ (C : Ctx) (k : Nat) (x : α) (st : S) (r : S ⊕ B) ob, l[k]? = some x → k < l.length → Φ k st ob → F k x st = some r → (∀ b', r = .inr b' → .inr b' = o) →
   AW E n C body ⟨S1 x, ob⟩ (ThenR s (fun σ' => ∃ st' ob', r = .inl st' ∧ Φ (k + 1) st' ob' ∧ OL ob' σ') Q))
  (fin : ∀ (st : S) ob, Φ l.length st ob → .inl st = o → VS n C ⟨s, ob⟩ (Q .normal)) : AW E n C (.rangeFunc g ps assign body) ⟨s, ob⟩ Q := by
 obtain ⟨p, hp1, hp2⟩ := ho
 refine AW.ghost (Ghost.pick p hp1 hp2) ?_
 obtain ⟨fn, c, i1, i2, i3, i4, i5⟩ := hI
 have hvl : vals.length = l.length := by rw [hv]; simp
 refine AW.range hg i1 i2 i3 i4 (fun x ob' => Q x ⟨s, ob'⟩) (fun ob' => ∃ st, Φ l.length st ob' ∧ .inl st = o) ?_ ?_ (fun x ob' hx => hx)
 ·intro Y C' y1 y2 y3 y4 y5
  have := i5 C' Y (fun k ob' => ∃ st, Φ k st ob' ∧ forL F k (l.drop k) st = some o) (fun x ob' => Q x ⟨s, ob'⟩) ob0 ⟨st0, h0, h⟩ (fun k ob' ⟨st, hΦ, _⟩ => hneed k st ob' hΦ) ?_
  ·refine AW.mono this ?_
   rintro e σ' ⟨q1, xs, fp', q2, q3, q4⟩
   refine ⟨q1, xs, fp', q2, q3, ?_⟩
   rcases q4 with ⟨ob', ⟨st, q5, q6⟩, q7⟩ | q4
   ·rw [hvl] at q5 q6
    rw [List.drop_length] at q6
    simp only [forL, Option.some.injEq] at q6
    exact .inl ⟨ob', ⟨st, q5, q6⟩, q7⟩
   ·exact .inr q4
  ·rintro k v ob' hk ⟨st, hΦ, hl⟩
   rw [hv, List.getElem?_map] at hk
   obtain ⟨x, hx, rfl⟩ := Option.map_eq_some_iff.1 hk
   have hkl := (List.getElem?_eq_some_iff.1 hx).1
   rw [forL_at hx] at hl
   cases hf : F k x st with
   | none => rw [hf] at hl; cases hl
   | some r =>
    rw [hf] at hl
    refine Round.of_body (S := s) (S1 := S1 x) y4 y5 (by rw [y1]; exact hps x) (by rw [y1]; exact hpn) (by rw [y2]; exact hn1) (by rw [y3]; exact hn2) ?_ ?_
    ·intro C2
     rw [y1, y2]
     exact ha C2 x ob'
    ·intro C2 _
     rw [y3]
     refine AW.mono (round C2 k x st r ob' hx hkl hΦ hf (fun b' hb => by subst hb; simpa using hl)) ?_
     intro e σ' hq
     cases e with
     | normal =>
      obtain ⟨st', ob2, rfl, q2, q3⟩ := hq
      exact ⟨ob2, q3, .inl ⟨rfl, st', q2, hl⟩⟩
     | ret => obtain ⟨ob2, q1, q2⟩ := hq; exact ⟨ob2, q1, .inr ⟨_, rfl, q2⟩⟩
     | exit id => obtain ⟨ob2, q1, q2⟩ := hq; exact ⟨ob2, q1, .inr ⟨_, rfl, q2⟩⟩
     | _ => exact hq.elim
 ·rintro ob' ⟨st, q1, q2⟩
  exact fin st ob' q1 q2
theorem AW.rangeY {g : Operand} {ps : Array Tmp} {assign body : Code} {f : FuncId} {caps : List T} {need : List Ob → Prop} {vals : List (List T)} {α S : Type} {F : Nat → α → S → Option S} {l : List α} {st0 : S} {o : S} (h : forS F 0 l st0 = some o)
  (hI : Itr E f caps need vals) (enc : α → List T) (hv : vals = l.map enc) (hg : (evalT s g).bind fnT = some (f, [], caps)) (hps : ∀ x, ps.toList.length = (enc x).length) (hpn : ps.toList.all (fun t => Nat.blt t n) = true) (hn1 : nd assign = true) (hn2 : nd body = true)
  (Φ : Nat → S → List Ob → Prop) {ob0 : List Ob} (h0 : Φ 0 st0 ob0) (ho : ∃ p, pickAll ob p = some ob0 ∧ p.Nodup) (hneed : ∀ k st ob, Φ k st ob → need ob) {S1 : α → Slots}
  (ha : ∀ (C : Ctx) (x : α) (ob : List Ob), AW E n C assign ⟨setP ps.toList (enc x) s, ob⟩ (fun e σ' => e = .normal ∧ σ' = ⟨S1 x, ob⟩))
  (round : ∀ (C : Ctx) (k : Nat) (x : α) (st : S) (r : S) ob, l[k]? = some x → k < l.length → Φ k st ob → F k x st = some r →
   AW E n C body ⟨S1 x, ob⟩ (ThenR s (fun σ' => ∃ ob', Φ (k + 1) r ob' ∧ OL ob' σ') Q))
  (fin : ∀ (st : S) ob, Φ l.length st ob → st = o → VS n C ⟨s, ob⟩ (Q .normal)) : AW E n C (.rangeFunc g ps assign body) ⟨s, ob⟩ Q := by
 refine AW.rangeX (forS_L l 0 st0 o h) hI enc hv hg hps hpn hn1 hn2 Φ h0 ho hneed ha ?_ ?_
 ·intro C k x st r ob hx hkl hΦ hr _
  obtain ⟨r', hr', rfl⟩ := Option.map_eq_some_iff.1 hr
  refine AW.mono (round C k x st r' ob hx hkl hΦ hr') ?_
  intro e σ' hq
  cases e with
  | normal => obtain ⟨ob', q1, q2⟩ := hq; exact ⟨r', ob', rfl, q1, q2⟩
  | _ => exact hq
 ·intro st ob hΦ he
  exact fin st ob hΦ (by cases he; rfl)
end
end Go.Aw
