/- Lifting: the pure functions that walks arrive at, and the rules for joins and loops in that form. No condition. -/
import Derived.Test.YtncfbhnecmnfpaaGreatDoorBwMore
import Derived.Scope
namespace Go.Aw
set_option linter.unusedVariables false
set_option linter.unusedSimpArgs false

/-! ### Pure words -/

def wr (x : Int) : Int := IntKind.i64.wrap x
theorem wr_id {x : Int} (h : -9223372036854775808 ≤ x ∧ x ≤ 9223372036854775807) : wr x = x := w64 h

/-- Element i of a list, with its place. -/
def ix {α : Type} (l : List α) (i : Int) : Option (Nat × α) := if 0 ≤ i then (l[i.toNat]?).map fun x => (i.toNat, x) else none
theorem ix_some {α : Type} {l : List α} {i : Int} {p : Nat × α} (h : ix l i = some p) : i = (p.1 : Int) ∧ l[p.1]? = some p.2 := by
  unfold ix at h
  split at h
  · obtain ⟨x, hx, rfl⟩ := Option.map_eq_some_iff.1 h
    exact ⟨by dsimp only; omega, hx⟩
  · cases h
theorem ix_nat {α : Type} {l : List α} {k : Nat} {x : α} (h : l[k]? = some x) : ix l (k : Int) = some (k, x) := by simp [ix, h]

/-- Places up to which slices are made. -/
def room : Nat := 68719476736
def app? {α : Type} (l m : List α) : Option (List α) := if l.length + m.length ≤ room then some (l ++ m) else none
theorem app_some {α : Type} {l m r : List α} (h : app? l m = some r) : l.length + m.length ≤ 68719476736 ∧ l ++ m = r := by
  unfold app? at h
  split at h
  · rename_i hr; exact ⟨hr, by cases h; rfl⟩
  · cases h
theorem app?_eq {α : Type} {l m : List α} (h : l.length + m.length ≤ 68719476736) : app? l m = some (l ++ m) := if_pos h
def mk? {α : Type} (n : Int) (z : α) : Option (List α) := if 0 ≤ n ∧ n ≤ (room : Int) then some (List.replicate n.toNat z) else none
theorem mk_some {α : Type} {n : Int} {z : α} {r : List α} (h : mk? n z = some r) : ∃ m : Nat, n = (m : Int) ∧ m ≤ 68719476736 ∧ List.replicate m z = r := by
  unfold mk? at h
  split at h
  · rename_i hr
    refine ⟨n.toNat, by omega, ?_, by cases h; rfl⟩
    have : (room : Int) = 68719476736 := rfl
    omega
  · cases h
theorem mk?_eq {α : Type} {m : Nat} (z : α) (h : m ≤ 68719476736) : mk? (m : Int) z = some (List.replicate m z) := by
  unfold mk?
  have : (room : Int) = 68719476736 := rfl
  rw [if_pos (by omega)]; simp
/-- Part of a list. -/
def sub? {α : Type} (l : List α) (a b : Int) : Option (List α) := if 0 ≤ a ∧ a ≤ b ∧ b ≤ (l.length : Int) then some ((l.drop a.toNat).take (b.toNat - a.toNat)) else none
theorem sub_some {α : Type} {l r : List α} {a b : Int} (h : sub? l a b = some r) : ∃ x y : Nat, a = (x : Int) ∧ b = (y : Int) ∧ x ≤ y ∧ y ≤ l.length ∧ (l.drop x).take (y - x) = r := by
  unfold sub? at h
  split at h
  · exact ⟨a.toNat, b.toNat, by omega, by omega, by omega, by omega, by cases h; rfl⟩
  · cases h
def cat? (a b : ByteArray) : Option ByteArray := if a.size + b.size ≤ 68719476736 then some (a ++ b) else none
theorem cat_some {a b r : ByteArray} (h : cat? a b = some r) : a.size + b.size < 9223372036854775807 ∧ a ++ b = r := by
  unfold cat? at h
  split at h
  · rename_i hr; exact ⟨by omega, by cases h; rfl⟩
  · cases h
def ixs (b : ByteArray) (i : Int) : Option (Nat × Int) := if 0 ≤ i ∧ i < (b.size : Int) then some (i.toNat, ((b.data.getD i.toNat 0).toNat : Int)) else none
theorem ixs_some {b : ByteArray} {i : Int} {p : Nat × Int} (h : ixs b i = some p) : i = (p.1 : Int) ∧ p.1 < b.size ∧ ((b.data.getD p.1 0).toNat : Int) = p.2 := by
  unfold ixs at h
  split at h
  · cases h; exact ⟨by dsimp only; omega, by dsimp only; omega, rfl⟩
  · cases h
def subs? (b : ByteArray) (x y : Int) : Option ByteArray := if 0 ≤ x ∧ x ≤ y ∧ y ≤ (b.size : Int) then some (b.extract x.toNat y.toNat) else none
theorem subs_some {b r : ByteArray} {x y : Int} (h : subs? b x y = some r) : ∃ p q : Nat, x = (p : Int) ∧ y = (q : Int) ∧ p ≤ q ∧ q ≤ b.size ∧ b.extract p q = r := by
  unfold subs? at h
  split at h
  · exact ⟨x.toNat, y.toNat, by omega, by omega, by omega, by omega, by cases h; rfl⟩
  · cases h
def quo? (a b : Int) : Option Int := if b ≠ 0 then some (wr (a.tdiv b)) else none
theorem quo_some {a b r : Int} (h : quo? a b = some r) : b ≠ 0 ∧ IntKind.i64.wrap (a.tdiv b) = r := by
  unfold quo? at h
  split at h
  · rename_i hb; exact ⟨hb, by cases h; rfl⟩
  · cases h
def rem? (a b : Int) : Option Int := if b ≠ 0 then some (a.tmod b) else none
theorem rem_some {a b r : Int} (h : rem? a b = some r) : b ≠ 0 ∧ a.tmod b = r := by
  unfold rem? at h
  split at h
  · rename_i hb; exact ⟨hb, by cases h; rfl⟩
  · cases h
def chk (p : Prop) [Decidable p] : Option Unit := if p then some () else none
theorem chk_some {p : Prop} [Decidable p] {u : Unit} (h : chk p = some u) : p := by
  unfold chk at h
  split at h
  · assumption
  · cases h
theorem chk_eq {p : Prop} [Decidable p] (h : p) : chk p = some () := if_pos h

def sEq (a b : ByteArray) : Bool := a.toList == b.toList

theorem ob_some {α β : Type} {o : Option α} {f : α → Option β} {r : β} (h : o.bind f = some r) : ∃ x, o = some x ∧ f x = some r := Option.bind_eq_some_iff.1 h
theorem ob_if {α : Type} {c : Prop} [Decidable c] {a b : Option α} {r : α} (hc : c) (h : (if c then a else b) = some r) : a = some r := by rw [if_pos hc] at h; exact h
theorem ob_else {α : Type} {c : Prop} [Decidable c] {a b : Option α} {r : α} (hc : ¬ c) (h : (if c then a else b) = some r) : b = some r := by rw [if_neg hc] at h; exact h

/-- A loop, with no more than so many rounds. -/
def loopN {S B : Type} (f : S → Option (S ⊕ B)) : Nat → S → Option B
  | 0, _ => none
  | n + 1, s => match f s with
    | none => none
    | some (.inl s') => loopN f n s'
    | some (.inr b) => some b
def lots : Nat := 18446744073709551616
/-- A loop over the elements of a list. -/
def forL {α S B : Type} (f : Nat → α → S → Option (S ⊕ B)) : Nat → List α → S → Option (S ⊕ B)
  | _, [], s => some (.inl s)
  | k, x :: l, s => match f k x s with
    | none => none
    | some (.inl s') => forL f (k + 1) l s'
    | some (.inr b) => some (.inr b)
/-- The same without another way out. -/
def forS {α S : Type} (f : Nat → α → S → Option S) : Nat → List α → S → Option S
  | _, [], s => some s
  | k, x :: l, s => match f k x s with
    | none => none
    | some s' => forS f (k + 1) l s'
/-- So many rounds. -/
def forI {S B : Type} (f : Nat → S → Option (S ⊕ B)) : Nat → Nat → S → Option (S ⊕ B)
  | _, 0, s => some (.inl s)
  | k, n + 1, s => match f k s with
    | none => none
    | some (.inl s') => forI f (k + 1) n s'
    | some (.inr b) => some (.inr b)
def forJ {S : Type} (f : Nat → S → Option S) : Nat → Nat → S → Option S
  | _, 0, s => some s
  | k, n + 1, s => match f k s with
    | none => none
    | some s' => forJ f (k + 1) n s'

/-! ### Arrays -/

structure Arr (α : Type) (n : Nat) where
  l : List α
  h : l.length = n
theorem Arr.ext' {α : Type} {n : Nat} {a b : Arr α n} (h : a.l = b.l) : a = b := by cases a; cases b; cases h; rfl
instance {α : Type} {n : Nat} [DecidableEq α] : DecidableEq (Arr α n) := fun a b => if h : a.l = b.l then .isTrue (Arr.ext' h) else .isFalse (fun h' => h (by rw [h']))
instance {α : Type} {n : Nat} [Inhabited α] : Inhabited (Arr α n) := ⟨⟨List.replicate n default, by simp⟩⟩
def Arr.set {α : Type} {n : Nat} (a : Arr α n) (i : Nat) (x : α) : Arr α n := ⟨a.l.set i x, by simp [a.h]⟩
def Arr.rep {α : Type} (n : Nat) (x : α) : Arr α n := ⟨List.replicate n x, by simp⟩

theorem seg_here {α : Type} {f : α → T} {l : List α} {post : List T} {i : Nat} {x : α} (h : l[i]? = some x) : (l.map f ++ post)[i]? = some (f x) := by
  have hi := (List.getElem?_eq_some_iff.1 h).1
  rw [List.getElem?_append_left (by simpa using hi)]; simp [h]
theorem seg_skip {pre post : List T} {k i : Nat} {x : T} (hk : pre.length = k) (h : post[i]? = some x) : (pre ++ post)[k + i]? = some x := by
  subst hk; rw [List.getElem?_append_right (by omega)]; simpa using h
theorem seg_set_here {α : Type} {f : α → T} {l : List α} {post : List T} {i : Nat} {y : α} (hi : i < l.length) : setC (l.map f ++ post) i [f y] = (l.set i y).map f ++ post := by
  induction l generalizing i with
  | nil => simp at hi
  | cons a l ih =>
    cases i with
    | zero =>
      simp only [List.map_cons, List.cons_append, setC, List.set_cons_zero]
      cases h : (l.map f ++ post) <;> rfl
    | succ i => simp only [List.map_cons, List.cons_append, setC, List.set_cons_succ]; rw [ih (by simpa using hi)]
theorem seg_set_skip {pre post post' : List T} {k i : Nat} {cs : List T} (hk : pre.length = k) (h : setC post i cs = post') : setC (pre ++ post) (k + i) cs = pre ++ post' := by
  subst hk
  induction pre with
  | nil => simpa using h
  | cons a l ih => simp only [List.cons_append, List.length_cons, Nat.add_right_comm, setC]; rw [ih]

/-! ### Ghosts and joins -/

section
variable {E : Env} {n : Nat} {C : Ctx} {s : Slots} {ob : List Ob} {Q : Exit → St → Prop} {ops : Array Oper} {R : St → Prop}

/-- Objects in another order; those that are not named go. -/
theorem Ghost.pick (ks : List Nat) {K : List Ob} (hK : pickAll ob ks = some K) (hn : ks.Nodup) : Ghost n C s ob s K := by
  intro H a w gm
  obtain ⟨p1, p2⟩ := pickAll_mem hK
  have hmem : ∀ (i : Nat) (p : Ob), K[i]? = some p → ∃ k, ks[i]? = some k ∧ ob[k]? = some p := by
    intro i p hi
    have hil := (List.getElem?_eq_some_iff.1 hi).1
    obtain ⟨o, h1, h2⟩ := p2 i ks[i] (List.getElem?_eq_getElem (by omega))
    rw [hi] at h2
    cases h2
    exact ⟨_, List.getElem?_eq_getElem (by omega), h1⟩
  have hin : ∀ p, p ∈ K → p ∈ ob := fun p hp => by
    obtain ⟨i, hi⟩ := List.mem_iff_getElem?.1 hp
    obtain ⟨k, _, h⟩ := hmem i p hi
    exact List.mem_of_getElem? h
  have hl := nodup_places.1 gm.nodup
  refine ⟨H, fun _ _ h => h, { gm with objs := fun p hp => gm.objs p (hin p hp), free := fun p hp => gm.free p (hin p hp), new := fun p hp => gm.new p (hin p hp), nodup := ?_ }⟩
  refine nodup_places.2 ⟨fun i p hi => ?_, fun i j p q hi hj hne b hb => ?_⟩
  · obtain ⟨k, _, h⟩ := hmem i p hi
    exact hl.1 k p h
  · obtain ⟨k, h1, h2⟩ := hmem i p hi
    obtain ⟨k', h3, h4⟩ := hmem j q hj
    refine hl.2 k k' p q h2 h4 (fun he => hne ?_) b hb
    subst he
    exact (List.getElem?_inj (List.getElem?_eq_some_iff.1 h1).1 hn).1 (h1.trans h3.symm)

theorem Ghost.refl : Ghost n C s ob s ob := fun H _ _ gm => ⟨H, fun _ _ h => h, gm⟩
theorem Ghost.slots {s' : Slots} (h : ∀ (H : GH) (a : Act) (w : World), Gam n C ⟨s, ob⟩ H a w → ∀ i x, get s' i = some x → VR H (a.tmps.getD i undef) x) : Ghost n C s ob s' ob := fun H a w gm =>
  ⟨H, fun _ _ h => h, { gm with slots := h H a w gm }⟩

/-- nil is the empty list. -/
theorem Ghost.nilL (t sz : Nat) (h : get s t = some (.v (.slice none 0 0))) : Ghost n C s ob ((t, .list sz []) :: s) ob := Ghost.slots fun H a w gm i x hx => by
  simp only [get] at hx
  cases hb : Nat.beq t i with
  | true =>
    have := Nat.eq_of_beq_eq_true hb
    subst this
    simp only [hb, cond_true, Option.some.injEq] at hx
    subst hx
    rw [(gm.slots _ _ h).v_eq]; exact .empty _ _ _
  | false => simp only [hb, cond_false] at hx; exact gm.slots i x hx

theorem AO.nilG {s' : Slots} {ob' : List Ob} (h : Ghost n C s ob s' ob') (k : R ⟨s', ob'⟩) : AO E n C ops [] ⟨s, ob⟩ R := AO.ghost h (AO.nil k)
theorem AP.nilG {so : Slots} {prot : List Nat} {pobjs : List Ob} {s' : Slots} {ob' : List Ob} (h : Ghost n C s ob s' ob') (k : R ⟨s', ob'⟩) : AP E n C ops prot pobjs .nil so ⟨s, ob⟩ R :=
  fun _ _ H a w _ _ _ _ _ gm => let ⟨H', _, g⟩ := h H a w gm; ⟨rfl, _, H', k, g⟩

theorem AP.ofAO {so : Slots} {prot : List Nat} {pobjs : List Ob} {σ : St} (h : AO E n C ops [] σ R) : AP E n C ops prot pobjs .nil so σ R := fun _ _ H a w _ _ _ _ _ gm => h H a w gm
theorem AP.ghostS {pl : PL} {so : Slots} {prot : List Nat} {pobjs : List Ob} {s' : Slots} {ob' : List Ob} (h : Ghost n C s ob s' ob') (hp : prot.map (fun i => ob'[i]?) = prot.map (fun i => ob[i]?))
    (k : AP E n C ops prot pobjs pl so ⟨s', ob'⟩ R) : AP E n C ops prot pobjs pl so ⟨s, ob⟩ R := by
  intro Hs ws H a w sr wr ag hH hpp gm
  obtain ⟨H', h1, g⟩ := h H a w gm
  refine k Hs ws H' a w sr wr ag (fun b o hb => h1 _ _ (hH _ _ hb)) (fun p hpm => ?_) g
  obtain ⟨i, hi, he⟩ := hpp p hpm
  have hi' : i ∈ prot := by simpa using hi
  have : ob'[i]? = ob[i]? := List.map_inj_left.1 hp i hi'
  exact ⟨i, hi, this.trans he⟩
/-- One slot less is known of the region's beginning. -/
theorem AP.eraS {pl : PL} {so : Slots} {prot : List Nat} {pobjs : List Ob} (d : Nat) (k : AP E n C ops prot pobjs pl (era so (some d)) ⟨s, ob⟩ R) : AP E n C ops prot pobjs pl so ⟨s, ob⟩ R :=
  fun Hs ws H a w sr wr ag hH hp gm => k Hs ws H a w ⟨sr.size, fun i x h => sr.slots i x (get_filter_ne h).2⟩ wr ag hH hp gm
/-- A known bool of a plan, put down as such. -/
theorem AP.known {pl : PL} {so : Slots} {prot : List Nat} {pobjs : List Ob} {b c : Bool} (t : Nat) (hs : get s t = some (.v (.bool b))) (hb : b = c) (k : AP E n C ops prot pobjs pl so ⟨(t, .v (.bool c)) :: s, ob⟩ R) : AP E n C ops prot pobjs pl so ⟨s, ob⟩ R := by
  intro Hs ws H a w sr wr ag hH hp gm
  subst hb
  exact k Hs ws H a w sr wr ag hH hp (gm.same hs)

theorem AX.of_yd {o : Oper} {x : T} (hy : Yd E.P n s ob o x) (hd : ∀ d', o.dst = some d' → d' < n) (k : R ⟨putS s o.dst x, ob⟩) : AX E n C [] o ⟨s, ob⟩ R := by
  intro H a w gm
  obtain ⟨v, hv, hrun⟩ := hy H a w gm.sr gm.wr
  simp only [Oper.wp, hrun w ⟨gm.held, fun _ _ _ _ => rfl⟩, Oper.upon]
  refine ⟨_, H, v, k, ?_, rfl, fun _ _ h => h, fun i p hp _ => ⟨hp, by intros; trivial⟩⟩
  have := gm.put hv hd
  cases h : o.dst <;> simpa [St.put, putS, h] using this

theorem yielded_undef {H : GH} {a : Act} {j : Nat} {t : Tmp} (r : SR n s H a) (hj : (ops[j]?).bind (·.dst) = some t) (hs : get s t = some (.v undef)) : yielded ops a.tmps j = none := by
  have hv := (r.slots t _ hs).v_eq
  simp only [yielded, hj, Option.bind_some]
  rw [Array.getD_eq_getD_getElem?] at hv
  cases h : a.tmps[t]? with
  | none => rfl
  | some x => rw [h] at hv; simp only [Option.getD_some] at hv; subst hv; rfl
/-- An operation whose guard was not carried out. -/
theorem AO.skipU {d : Option Nat} {op : Op} {ty : TypeId} {pos : String} {aft : Array Edge} {l : List Oper} {j : Nat} {want : Bool} {t : Tmp}
    (hj : (ops[j]?).bind (·.dst) = some t) (hs : get s t = some (.v undef)) (hd : ∀ d', d = some d' → d' < n) (k : AO E n C ops l ⟨putS s d (.v undef), ob⟩ R) : AO E n C ops (⟨d, op, ty, pos, aft, some (j, want)⟩ :: l) ⟨s, ob⟩ R := by
  intro H a w gm
  simp only [wpL]
  rw [if_neg (by simp [Region.wanted, yielded_undef gm.sr hj hs])]
  have := gm.put (dst := d) (v := undef) (x := .v undef) (.v _) hd
  cases d <;> exact k H _ w this
theorem AP.skipU {prot : List Nat} {pobjs : List Ob} {so : Slots} {i : Nat} {r : PL} {o : Oper} {j : Nat} {want : Bool} {t : Tmp} (ho : ops[i]? = some o)
    (hg : o.guard = some (j, want)) (hj : (ops[j]?).bind (·.dst) = some t) (hs : get s t = some (.v undef)) (hd : ∀ d, o.dst = some d → d < n)
    (k : AP E n C ops prot pobjs r so (St.put ⟨s, ob⟩ o.dst (.v undef)) R) (hf : free so o.dst = true := by rfl) : AP E n C ops prot pobjs (.still i r) so ⟨s, ob⟩ R := by
  intro Hs ws H a w sr wr ag hH hp gm
  have hw : Region.wanted o (yielded ops a.tmps) = false := by simp [Region.wanted, hg, yielded_undef gm.sr hj hs]
  have hk := k Hs ws H _ w (sr.free o.dst undef hf) wr ag hH (by cases h : o.dst <;> simpa [St.put, h] using hp) (gm.put (.v undef) hd)
  exact ⟨o, undef, ho, .inr ⟨hw, rfl⟩, ag, hk⟩
theorem AP.skipUA {prot : List Nat} {pobjs : List Ob} {so : Slots} {i : Nat} {r : PL} {o : Oper} {j : Nat} {want : Bool} {t : Tmp} (ho : ops[i]? = some o)
    (hg : o.guard = some (j, want)) (hj : (ops[j]?).bind (·.dst) = some t) (hs : get s t = some (.v undef)) (hd : ∀ d, o.dst = some d → d < n)
    (k : AP E n C ops prot pobjs r so (St.put ⟨s, ob⟩ o.dst (.v undef)) R) (hf : free so o.dst = true := by rfl) : AP E n C ops prot pobjs (.act i r) so ⟨s, ob⟩ R := by
  intro Hs ws H a w sr wr ag hH hp gm
  have hw : Region.wanted o (yielded ops a.tmps) = false := by simp [Region.wanted, hg, yielded_undef gm.sr hj hs]
  have hk := k Hs ws H _ w (sr.free o.dst undef hf) wr ag hH (by cases h : o.dst <;> simpa [St.put, h] using hp) (gm.put (.v undef) hd)
  simp only [wpPlan, wpOp, ho]
  rw [if_neg (by simp [hw])]
  exact ⟨ag, hk⟩

/-- What is known of a slot, in other words. -/
theorem AW.eqT {c : Code} (t : Nat) {x y : T} (hs : get s t = some x) (h : x = y) (k : AW E n C c ⟨(t, y) :: s, ob⟩ Q) : AW E n C c ⟨s, ob⟩ Q := fun H a w gm => k H a w (gm.same (h ▸ hs))
theorem AO.eqT {l : List Oper} (t : Nat) {x y : T} (hs : get s t = some x) (h : x = y) (k : AO E n C ops l ⟨(t, y) :: s, ob⟩ R) : AO E n C ops l ⟨s, ob⟩ R := fun H a w gm => k H a w (gm.same (h ▸ hs))

theorem AW.listMax {c : Code} (t : Nat) {sz : Nat} {es : List (List T)} (hs : get s t = some (.list sz es)) (k : es.length ≤ 140737488355328 → AW E n C c ⟨s, ob⟩ Q) : AW E n C c ⟨s, ob⟩ Q :=
  fun H a w gm => k (gm.slots _ _ hs).list_max H a w gm
theorem AW.usMax {c : Code} (k : Nat) {v : Value} {tt sz : Nat} {es : List (List T)} (hk : ob[k]? = some (.us v tt sz es)) (kk : es.length ≤ 140737488355328 → AW E n C c ⟨s, ob⟩ Q) : AW E n C c ⟨s, ob⟩ Q := by
  intro H a w gm
  have hor : UsR H w v tt sz es := gm.objs _ (List.mem_of_getElem? hk)
  refine kk ?_ H a w gm
  rcases hor with ⟨_, rfl⟩ | ⟨_, _, _, _, _, _, _, _, _, _, h, _⟩
  · simp
  · exact h
theorem AW.ussMax {c : Code} (k : Nat) {v : Value} {tt tyi szi : Nat} {vs : List Value} {L : List (Option (List (List T)))} (hk : ob[k]? = some (.uss v tt tyi szi vs L)) (kk : L.length ≤ 140737488355328 → AW E n C c ⟨s, ob⟩ Q) : AW E n C c ⟨s, ob⟩ Q := by
  intro H a w gm
  have hor : OR H w (.uss v tt tyi szi vs L) := gm.objs _ (List.mem_of_getElem? hk)
  refine kk ?_ H a w gm
  obtain ⟨h0, h1, _⟩ := hor
  rcases h1 with ⟨_, h⟩ | ⟨_, _, _, _, _, _, _, _, _, _, h, _⟩
  · have : vs = [] := by simpa using h
    rw [← h0, this]; simp
  · rw [← h0]; simpa [maxL] using h

def NoG (Q : Exit → St → Prop) : Exit → St → Prop
  | .goto _, _ => False
  | e, σ => Q e σ

theorem AW.scope {c : Code} {σ : St} (h : AW E n C c σ (NoG Q)) : AW E n C (.scope c) σ Q := fun H a w g =>
  wp_scope_straight (wp_mono (h H a w g) fun e a' w' ⟨σ', H', q, g'⟩ => by
    cases e <;> first | exact ⟨σ', H', q, g'⟩ | exact q.elim)

/-- What a piece of code leaves: the slots s' and the objects ob', of those that are there. -/
def Left (s' : Slots) (ob' : List Ob) (σ : St) : Prop := Sub s' σ.slots ∧ ∃ ks, pickAll σ.objs ks = some ob' ∧ ks.Nodup

theorem Left.ghost {s' : Slots} {ob' : List Ob} {σ : St} (h : Left s' ob' σ) : Ghost n C σ.slots σ.objs s' ob' := by
  obtain ⟨h1, ks, h2, h3⟩ := h
  exact (Ghost.pick ks h2 h3).trans (Ghost.weaken h1 (List.Sublist.refl _))

theorem AW.left {c : Code} {s' : Slots} {ob' : List Ob} {σ : St} (h : Left s' ob' σ) (k : AW E n C c ⟨s', ob'⟩ Q) : AW E n C c σ Q := AW.ghost h.ghost k

/-- A cut between two pieces of code. -/
theorem AW.cutX {x y : Code} (M : Slots → List Ob → Prop) (ks : Slots) (hk : Sub ks s)
    (h : AW E n C x ⟨s, ob⟩ (Then (fun σ' => ∃ s' ob', M s' ob' ∧ Left (s' ++ ks) ob' σ') Q)) (k : ∀ s' ob', M s' ob' → AW E n C y ⟨s' ++ ks, ob'⟩ Q) : AW E n C (.seq x y) ⟨s, ob⟩ Q :=
  AW.cut _ h (fun _ ⟨_, _, q1, q2⟩ => AW.left q2 (k _ _ q1))

/-- The same with what follows hidden behind a name. -/
theorem AW.seqG {x y : Code} {σ : St} (h : ∀ y', y' = y → AW E n C x σ (Then (fun σ' => AW E n C y' σ' Q) Q)) : AW E n C (.seq x y) σ Q := AW.seq (h y rfl)

theorem Sub.refl' : ∀ {s : Slots}, (∀ i x, Aw.get s i = some x → Aw.get s i = some x) → True := fun _ => trivial

theorem AW.loopW {c : Code} (J : Nat → Slots → List Ob → Prop) {m : Nat} {s0 : Slots} {ob0 : List Ob} (h0 : J m s0 ob0) (hs : Left s0 ob0 ⟨s, ob⟩)
    (round : ∀ m s ob, J m s ob → AW E n C c ⟨s, ob⟩ (Then (fun σ' => ∃ m' s' ob', m' < m ∧ J m' s' ob' ∧ Left s' ob' σ') Q)) : AW E n C (.loop c) ⟨s, ob⟩ Q := by
  refine AW.loop (fun m σ => ∃ s' ob', J m s' ob' ∧ Left s' ob' σ) (m := m) ⟨s0, ob0, h0, hs⟩ ?_
  rintro m σ ⟨s', ob', hJ, h1⟩
  refine AW.left h1 (AW.mono (round m s' ob' hJ) ?_)
  intro e σ' q
  cases e with
  | normal => obtain ⟨m', s', ob', q1, q2, q3⟩ := q; exact ⟨m', q1, s', ob', q2, q3⟩
  | _ => exact q

theorem left_keep {s0 ks : Slots} {ob0 : List Ob} (h1 : Sub s0 s) (h2 : Sub ks s) (h3 : ∃ p, pickAll ob p = some ob0 ∧ p.Nodup) : Left (s0 ++ ks) ob0 ⟨s, ob⟩ := ⟨Sub.append h1 h2, h3⟩

/-- A loop that goes as loopN. Φ: the slots and objects at the head of a round. -/
theorem AW.loopX {c : Code} {S B : Type} {f : S → Option (S ⊕ B)} {fuel : Nat} {st0 : S} {b : B} (h : loopN f fuel st0 = some b) (ks : Slots) (hk : Sub ks s) (Φ : S → Slots → List Ob → Prop) {s0 : Slots} {ob0 : List Ob} (h0 : Φ st0 s0 ob0) (hs : Sub s0 s) (ho : ∃ p, pickAll ob p = some ob0 ∧ p.Nodup)
    (round : ∀ (st : S) (r : S ⊕ B) s ob, Φ st s ob → f st = some r → (∀ b', r = .inr b' → b' = b) →
      AW E n C c ⟨s ++ ks, ob⟩ (Then (fun σ' => ∃ st' s' ob', r = .inl st' ∧ Φ st' s' ob' ∧ Left (s' ++ ks) ob' σ') Q)) : AW E n C (.loop c) ⟨s, ob⟩ Q := by
  refine AW.loopW (fun m s1 ob1 => ∃ st s', Φ st s' ob1 ∧ loopN f m st = some b ∧ s1 = s' ++ ks) (m := fuel) ⟨st0, s0, h0, h, rfl⟩ (left_keep hs hk ho) ?_
  rintro m s1 ob1 ⟨st, s', hΦ, hl, rfl⟩
  cases m with
  | zero => simp [loopN] at hl
  | succ m =>
    simp only [loopN] at hl
    cases hf : f st with
    | none => rw [hf] at hl; cases hl
    | some r =>
      rw [hf] at hl
      refine AW.mono (round st r s' ob1 hΦ hf (fun b' hb => ?_)) ?_
      · subst hb; simpa using hl
      · intro e σ' q
        cases e with
        | normal =>
          obtain ⟨st', s'', ob', rfl, q2, q3⟩ := q
          exact ⟨m, _, ob', Nat.lt_succ_self m, ⟨st', s'', q2, hl, rfl⟩, q3⟩
        | _ => exact q

theorem forL_at {α S B : Type} {f : Nat → α → S → Option (S ⊕ B)} {l : List α} {k : Nat} {x : α} (hx : l[k]? = some x) (st : S) : forL f k (l.drop k) st = (match f k x st with
    | none => none
    | some (.inl s') => forL f (k + 1) (l.drop (k + 1)) s'
    | some (.inr b) => some (.inr b)) := by
  have hk := (List.getElem?_eq_some_iff.1 hx).1
  have he : l[k] = x := by rw [List.getElem?_eq_getElem hk] at hx; cases hx; rfl
  rw [List.drop_eq_getElem_cons hk, he]; rfl

/-- A loop over the elements of a list. -/
theorem AW.forX {c : Code} {α S B : Type} {f : Nat → α → S → Option (S ⊕ B)} {l : List α} {st0 : S} {o : S ⊕ B} (h : forL f 0 l st0 = some o) (ks : Slots) (hk : Sub ks s) (Φ : Nat → S → Slots → List Ob → Prop) {s0 : Slots} {ob0 : List Ob} (h0 : Φ 0 st0 s0 ob0) (hs : Sub s0 s) (ho : ∃ p, pickAll ob p = some ob0 ∧ p.Nodup)
    (round : ∀ (k : Nat) (x : α) (st : S) (r : S ⊕ B) s ob, l[k]? = some x → k < l.length → Φ k st s ob → f k x st = some r → (∀ b', r = .inr b' → .inr b' = o) →
      AW E n C c ⟨s ++ ks, ob⟩ (Then (fun σ' => ∃ st' s' ob', r = .inl st' ∧ Φ (k + 1) st' s' ob' ∧ Left (s' ++ ks) ob' σ') Q))
    (fin : ∀ (st : S) s ob, Φ l.length st s ob → .inl st = o → AW E n C c ⟨s ++ ks, ob⟩ (Then (fun _ => False) Q)) : AW E n C (.loop c) ⟨s, ob⟩ Q := by
  refine AW.loopW (fun m s1 ob1 => ∃ k st s', k + m = l.length ∧ Φ k st s' ob1 ∧ forL f k (l.drop k) st = some o ∧ s1 = s' ++ ks) (m := l.length) ⟨0, st0, s0, by simp, h0, h, rfl⟩ (left_keep hs hk ho) ?_
  rintro m s1 ob1 ⟨k, st, s', hm, hΦ, hl, rfl⟩
  rcases Nat.lt_or_ge k l.length with hkl | hkl
  · have hx : l[k]? = some l[k] := List.getElem?_eq_getElem hkl
    rw [forL_at hx] at hl
    cases hf : f k l[k] st with
    | none => rw [hf] at hl; cases hl
    | some r =>
      rw [hf] at hl
      refine AW.mono (round k _ st r s' ob1 hx hkl hΦ hf (fun b' hb => ?_)) ?_
      · subst hb; simpa using hl
      · intro e σ' q
        cases e with
        | normal =>
          obtain ⟨st', s'', ob', rfl, q2, q3⟩ := q
          exact ⟨m - 1, _, ob', by omega, ⟨k + 1, st', s'', by omega, q2, hl, rfl⟩, q3⟩
        | _ => exact q
  · have : k = l.length := by omega
    subst this
    rw [List.drop_length] at hl
    simp only [forL, Option.some.injEq] at hl
    refine AW.mono (fin st s' ob1 hΦ hl) ?_
    intro e σ' q
    cases e with
    | normal => exact q.elim
    | _ => exact q

theorem forS_L {α S : Type} {f : Nat → α → S → Option S} : ∀ (l : List α) (k : Nat) (st : S) (o : S), forS f k l st = some o → forL (B := Empty) (fun k x s => (f k x s).map .inl) k l st = some (.inl o)
  | [], _, _, o, h => by simp only [forS, Option.some.injEq] at h; subst h; rfl
  | x :: l, k, st, o, h => by
    simp only [forS] at h
    simp only [forL]
    cases hf : f k x st with
    | none => rw [hf] at h; cases h
    | some s' => rw [hf] at h; simpa using forS_L l (k + 1) s' o h

theorem AW.forY {c : Code} {α S : Type} {f : Nat → α → S → Option S} {l : List α} {st0 : S} {o : S} (h : forS f 0 l st0 = some o) (ks : Slots) (hk : Sub ks s) (Φ : Nat → S → Slots → List Ob → Prop) {s0 : Slots} {ob0 : List Ob} (h0 : Φ 0 st0 s0 ob0) (hs : Sub s0 s) (ho : ∃ p, pickAll ob p = some ob0 ∧ p.Nodup)
    (round : ∀ (k : Nat) (x : α) (st : S) (r : S) s ob, l[k]? = some x → k < l.length → Φ k st s ob → f k x st = some r →
      AW E n C c ⟨s ++ ks, ob⟩ (Then (fun σ' => ∃ s' ob', Φ (k + 1) r s' ob' ∧ Left (s' ++ ks) ob' σ') Q))
    (fin : ∀ (st : S) s ob, Φ l.length st s ob → st = o → AW E n C c ⟨s ++ ks, ob⟩ (Then (fun _ => False) Q)) : AW E n C (.loop c) ⟨s, ob⟩ Q := by
  refine AW.forX (forS_L l 0 st0 o h) ks hk Φ h0 hs ho ?_ ?_
  · intro k x st r s ob hx hkl hΦ hr _
    obtain ⟨r', hr', rfl⟩ := Option.map_eq_some_iff.1 hr
    refine AW.mono (round k x st r' s ob hx hkl hΦ hr') ?_
    intro e σ' q
    cases e with
    | normal => obtain ⟨s', ob', q1, q2⟩ := q; exact ⟨r', s', ob', rfl, q1, q2⟩
    | _ => exact q
  · intro st s ob hΦ he
    exact fin st s ob hΦ (by injection he)

theorem forI_L {S B : Type} {f : Nat → S → Option (S ⊕ B)} : ∀ (m k : Nat) (st : S), forI f k m st = forL (fun k (_ : Unit) s => f k s) k (List.replicate m ()) st
  | 0, _, _ => rfl
  | m + 1, k, st => by
    simp only [forI, List.replicate_succ, forL]
    cases f k st with
    | none => rfl
    | some r => cases r with
      | inl s' => exact forI_L m (k + 1) s'
      | inr b => rfl

theorem AW.forIX {c : Code} {S B : Type} {f : Nat → S → Option (S ⊕ B)} {m : Nat} {st0 : S} {o : S ⊕ B} (h : forI f 0 m st0 = some o) (ks : Slots) (hk : Sub ks s) (Φ : Nat → S → Slots → List Ob → Prop) {s0 : Slots} {ob0 : List Ob} (h0 : Φ 0 st0 s0 ob0) (hs : Sub s0 s) (ho : ∃ p, pickAll ob p = some ob0 ∧ p.Nodup)
    (round : ∀ (k : Nat) (st : S) (r : S ⊕ B) s ob, k < m → Φ k st s ob → f k st = some r → (∀ b', r = .inr b' → .inr b' = o) →
      AW E n C c ⟨s ++ ks, ob⟩ (Then (fun σ' => ∃ st' s' ob', r = .inl st' ∧ Φ (k + 1) st' s' ob' ∧ Left (s' ++ ks) ob' σ') Q))
    (fin : ∀ (st : S) s ob, Φ m st s ob → .inl st = o → AW E n C c ⟨s ++ ks, ob⟩ (Then (fun _ => False) Q)) : AW E n C (.loop c) ⟨s, ob⟩ Q := by
  rw [forI_L] at h
  exact AW.forX h ks hk Φ h0 hs ho (fun k _ st r s ob _ hkl => round k st r s ob (by simpa using hkl)) (fun st s ob hΦ he => fin st s ob (by simpa using hΦ) he)

theorem forJ_I {S : Type} {f : Nat → S → Option S} : ∀ (m k : Nat) (st : S) (o : S), forJ f k m st = some o → forI (B := Empty) (fun k s => (f k s).map .inl) k m st = some (.inl o)
  | 0, _, _, o, h => by simp only [forJ, Option.some.injEq] at h; subst h; rfl
  | m + 1, k, st, o, h => by
    simp only [forJ] at h
    simp only [forI]
    cases hf : f k st with
    | none => rw [hf] at h; cases h
    | some s' => rw [hf] at h; simpa using forJ_I m (k + 1) s' o h

theorem AW.forJY {c : Code} {S : Type} {f : Nat → S → Option S} {m : Nat} {st0 : S} {o : S} (h : forJ f 0 m st0 = some o) (ks : Slots) (hk : Sub ks s) (Φ : Nat → S → Slots → List Ob → Prop) {s0 : Slots} {ob0 : List Ob} (h0 : Φ 0 st0 s0 ob0) (hs : Sub s0 s) (ho : ∃ p, pickAll ob p = some ob0 ∧ p.Nodup)
    (round : ∀ (k : Nat) (st : S) (r : S) s ob, k < m → Φ k st s ob → f k st = some r →
      AW E n C c ⟨s ++ ks, ob⟩ (Then (fun σ' => ∃ s' ob', Φ (k + 1) r s' ob' ∧ Left (s' ++ ks) ob' σ') Q))
    (fin : ∀ (st : S) s ob, Φ m st s ob → st = o → AW E n C c ⟨s ++ ks, ob⟩ (Then (fun _ => False) Q)) : AW E n C (.loop c) ⟨s, ob⟩ Q := by
  refine AW.forIX (forJ_I m 0 st0 o h) ks hk Φ h0 hs ho ?_ ?_
  · intro k st r s ob hkl hΦ hr _
    obtain ⟨r', hr', rfl⟩ := Option.map_eq_some_iff.1 hr
    refine AW.mono (round k st r' s ob hkl hΦ hr') ?_
    intro e σ' q
    cases e with
    | normal => obtain ⟨s', ob', q1, q2⟩ := q; exact ⟨r', s', ob', rfl, q1, q2⟩
    | _ => exact q
  · intro st s ob hΦ he
    exact fin st s ob hΦ (by injection he)

/-- The result of a call: the objects that it got, as it leaves them, and new ones. -/
def Gives (k : Nat) (Rc : T → List Ob → List Ob → Prop) (x : T) (fp' : List Ob) : Prop := ∃ os new, fp' = os ++ new ∧ os.length = k ∧ Rc x os new

theorem kn_t {b : Bool} (h : b = true) : some (T.v (.bool b)) = some (T.v (.bool true)) := by rw [h]
theorem kn_f {b : Bool} (h : b = false) : some (T.v (.bool b)) = some (T.v (.bool false)) := by rw [h]
theorem cast_wr {k m : Nat} (h : k < m) (hm : m ≤ 9223372036854775806) : IntKind.i64.wrap ((k : Int) + 1) = ((k + 1 : Nat) : Int) := by
  rw [w64 (by omega)]; omega
theorem lt_wr {k m : Nat} (h : k < m) : decide ((k : Int) < (m : Int)) = true := by simp [h]
theorem nlt_wr {m : Nat} : decide ((m : Int) < (m : Int)) = false := by simp

/-! ### Operations at typed data -/

section typed
variable {dst : Option Tmp} {ty : TypeId} {pos : String} {aft : Array Edge} {g : Option (Nat × Bool)} {α : Type} {f : α → List T}

def rI (x : Int) : List T := [.v (.int .i64 x)]
def rK (k : IntKind) (x : Int) : List T := [.v (.int k x)]
def rB (x : Bool) : List T := [.v (.bool x)]
def rS (x : ByteArray) : List T := [.v (.string x)]
def rL {α : Type} (sz : Nat) (f : α → List T) (l : List α) : List T := [.list sz (l.map f)]
def cI (x : Int) : T := .v (.int .i64 x)
def cB (x : Bool) : T := .v (.bool x)
def cS (x : ByteArray) : T := .v (.string x)
def cL {α : Type} (sz : Nat) (f : α → List T) (l : List α) : T := .list sz (l.map f)

theorem Yp.lenM {x : Operand} {t : TypeId} {sz : Nat} {l : List α} {ti : TI} {e : Nat} (ht : E.tab t = some ti) (hk : ti.kind = .slice e) (hx : evalT s x = some (.list sz (l.map f))) :
    Yp E.P n s ⟨dst, .call { callee := .builtin .len, args := #[x], argTypes := #[t] }, ty, pos, aft, g⟩ (.v (.int .i64 (l.length : Int))) := by
  have := Yp.lenList (E := E) (n := n) (dst := dst) (ty := ty) (pos := pos) (aft := aft) (g := g) ht hk hx
  rwa [List.length_map] at this
theorem Yd.lenUM (k : Nat) {x : Operand} {t : TypeId} {objs : List Ob} {v : Value} {tt sz : Nat} {l : List α} {ti : TI} {e : Nat} (ht : E.tab t = some ti) (hk : ti.kind = .slice e) (hx : evalT s x = some (.v v))
    (ho : objs[k]? = some (.us v tt sz (l.map f))) : Yd E.P n s objs ⟨dst, .call { callee := .builtin .len, args := #[x], argTypes := #[t] }, ty, pos, aft, g⟩ (.v (.int .i64 (l.length : Int))) := by
  have := Yd.lenU (E := E) (n := n) (dst := dst) (ty := ty) (pos := pos) (aft := aft) (g := g) k ht hk hx ho
  rwa [List.length_map] at this
theorem Yp.indexA1 {t : TypeId} {x y : Operand} {k : IntKind} {i : Int} {m : Nat} {b off len : Nat} {ti fi : TI} {el : Nat}
    (ht : E.tab t = some ti) (hk : ti.kind = .array len el) (hel : E.tab el = some fi) (h1 : fi.size = 1)
    (hx : evalT s x = some (.v (.pointer (some ⟨b, off, none⟩)))) (hy : evalT s y = some (.v (.int k i))) (hi : i = (m : Int)) (hm : m < len) :
    Yp E.P n s ⟨dst, .indexAddr t x y, ty, pos, aft, g⟩ (.v (.pointer (some ⟨b, off + m, none⟩))) := by
  have := Yp.indexA (E := E) (n := n) (dst := dst) (ty := ty) (pos := pos) (aft := aft) (g := g) ht hk hel hx hy hi hm
  rwa [h1, Nat.mul_one] at this

theorem Yp.indexStrX {t : TypeId} {x y : Operand} {b : ByteArray} {k : IntKind} {i c : Int} {m : Nat} {ti : TI} (ht : E.tab t = some ti) (hk : ti.kind = .string) (hx : evalT s x = some (.v (.string b)))
    (hy : evalT s y = some (.v (.int k i))) (hi : i = (m : Int)) (hm : m < b.size) (hc : ((b.data.getD m 0).toNat : Int) = c) : Yp E.P n s ⟨dst, .index t x y, ty, pos, aft, g⟩ (.v (.int .u8 c)) :=
  hc ▸ Yp.indexStr ht hk hx hy hi hm
theorem Yp.addSX {t t' : TypeId} {x y : Operand} {a b r : ByteArray} (hx : evalT s x = some (.v (.string a))) (hy : evalT s y = some (.v (.string b)))
    (hc : a.size + b.size < 9223372036854775807 ∧ a ++ b = r) : Yp E.P n s ⟨dst, .binOp .add t x y t', ty, pos, aft, g⟩ (.v (.string r)) := hc.2 ▸ Yp.addS hx hy hc.1
theorem Yd.lenUssM (k : Nat) {β : Type} {x : Operand} {t : TypeId} {objs : List Ob} {v : Value} {tt tyi szi : Nat} {vs : List Value} {l : List β} {ff : β → Option (List (List T))} {ti : TI} {e : Nat} (ht : E.tab t = some ti) (hk : ti.kind = .slice e) (hx : evalT s x = some (.v v))
    (ho : objs[k]? = some (.uss v tt tyi szi vs (l.map ff))) : Yd E.P n s objs ⟨dst, .call { callee := .builtin .len, args := #[x], argTypes := #[t] }, ty, pos, aft, g⟩ (.v (.int .i64 (l.length : Int))) := by
  have := Yd.lenUss (E := E) (n := n) (dst := dst) (ty := ty) (pos := pos) (aft := aft) (g := g) k ht hk hx ho
  rwa [List.length_map] at this
theorem Lend.ussM {objs : List Ob} (k : Nat) {v : Value} {tt tyi szi : Nat} {vs : List Value} {l : List (List α)} (h : objs[k]? = some (.uss v tt tyi szi vs (l.map fun x => some (x.map f)))) : Lend objs (.v v) (.list 1 (l.map (rL szi f))) := by
  refine Lend.uss k (ty := tt) (tyi := tyi) (szi := szi) (vs := vs) (L := l.map fun x => x.map f) ?_ ?_
  · rw [h, List.map_map]; rfl
  · simp [listRows, List.map_map, rL, Function.comp_def]
theorem uss_lt {β γ : Type} {l : List β} {ff : β → γ} {m : Nat} {x : β} (h : l[m]? = some x) : m < (l.map ff).length := by rw [List.length_map]; exact (List.getElem?_eq_some_iff.1 h).1
theorem uss_lt' {β γ : Type} {l : List β} {ff : β → Option γ} {m k : Nat} {x : β} (h : l[m]? = some x) : m < ((l.map ff).set k none).length := by rw [List.length_set, List.length_map]; exact (List.getElem?_eq_some_iff.1 h).1
theorem hole_get {β γ : Type} {l : List β} {ff : β → Option γ} {m : Nat} {x : β} (h : l[m]? = some x) : ((l.map ff).set m none)[m]? = some none := by
  rw [List.getElem?_set_self]; rw [List.length_map]; exact (List.getElem?_eq_some_iff.1 h).1
theorem app_nil {l r : List (List α)} (h : l ++ [[]] = r) : (l.map fun x => some (x.map f)) ++ [some []] = r.map fun x => some (x.map f) := by rw [← h]; simp
theorem nils_len {l : List (List α)} (h : l.length + ([[]] : List (List α)).length ≤ 68719476736) : (l.map fun x => some (x.map f)).length + 1 ≤ 68719476736 := by simpa using h
theorem Ghost.toUssM (k m tyi szi : Nat) {v : Value} {tt : Nat} {r : List (List α)} (hr : List.replicate m [] = r) (hk : ob[k]? = some (.us v tt 1 (List.replicate m [.v (.slice none 0 0)]))) :
    Ghost n C s ob s (ob.set k (.uss v tt tyi szi (List.replicate m (.slice none 0 0)) (r.map fun x => some (x.map f)))) := by
  have := Ghost.toUss (n := n) (C := C) (s := s) k m tyi szi hk
  rw [← hr, List.map_replicate]; exact this
theorem UsR.toLists {H : GH} {w : World} {v : Value} {tt szi m : Nat} (h : UsR H w v tt 1 (List.replicate m [.v (.slice none 0 0)])) : UsR H w v tt 1 (List.replicate m [.list szi []]) := by
  rcases h with ⟨h1, h2⟩ | ⟨b, c, cap, h1, h2, h3, cs, a1, a2, a3, a4, a5, a6⟩
  · exact .inl ⟨h1, by cases m with | zero => rfl | succ m => simp [List.replicate_succ] at h2⟩
  · refine .inr ⟨b, c, cap, by simpa using h1, by simpa using h2, h3, cs, a1, a2, by simpa using a3, by simpa using a4, fun i e he => ?_, fun i e he j x hx => ?_⟩
    · rw [List.getElem?_replicate] at he; split at he <;> cases he; rfl
    · rw [List.getElem?_replicate] at he
      split at he
      · rename_i hi
        cases he
        cases j with
        | zero =>
          simp at hx; subst hx
          have := a6 i [.v (.slice none 0 0)] (by rw [List.getElem?_replicate, if_pos hi]) 0 _ rfl
          refine ⟨this.1, ?_⟩
          rw [this.2.v_eq]; exact .empty _ _ _
        | succ j => simp at hx
      · cases he
theorem Ghost.toLists (k m szi : Nat) {v : Value} {tt : Nat} {r : List (List α)} (hr : List.replicate m [] = r) (hk : ob[k]? = some (.us v tt 1 (List.replicate m [.v (.slice none 0 0)]))) :
    Ghost n C s ob s (ob.set k (.us v tt 1 (r.map (rL szi f)))) := by
  refine Ghost.recell k hk (fun H w h => ?_) rfl
  rw [← hr, List.map_replicate]
  exact UsR.toLists h

theorem us_set {l : List α} {m : Nat} {x : α} {e : List T} (h : e = f x) : (l.map f).set m e = (l.set m x).map f := by rw [h, List.map_set]
theorem app_map {l m r : List α} (h : l ++ m = r) : l.map f ++ m.map f = r.map f := by rw [← h, List.map_append]
theorem app_map0 {m r : List α} (h : [] ++ m = r) : m.map f = r.map f := by rw [← h]; rfl
theorem app_len {l m : List α} (h : l.length + m.length ≤ 68719476736) : (l.map f).length + (m.map f).length ≤ 68719476736 := by simpa using h
theorem app_len0 {m : List α} (h : ([] : List α).length + m.length ≤ 68719476736) : (m.map f).length ≤ 68719476736 := by simpa using h
theorem rep_map {m : Nat} {z : α} {r : List α} {zt : List T} (h : List.replicate m z = r) (hz : zt = f z) : List.replicate m zt = r.map f := by rw [← h, List.map_replicate, hz]
theorem sub_map {x y : Nat} {l r : List α} (h : (l.drop x).take (y - x) = r) : ((l.map f).drop x).take (y - x) = r.map f := by rw [← h, List.map_take, List.map_drop]

theorem AX.makeU {x y : Operand} {t : TypeId} {k1 k2 : IntKind} {i : Int} {m : Nat} {ti ei : TI} {e : Nat} {z : Value} {sz : Nat} {es' : List (List T)}
    (ht : E.tab t = some ti) (hk : ti.kind = .slice e) (he : E.tab e = some ei) (hz : ei.zero = some z) (h1 : z.cells.toList.all (·.oneCell') = true) (hsz : ei.size = sz) (hzs : z.cells.size = sz) (hby : Nat.ble ei.bytes 2048 = true)
    (hx : evalT s x = some (.v (.int k1 i))) (hy : evalT s y = some (.v (.int k2 i))) (hi : i = (m : Int)) (hm : m ≤ 68719476736) (hes : List.replicate m (zeroT z) = es')
    (hd : ∀ d, dst = some d → d < n) (k : ∀ b, R ⟨putS s dst (.v b), ob ++ [.us b e sz es']⟩) :
    AX E n C [] ⟨dst, .makeSlice t x y, ty, pos, aft, g⟩ ⟨s, ob⟩ R := by
  subst hes
  have hby' := Nat.le_of_ble_eq_true hby
  refine AX.makeSlice ht hk he hz h1 hsz hzs hx hy hi (by simp only [maxL]; omega) ?_ hd k
  have h1 : ei.bytes * m ≤ 2048 * 68719476736 := Nat.mul_le_mul hby' hm
  have h2 : ((ei.bytes * m : Nat) : Int) = (ei.bytes : Int) * (m : Int) := by simp
  omega

theorem Yp.subL {x : Operand} {t : TypeId} {lo hi mx : Option Operand} {sz : Nat} {l r : List α} {ti ei : TI} {e : Nat} (a b m : Nat)
    (ht : E.tab t = some ti) (hk : ti.kind = .slice e) (he : E.tab e = some ei) (hsz : ei.size = sz) (hx : evalT s x = some (.list sz (l.map f)))
    (h1 : bnd s lo 0 a) (h2 : bnd s hi l.length b) (hmn : mx = none) (hlh : a ≤ b) (hh : b ≤ l.length) (hr : (l.drop a).take (b - a) = r) :
    Yp E.P n s ⟨dst, .slice t x lo hi mx, ty, pos, aft, g⟩ (.list sz (r.map f)) := by
  subst hmn
  have := Yp.sliceL (E := E) (n := n) (dst := dst) (ty := ty) (pos := pos) (aft := aft) (g := g) (mx := none) a b m ht hk he hsz hx h1 (by rw [List.length_map]; exact h2)
    (fun cap hcap => ⟨cap, rfl, by rw [List.length_map] at hcap; omega, Nat.le_refl _⟩) (fun _ => rfl) hlh (by rw [List.length_map]; exact hh)
  rwa [sub_map hr] at this
end typed

theorem ife_t {α : Type} {c : Bool} {a b r : α} (hc : c = true) (h : (if c = true then a else b) = r) : a = r := by rw [if_pos hc] at h; exact h
theorem ife_f {α : Type} {c : Bool} {a b r : α} (hc : c = false) (h : (if c = true then a else b) = r) : b = r := by rw [if_neg (by simp [hc])] at h; exact h
theorem se_l {α β γ : Type} {f : α → γ} {g : β → γ} {x : α} {r : γ} (h : Sum.elim f g (.inl x) = r) : f x = r := h
theorem se_r {α β γ : Type} {f : α → γ} {g : β → γ} {x : β} {r : γ} (h : Sum.elim f g (.inr x) = r) : g x = r := h

end
theorem flatMap_get {α : Type} {row : α → List T} {sz : Nat} (hr : ∀ x, (row x).length = sz) : ∀ {l : List α} {m : Nat} {z : α}, l[m]? = some z → (((l.flatMap row).drop (m * sz)).take sz) = row z
  | [], _, _, h => by simp at h
  | x :: l, 0, z, h => by simp at h; subst h; rw [List.flatMap_cons, Nat.zero_mul, List.drop_zero, List.take_left' (hr x)]
  | x :: l, m + 1, z, h => by
    rw [List.flatMap_cons, show (m + 1) * sz = (row x).length + m * sz by rw [hr x, Nat.succ_mul]; omega, ← List.drop_drop, List.drop_left]
    exact flatMap_get hr (by simpa using h)
theorem flatMap_len {α : Type} {row : α → List T} {sz : Nat} (hr : ∀ x, (row x).length = sz) : ∀ l : List α, (l.flatMap row).length = l.length * sz
  | [] => by simp
  | x :: l => by rw [List.flatMap_cons, List.length_append, hr x, flatMap_len hr l, List.length_cons, Nat.succ_mul]; omega
/-- An element of an array of structs. -/
theorem Yp.indexAgR {E : Env} {n : Nat} {s : Slots} {dst : Option Tmp} {ty : TypeId} {pos : String} {aft : Array Edge} {g : Option (Nat × Bool)} {α : Type} {row : α → List T} {t : TypeId} {x y : Operand} {k : IntKind} {i : Int} {m len el : Nat} {l : List α} {z : α} {ti fi : TI}
    (ht : E.tab t = some ti) (hk : ti.kind = .array len el) (hel : E.tab el = some fi) (hag : fi.isAgg = true) (hlen : l.length = len) (hr : ∀ x, (row x).length = fi.size)
    (hx : evalT s x = some (.agg (l.flatMap row))) (hy : evalT s y = some (.v (.int k i))) (hi : i = (m : Int)) (hm : l[m]? = some z) :
    Yp E.P n s ⟨dst, .index t x y, ty, pos, aft, g⟩ (.agg (row z)) := by
  have hml := (List.getElem?_eq_some_iff.1 hm).1
  refine Yp.indexAg ht hk hel hx hy hi (by omega) ?_
  have h1 := flatMap_get (sz := fi.size) hr hm
  have h2 := flatMap_len (sz := fi.size) hr l
  have h3 : m * fi.size + fi.size ≤ l.length * fi.size := by rw [← Nat.succ_mul]; exact Nat.mul_le_mul_right _ hml
  unfold partT
  rw [hag, cond_true]
  cases hb : (Nat.beq (m * fi.size) 0 && Nat.beq fi.size (l.flatMap row).length) with
  | true =>
    rw [cond_true]
    rw [Bool.and_eq_true] at hb
    have e1 := Nat.eq_of_beq_eq_true hb.1
    have e2 := Nat.eq_of_beq_eq_true hb.2
    rw [e1, List.drop_zero, List.take_of_length_le (by omega)] at h1
    rw [h1]
  | false =>
    rw [cond_false, h1, show Nat.ble (m * fi.size + fi.size) (l.flatMap row).length = true from Nat.ble_eq_true_of_le (by omega)]
    rfl

section
variable {P : Program} {n : Nat} {s : Slots} {dst : Option Tmp} {ty : TypeId} {pos : String} {aft : Array Edge} {g : Option (Nat × Bool)}
theorem Yp.shr1 {t t' : TypeId} {x y : Operand} {k : IntKind} {a : Int} (hx : evalT s x = some (.v (.int k a))) (hy : evalT s y = some (.v (.int .u64 1))) :
    Yp P n s ⟨dst, .binOp .shr t x y t', ty, pos, aft, g⟩ (.v (.int k (a.fdiv 2))) := by
  refine fun H A r => ⟨_, .v _, fun w => ?_⟩
  have : min (1 : Int).toNat k.bits = 1 := by cases k <;> rfl
  simp only [execOp, r.evalv hx, r.evalv hy, eqGuard, binOp, Op.shift, this]
  rfl
theorem Yp.maxI3 {x y z : Operand} {ts : Array TypeId} {k : IntKind} {a b c : Int} (hx : evalT s x = some (.v (.int k a))) (hy : evalT s y = some (.v (.int k b))) (hz : evalT s z = some (.v (.int k c))) :
    Yp P n s ⟨dst, .call { callee := .builtin .max, args := #[x, y, z], argTypes := ts }, ty, pos, aft, g⟩ (.v (.int k (max (max a b) c))) := by
  refine fun H A r => ⟨_, .v _, fun w => ?_⟩
  have h1 : (if b > a then b else a) = max a b := by split <;> omega
  simp [execOp, resolve, invoke, builtin, Builtin.max_, Builtin.max2, r.evalv hx, r.evalv hy, r.evalv hz]
  omega
theorem Yp.minI3 {x y z : Operand} {ts : Array TypeId} {k : IntKind} {a b c : Int} (hx : evalT s x = some (.v (.int k a))) (hy : evalT s y = some (.v (.int k b))) (hz : evalT s z = some (.v (.int k c))) :
    Yp P n s ⟨dst, .call { callee := .builtin .min, args := #[x, y, z], argTypes := ts }, ty, pos, aft, g⟩ (.v (.int k (min (min a b) c))) := by
  refine fun H A r => ⟨_, .v _, fun w => ?_⟩
  simp [execOp, resolve, invoke, builtin, Builtin.min_, Builtin.min2, r.evalv hx, r.evalv hy, r.evalv hz]
  omega
end
/-- What a package-level variable holds that nobody writes. -/
theorem AX.loadG {E : Env} {n : Nat} {C : Ctx} {σ : St} {dst : Option Tmp} {ty : TypeId} {pos : String} {aft : Array Edge} {g : Option (Nat × Bool)} {R : St → Prop} {t : TypeId} {g0 : Nat} {cs : List T} {fi : TI} {y : T}
    (hgl : (g0, cs) ∈ gl) (ht : E.tab t = some fi) (hp : partT fi cs 0 = some y) (hd : ∀ d, dst = some d → d < n) (k : R ⟨putS σ.slots dst y, σ.objs⟩) : AX E n C [] ⟨dst, .load t (.global g0), ty, pos, aft, g⟩ σ R := by
  refine AX.value fun H a w gm => ?_
  have h : VR H (.pointer (some ⟨g0, 0, none⟩)) (.eptr cs) := (C.hg g0 cs hgl).mono gm.grow
  cases h with
  | eptr b off l cs' ty' fr hb hsz h1 hvs =>
    obtain ⟨p1, p2⟩ := partT_cells hsz h1 hvs hp
    have := run_loadVar_part (j := 0) (E.ok _ _ ht) (gm.held _ _ hb) hsz h1 hvs hp
    have hv : VR H (loadVal fi cs' 0) y := by
      cases ha : fi.isAgg with
      | true => simpa [loadVal, ha] using (p1 ha).2
      | false => simpa [loadVal, ha] using (p2 ha).2
    refine ⟨loadVal fi cs' 0, w, _, H, ?_, k, ?_, fun _ _ h => h, fun _ _ hp _ => ⟨hp, fun _ _ => rfl⟩⟩
    · simp only [execOp, Act.eval, Instr.loadAt, Instr.sureAddr, Sem.run_bind, Sem.run_pure, Result.andThen_ok]
      simp only [Nat.add_zero] at this
      rw [this]
      first | done | rfl
    · have := gm.put hv hd
      cases dst <;> exact this

end Go.Aw
