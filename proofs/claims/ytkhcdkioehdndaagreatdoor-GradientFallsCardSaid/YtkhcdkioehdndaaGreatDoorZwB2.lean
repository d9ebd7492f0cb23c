/- A program logic over the model. No condition. -/
import Derived.Test.YtkhcdkioehdndaaGreatDoorZwB1
import Derived.Scope
import Derived.Laws.StructEq
import Derived.Lib.LazyBuf
import Derived.KernelRfl
set_option maxRecDepth 100000
namespace Go.Aw
set_option linter.unusedVariables false
set_option linter.defProp false
set_option linter.unusedSimpArgs false
def wr (x : Int) : Int := IntKind.i64.wrap x
theorem A0 {x : Int} (h : -9223372036854775808 ≤ x ∧ x ≤ 9223372036854775807) : wr x = x := Zp h
def ix {α : Type} (l : List α) (i : Int) : Option (Nat × α) := if 0 ≤ i then (l[i.toNat]?).map fun x => (i.toNat, x) else none
theorem Xh {α : Type} {l : List α} {i : Int} {p : Nat × α} (h : ix l i = some p) : i = (p.1 : Int) ∧ l[p.1]? = some p.2 := by
 unfold ix at h
 split at h
 ·obtain ⟨x, D, rfl⟩ := Option.map_eq_some_iff.1 h
  exact ⟨by dsimp only; omega, D⟩
 ·cases h
theorem B8 {α : Type} {l : List α} {k : Nat} {x : α} (h : l[k]? = some x) : ix l (k : Int) = some (k, x) := by simp [ix, h]
def Wp : Nat := 68719476736
def Eg {α : Type} (l m : List α) : Option (List α) := if l.length + m.length ≤ Wp then some (l ++ m) else none
theorem F2 {α : Type} {l m r : List α} (h : Eg l m = some r) : l.length + m.length ≤ 68719476736 ∧ l ++ m = r := by
 unfold Eg at h
 split at h
 ·rename_i D; exact ⟨D, by cases h; rfl⟩
 ·cases h
theorem Qr {α : Type} {l m : List α} (h : l.length + m.length ≤ 68719476736) : Eg l m = some (l ++ m) := if_pos h
def Yf {α : Type} (n : Int) (z : α) : Option (List α) := if 0 ≤ n ∧ n ≤ (Wp : Int) then some (List.replicate n.toNat z) else none
theorem Xf {α : Type} {n : Int} {z : α} {r : List α} (h : Yf n z = some r) : ∃ m : Nat, n = (m : Int) ∧ m ≤ 68719476736 ∧ List.replicate m z = r := by
 unfold Yf at h
 split at h
 ·rename_i D
  refine ⟨n.toNat, by omega, ?_, by cases h; rfl⟩
  have : (Wp : Int) = 68719476736 := rfl
  omega
 ·cases h
theorem Yu {α : Type} {m : Nat} (z : α) (h : m ≤ 68719476736) : Yf (m : Int) z = some (List.replicate m z) := by
 unfold Yf
 have : (Wp : Int) = 68719476736 := rfl
 rw [if_pos (by omega)]; simp
def Wo {α : Type} (l : List α) (a b : Int) : Option (List α) := if 0 ≤ a ∧ a ≤ b ∧ b ≤ (l.length : Int) then some ((l.drop a.toNat).take (b.toNat - a.toNat)) else none
theorem Uz {α : Type} {l r : List α} {a b : Int} (h : Wo l a b = some r) : ∃ x y : Nat, a = (x : Int) ∧ b = (y : Int) ∧ x ≤ y ∧ y ≤ l.length ∧ (l.drop x).take (y - x) = r := by
 unfold Wo at h
 split at h
 ·exact ⟨a.toNat, b.toNat, by omega, by omega, by omega, by omega, by cases h; rfl⟩
 ·cases h
def Yj (a b : ByteArray) : Option ByteArray := if a.size + b.size ≤ 68719476736 then some (a ++ b) else none
theorem Vj {a b r : ByteArray} (h : Yj a b = some r) : a.size + b.size < 9223372036854775807 ∧ a ++ b = r := by
 unfold Yj at h
 split at h
 ·rename_i D; exact ⟨by omega, by cases h; rfl⟩
 ·cases h
def Zi (b : ByteArray) (i : Int) : Option (Nat × Int) := if 0 ≤ i ∧ i < (b.size : Int) then some (i.toNat, ((b.data.getD i.toNat 0).toNat : Int)) else none
theorem N5 {b : ByteArray} {i : Int} {p : Nat × Int} (h : Zi b i = some p) : i = (p.1 : Int) ∧ p.1 < b.size ∧ ((b.data.getD p.1 0).toNat : Int) = p.2 := by
 unfold Zi at h
 split at h
 ·cases h; exact ⟨by dsimp only; omega, by dsimp only; omega, rfl⟩
 ·cases h
def Wr (a b : Int) : Option Int := if b ≠ 0 then some (wr (a.tdiv b)) else none
theorem Va {a b r : Int} (h : Wr a b = some r) : b ≠ 0 ∧ IntKind.i64.wrap (a.tdiv b) = r := by
 unfold Wr at h
 split at h
 ·rename_i D; exact ⟨D, by cases h; rfl⟩
 ·cases h
def Qw (a b : Int) : Option Int := if b ≠ 0 then some (a.tmod b) else none
theorem Kk {a b r : Int} (h : Qw a b = some r) : b ≠ 0 ∧ a.tmod b = r := by
 unfold Qw at h
 split at h
 ·rename_i D; exact ⟨D, by cases h; rfl⟩
 ·cases h
def Zl (p : Prop) [Decidable p] : Option Unit := if p then some () else none
theorem Vi {p : Prop} [Decidable p] {u : Unit} (h : Zl p = some u) : p := by
 unfold Zl at h
 split at h
 ·assumption
 ·cases h
def O6 (a b : ByteArray) : Bool := a.toList == b.toList
theorem Ac {α β : Type} {o : Option α} {f : α → Option β} {r : β} (h : o.bind f = some r) : ∃ x, o = some x ∧ f x = some r := Option.bind_eq_some_iff.1 h
def C0 {S B : Type} (f : S → Option (S ⊕ B)) : Nat → S → Option B
 | 0, _ => none
 | n + 1, s => match f s with
  | none => none
  | some (.inl s') => C0 f n s'
  | some (.inr b) => some b
def Gh : Nat := 18446744073709551616
def forL {α S B : Type} (f : Nat → α → S → Option (S ⊕ B)) : Nat → List α → S → Option (S ⊕ B)
 | _, [], s => some (.inl s)
 | k, x :: l, s => match f k x s with
  | none => none
  | some (.inl s') => forL f (k + 1) l s'
  | some (.inr b) => some (.inr b)
def forS {α S : Type} (f : Nat → α → S → Option S) : Nat → List α → S → Option S
 | _, [], s => some s
 | k, x :: l, s => match f k x s with
  | none => none
  | some s' => forS f (k + 1) l s'
def forI {S B : Type} (f : Nat → S → Option (S ⊕ B)) : Nat → Nat → S → Option (S ⊕ B)
 | _, 0, s => some (.inl s)
 | k, n + 1, s => match f k s with
  | none => none
  | some (.inl s') => forI f (k + 1) n s'
  | some (.inr b) => some (.inr b)
def forJ {S : Type} (f : Nat → S → Option S) : Nat → Nat → S → Option S
 | _, 0, s => some s
 | k, n + 1, s => match f k s with
  | none => none
  | some s' => forJ f (k + 1) n s'
structure Arr (α : Type) (n : Nat) where
 l : List α
 h : l.length = n
theorem Arr.ext' {α : Type} {n : Nat} {a b : Arr α n} (h : a.l = b.l) : a = b := by cases a; cases b; cases h; rfl
instance {α : Type} {n : Nat} [DecidableEq α] : DecidableEq (Arr α n) := fun a b => if h : a.l = b.l then .isTrue (Arr.ext' h) else .isFalse (fun h' => h (by rw [h']))
instance {α : Type} {n : Nat} [Inhabited α] : Inhabited (Arr α n) := ⟨⟨List.replicate n default, by simp⟩⟩
def Arr.set {α : Type} {n : Nat} (a : Arr α n) (i : Nat) (x : α) : Arr α n := ⟨a.l.set i x, by simp [a.h]⟩
section
variable {E : Env} {n : Nat} {C : Ctx} {s : Ah} {ob : List Ob} {Q : Exit → St → Prop} {ops : Array Oper} {R : St → Prop}
theorem Ghost.pick (ks : List Nat) {K : List Ob} (hK : Bx ob ks = some K) (hn : ks.Nodup) : Ghost n C s ob s K := by
 intro H a w O
 obtain ⟨p1, p2⟩ := E5 hK
 have D : ∀ (i : Nat) (p : Ob), K[i]? = some p → ∃ k, ks[i]? = some k ∧ ob[k]? = some p := by
  intro i p hi
  have hil := (gs hi).1
  obtain ⟨o, Y, Z⟩ := p2 i ks[i] (gq (by omega))
  rw [hi] at Z
  cases Z
  exact ⟨_, gq (by omega), Y⟩
 have G : ∀ p, p ∈ K → p ∈ ob := fun p M => by
  obtain ⟨i, hi⟩ := List.mem_iff_getElem?.1 M
  obtain ⟨k, _, h⟩ := D i p hi
  exact mg h
 have hl := Cn.1 O.nodup
 refine ⟨H, fun _ _ h => h, { O with objs := fun p M => O.objs p (G p M), free := fun p M => O.free p (G p M), new := fun p M => O.new p (G p M), nodup := ?_ }⟩
 refine Cn.2 ⟨fun i p hi => ?_, fun i j p q hi hj aa b hb => ?_⟩
 ·obtain ⟨k, _, h⟩ := D i p hi
  exact hl.1 k p h
 ·obtain ⟨k, Y, Z⟩ := D i p hi
  obtain ⟨k', h3, h4⟩ := D j q hj
  refine hl.2 k k' p q Z h4 (fun he => aa ?_) b hb
  subst he
  exact (List.getElem?_inj (gs Y).1 hn).1 (Y.trans h3.symm)
theorem Ghost.refl : Ghost n C s ob s ob := fun H _ _ D => ⟨H, fun _ _ h => h, D⟩
theorem Ghost.slots {G : Ah} (h : ∀ (H : GH) (a : Act) (w : World), Gam n C ⟨s, ob⟩ H a w → ∀ i x, get G i = some x → VR H (a.tmps.getD i undef) x) : Ghost n C s ob G ob := fun H a w D =>
 ⟨H, fun _ _ h => h, { D with slots := h H a w D }⟩
theorem Ay {so : Ah} {prot : List Nat} {pobjs : List Ob} {σ : St} (h : AO E n C ops [] σ R) : AP E n C ops prot pobjs .nil so σ R := fun _ _ H a w _ _ _ _ _ D => h H a w D
theorem Cx {pl : PL} {so : Ah} {prot : List Nat} {pobjs : List Ob} {O : Ah} {ob' : List Ob} (h : Ghost n C s ob O ob') (hp : prot.map (fun i => ob'[i]?) = prot.map (fun i => ob[i]?))
  (k : AP E n C ops prot pobjs pl so ⟨O, ob'⟩ R) : AP E n C ops prot pobjs pl so ⟨s, ob⟩ R := by
 intro Hs ws H a w sr wr Y hH M Z
 obtain ⟨H', h1, g⟩ := h H a w Z
 refine k Hs ws H' a w sr wr Y (fun b o hb => h1 _ _ (hH _ _ hb)) (fun p G => ?_) g
 obtain ⟨i, hi, he⟩ := M p G
 have D : i ∈ prot := by simpa using hi
 have : ob'[i]? = ob[i]? := List.map_inj_left.1 hp i D
 exact ⟨i, hi, this.trans he⟩
theorem Jc {pl : PL} {so : Ah} {prot : List Nat} {pobjs : List Ob} (d : Nat) (k : AP E n C ops prot pobjs pl (Zq so (some d)) ⟨s, ob⟩ R) : AP E n C ops prot pobjs pl so ⟨s, ob⟩ R :=
 fun Hs Z H a w D wr G O Y M => k Hs Z H a w ⟨D.size, fun i x h => D.slots i x (E8 h).2⟩ wr G O Y M
theorem Ax {pl : PL} {so : Ah} {prot : List Nat} {pobjs : List Ob} {b c : Bool} (t : Nat) (Y : get s t = some (.v (.bool b))) (hb : b = c) (k : AP E n C ops prot pobjs pl so ⟨(t, .v (.bool c)) :: s, ob⟩ R) : AP E n C ops prot pobjs pl so ⟨s, ob⟩ R := by
 intro Hs ws H a w Z wr D M O G
 subst hb
 exact k Hs ws H a w Z wr D M O (G.same Y)
theorem Bv {o : Oper} {x : T} (hy : Yd E.P n s ob o x) (O : ∀ M, o.dst = some M → M < n) (k : R ⟨Dw s o.dst x, ob⟩) : AX E n C [] o ⟨s, ob⟩ R := by
 intro H a w G
 obtain ⟨v, Z, D⟩ := hy H a w G.sr G.wr
 simp only [Oper.wp, D w ⟨G.held, fun _ _ _ _ => rfl⟩, Oper.upon]
 refine ⟨_, H, v, k, ?_, rfl, fun _ _ h => h, fun i p Y _ => ⟨Y, by intros; trivial⟩⟩
 have := G.put Z O
 cases h : o.dst <;> simpa [St.put, Dw, h] using this
theorem Lb {H : GH} {a : Act} {j : Nat} {t : Tmp} (r : SR n s H a) (G : (ops[j]?).bind (·.dst) = some t) (M : get s t = some (.v undef)) : yielded ops a.tmps j = none := by
 have D := (r.slots t _ M).v_eq
 simp only [yielded, G, Option.bind_some]
 rw [Array.getD_eq_getD_getElem?] at D
 cases h : a.tmps[t]? with
 | none => rfl
 | some x => rw [h] at D; simp only [Option.getD_some] at D; subst D; rfl
theorem Ad {prot : List Nat} {pobjs : List Ob} {so : Ah} {i : Nat} {r : PL} {o : Oper} {j : Nat} {D : Bool} {t : Tmp} (ho : ops[i]? = some o)
  (hg : o.guard = some (j, D)) (Z : (ops[j]?).bind (·.dst) = some t) (hs : get s t = some (.v undef)) (Y : ∀ d, o.dst = some d → d < n)
  (k : AP E n C ops prot pobjs r so (St.put ⟨s, ob⟩ o.dst (.v undef)) R) (hf : free so o.dst = true := by rfl) : AP E n C ops prot pobjs (.still i r) so ⟨s, ob⟩ R := by
 intro Hs ws H a w sr wr G O hp M
 have hw : Region.wanted o (yielded ops a.tmps) = false := by simp [Region.wanted, hg, Lb M.sr Z hs]
 have hk := k Hs ws H _ w (sr.free o.dst undef hf) wr G O (by cases h : o.dst <;> simpa [St.put, h] using hp) (M.put (.v undef) Y)
 exact ⟨o, undef, ho, .inr ⟨hw, rfl⟩, G, hk⟩
theorem P8 {c : Code} (t : Nat) {sz : Nat} {es : List (List T)} (G : get s t = some (.list sz es)) (k : es.length ≤ 140737488355328 → AW E n C c ⟨s, ob⟩ Q) : AW E n C c ⟨s, ob⟩ Q :=
 fun H a w D => k (D.slots _ _ G).list_max H a w D
theorem Wk {c : Code} (k : Nat) {v : Value} {M sz : Nat} {es : List (List T)} (O : ob[k]? = some (.us v M sz es)) (Y : es.length ≤ 140737488355328 → AW E n C c ⟨s, ob⟩ Q) : AW E n C c ⟨s, ob⟩ Q := by
 intro H a w G
 have D : UsR H w v M sz es := G.objs _ (mg O)
 refine Y ?_ H a w G
 rcases D with ⟨_, rfl⟩ | ⟨_, _, _, _, _, _, _, _, _, _, h, _⟩
 ·simp
 ·exact h
theorem Co {α : Type} {f : α → List T} {l : List α} {c : Code} (t : Nat) {sz : Nat} (D : get s t = some (.list sz (l.map f))) (k : l.length ≤ 9223372036854775806 → AW E n C c ⟨s, ob⟩ Q) : AW E n C c ⟨s, ob⟩ Q :=
 P8 t D fun h => k (by rw [List.length_map] at h; omega)
theorem Qf {α : Type} {f : α → List T} {l : List α} {c : Code} (k : Nat) {v : Value} {M sz : Nat} (D : ob[k]? = some (.us v M sz (l.map f))) (G : l.length ≤ 9223372036854775806 → AW E n C c ⟨s, ob⟩ Q) : AW E n C c ⟨s, ob⟩ Q :=
 Wk k D fun h => G (by rw [List.length_map] at h; omega)
theorem Do {k m : Nat} (h : k < m) : decide ((k : Int) < (m : Int)) = true := decide_eq_true (by omega)
theorem Dp (m : Nat) : decide (((m : Nat) : Int) < (m : Int)) = false := by simp
def Zr (Q : Exit → St → Prop) : Exit → St → Prop
 | .goto _, _ => False
 | e, σ => Q e σ
theorem AW.scope {c : Code} {σ : St} (h : AW E n C c σ (Zr Q)) : AW E n C (.scope c) σ Q := fun H a w g =>
 Hm (F8 (h H a w g) fun e a' w' ⟨σ', H', q, D⟩ => by
  cases e <;> first | exact ⟨σ', H', q, D⟩ | exact q.elim)
def Left (D : Ah) (ob' : List Ob) (σ : St) : Prop := Sub D σ.slots ∧ ∃ ks, Bx σ.objs ks = some ob' ∧ ks.Nodup
theorem Left.ghost {D : Ah} {ob' : List Ob} {σ : St} (h : Left D ob' σ) : Ghost n C σ.slots σ.objs D ob' := by
 obtain ⟨G, Y, M, O⟩ := h
 exact (Ghost.pick Y M O).trans (Ghost.weaken G (List.Sublist.refl _))
theorem Qs {c : Code} {D : Ah} {ob' : List Ob} {σ : St} (h : Left D ob' σ) (k : AW E n C c ⟨D, ob'⟩ Q) : AW E n C c σ Q := aA h.ghost k
theorem Am {x y : Code} (M : Ah → List Ob → Prop) (ks : Ah) (Y : Sub ks s)
  (h : AW E n C x ⟨s, ob⟩ (Gb (fun σ' => ∃ D ob', M D ob' ∧ Left (D ++ ks) ob' σ') Q)) (k : ∀ D ob', M D ob' → AW E n C y ⟨D ++ ks, ob'⟩ Q) : AW E n C (.seq x y) ⟨s, ob⟩ Q :=
 Uv _ h (fun _ ⟨_, _, G, O⟩ => Qs O (k _ _ G))
theorem Ab {x y : Code} {σ : St} (h : ∀ D, D = y → AW E n C x σ (Gb (fun σ' => AW E n C D σ' Q) Q)) : AW E n C (.seq x y) σ Q := Z5 (h y rfl)
@[reducible] def Z0 {α β : Type} (o : Option α) (a : β) (f : α → β) : β := match o with
 | none => a
 | some x => f x
@[reducible] def Zx {α : Type} (o : Option α) (A : Prop) (B : α → Prop) : Prop := match o with
 | none => A
 | some x => B x
theorem Oh {c : Code} (J : Nat → Ah → List Ob → Prop) {m : Nat} {Y : Ah} {G : List Ob} (Z : J m Y G) (hs : Left Y G ⟨s, ob⟩)
  (M : ∀ m s ob, J m s ob → AW E n C c ⟨s, ob⟩ (Gb (fun σ' => ∃ O D ob', O < m ∧ J O D ob' ∧ Left D ob' σ') Q)) : AW E n C (.loop c) ⟨s, ob⟩ Q := by
 refine AW.loop (fun m σ => ∃ D ob', J m D ob' ∧ Left D ob' σ) (m := m) ⟨Y, G, Z, hs⟩ ?_
 rintro m σ ⟨D, ob', hJ, h1⟩
 refine Qs h1 (AW.mono (M m D ob' hJ) ?_)
 intro e σ' q
 cases e with
 | normal => obtain ⟨O, D, ob', q1, q2, q3⟩ := q; exact ⟨O, q1, D, ob', q2, q3⟩
 | _ => exact q
theorem Lr {G ks : Ah} {D : List Ob} (h1 : Sub G s) (h2 : Sub ks s) (M : ∃ p, Bx ob p = some D ∧ p.Nodup) : Left (G ++ ks) D ⟨s, ob⟩ := ⟨Sub.append h1 h2, M⟩
theorem Cv {c : Code} {S B : Type} {f : S → Option (S ⊕ B)} {fuel : Nat} {aa : S} {b : B} (h : C0 f fuel aa = some b) (ks : Ah) (hk : Sub ks s) (Φ : S → Ah → List Ob → Prop) {s0 : Ah} {ab : List Ob} (h0 : Φ aa s0 ab) (hs : Sub s0 s) (ho : ∃ p, Bx ob p = some ab ∧ p.Nodup)
  (Y : ∀ (G : S) (r : S ⊕ B) s ob, Φ G s ob → f G = some r → (∀ b', r = .inr b' → b' = b) →
   AW E n C c ⟨s ++ ks, ob⟩ (Gb (fun σ' => ∃ D Z ob', r = .inl D ∧ Φ D Z ob' ∧ Left (Z ++ ks) ob' σ') Q)) : AW E n C (.loop c) ⟨s, ob⟩ Q := by
 refine Oh (fun m s1 O => ∃ G Z, Φ G Z O ∧ C0 f m G = some b ∧ s1 = Z ++ ks) (m := fuel) ⟨aa, s0, h0, h, rfl⟩ (Lr hs hk ho) ?_
 rintro m s1 O ⟨G, Z, hΦ, M, rfl⟩
 cases m with
 | zero => simp [C0] at M
 | succ m =>
  simp only [C0] at M
  cases hf : f G with
  | none => rw [hf] at M; cases M
  | some r =>
   rw [hf] at M
   refine AW.mono (Y G r Z O hΦ hf (fun b' hb => ?_)) ?_
   ·subst hb; simpa using M
   ·intro e σ' q
    cases e with
    | normal =>
     obtain ⟨D, s'', ob', rfl, q2, q3⟩ := q
     exact ⟨m, _, ob', Nat.lt_succ_self m, ⟨D, s'', q2, M, rfl⟩, q3⟩
    | _ => exact q
theorem Xj {α S B : Type} {f : Nat → α → S → Option (S ⊕ B)} {l : List α} {k : Nat} {x : α} (D : l[k]? = some x) (M : S) : forL f k (l.drop k) M = (match f k x M with
  | none => none
  | some (.inl s') => forL f (k + 1) (l.drop (k + 1)) s'
  | some (.inr b) => some (.inr b)) := by
 have G := (gs D).1
 have O : l[k] = x := by rw [gq G] at D; cases D; rfl
 rw [List.drop_eq_getElem_cons G, O]; rfl
theorem Cd {c : Code} {α S B : Type} {f : Nat → α → S → Option (S ⊕ B)} {l : List α} {ab : S} {o : S ⊕ B} (h : forL f 0 l ab = some o) (ks : Ah) (hk : Sub ks s) (Φ : Nat → S → Ah → List Ob → Prop) {s0 : Ah} {ac : List Ob} (h0 : Φ 0 ab s0 ac) (hs : Sub s0 s) (ho : ∃ p, Bx ob p = some ac ∧ p.Nodup)
  (aa : ∀ (k : Nat) (x : α) (D : S) (r : S ⊕ B) s ob, l[k]? = some x → k < l.length → Φ k D s ob → f k x D = some r → (∀ b', r = .inr b' → .inr b' = o) →
   AW E n C c ⟨s ++ ks, ob⟩ (Gb (fun σ' => ∃ O Y ob', r = .inl O ∧ Φ (k + 1) O Y ob' ∧ Left (Y ++ ks) ob' σ') Q))
  (fin : ∀ (D : S) s ob, Φ l.length D s ob → .inl D = o → AW E n C c ⟨s ++ ks, ob⟩ (Gb (fun _ => False) Q)) : AW E n C (.loop c) ⟨s, ob⟩ Q := by
 refine Oh (fun m s1 M => ∃ k D Y, k + m = l.length ∧ Φ k D Y M ∧ forL f k (l.drop k) D = some o ∧ s1 = Y ++ ks) (m := l.length) ⟨0, ab, s0, by simp, h0, h, rfl⟩ (Lr hs hk ho) ?_
 rintro m s1 M ⟨k, D, Y, hm, hΦ, G, rfl⟩
 rcases Nat.lt_or_ge k l.length with Z | Z
 ·have hx : l[k]? = some l[k] := gq Z
  rw [Xj hx] at G
  cases hf : f k l[k] D with
  | none => rw [hf] at G; cases G
  | some r =>
   rw [hf] at G
   refine AW.mono (aa k _ D r Y M hx Z hΦ hf (fun b' hb => ?_)) ?_
   ·subst hb; simpa using G
   ·intro e σ' q
    cases e with
    | normal =>
     obtain ⟨O, s'', ob', rfl, q2, q3⟩ := q
     exact ⟨m - 1, _, ob', by omega, ⟨k + 1, O, s'', by omega, q2, G, rfl⟩, q3⟩
    | _ => exact q
 ·have : k = l.length := by omega
  subst this
  rw [List.drop_length] at G
  simp only [forL, Option.some.injEq] at G
  refine AW.mono (fin D Y M hΦ G) ?_
  intro e σ' q
  cases e with
  | normal => exact q.elim
  | _ => exact q
theorem Un {α S : Type} {f : Nat → α → S → Option S} : ∀ (l : List α) (k : Nat) (D : S) (o : S), forS f k l D = some o → forL (B := Empty) (fun k x s => (f k x s).map .inl) k l D = some (.inl o)
 | [], _, _, o, h => by simp only [forS, Option.some.injEq] at h; subst h; rfl
 | x :: l, k, D, o, h => by
  simp only [forS] at h
  simp only [forL]
  cases hf : f k x D with
  | none => rw [hf] at h; cases h
  | some s' => rw [hf] at h; simpa using Un l (k + 1) s' o h
theorem Ei {c : Code} {α S : Type} {f : Nat → α → S → Option S} {l : List α} {M : S} {o : S} (h : forS f 0 l M = some o) (ks : Ah) (hk : Sub ks s) (Φ : Nat → S → Ah → List Ob → Prop) {s0 : Ah} {O : List Ob} (h0 : Φ 0 M s0 O) (hs : Sub s0 s) (ho : ∃ p, Bx ob p = some O ∧ p.Nodup)
  (G : ∀ (k : Nat) (x : α) (D : S) (r : S) s ob, l[k]? = some x → k < l.length → Φ k D s ob → f k x D = some r →
   AW E n C c ⟨s ++ ks, ob⟩ (Gb (fun σ' => ∃ Y ob', Φ (k + 1) r Y ob' ∧ Left (Y ++ ks) ob' σ') Q))
  (Z : ∀ (D : S) s ob, Φ l.length D s ob → D = o → AW E n C c ⟨s ++ ks, ob⟩ (Gb (fun _ => False) Q)) : AW E n C (.loop c) ⟨s, ob⟩ Q := by
 refine Cd (Un l 0 M o h) ks hk Φ h0 hs ho ?_ ?_
 ·intro k x D r s ob hx aa hΦ hr _
  obtain ⟨r', ab, rfl⟩ := Option.map_eq_some_iff.1 hr
  refine AW.mono (G k x D r' s ob hx aa hΦ ab) ?_
  intro e σ' q
  cases e with
  | normal => obtain ⟨Y, ob', q1, q2⟩ := q; exact ⟨r', Y, ob', rfl, q1, q2⟩
  | _ => exact q
 ·intro D s ob hΦ he
  exact Z D s ob hΦ (by injection he)
theorem Up {S B : Type} {f : Nat → S → Option (S ⊕ B)} : ∀ (m k : Nat) (D : S), forI f k m D = forL (fun k (_ : Unit) s => f k s) k (List.replicate m ()) D
 | 0, _, _ => rfl
 | m + 1, k, D => by
  simp only [forI, List.replicate_succ, forL]
  cases f k D with
  | none => rfl
  | some r => cases r with
   | inl s' => exact Up m (k + 1) s'
   | inr b => rfl
theorem Fg {c : Code} {S B : Type} {f : Nat → S → Option (S ⊕ B)} {m : Nat} {Y : S} {o : S ⊕ B} (h : forI f 0 m Y = some o) (ks : Ah) (hk : Sub ks s) (Φ : Nat → S → Ah → List Ob → Prop) {s0 : Ah} {M : List Ob} (h0 : Φ 0 Y s0 M) (hs : Sub s0 s) (ho : ∃ p, Bx ob p = some M ∧ p.Nodup)
  (G : ∀ (k : Nat) (D : S) (r : S ⊕ B) s ob, k < m → Φ k D s ob → f k D = some r → (∀ b', r = .inr b' → .inr b' = o) →
   AW E n C c ⟨s ++ ks, ob⟩ (Gb (fun σ' => ∃ O s' ob', r = .inl O ∧ Φ (k + 1) O s' ob' ∧ Left (s' ++ ks) ob' σ') Q))
  (Z : ∀ (D : S) s ob, Φ m D s ob → .inl D = o → AW E n C c ⟨s ++ ks, ob⟩ (Gb (fun _ => False) Q)) : AW E n C (.loop c) ⟨s, ob⟩ Q := by
 rw [Up] at h
 exact Cd h ks hk Φ h0 hs ho (fun k _ D r s ob _ aa => G k D r s ob (by simpa using aa)) (fun D s ob hΦ he => Z D s ob (by simpa using hΦ) he)
theorem Uo {S : Type} {f : Nat → S → Option S} : ∀ (m k : Nat) (D : S) (o : S), forJ f k m D = some o → forI (B := Empty) (fun k s => (f k s).map .inl) k m D = some (.inl o)
 | 0, _, _, o, h => by simp only [forJ, Option.some.injEq] at h; subst h; rfl
 | m + 1, k, D, o, h => by
  simp only [forJ] at h
  simp only [forI]
  cases hf : f k D with
  | none => rw [hf] at h; cases h
  | some s' => rw [hf] at h; simpa using Uo m (k + 1) s' o h
theorem Kt {c : Code} {S : Type} {f : Nat → S → Option S} {m : Nat} {M : S} {o : S} (h : forJ f 0 m M = some o) (ks : Ah) (hk : Sub ks s) (Φ : Nat → S → Ah → List Ob → Prop) {s0 : Ah} {O : List Ob} (h0 : Φ 0 M s0 O) (hs : Sub s0 s) (ho : ∃ p, Bx ob p = some O ∧ p.Nodup)
  (G : ∀ (k : Nat) (D : S) (r : S) s ob, k < m → Φ k D s ob → f k D = some r →
   AW E n C c ⟨s ++ ks, ob⟩ (Gb (fun σ' => ∃ Y ob', Φ (k + 1) r Y ob' ∧ Left (Y ++ ks) ob' σ') Q))
  (Z : ∀ (D : S) s ob, Φ m D s ob → D = o → AW E n C c ⟨s ++ ks, ob⟩ (Gb (fun _ => False) Q)) : AW E n C (.loop c) ⟨s, ob⟩ Q := by
 refine Fg (Uo m 0 M o h) ks hk Φ h0 hs ho ?_ ?_
 ·intro k D r s ob aa hΦ hr _
  obtain ⟨r', ab, rfl⟩ := Option.map_eq_some_iff.1 hr
  refine AW.mono (G k D r' s ob aa hΦ ab) ?_
  intro e σ' q
  cases e with
  | normal => obtain ⟨Y, ob', q1, q2⟩ := q; exact ⟨r', Y, ob', rfl, q1, q2⟩
  | _ => exact q
 ·intro D s ob hΦ he
  exact Z D s ob hΦ (by injection he)
def Dz (k : Nat) (Rc : T → List Ob → List Ob → Prop) (x : T) (D : List Ob) : Prop := ∃ os new, D = os ++ new ∧ os.length = k ∧ Rc x os new
theorem A5 {k m : Nat} (h : k < m) (D : m ≤ 9223372036854775806) : IntKind.i64.wrap ((k : Int) + 1) = ((k + 1 : Nat) : Int) := by
 rw [Zp (by omega)]; omega
section typed
variable {dst : Option Tmp} {ty : TypeId} {pos : String} {aft : Array Edge} {g : Option (Nat × Bool)} {α : Type} {f : α → List T}
def rI (x : Int) : List T := [.v (.int .i64 x)]
def rK (k : IntKind) (x : Int) : List T := [.v (.int k x)]
def rS (x : ByteArray) : List T := [.v (.string x)]
def cI (x : Int) : T := .v (.int .i64 x)
def cL {α : Type} (sz : Nat) (f : α → List T) (l : List α) : T := .list sz (l.map f)
theorem Ck (k : Nat) {x : Operand} {t : TypeId} {objs : List Ob} {v : Value} {Y sz : Nat} {l : List α} {ti : TI} {e : Nat} (M : E.tab t = some ti) (D : ti.kind = .slice e) (O : Al s x = some (.v v))
  (G : objs[k]? = some (.us v Y sz (l.map f))) : Yd E.P n s objs ⟨dst, .call { callee := .builtin .len, args := #[x], argTypes := #[t] }, ty, pos, aft, g⟩ (.v (.int .i64 (l.length : Int))) := by
 have := X2 (E := E) (n := n) (dst := dst) (ty := ty) (pos := pos) (aft := aft) (g := g) k M D O G
 rwa [List.length_map] at this
theorem K2 {t : TypeId} {x y : Operand} {k : IntKind} {i : Int} {m : Nat} {b off len : Nat} {ti G : TI} {D : Nat}
  (Y : E.tab t = some ti) (M : ti.kind = .array len D) (hel : E.tab D = some G) (h1 : G.size = 1)
  (Z : Al s x = some (.v (.pointer (some ⟨b, off, none⟩)))) (hy : Al s y = some (.v (.int k i))) (hi : i = (m : Int)) (O : m < len) :
  Yp E.P n s ⟨dst, .indexAddr t x y, ty, pos, aft, g⟩ (.v (.pointer (some ⟨b, off + m, none⟩))) := by
 have := Dm (E := E) (n := n) (dst := dst) (ty := ty) (pos := pos) (aft := aft) (g := g) Y M hel Z hy hi O
 rwa [h1, Nat.mul_one] at this
theorem Hf {t : TypeId} {x y : Operand} {b : ByteArray} {k : IntKind} {i c : Int} {m : Nat} {ti : TI} (M : E.tab t = some ti) (D : ti.kind = .string) (O : Al s x = some (.v (.string b)))
  (Y : Al s y = some (.v (.int k i))) (hi : i = (m : Int)) (G : m < b.size) (hc : ((b.data.getD m 0).toNat : Int) = c) : Yp E.P n s ⟨dst, .index t x y, ty, pos, aft, g⟩ (.v (.int .u8 c)) :=
 hc ▸ Ou M D O Y hi G
theorem Vr {t M : TypeId} {x y : Operand} {a b r : ByteArray} (D : Al s x = some (.v (.string a))) (G : Al s y = some (.v (.string b)))
  (hc : a.size + b.size < 9223372036854775807 ∧ a ++ b = r) : Yp E.P n s ⟨dst, .binOp .add t x y M, ty, pos, aft, g⟩ (.v (.string r)) := hc.2 ▸ X1 D G hc.1
theorem Di {l : List α} {m : Nat} {x : α} {e : List T} (h : e = f x) : (l.map f).set m e = (l.set m x).map f := by rw [h, List.map_set]
theorem Xv {l m r : List α} (h : l ++ m = r) : l.map f ++ m.map f = r.map f := by rw [← h, List.map_append]
theorem Vm {m r : List α} (h : [] ++ m = r) : m.map f = r.map f := by rw [← h]; rfl
theorem Xw {l m : List α} (h : l.length + m.length ≤ 68719476736) : (l.map f).length + (m.map f).length ≤ 68719476736 := by simpa using h
theorem Vn {m : List α} (h : ([] : List α).length + m.length ≤ 68719476736) : (m.map f).length ≤ 68719476736 := by simpa using h
theorem Fm {m : Nat} {z : α} {r : List α} {D : List T} (h : List.replicate m z = r) (G : D = f z) : List.replicate m D = r.map f := by rw [← h, List.map_replicate, G]
theorem W8 {x y : Nat} {l r : List α} (h : (l.drop x).take (y - x) = r) : ((l.map f).drop x).take (y - x) = r.map f := by rw [← h, List.map_take, List.map_drop]
theorem Ey {x y : Operand} {t : TypeId} {k1 k2 : IntKind} {i : Int} {m : Nat} {ti D : TI} {e : Nat} {z : Value} {sz : Nat} {es' : List (List T)}
  (ht : E.tab t = some ti) (hk : ti.kind = .slice e) (he : E.tab e = some D) (hz : D.zero = some z) (h1 : z.cells.toList.all (·.oneCell') = true) (hsz : D.size = sz) (Y : z.cells.size = sz) (M : Nat.ble D.bytes 2048 = true)
  (hx : Al s x = some (.v (.int k1 i))) (hy : Al s y = some (.v (.int k2 i))) (hi : i = (m : Int)) (hm : m ≤ 68719476736) (O : List.replicate m (Df z) = es')
  (Z : ∀ d, dst = some d → d < n) (k : ∀ b, R ⟨Dw s dst (.v b), ob ++ [.us b e sz es']⟩) :
  AX E n C [] ⟨dst, .makeSlice t x y, ty, pos, aft, g⟩ ⟨s, ob⟩ R := by
 subst O
 have G := Nat.le_of_ble_eq_true M
 refine AX.makeSlice ht hk he hz h1 hsz Y hx hy hi (by simp only [Fl]; omega) ?_ Z k
 have h1 : D.bytes * m ≤ 2048 * 68719476736 := Nat.mul_le_mul G hm
 have h2 : ((D.bytes * m : Nat) : Int) = (D.bytes : Int) * (m : Int) := by simp
 omega
theorem Xx {x : Operand} {t : TypeId} {lo hi mx : Option Operand} {sz : Nat} {l r : List α} {ti Y : TI} {e : Nat} (a b m : Nat)
  (ht : E.tab t = some ti) (hk : ti.kind = .slice e) (he : E.tab e = some Y) (hsz : Y.size = sz) (hx : Al s x = some (.list sz (l.map f)))
  (h1 : Qa s lo 0 a) (h2 : Qa s hi l.length b) (O : mx = none) (M : a ≤ b) (Z : b ≤ l.length) (hr : (l.drop a).take (b - a) = r) :
  Yp E.P n s ⟨dst, .slice t x lo hi mx, ty, pos, aft, g⟩ (.list sz (r.map f)) := by
 subst O
 have := Rp (E := E) (n := n) (dst := dst) (ty := ty) (pos := pos) (aft := aft) (g := g) (mx := none) a b m ht hk he hsz hx h1 (by rw [List.length_map]; exact h2)
  (fun G D => ⟨G, rfl, by rw [List.length_map] at D; omega, Nat.le_refl _⟩) (fun _ => rfl) M (by rw [List.length_map]; exact Z)
 rwa [W8 hr] at this
end typed
theorem C1 {α : Type} {c : Bool} {a b r : α} (hc : c = true) (h : (if c = true then a else b) = r) : a = r := by rw [if_pos hc] at h; exact h
theorem C2 {α : Type} {c : Bool} {a b r : α} (hc : c = false) (h : (if c = true then a else b) = r) : b = r := by rw [if_neg (by simp [hc])] at h; exact h
theorem Eo {α β γ : Type} {f : α → γ} {g : β → γ} {x : α} {r : γ} (h : Sum.elim f g (.inl x) = r) : f x = r := h
theorem Ef {α β γ : Type} {f : α → γ} {g : β → γ} {x : β} {r : γ} (h : Sum.elim f g (.inr x) = r) : g x = r := h
end
theorem Iz {α : Type} {row : α → List T} {sz : Nat} (D : ∀ x, (row x).length = sz) : ∀ {l : List α} {m : Nat} {z : α}, l[m]? = some z → (((l.flatMap row).drop (m * sz)).take sz) = row z
 | [], _, _, h => by simp at h
 | x :: l, 0, z, h => by simp at h; subst h; rw [List.flatMap_cons, Nat.zero_mul, List.drop_zero, List.take_left' (D x)]
 | x :: l, m + 1, z, h => by
  rw [List.flatMap_cons, show (m + 1) * sz = (row x).length + m * sz by rw [D x, Nat.succ_mul]; omega, ← List.drop_drop, List.drop_left]
  exact Iz D (by simpa using h)
theorem Iy {α : Type} {row : α → List T} {sz : Nat} (D : ∀ x, (row x).length = sz) : ∀ l : List α, (l.flatMap row).length = l.length * sz
 | [] => by simp
 | x :: l => by rw [List.flatMap_cons, List.length_append, D x, Iy D l, List.length_cons, Nat.succ_mul]; omega
theorem Ov {E : Env} {n : Nat} {s : Ah} {dst : Option Tmp} {ty : TypeId} {pos : String} {aft : Array Edge} {g : Option (Nat × Bool)} {α : Type} {row : α → List T} {t : TypeId} {x y : Operand} {k : IntKind} {i : Int} {m len Y : Nat} {l : List α} {z : α} {ti D : TI}
  (ht : E.tab t = some ti) (hk : ti.kind = .array len Y) (hel : E.tab Y = some D) (M : D.isAgg = true) (hlen : l.length = len) (hr : ∀ x, (row x).length = D.size)
  (hx : Al s x = some (.agg (l.flatMap row))) (hy : Al s y = some (.v (.int k i))) (hi : i = (m : Int)) (Z : l[m]? = some z) :
  Yp E.P n s ⟨dst, .index t x y, ty, pos, aft, g⟩ (.agg (row z)) := by
 have O := (gs Z).1
 refine K1 ht hk hel hx hy hi (by omega) ?_
 have G := Iz (sz := D.size) hr Z
 have h2 := Iy (sz := D.size) hr l
 have h3 : m * D.size + D.size ≤ l.length * D.size := by rw [← Nat.succ_mul]; exact Nat.mul_le_mul_right _ O
 unfold Ds
 rw [M, cond_true]
 cases hb : (Nat.beq (m * D.size) 0 && Nat.beq D.size (l.flatMap row).length) with
 | true =>
  rw [cond_true]
  rw [Bool.and_eq_true] at hb
  have e1 := nq hb.1
  have e2 := nq hb.2
  rw [e1, List.drop_zero, List.take_of_length_le (by omega)] at G
  rw [G]
 | false =>
  rw [cond_false, G, show Nat.ble (m * D.size + D.size) (l.flatMap row).length = true from Nat.ble_eq_true_of_le (by omega)]
  rfl
section
variable {P : Program} {n : Nat} {s : Ah} {dst : Option Tmp} {ty : TypeId} {pos : String} {aft : Array Edge} {g : Option (Nat × Bool)}
theorem Xy {t M : TypeId} {x y : Operand} {k : IntKind} {a : Int} (D : Al s x = some (.v (.int k a))) (G : Al s y = some (.v (.int .u64 1))) :
  Yp P n s ⟨dst, .binOp .shr t x y M, ty, pos, aft, g⟩ (.v (.int k (a.fdiv 2))) := by
 refine fun H A r => ⟨_, .v _, fun w => ?_⟩
 have : min (1 : Int).toNat k.bits = 1 := by cases k <;> rfl
 simp only [execOp, r.evalv D, r.evalv G, eqGuard, binOp, Op.shift, this]
 rfl
theorem Vq {x y z : Operand} {O : Array TypeId} {k : IntKind} {a b c : Int} (D : Al s x = some (.v (.int k a))) (G : Al s y = some (.v (.int k b))) (M : Al s z = some (.v (.int k c))) :
  Yp P n s ⟨dst, .call { callee := .builtin .min, args := #[x, y, z], argTypes := O }, ty, pos, aft, g⟩ (.v (.int k (min (min a b) c))) := by
 refine fun H A r => ⟨_, .v _, fun w => ?_⟩
 simp [execOp, resolve, invoke, builtin, Builtin.min_, Builtin.min2, r.evalv D, r.evalv G, r.evalv M]
 omega
end
theorem Wi {E : Env} {n : Nat} {C : Ctx} {σ : St} {dst : Option Tmp} {ty : TypeId} {pos : String} {aft : Array Edge} {g : Option (Nat × Bool)} {R : St → Prop} {t : TypeId} {g0 : Nat} {cs : List T} {D : TI} {y : T}
  (O : (g0, cs) ∈ gl) (Z : E.tab t = some D) (G : Ds D cs 0 = some y) (Y : ∀ d, dst = some d → d < n) (k : R ⟨Dw σ.slots dst y, σ.objs⟩) : AX E n C [] ⟨dst, .load t (.global g0), ty, pos, aft, g⟩ σ R := by
 refine AX.value fun H a w M => ?_
 have h : VR H (.pointer (some ⟨g0, 0, none⟩)) (.eptr cs) := (C.hg g0 cs O).mono M.grow
 cases h with
 | eptr b off l cs' ty' fr hb hsz h1 hvs =>
  obtain ⟨p1, p2⟩ := Eb hsz h1 hvs G
  have := Db (j := 0) (E.ok _ _ Z) (M.held _ _ hb) hsz h1 hvs G
  have hv : VR H (Cp D cs' 0) y := by
   cases ha : D.isAgg with
   | true => simpa [Cp, ha] using (p1 ha).2
   | false => simpa [Cp, ha] using (p2 ha).2
  refine ⟨Cp D cs' 0, w, _, H, ?_, k, ?_, fun _ _ h => h, fun _ _ G _ => ⟨G, fun _ _ => rfl⟩⟩
  ·simp only [execOp, Act.eval, Instr.loadAt, Instr.sureAddr, Sem.run_bind, Sem.run_pure, Result.andThen_ok]
   simp only [Nat.add_zero] at this
   rw [this]
   first | done | rfl
  ·have := M.put hv Y
   cases dst <;> exact this
def Nk (P : Program) (t : TypeId) : Bool :=
 match P.underlying t with
 | some (.struct ff) => ff.toList.all (fun f => f.name != "_") && !(P.stoodInHeld t) && !(P.eqGuardType P.depth t)
 | _ => false
def Y6 (k : K) : T → T → Option Bool
 | .v (.int k1 a), .v (.int k2 b) => match k with | .int _ => (bif decide (k1 = k2) then some (a == b) else none) | _ => none
 | .v (.bool a), .v (.bool b) => match k with | .bool => some (a == b) | _ => none
 | .v (.string a), .v (.string b) => match k with | .string => some (O6 a b) | _ => none
 | _, _ => none
def T5 (tab : Nat → Option TI) (cs ds : List T) : List (Nat × Nat) → Option Bool
 | [] => some true
 | (off, t) :: l => match tab t, cs[off]?, ds[off]?, T5 tab cs ds l with
  | some ti, some x, some y, some r => match Y6 ti.kind x y with
   | some b => some (b && r)
   | none => none
  | _, _, _, _ => none
section
variable {E : Env} {n : Nat} {C : Ctx} {s : Ah} {ob : List Ob} {R : St → Prop} {dst : Option Tmp} {ty : TypeId} {pos : String} {aft : Array Edge} {g : Option (Nat × Bool)}
theorem Uy {P : Program} {t : TypeId} {i : TI} (h : Fw P t = some i) (M : i.kind = .bool) : P.underlying t = some .bool := by
 obtain ⟨d, G, D⟩ := E6 h
 rw [M] at D
 cases d <;> simp [Hq] at D
 exact G
theorem W7 {P : Program} {t : TypeId} {i : TI} {k : IntKind} (h : Fw P t = some i) (M : i.kind = .int k) : P.underlying t = some (.int k) := by
 obtain ⟨d, G, D⟩ := E6 h
 rw [M] at D
 cases d <;> simp [Hq] at D
 subst D; exact G
theorem Qm {t : TypeId} {ti : TI} (G : E.tab t = some ti) {x y : T} {b : Bool} (h : Y6 ti.kind x y = some b) {H : GH} {v u : Value} (hv : VR H v x) (M : VR H u y) (d : Nat) (w : World) :
  ti.isAgg = false ∧ (Op.equalIn (d + 1) t v u).run E.P w = .ok b w := by
 unfold Y6 at h
 split at h
 ·rename_i O a Z Y
  have := hv.v_eq; subst this
  have := M.v_eq; subst this
  split at h
  ·rename_i kk D
   cases hd : decide (O = Z) with
   | false => rw [hd] at h; cases h
   | true =>
    rw [hd] at h
    have := of_decide_eq_true hd
    subst this
    cases h
    exact ⟨by simp [TI.isAgg, D], run_equalIn_int w d t O kk a Y (W7 (E.ok _ _ G) D)⟩
  ·cases h
 ·have := hv.v_eq; subst this
  have := M.v_eq; subst this
  split at h
  ·rename_i D
   cases h
   exact ⟨by simp [TI.isAgg, D], run_equalIn_bool' w d t _ _ (Uy (E.ok _ _ G) D)⟩
  ·cases h
 ·have := hv.v_eq; subst this
  have := M.v_eq; subst this
  split at h
  ·rename_i D
   cases h
   exact ⟨by simp [TI.isAgg, D], run_equalIn_string w d t _ _ (E0 (E.ok _ _ G) D)⟩
  ·cases h
 ·cases h
theorem G4 {t : TypeId} {ti : TI} (O : E.tab t = some ti) (G : ti.isAgg = false) {H : GH} {D : Array Value} {cs : List T} (h : VR H (.agg D) (.agg cs)) {off : Nat} {x : T} (Y : cs[off]? = some x) :
  ∃ v, VR H v x ∧ ∀ w, (part t D off).run E.P w = .ok v w := by
 have M : Ds ti cs off = some x := by simp [Ds, G, Y]
 exact Fp h (E.ok _ _ O) M
theorem N9 {H : GH} {xs ys : Array Value} {cs ds : List T} (hx : VR H (.agg xs) (.agg cs)) (hy : VR H (.agg ys) (.agg ds)) (d : Nat) (w : World) : ∀ (G : List Field) (r : Bool), G.all (fun f => f.name != "_") = true →
  T5 E.tab cs ds (G.map fun f => (f.offset, f.type)) = some r → (Op.eqFields (d + 1) xs ys G).run E.P w = .ok r w
 | [], r, _, h => by simp only [List.map_nil, T5, Option.some.injEq] at h; subst h; simp [Op.eqFields]
 | f :: G, r, hn, h => by
  simp only [List.all_cons, Bool.and_eq_true] at hn
  simp only [List.map_cons, T5] at h
  split at h
  ·rename_i ti x y r' O h2 h3 h4
   split at h
   ·rename_i b D
    simp only [Option.some.injEq] at h
    subst h
    have M : ti.isAgg = false := by
     unfold Y6 at D
     unfold TI.isAgg
     cases hk : ti.kind <;> rw [hk] at D <;> first | rfl | (simp at D; split at D <;> simp at D)
    obtain ⟨v, hv, aa⟩ := G4 O M hx h2
    obtain ⟨u, hu, Z⟩ := G4 O M hy h3
    have he := (Qm O D hv hu d w).2
    have ih := N9 hx hy d w G r' hn.2 h4
    have Y : f.name ≠ "_" := by simpa using hn.1
    simp only [Op.eqFields, if_pos Y, Sem.run_bind, aa, Z, Result.andThen_ok, he]
    cases b with
    | true => simpa using ih
    | false => simp
   ·cases h
  ·cases h
theorem Lt {P : Program} {t : TypeId} (h : Nk P t = true) : ∃ D : Array Field, P.underlying t = some (.struct D) ∧ P.fieldsOf t = D ∧ D.toList.all (fun f => f.name != "_") = true ∧ P.stoodInHeld t = false ∧ P.eqGuardType P.depth t = false := by
 unfold Nk at h
 split at h
 ·rename_i D G
  simp only [Bool.and_eq_true, Bool.not_eq_true'] at h
  exact ⟨D, G, by simp [Program.fieldsOf, G], h.1.1, h.1.2, h.2⟩
 ·cases h
def Zk (tab : Nat → Option TI) (ok : Nat → Bool) (cs ds : List T) (off t : Nat) : Option Bool :=
 match tab t with
 | some ti => match ti.kind with
  | .struct fs => bif ok t && Nat.ble (off + ti.size) cs.length && Nat.ble (off + ti.size) ds.length then T5 tab ((cs.drop off).take ti.size) ((ds.drop off).take ti.size) fs else none
  | k => match cs[off]?, ds[off]? with
   | some x, some y => Y6 k x y
   | _, _ => none
 | none => none
def Y7 (tab : Nat → Option TI) (ok : Nat → Bool) (cs ds : List T) : List (Nat × Nat) → Option Bool
 | [] => some true
 | (off, t) :: l => match Zk tab ok cs ds off t, Y7 tab ok cs ds l with
  | some b, some r => some (b && r)
  | _, _ => none
theorem Lp {ti : TI} {cs : List T} {off : Nat} (G : ti.isAgg = true) (h : off + ti.size ≤ cs.length) : Ds ti cs off = some (.agg ((cs.drop off).take ti.size)) := by
 unfold Ds
 rw [G, cond_true]
 cases hb : (Nat.beq off 0 && Nat.beq ti.size cs.length) with
 | true =>
  rw [cond_true]
  rw [Bool.and_eq_true] at hb
  have D := nq hb.1
  have M := nq hb.2
  rw [D, List.drop_zero, List.take_of_length_le (by omega)]
 | false => rw [cond_false, Nat.ble_eq_true_of_le h]; rfl
theorem Xm {ok : Nat → Bool} (hok : ∀ t, ok t = true → Nk E.P t = true) {H : GH} {xs ys : Array Value} {cs ds : List T} (hx : VR H (.agg xs) (.agg cs)) (hy : VR H (.agg ys) (.agg ds)) (d : Nat) (w : World) {off t : Nat} {b : Bool}
  (h : Zk E.tab ok cs ds off t = some b) : ∃ u v, (∀ w, (part t xs off).run E.P w = .ok u w) ∧ (∀ w, (part t ys off).run E.P w = .ok v w) ∧ (Op.equalIn (d + 2) t u v).run E.P w = .ok b w := by
 unfold Zk at h
 split at h
 ·rename_i Z M
  split at h
  ·rename_i fs Y
   cases hc : (ok t && Nat.ble (off + Z.size) cs.length && Nat.ble (off + Z.size) ds.length) with
   | false => rw [hc] at h; cases h
   | true =>
    rw [hc, cond_true] at h
    simp only [Bool.and_eq_true] at hc
    have ha : Z.isAgg = true := by simp [TI.isAgg, Y]
    obtain ⟨u, hu, D⟩ := Fp hx (E.ok _ _ M) (Lp ha (Nat.le_of_ble_eq_true hc.1.2))
    obtain ⟨v, hv, G⟩ := Fp hy (E.ok _ _ M) (Lp ha (Nat.le_of_ble_eq_true hc.2))
    refine ⟨u, v, D, G, ?_⟩
    obtain ⟨ff, h1, h2, h3, h4, h5⟩ := Lt (hok t hc.1.1)
    obtain ⟨ff', u1, u2⟩ := Ez (E.ok _ _ M) Y
    rw [h1] at u1
    cases u1
    cases hu with
    | agg xs' _ hl1 hc1 hv1 =>
     cases hv with
     | agg ys' _ hl2 hc2 hv2 =>
      have hf := N9 (E := E) (.agg xs' _ hl1 hc1 hv1) (.agg ys' _ hl2 hc2 hv2) d w ff.toList b h3 (by rw [u2]; exact h)
      rw [show d + 2 = (d + 1) + 1 from rfl, run_equalIn_struct w (d + 1) t xs' ys' (by rw [h2]; exact h1) h4, h2]; exact hf
  ·rename_i k Y
   split at h
   ·rename_i x y h2 h3
    have O : Z.isAgg = false := by
     unfold Y6 at h
     unfold TI.isAgg
     cases Y : Z.kind <;> rw [Y] at h <;> first | rfl | (simp at h; split at h <;> simp at h)
    obtain ⟨v, hv, G⟩ := G4 M O hx h2
    obtain ⟨u, hu, D⟩ := G4 M O hy h3
    exact ⟨v, u, G, D, (Qm M h hv hu (d + 1) w).2⟩
   ·cases h
 ·cases h
theorem Qn {ok : Nat → Bool} (G : ∀ t, ok t = true → Nk E.P t = true) {H : GH} {Z ys : Array Value} {cs ds : List T} (O : VR H (.agg Z) (.agg cs)) (Y : VR H (.agg ys) (.agg ds)) (d : Nat) (w : World) : ∀ (D : List Field) (r : Bool), D.all (fun f => f.name != "_") = true →
  Y7 E.tab ok cs ds (D.map fun f => (f.offset, f.type)) = some r → (Op.eqFields (d + 2) Z ys D).run E.P w = .ok r w
 | [], r, _, h => by simp only [List.map_nil, Y7, Option.some.injEq] at h; subst h; simp [Op.eqFields]
 | f :: D, r, hn, h => by
  simp only [List.all_cons, Bool.and_eq_true] at hn
  simp only [List.map_cons, Y7] at h
  split at h
  ·rename_i b r' h1 h4
   simp only [Option.some.injEq] at h
   subst h
   obtain ⟨u, v, hu, hv, he⟩ := Xm G O Y d w h1
   have ih := Qn G O Y d w D r' hn.2 h4
   have M : f.name ≠ "_" := by simpa using hn.1
   simp only [Op.eqFields, if_pos M, Sem.run_bind, hu, hv, Result.andThen_ok, he]
   cases b with
   | true => simpa using ih
   | false => simp
  ·cases h
theorem Nf {Y : BinOp} {t t' : TypeId} {x y : Operand} {ti : TI} {fs : List (Nat × Nat)} {cs ds : List T} {r q : Bool} (ok : Nat → Bool) (O : ∀ t, ok t = true → Nk E.P t = true) (ht : E.tab t = some ti) (hk : ti.kind = .struct fs) (he : Nk E.P t = true)
  (hx : Al s x = some (.agg cs)) (hy : Al s y = some (.agg ds)) (hr : Y7 E.tab ok cs ds fs = some r) (hq : (match Y with | .eql => some r | .neq => some (!r) | _ => none) = some q) :
  Yp E.P n s ⟨dst, .binOp Y t x y t', ty, pos, aft, g⟩ (.v (.bool q)) := by
 intro H A sr
 obtain ⟨ff, Z, h2, h3, h4, h5⟩ := Lt he
 obtain ⟨ff', u1, u2⟩ := Ez (E.ok _ _ ht) hk
 rw [Z] at u1
 cases u1
 have vx := sr.eval hx
 have vy := sr.eval hy
 generalize G : A.eval x = a at vx
 generalize M : A.eval y = b at vy
 refine ⟨_, .v _, fun w => ?_⟩
 cases vx with
 | agg xs _ hl1 hc1 hv1 =>
  cases vy with
  | agg ys _ hl2 hc2 hv2 =>
   have hf := Qn (E := E) O (.agg xs cs hl1 hc1 hv1) (.agg ys ds hl2 hc2 hv2) 9997 w ff.toList r h3 (by rw [u2]; exact hr)
   have D : (Op.equalIn 10000 t (.agg xs) (.agg ys)).run E.P w = .ok r w := by
    rw [show (10000 : Nat) = 9999 + 1 from rfl, run_equalIn_struct w 9999 t xs ys (by rw [h2]; exact Z) h4, h2]; exact hf
   cases Y <;> simp only [Option.some.injEq, reduceCtorEq] at hq <;> subst hq
   ·simp only [execOp, G, M, Sem.run_bind, run_eqGuard_agg w _ t x y xs ys h5, Result.andThen_ok, run_eql_struct, D, Sem.run_pure]
   ·simp only [execOp, G, M, Sem.run_bind, run_eqGuard_agg w _ t x y xs ys h5, Result.andThen_ok, run_neq_struct, D, Sem.run_pure]
theorem Wj {t t' : TypeId} {x : Operand} {ti : TI} {e sz : Nat} {es : List (List T)} (ht : E.tab t = some ti) (Y : ti.kind = .slice e) (hx : Al s x = some (.list sz es)) (O : ∀ d, dst = some d → d < n)
  (k : ∀ b : Bool, (b = true → es = []) → R ⟨Dw s dst (.v (.bool b)), ob⟩) : AX E n C [] ⟨dst, .binOp .eql t x (.const (.slice none 0 0)) t', ty, pos, aft, g⟩ ⟨s, ob⟩ R := by
 refine AX.value fun H a w G => ?_
 have h := G.sr.eval hx
 generalize hv : a.eval x = v at h
 have hr : ∃ D l c, v = .slice D l c ∧ (D.isNone = true → es = []) := by
  cases h with
  | empty a cap sz => exact ⟨a, 0, cap, rfl, fun _ => rfl⟩
  | list b off cap sz es cs ty fr hb hcap hmax hsz hel h1 hvs => exact ⟨_, _, _, rfl, fun h => by simp at h⟩
 obtain ⟨D, l, c, rfl, Z⟩ := hr
 refine ⟨.bool D.isNone, w, _, H, ?_, k D.isNone Z, ?_, fun _ _ h => h, fun i p hp _ => ⟨hp, fun _ _ => rfl⟩⟩
 ·have := run_eql_slice_nil (P := E.P) w t e D l c (C6 (E.ok _ _ ht) Y)
  have M : a.eval (.const (.slice none 0 0)) = .slice none 0 0 := rfl
  simp only [execOp, hv, M, Sem.run_bind, eqGuard, Sem.run_pure, Result.andThen_ok, this]
  simp [this]
 ·have := G.put (dst := dst) (.v (.bool D.isNone)) O
  cases dst <;> exact this
theorem A1 {α : Type} {f : α → List T} {c : Code} {Q : Exit → St → Prop} (q m : Nat) {v : Value} {O sz : Nat} {l : List α} {x : α} (hq : ob[q]? = some (.us v O sz (l.map f))) (Z : l[m]? = some x)
  (k : (∃ c, v = .slice (some ⟨Fb v, 0, none⟩) l.length c) → AW E n C c ⟨s, ob⟩ Q) : AW E n C c ⟨s, ob⟩ Q := by
 intro H a w G
 have D : UsR H w v O sz (l.map f) := G.objs _ (mg hq)
 obtain ⟨c, Y, M, _⟩ := D.arr (Ag (f := f) Z)
 rw [List.length_map] at M
 exact k ⟨c, M⟩ H a w G
theorem Ff {α : Type} {f : α → List T} {c : Code} {Q : Exit → St → Prop} (q : Nat) {v : Value} {M sz : Nat} {l : List α} (Z : ob[q]? = some (.us v M sz (l.map f)))
  (k : (∃ a c, v = .slice a l.length c) → AW E n C c ⟨s, ob⟩ Q) : AW E n C c ⟨s, ob⟩ Q := by
 intro H a w G
 have D : UsR H w v M sz (l.map f) := G.objs _ (mg Z)
 refine k ?_ H a w G
 rcases D with ⟨rfl, Y⟩ | ⟨b, c, O, rfl, _⟩
 ·have : l = [] := by simpa using Y
  subst this; exact ⟨none, 0, rfl⟩
 ·exact ⟨some ⟨b, 0, none⟩, c, by rw [List.length_map]⟩
theorem An {α : Type} {t : TypeId} {x y : Operand} {kk : IntKind} {i : Int} {m : Nat} {v : Value} {sz : Nat} {l : List α} {e : α} {ti M : TI} {G : Nat}
  (Z : E.tab t = some ti) (O : ti.kind = .slice G) (hel : E.tab G = some M) (hsz : M.size = sz)
  (hx : Al s x = some (.v v)) (hv : ∃ c, v = .slice (some ⟨Fb v, 0, none⟩) l.length c) (hy : Al s y = some (.v (.int kk i))) (hi : i = (m : Int)) (Y : l[m]? = some e) :
  Yp E.P n s ⟨dst, .indexAddr t x y, ty, pos, aft, g⟩ (.v (.pointer (some ⟨Fb v, m * sz, none⟩))) := by
 obtain ⟨c, hv⟩ := hv
 have D : Al s x = some (.v (.slice (some ⟨Fb v, 0, none⟩) l.length c)) := by rw [← hv]; exact hx
 have := Im (E := E) (n := n) (dst := dst) (ty := ty) (pos := pos) (aft := aft) (g := g) Z O hel D hy hi (gs Y).1
 rwa [hsz, Nat.zero_add] at this
theorem Fe {α : Type} {x : Operand} {t : TypeId} {v : Value} {l : List α} {ti : TI} {e : Nat} (G : E.tab t = some ti) (D : ti.kind = .slice e) (M : Al s x = some (.v v))
  (hv : ∃ a c, v = .slice a l.length c) : Yp E.P n s ⟨dst, .call { callee := .builtin .len, args := #[x], argTypes := #[t] }, ty, pos, aft, g⟩ (.v (.int .i64 (l.length : Int))) := by
 obtain ⟨a, c, rfl⟩ := hv
 exact Ec G D M
def Pd (l : Li) : Option ByteArray := if (l.all fun x => decide (0 ≤ x ∧ x < 256)) = true then some ⟨(l.map fun x => UInt8.ofNat x.toNat).toArray⟩ else none
theorem Pw {l : Li} (h : (l.all fun x => decide (0 ≤ x ∧ x < 256)) = true) : Du (l.map fun x => UInt8.ofNat x.toNat) = l.map (rK .u8) := by
 unfold Du
 rw [List.map_map]
 refine List.map_congr_left fun x G => ?_
 have := List.all_eq_true.1 h x G
 have := of_decide_eq_true this
 simp only [Function.comp_apply, rK]
 have D : ((UInt8.ofNat x.toNat).toNat : Int) = x := by
  rw [UInt8.toNat_ofNat']
  omega
 rw [D]
theorem T2 (q : Nat) {t t' : TypeId} {x : Operand} {ti G ei : TI} {e tt : Nat} {l : Li} {v : Value} {r : ByteArray} (M : Pd l = some r) (ht : E.tab t = some ti) (hk : ti.kind = .slice e) (he : E.tab e = some ei) (Y : ei.kind = .int .u8) (Z : E.tab t' = some G) (O : G.kind = .string)
  (hx : Al s x = some (.v v)) (hq : ob[q]? = some (.us v tt 1 (l.map (rK .u8)))) (hd : ∀ d, dst = some d → d < n) (k : R ⟨Dw s dst (.v (.string r)), ob⟩) : AX E n C [] ⟨dst, .convert t t' x, ty, pos, aft, g⟩ ⟨s, ob⟩ R := by
 unfold Pd at M
 split at M
 ·rename_i D
  cases M
  exact O5 ht hk he Y Z O (by rw [Pw D]; exact P6 q hx hq) hd k
 ·cases M
theorem UsR.one {H : GH} {w : World} {v : Value} {D sz : Nat} {es : List (List T)} (h : UsR H w v D sz es) : v.oneCell' = true := by
 rcases h with ⟨rfl, _⟩ | ⟨_, _, _, rfl, _⟩ <;> rfl
theorem AO.one {ops : Array Oper} {l : List Oper} (q : Nat) {v : Value} {G sz : Nat} {es : List (List T)} (M : ob[q]? = some (.us v G sz es)) (k : v.oneCell' = true → AO E n C ops l ⟨s, ob⟩ R) : AO E n C ops l ⟨s, ob⟩ R :=
 fun H a w D => k (UsR.one (show UsR H w v G sz es from D.objs _ (mg M))) H a w D
theorem AP.one {ops : Array Oper} {pl : PL} {so : Ah} {prot : List Nat} {pobjs : List Ob} (q : Nat) {v : Value} {M sz : Nat} {es : List (List T)} (Z : ob[q]? = some (.us v M sz es)) (k : v.oneCell' = true → AP E n C ops prot pobjs pl so ⟨s, ob⟩ R) : AP E n C ops prot pobjs pl so ⟨s, ob⟩ R :=
 fun Hs ws H a w sr wr O Y D G => k (UsR.one (show UsR H w v M sz es from G.objs _ (mg Z))) Hs ws H a w sr wr O Y D G
theorem D5 {v : Value} (h : v.oneCell' = true) : Cz (.v v) = some [.v v] := by simp [Cz, h]
theorem N8 {D : Nat → Option (Nat × Nat)} {l : List T} : D6 s D l [] = some l := rfl
theorem D0 {D : Nat → Option (Nat × Nat)} {l l' : List T} {i off size : Nat} {x : Operand} {r : List (Nat × Operand)} {c : T} {cs : List T} (G : D i = some (off, size)) (O : Al s x = some c) (hc : Cz c = some cs)
  (hb : (Nat.beq cs.length size && Nat.ble (off + cs.length) l.length) = true) (M : D6 s D (Fv l off cs) r = some l') : D6 s D l ((i, x) :: r) = some l' := by
 simp only [D6, G, O, Option.bind_some, hc, hb, cond_true]; exact M
theorem Nv : ∀ {l cs : List T}, l.length = cs.length → Fv l 0 cs = cs
 | [], [], _ => rfl
 | [], _ :: _, h => by simp at h
 | _ :: _, [], h => by simp at h
 | x :: l, c :: cs, h => by simp only [Fv]; rw [Nv (by simpa using h)]
theorem Ul {α : Type} {l : List α} {i : Nat} {x : α} (h : l[i]? = some x) : i < l.length := (gs h).1
theorem Uq {α : Type} {k : Nat} {a : Arr α k} {i : Nat} {x : α} (h : a.l[i]? = some x) : i < k := by have := Ul h; rwa [a.h] at this
theorem I6 {α : Type} {O : α → T} {t : TypeId} {x y : Operand} {k : IntKind} {i : Int} {m len M : Nat} {l : List α} {z : α} {ti D : TI} (ht : E.tab t = some ti) (Z : ti.kind = .array len M) (hel : E.tab M = some D) (h1 : D.size = 1) (G : D.isAgg = false)
  (hx : Al s x = some (.agg (l.map O))) (hy : Al s y = some (.v (.int k i))) (hi : i = (m : Int)) (Y : l[m]? = some z) (hlen : l.length = len := by first | rfl | exact Arr.h _) :
  Yp E.P n s ⟨dst, .index t x y, ty, pos, aft, g⟩ (O z) :=
 K1 ht Z hel hx hy hi (by have := Ul Y; omega) (by rw [h1, Nat.mul_one]; simp [Ds, G, Y])
theorem Zn {x : Nat} (h : (0 : Int) = (x : Int)) : Qa s none 0 x := by show x = 0; omega
end
section
variable {E : Env} {n : Nat} {C : Ctx} {σ : St} {s : Ah} {dst : Option Tmp} {ty : TypeId} {pos : String} {aft : Array Edge} {g : Option (Nat × Bool)}
theorem Ghost.lit (t : Nat) {ob : List Ob} {sz : Nat} {es es' : List (List T)} (h : get s t = some (.list sz es)) (hl : LendLL [] es es') : Ghost n C s ob ((t, .list sz es') :: s) ob := Ghost.slots fun H a w G i x D => by
 simp only [get] at D
 cases hb : Nat.beq t i with
 | true =>
  have := nq hb
  subst this
  rw [hb, cond_true] at D
  cases D
  refine VR.rows (G.slots t _ h) hl.length fun i M O => ?_
  obtain ⟨e, q1, q2, q3⟩ := Iq (H := H) (H1 := H) (w := w) (objs := []) (by simp) (by simp) (fun _ _ h => h) hl i M O
  exact ⟨e, q1, q2, fun j y Z v Y => q3 j y Z Y⟩
 | false =>
  rw [hb, cond_false] at D
  exact G.slots i x D
theorem AX.take (k m : Nat) {md : List Nat} {o : Oper} {ob : List Ob} {R : St → Prop} {v : Value} {ty tyi szi : Nat} {vs : List Value} {L : List (Option (List (List T)))} {es : List (List T)} (hk : ob[k]? = some (.uss v ty tyi szi vs L)) (hm : L[m]? = some (some es))
  (h : AX E n C md o ⟨s, ob.set k (.uss v ty tyi szi vs (L.set m none)) ++ [.us (vs.getD m undef) tyi szi es]⟩ R) : AX E n C (k :: md) o ⟨s, ob⟩ R := by
 intro H a w gm
 obtain ⟨H1, h1, Z⟩ := Ghost.take (n := n) (C := C) (s := s) k m hk hm H a w gm
 refine Ci ?_ (fun _ _ _ h => h) (h H1 a w Z)
 rintro a' w' ⟨σ', H', v, hr, G, ha, M, O⟩
 refine ⟨σ', H', v, hr, G, ha, fun b o hb => M _ _ (h1 _ _ hb), fun i p Y D => ?_⟩
 simp only [List.contains_cons, Bool.or_eq_false_iff, beq_eq_false_iff_ne] at D
 refine O i p ?_ D.2
 dsimp only at Y ⊢
 rw [List.getElem?_append_left (by simpa using (gs Y).1), List.getElem?_set_ne (Ne.symm D.1)]; exact Y
end
inductive NewK where
 | us (e z : Nat) (es : List (List T))
 | box (ty m : Nat) (cs : List T)
 | fn (f : List T → T)
structure NewOp where
 j : Nat
 ds : List Nat
 d : Nat
 k : NewK
def NewK.obs : NewK → T → List Ob
 | .us e z es, .v v => [.us v e z es]
 | .box ty m cs, .v (.pointer (some a)) => [.arr a.block ty m 1 [cs]]
 | _, _ => []
def NewK.ok (D : List T) (x : T) : NewK → Prop
 | .us _ _ _ => ∃ v, x = .v v ∧ v.oneCell' = true
 | .box _ _ _ => ∃ b, x = .v (.pointer (some ⟨b, 0, none⟩))
 | .fn f => x = f D
def NewK.okW (D : List T) (x : T) : NewK → Prop
 | .us _ _ _ => ∃ v, x = .v v
 | .box _ _ _ => ∃ b, x = .v (.pointer (some ⟨b, 0, none⟩))
 | .fn f => x = f D
def Qu (v : Nat → T) (j : Nat) (x : T) : Nat → T := fun i => bif Nat.beq i j then x else v i
def News : List NewOp → (Nat → T) → Ah → List Ob → (Ah → List Ob → Prop) → Prop
 | [], _, s, ob, F => F s ob
 | ⟨j, _, d, .us e z es⟩ :: l, v, s, ob, F => ∀ x : Value, x.oneCell' = true → News l (Qu v j (.v x)) ((d, .v x) :: s) (ob ++ [.us x e z es]) F
 | ⟨j, _, d, .box ty m cs⟩ :: l, v, s, ob, F => ∀ b : Nat, News l (Qu v j (.v (.pointer (some ⟨b, 0, none⟩)))) ((d, .v (.pointer (some ⟨b, 0, none⟩))) :: s) (ob ++ [.arr b ty m 1 [cs]]) F
 | ⟨j, ds, d, .fn f⟩ :: l, v, s, ob, F => News l (Qu v j (f (ds.map v))) ((d, f (ds.map v)) :: s) ob F
def Qx (v : Nat → T) : List NewOp → Ah → Ah
 | [], s => s
 | p :: l, s => Qx v l ((p.d, v p.j) :: s)
def Ni (v : Nat → T) : List NewOp → List Ob → List Ob
 | [], ob => ob
 | p :: l, ob => Ni v l (ob ++ p.k.obs (v p.j))
def Wt : List Nat → List NewOp → Bool
 | _, [] => true
 | P, p :: l => p.ds.all P.contains && Wt (p.j :: P) l
theorem News.get (vals : Nat → T) {F : Ah → List Ob → Prop} : ∀ (l : List NewOp) (P : List Nat) (v : Nat → T) (s : Ah) (ob : List Ob), Wt P l = true → (∀ i, i ∈ P → v i = vals i) → (∀ p, p ∈ l → p.k.ok (p.ds.map vals) (vals p.j)) → News l v s ob F → F (Qx vals l s) (Ni vals l ob)
 | [], P, v, s, ob, _, _, _, h => h
 | ⟨j, ds, d, k⟩ :: l, P, v, s, ob, hb, hv, ho, h => by
  simp only [Wt, Bool.and_eq_true] at hb
  have O := ho _ (.head _)
  have G : ∀ x, x = vals j → ∀ i, i ∈ j :: P → Qu v j x i = vals i := by
   intro x D i hi
   unfold Qu
   cases hij : Nat.beq i j with
   | true => rw [cond_true, D, nq hij]
   | false =>
    rw [cond_false]
    rcases List.mem_cons.1 hi with rfl | hi
    ·simp at hij
    ·exact hv i hi
  cases k with
  | us e z es =>
   obtain ⟨x, D, Z⟩ := O
   have := News.get vals l (j :: P) _ _ _ hb.2 (G _ D.symm) (fun p M => ho p (.tail _ M)) (h x Z)
   simp only [Qx, Ni, D, NewK.obs]; exact this
  | box ty m cs =>
   obtain ⟨b, D⟩ := O
   have := News.get vals l (j :: P) _ _ _ hb.2 (G _ D.symm) (fun p M => ho p (.tail _ M)) (h b)
   simp only [Qx, Ni, D, NewK.obs]; exact this
  | fn f =>
   have hm : ds.map v = ds.map vals := List.map_congr_left fun i hi => hv i (by have := List.all_eq_true.1 hb.1 i hi; simpa using this)
   have D : vals j = f (ds.map vals) := O
   have Y : News l (Qu v j (f (ds.map v))) ((d, f (ds.map v)) :: s) ob F := h
   rw [hm, ← D] at Y
   have := News.get vals l (j :: P) _ _ _ hb.2 (G _ rfl) (fun p M => ho p (.tail _ M)) Y
   simp only [Qx, Ni, NewK.obs, List.append_nil]; exact this
theorem N2 {vals : Nat → T} {i : Nat} {x : T} : ∀ {l : List NewOp} {s : Ah}, Aw.get (Qx vals l s) i = some x → (∃ p, p ∈ l ∧ p.d = i ∧ vals p.j = x) ∨ Aw.get s i = some x
 | [], s, h => .inr h
 | p :: l, s, h => by
  rcases N2 (l := l) h with ⟨q, D, G⟩ | h
  ·exact .inl ⟨q, .tail _ D, G⟩
  ·simp only [Aw.get] at h
   cases hb : Nat.beq p.d i with
   | true => rw [hb, cond_true] at h; cases h; exact .inl ⟨p, .head _, nq hb, rfl⟩
   | false => rw [hb, cond_false] at h; exact .inr h
def Dy (vals : Nat → T) (D : List Nat) : List NewOp → List Ob
 | [] => []
 | p :: l => (bif D.contains p.j then p.k.obs (vals p.j) else []) ++ Dy vals D l
theorem Ik {vals : Nat → T} {D : List Nat} : ∀ {l : List NewOp} {ob : List Ob}, (∀ p, p ∈ l → p.j ∈ D) → ob ++ Dy vals D l = Ni vals l ob
 | [], ob, _ => by simp [Dy, Ni]
 | p :: l, ob, h => by
  have G : D.contains p.j = true := by simpa using h p (.head _)
  simp only [Dy, Ni, G, cond_true]
  rw [← List.append_assoc]
  exact Ik fun q M => h q (.tail _ M)
theorem Lu {vals : Nat → T} : ∀ {l : List NewOp}, Dy vals [] l = []
 | [] => rfl
 | p :: l => by simp only [Dy, Lu (l := l)]; rfl
theorem Kz {vals vals' : Nat → T} {D D' : List Nat} : ∀ {l : List NewOp}, (∀ p, p ∈ l → (D.contains p.j = D'.contains p.j) ∧ (p.j ∈ D → vals p.j = vals' p.j)) → Dy vals D l = Dy vals' D' l
 | [], _ => rfl
 | p :: l, h => by
  obtain ⟨G, M⟩ := h p (.head _)
  simp only [Dy, Kz (l := l) fun q O => h q (.tail _ O), G]
  cases hc : D'.contains p.j with
  | true => rw [M (by rw [hc] at G; simpa using G)]
  | false => rfl
theorem Ky {vals vals' : Nat → T} {D : List Nat} {p : NewOp} : ∀ {l : List NewOp}, p ∈ l → (l.map NewOp.j).Nodup → p.j ∉ D → (∀ i, i ∈ D → vals i = vals' i) → List.Perm (Dy vals D l ++ p.k.obs (vals' p.j)) (Dy vals' (p.j :: D) l)
 | q :: l, M, hn, hp, hv => by
  simp only [List.map_cons, List.nodup_cons] at hn
  rcases List.mem_cons.1 M with rfl | M
  ·have e : Dy vals D l = Dy vals' (p.j :: D) l := Kz fun r hr => by
    have G : r.j ≠ p.j := fun O => hn.1 (O ▸ List.mem_map_of_mem hr)
    refine ⟨?_, fun h => hv _ h⟩
    simp [G]
   have Y : D.contains p.j = false := by simpa using hp
   have Z : (p.j :: D).contains p.j = true := by simp
   simp only [Dy, Y, Z, cond_true, cond_false, List.nil_append, e]
   exact List.perm_append_comm
  ·have G : q.j ≠ p.j := fun O => hn.1 (O ▸ List.mem_map_of_mem M)
   have ih := Ky M hn.2 hp hv
   have e : (bif D.contains q.j then q.k.obs (vals q.j) else []) = bif (p.j :: D).contains q.j then q.k.obs (vals' q.j) else [] := by
    have : (p.j :: D).contains q.j = D.contains q.j := by simp [G]
    rw [this]
    cases hc : D.contains q.j with
    | true => rw [cond_true, cond_true, hv _ (by simpa using hc)]
    | false => rfl
   simp only [Dy, List.append_assoc, e]
   exact List.Perm.append_left _ ih
theorem Rl {l m : List Ob} (h : List.Perm l m) : List.Perm (l.flatMap Ob.fp) (m.flatMap Ob.fp) := by
 induction h with
 | nil => exact .nil
 | cons x _ ih => simp only [List.flatMap_cons]; exact List.Perm.append_left _ ih
 | swap x y l =>
  simp only [List.flatMap_cons, ← List.append_assoc]
  exact List.Perm.append_right _ List.perm_append_comm
 | trans _ _ a b => exact a.trans b
def PAllN (F : NewOp → Prop) : List NewOp → Prop
 | [] => True
 | p :: l => F p ∧ PAllN F l
theorem PAllN.get {F : NewOp → Prop} : ∀ {l : List NewOp}, PAllN F l → ∀ p, p ∈ l → F p
 | q :: l, ⟨h1, h2⟩, p, h => by
  rcases List.mem_cons.1 h with rfl | h
  ·exact h1
  ·exact PAllN.get h2 p h
section
variable {E : Env} {n : Nat} {C : Ctx} {ops : Array Oper} {s : Ah} {ob : List Ob} {R : St → Prop}
theorem Wh {H : GH} {a : Act} {w : World} {ob' : List Ob} (g : Gam n C ⟨s, ob⟩ H a w) (h : List.Perm ob ob') : Gam n C ⟨s, ob'⟩ H a w :=
 { g with objs := fun p D => g.objs p (h.mem_iff.2 D), free := fun p D => g.free p (h.mem_iff.2 D), new := fun p D => g.new p (h.mem_iff.2 D), nodup := (Rl h).nodup_iff.1 g.nodup }
def Gz : List NewOp → Nat → Nat
 | [], _ => 0
 | p :: l, j => bif Nat.beq p.j j then p.d else Gz l j
theorem Oa : ∀ {l : List NewOp} {p : NewOp}, p ∈ l → (l.map NewOp.j).Nodup → Gz l p.j = p.d
 | q :: l, p, D, hn => by
  simp only [List.map_cons, List.nodup_cons] at hn
  simp only [Gz]
  rcases List.mem_cons.1 D with rfl | D
  ·simp
  ·have : Nat.beq q.j p.j = false := by
    cases hb : Nat.beq q.j p.j with
    | false => rfl
    | true => exact absurd (nq hb ▸ List.mem_map_of_mem D) hn.1
   rw [this, cond_false]; exact Oa D hn.2
def Y5 : List NewOp → Nat → NewK
 | [], _ => .fn fun _ => .tup []
 | p :: l, j => bif Nat.beq p.j j then p.k else Y5 l j
theorem Uj : ∀ {l : List NewOp} {p : NewOp}, p ∈ l → (l.map NewOp.j).Nodup → Y5 l p.j = p.k
 | q :: l, p, D, hn => by
  simp only [List.map_cons, List.nodup_cons] at hn
  simp only [Y5]
  rcases List.mem_cons.1 D with rfl | D
  ·simp
  ·have : Nat.beq q.j p.j = false := by
    cases hb : Nat.beq q.j p.j with
    | false => rfl
    | true => exact absurd (nq hb ▸ List.mem_map_of_mem D) hn.1
   rw [this, cond_false]; exact Uj D hn.2
def DepN (A : List NewOp) : List Nat → Ah → List T → (Ah → List T → Prop) → Prop
 | [], s, xs, F => F s xs
 | j :: ds, s, xs, F => match Y5 A j with
  | .us _ _ _ => ∀ v : Value, v.oneCell' = true → DepN A ds ((Gz A j, .v v) :: s) (xs ++ [.v v]) F
  | .box _ _ _ => ∀ b : Nat, DepN A ds ((Gz A j, .v (.pointer (some ⟨b, 0, none⟩))) :: s) (xs ++ [.v (.pointer (some ⟨b, 0, none⟩))]) F
  | .fn _ => ∀ x : T, DepN A ds ((Gz A j, x) :: s) (xs ++ [x]) F
def Qy (A : List NewOp) (vals : Nat → T) : List Nat → Ah → Ah
 | [], s => s
 | j :: ds, s => Qy A vals ds ((Gz A j, vals j) :: s)
theorem DepN.get {A : List NewOp} {vals : Nat → T} {F : Ah → List T → Prop} : ∀ {ds : List Nat} {s : Ah} {G : List T}, (∀ d, d ∈ ds → ∃ Y, NewK.ok Y (vals d) (Y5 A d)) → DepN A ds s G F → F (Qy A vals ds s) (G ++ ds.map vals)
 | [], s, G, _, h => by simpa [DepN, Qy] using h
 | j :: ds, s, G, hv, h => by
  have D := hv j (by simp)
  have O := fun d hd => hv d (List.mem_cons_of_mem _ hd)
  simp only [DepN] at h
  obtain ⟨Y, D⟩ := D
  simp only [Qy, List.map_cons]
  rw [show G ++ vals j :: ds.map vals = (G ++ [vals j]) ++ ds.map vals by simp]
  cases hk : Y5 A j with
  | us e z es =>
   rw [hk] at h D
   obtain ⟨v, M, Z⟩ := D
   rw [M]; exact DepN.get O (h v Z)
  | box ty m cs =>
   rw [hk] at h D
   obtain ⟨b, M⟩ := D
   rw [M]; exact DepN.get O (h b)
  | fn f =>
   rw [hk] at h
   exact DepN.get O (h (vals j))
theorem Oc {A : List NewOp} {vals : Nat → T} {i : Nat} {x : T} : ∀ {ds : List Nat} {s : Ah}, Aw.get (Qy A vals ds s) i = some x → (∃ d, d ∈ ds ∧ Gz A d = i ∧ vals d = x) ∨ Aw.get s i = some x
 | [], s, h => .inr h
 | d :: ds, s, h => by
  rcases Oc (ds := ds) h with ⟨D, G, M⟩ | h
  ·exact .inl ⟨D, by simp [G], M⟩
  ·simp only [Aw.get] at h
   cases hb : Nat.beq (Gz A d) i with
   | true => rw [hb, cond_true] at h; cases h; exact .inl ⟨d, by simp, nq hb, rfl⟩
   | false => rw [hb, cond_false] at h; exact .inr h
def Ws : List Nat → Bool
 | [] => true
 | x :: l => (l.all fun y => !Nat.beq x y) && Ws l
theorem Qj : ∀ {l : List Nat}, Ws l = true → l.Nodup
 | [], _ => .nil
 | x :: l, h => by
  simp only [Ws, Bool.and_eq_true] at h
  refine List.nodup_cons.2 ⟨fun D => ?_, Qj h.2⟩
  have := List.all_eq_true.1 h.1 x D
  simp at this
theorem AP.any {r : PL} {so : Ah} {prot : List Nat} {pobjs : List Ob} (A : List NewOp)
  (hB : (Ws (A.map NewOp.j) && (Wt [] A && (A.all (fun p => A.all fun q => Nat.beq p.j q.j || !Nat.beq p.d q.d) && (A.all fun p => (Aw.get s p.d).isNone && free so (some p.d))))) = true)
  (hstep : PAllN (fun p => ∃ o, ops[p.j]? = some o ∧ o.guard = none ∧ o.dst = some p.d ∧
   DepN A p.ds s [] fun s' xs => ∀ ob, AX E n C [] o ⟨s', ob⟩ fun σ' => ∃ x, Aw.get σ'.slots p.d = some x ∧ p.k.okW xs x ∧ σ'.objs = ob ++ p.k.obs x) A)
  (k : News A (fun _ => .tup []) s ob (fun s' ob' => AP E n C ops prot pobjs r so ⟨s', ob'⟩ R)) :
  AP E n C ops prot pobjs (.par (A.map fun p => (p.j, p.ds)) r) so ⟨s, ob⟩ R := by
 simp only [Bool.and_eq_true] at hB
 obtain ⟨hn, hb, hj, hs⟩ := hB
 have hn := Qj hn
 have hdd : ∀ p, p ∈ A → ∀ q, q ∈ A → p.d = q.d → p.j = q.j := fun p G q hq he => by
  have := List.all_eq_true.1 (List.all_eq_true.1 hj p G) q hq
  rw [he] at this
  simp at this
  exact this
 have hs' : ∀ p, p ∈ A → Aw.get s p.d = none ∧ free so (some p.d) = true := fun p G => by
  have := List.all_eq_true.1 hs p G
  simp only [Bool.and_eq_true, Option.isNone_iff_eq_none] at this
  exact this
 have back : ∀ p, p ∈ A → ∀ q, q ∈ A → p.j = q.j → p = q := by
  have : ∀ l : List NewOp, (l.map NewOp.j).Nodup → ∀ p, p ∈ l → ∀ q, q ∈ l → p.j = q.j → p = q := by
   intro l
   induction l with
   | nil => intro _ p G; cases G
   | cons x l ih =>
    intro hn p G q hq he
    simp only [List.map_cons, List.nodup_cons] at hn
    rcases List.mem_cons.1 G with h1 | h1 <;> rcases List.mem_cons.1 hq with h2 | h2
    ·rw [h1, h2]
    ·exact absurd (show x.j ∈ l.map NewOp.j by rw [← h1, he]; exact List.mem_map_of_mem h2) hn.1
    ·exact absurd (show x.j ∈ l.map NewOp.j by rw [← h2, ← he]; exact List.mem_map_of_mem h1) hn.1
    ·exact ih hn.2 p h1 q h2 he
  exact this A hn
 intro Hs ws H a w sr wr ag hH hpp gm
 refine ⟨fun D a w => ∃ (vals : Nat → T) (H : GH), (∀ p, p ∈ A → p.j ∈ D → p.k.ok (p.ds.map vals) (vals p.j) ∧ VR H (a.tmps.getD p.d undef) (vals p.j) ∧ ∀ x, x ∈ p.ds → x ∈ D) ∧ (∀ d, d ∈ D → ∃ p, p ∈ A ∧ p.j = d) ∧ (∀ b o, Hs b = some o → H b = some o) ∧ SR n so Hs a ∧
  Gam n C ⟨s, ob ++ Dy vals D A⟩ H a w ∧ Ge Hs pobjs ws w, ?_, ?_, ?_⟩
 ·exact ⟨fun _ => .tup [], H, by simp, by simp, hH, sr, by rw [Lu, List.append_nil]; exact gm, ag⟩
 ·rintro D j ds a w hm Z hjD ⟨vals, H, hd, hDA, hH, sr, gm, ag⟩
  obtain ⟨p, G, he⟩ := List.mem_map.1 hm
  simp only [Prod.mk.injEq] at he
  obtain ⟨rfl, rfl⟩ := he
  obtain ⟨o, ho, hg, hdst, Y⟩ := hstep.get p G
  have Y := DepN.get (vals := vals) (fun d hdd => by
   obtain ⟨q, hq, rfl⟩ := hDA d (Z d hdd)
   rw [Uj hq hn]; exact ⟨_, (hd q hq (Z _ hdd)).1⟩) Y
  have hsl : ∀ i x, Aw.get (Qy A vals p.ds s) i = some x → VR H (a.tmps.getD i undef) x := by
   intro i x h
   rcases Oc h with ⟨d, h1, h2, h3⟩ | h
   ·obtain ⟨q, hq, rfl⟩ := hDA d (Z d h1)
    rw [Oa hq hn] at h2
    rw [← h2, ← h3]; exact (hd q hq (Z _ h1)).2.1
   ·exact gm.slots i x h
  rw [List.nil_append] at Y
  have Y := Y (ob ++ Dy vals D A) H a w { gm with slots := hsl }
  simp only [wpOp, ho]
  rw [if_pos (by simp [Region.wanted, hg])]
  refine .inl (Ci ?_ (fun _ _ _ h => h.elim) Y)
  rintro a' w' ⟨σ', H', v, ⟨x, hget, hx, hobj⟩, gm', ha', hHH, hfr⟩
  have ag' : Ge Hs pobjs ws w' := by
   refine ⟨fun b o hb => gm'.held _ _ (hHH _ _ (hH _ _ hb)), fun q O b hb => ?_⟩
   obtain ⟨i, hi, hoi⟩ := hpp q O
   have hoi' : (ob ++ Dy vals D A)[i]? = some q := by rw [List.getElem?_append_left (gs hoi).1]; exact hoi
   exact ((hfr i q hoi' (by simp)).2 b hb).trans (ag.2 q O b hb)
  have hne : ∀ i, i ∈ D → Qu vals p.j x i = vals i := fun i hi => by
   unfold Qu
   cases hij : Nat.beq i p.j with
   | true => exact absurd (nq hij ▸ hi) hjD
   | false => rfl
  have hx : p.k.ok (p.ds.map vals) x := by
   cases hk : p.k with
   | us e z es =>
    rw [hk] at hx hobj
    obtain ⟨v, rfl⟩ := hx
    refine ⟨v, rfl, UsR.one (show UsR H' w' v e z es from gm'.objs (.us v e z es) ?_)⟩
    rw [hobj]; simp [NewK.obs]
   | box ty m cs => rw [hk] at hx; exact hx
   | fn f => rw [hk] at hx; exact hx
  have hself : Qu vals p.j x p.j = x := by unfold Qu; simp
  have htmp : ∀ i, i ≠ p.d → a'.tmps.getD i undef = a.tmps.getD i undef := fun i hi => by
   rw [ha', hdst]
   simp [Act.put, Array.getD_eq_getD_getElem?, Array.getElem?_setIfInBounds_ne (Ne.symm hi)]
  have hdsm : p.ds.map (Qu vals p.j x) = p.ds.map vals := List.map_congr_left fun i hi => hne i (Z i hi)
  refine ⟨ag', Qu vals p.j x, H', fun q hq hqD => ?_, fun d hdD => ?_, fun b o hb => hHH _ _ (hH _ _ hb), ?_, ?_, ag'⟩
  ·by_cases O : q.j = p.j
   ·have := back q hq p G O
    subst this
    rw [hself, hdsm]
    exact ⟨hx, gm'.slots _ _ hget, fun y hy => List.mem_cons_of_mem _ (Z y hy)⟩
   ·have hqD' : q.j ∈ D := by
     rcases List.mem_cons.1 hqD with h | h
     ·exact absurd h O
     ·exact h
    obtain ⟨h1, h2, h3⟩ := hd q hq hqD'
    rw [hne _ hqD', List.map_congr_left fun i hi => hne i (h3 i hi), htmp q.d fun h => O (hdd q hq p G h)]
    exact ⟨h1, h2.mono hHH, fun y hy => List.mem_cons_of_mem _ (h3 y hy)⟩
  ·rcases List.mem_cons.1 hdD with rfl | hdD
   ·exact ⟨p, G, rfl⟩
   ·exact hDA d hdD
  ·rw [ha', hdst]
   exact sr.free _ _ (hs' p G).2
  ·refine Wh (ob := σ'.objs) { gm' with slots := fun i y hy => ?_ } ?_
   ·have hi : i ≠ p.d := fun h => by rw [h, (hs' p G).1] at hy; cases hy
    rw [htmp i hi]
    exact (gm.slots i y hy).mono hHH
   ·rw [hobj, List.append_assoc]
    refine List.Perm.append_left _ ?_
    have := Ky (vals' := Qu vals p.j x) G hn hjD (fun i hi => (hne i hi).symm)
    rw [hself] at this
    exact this
 ·rintro D a w hall ⟨vals, H, hd, hDA, hH, sr, gm, ag⟩
  have M : ∀ p, p ∈ A → p.j ∈ D := fun p G => hall (p.j, p.ds) (List.mem_map_of_mem (f := fun p : NewOp => (p.j, p.ds)) G)
  have kk := News.get vals A [] _ _ _ hb (fun i hi => by cases hi) (fun p G => (hd p G (M p G)).1) k
  rw [Ik M] at gm
  refine kk Hs ws H a w sr wr ag hH (fun q O => ?_) { gm with slots := fun i x hx => ?_ }
  ·obtain ⟨i, hi, hoi⟩ := hpp q O
   refine ⟨i, hi, ?_⟩
   dsimp only
   rw [← Ik M, List.getElem?_append_left (gs hoi).1]; exact hoi
  ·rcases N2 hx with ⟨p, G, rfl, rfl⟩ | hx
   ·exact (hd p G (M p G)).2.1
   ·exact gm.slots i x hx
theorem AP.same {pl : PL} {so : Ah} {prot : List Nat} {pobjs : List Ob} (t : Nat) (x : T) (Y : Aw.get s t = some x) (k : AP E n C ops prot pobjs pl so ⟨(t, x) :: s, ob⟩ R) : AP E n C ops prot pobjs pl so ⟨s, ob⟩ R :=
 fun Hs ws H a w Z wr G O D M => k Hs ws H a w Z wr G O D (M.same Y)
end
def Np (s : Ah) (x y : Operand) : Option (IntKind × Int × IntKind × Int) :=
 match Al s x with
 | some (.v (.int k a)) => match Al s y with
  | some (.v (.int k' b)) => some (k, a, k', b)
  | _ => none
 | _ => none
def Yk (s : Ah) (D : BinOp) (x y : Operand) : Option T :=
 match Np s x y with
 | some (.i64, a, .i64, b) => match D with
  | .lss => some (.v (.bool (decide (a < b))))
  | .leq => some (.v (.bool (decide (a ≤ b))))
  | .gtr => some (.v (.bool (decide (a > b))))
  | .geq => some (.v (.bool (decide (a ≥ b))))
  | .eql => some (.v (.bool (a == b)))
  | .neq => some (.v (.bool (a != b)))
  | .add => some (.v (.int .i64 (wr (a + b))))
  | .sub => some (.v (.int .i64 (wr (a - b))))
  | .mul => some (.v (.int .i64 (wr (a * b))))
  | _ => none
 | _ => none
def Pc (E : Env) (s : Ah) (t : TypeId) (x : Operand) (f : Nat) : Option T :=
 match E.tab t with
 | some ti => match ti.kind with
  | .struct fs => match fs[f]? with
   | some (off, ft) => match E.tab ft with
    | some fi => bif Nat.beq fi.size 0 then none else
     match Al s x with
     | some (.v (.pointer (some ⟨b, o, none⟩))) => some (.v (.pointer (some ⟨b, o + off, none⟩)))
     | some (.eptr cs) => bif Nat.ble off cs.length then some (.eptr (cs.drop off)) else none
     | _ => none
    | none => none
   | none => none
  | _ => none
 | none => none
def Ua (E : Env) (s : Ah) (c : Call) : Option T :=
 match c with
 | ⟨.builtin .min, ⟨[x, y]⟩, _⟩ => match Np s x y with
  | some (.i64, a, .i64, b) => some (.v (.int .i64 (min a b)))
  | _ => none
 | ⟨.builtin .max, ⟨[x, y]⟩, _⟩ => match Np s x y with
  | some (.i64, a, .i64, b) => some (.v (.int .i64 (max a b)))
  | _ => none
 | ⟨.builtin .len, ⟨[x]⟩, ⟨[t]⟩⟩ => match E.tab t with
  | some ti => match ti.kind with
   | .string => match Al s x with
    | some (.v (.string b)) => some (.v (.int .i64 b.size))
    | _ => none
   | _ => none
  | none => none
 | _ => none
def Nm (E : Env) (s : Ah) : Op → Option T
 | .move x => Al s x
 | .assign x => Al s x
 | .pick c a b => match Al s c with
  | some (.v (.bool true)) => Al s a
  | some (.v (.bool false)) => Al s b
  | _ => none
 | .nilCheck x => match Al s x with
  | some (.v (.pointer (some b))) => some (.v (.pointer (some b)))
  | some (.eptr cs) => some (.eptr cs)
  | _ => none
 | .extract x i => match Al s x with
  | some (.tup l) => l[i]?
  | _ => none
 | .unOp .not _ x => match Al s x with
  | some (.v (.bool b)) => some (.v (.bool (!b)))
  | _ => none
 | .unOp .neg _ x => match Al s x with
  | some (.v (.int .i64 a)) => some (.v (.int .i64 (wr (0 - a))))
  | _ => none
 | .binOp op _ x y _ => Yk s op x y
 | .fieldAddr t x f => Pc E s t x f
 | .call c => Ua E s c
 | _ => none
section
variable {E : Env} {n : Nat} {C : Ctx} {s : Ah} {ob : List Ob} {ops : Array Oper} {R : St → Prop} {dst : Option Tmp} {ty : TypeId} {pos : String} {aft : Array Edge} {g : Option (Nat × Bool)}
theorem Kn {x y : Operand} {k D : IntKind} {a b : Int} (h : Np s x y = some (k, a, D, b)) : Al s x = some (.v (.int k a)) ∧ Al s y = some (.v (.int D b)) := by
 unfold Np at h
 split at h
 ·rename_i G
  split at h
  ·rename_i M
   cases h
   exact ⟨G, M⟩
  ·cases h
 ·cases h
theorem Xs {M : BinOp} {t O : TypeId} {x y : Operand} {z : T} (h : Yk s M x y = some z) : Yp E.P n s ⟨dst, .binOp M t x y O, ty, pos, aft, g⟩ z := by
 unfold Yk at h
 split at h <;> first | cases h | skip
 rename_i hi
 obtain ⟨D, G⟩ := Kn hi
 split at h <;> first | cases h | skip
 ·exact Yp.cmpI D G rfl
 ·exact Yp.cmpI D G rfl
 ·exact Yp.cmpI D G rfl
 ·exact Yp.cmpI D G rfl
 ·exact Yp.cmpI D G rfl
 ·exact Yp.cmpI D G rfl
 ·exact Dt D G rfl
 ·exact Dt D G rfl
 ·exact Dt D G rfl
theorem Rm {t : TypeId} {x : Operand} {f : Nat} {z : T} (h : Pc E s t x f = some z) : Yp E.P n s ⟨dst, .fieldAddr t x f, ty, pos, aft, g⟩ z := by
 unfold Pc at h
 split at h <;> first | cases h | skip
 rename_i ti Z
 split at h <;> first | cases h | skip
 rename_i fs Y
 split at h <;> first | cases h | skip
 rename_i M ft O
 split at h <;> first | cases h | skip
 rename_i fi D
 cases hz : Nat.beq fi.size 0 with
 | true => rw [hz] at h; cases h
 | false =>
  rw [hz, cond_false] at h
  split at h <;> first | cases h | skip
  ·rename_i G
   exact Ow Z Y O D hz G
  ·rename_i cs G
   cases hle : Nat.ble M cs.length with
   | true => rw [hle, cond_true] at h; cases h; exact Rr Z Y O D hz G hle
   | false => rw [hle] at h; cases h
theorem Vk {c : Call} {z : T} (h : Ua E s c = some z) : Yp E.P n s ⟨dst, .call c, ty, pos, aft, g⟩ z := by
 unfold Ua at h
 split at h <;> first | cases h | skip
 ·split at h <;> first | cases h | skip
  rename_i hi
  obtain ⟨D, G⟩ := Kn hi
  exact Xz D G
 ·split at h <;> first | cases h | skip
  rename_i hi
  obtain ⟨D, G⟩ := Kn hi
  exact X0 D G
 ·split at h <;> first | cases h | skip
  rename_i Y O
  split at h <;> first | cases h | skip
  rename_i M
  split at h <;> first | cases h | skip
  rename_i D
  exact Nd O M D
theorem Kh {M : Op} {z : T} (h : Nm E s M = some z) : Yp E.P n s ⟨dst, M, ty, pos, aft, g⟩ z := by
 unfold Nm at h
 split at h <;> first | cases h | skip
 ·exact Yp.move h
 ·exact Yp.assign h
 ·split at h <;> first | cases h | skip
  ·rename_i G; exact Vo G h
  ·rename_i G; exact Vp G h
 ·split at h <;> first | cases h | skip
  ·rename_i D; exact Nb D
  ·rename_i D; exact Nc D
 ·split at h <;> first | cases h | skip
  rename_i D; exact Yp.extract D h
 ·split at h <;> first | cases h | skip
  rename_i D; exact Yp.not D
 ·split at h <;> first | cases h | skip
  rename_i D; exact Yp.neg D rfl
 ·exact Xs h
 ·exact Rm h
 ·exact Vk h
end
def Qd (D : TI) (cs : List T) (off : Nat) : Option T :=
 bif D.isAgg then (bif Nat.beq off 0 && Nat.beq D.size cs.length then some (.agg cs) else none) else cs[off]?
theorem N0 {D : TI} {cs : List T} {off : Nat} {y : T} (h : Qd D cs off = some y) : Ds D cs off = some y := by
 unfold Qd at h
 unfold Ds
 cases ha : D.isAgg with
 | false => rw [ha, cond_false] at h; rw [cond_false]; exact h
 | true =>
  rw [ha, cond_true] at h
  rw [cond_true]
  cases hb : (Nat.beq off 0 && Nat.beq D.size cs.length) with
  | true => rw [hb, cond_true] at h; rw [cond_true]; exact h
  | false => rw [hb] at h; cases h
def Nn (E : Env) (s : Ah) : Op → Option T
 | .load t x => match Al s x with
  | some (.eptr cs) => match E.tab t with
   | some fi => Qd fi cs 0
   | none => none
  | _ => none
 | op => Nm E s op
inductive Hn where
 | o (i k : Nat)
 | f (i : Nat) (x : T)
 | l (i : Nat) (c : Int)
 | x (i : Nat) (m : Nat) (e : List T)
 | k (i : Nat) (c : Int)
def Hn.at : Hn → Nat
 | .o i _ => i
 | .f i _ => i
 | .l i _ => i
 | .x i _ _ => i
 | .k i _ => i
def Yc (E : Env) (s : Ah) (ob : List Ob) (k : Nat) : Op → Option (T × Prop)
 | .load t x => match Al s x with
  | some (.v (.pointer (some ⟨b, off, none⟩))) => match ob[k]? with
   | some (.arr b' _ _ _ [e]) => match E.tab t with
    | some fi => match Qd fi e off with
     | some y => some (y, b = b')
     | none => none
    | none => none
   | _ => none
  | _ => none
 | _ => none
def Za (E : Env) (s : Ah) (c : Int) : Op → Option (T × Prop)
 | .call ⟨.builtin .len, ⟨[x]⟩, ⟨[t]⟩⟩ => match E.tab t with
  | some ti => match ti.kind with
   | .slice _ => match Al s x with
    | some (.list _ es) => some (.v (.int .i64 c), (es.length : Int) = c)
    | _ => none
   | _ => none
  | none => none
 | _ => none
def Zb (E : Env) (s : Ah) (m : Nat) (e : List T) : Op → Option (T × Prop)
 | .indexAddr t x y => match E.tab t with
  | some ti => match ti.kind with
   | .slice el => match E.tab el with
    | some fi => match Al s x with
     | some (.list sz es) => bif Nat.beq fi.size sz then
      (match Al s y with
      | some (.v (.int _ i)) => some (.eptr e, i = (m : Int) ∧ es[m]? = some e)
      | _ => none) else none
     | _ => none
    | none => none
   | _ => none
  | none => none
 | _ => none
def Qc (E : Env) (n : Nat) (s : Ah) (ob : List Ob) (d : Nat) (o : Oper) : Hn → Option (T × Prop)
 | .o _ k => Yc E s ob k o.op
 | .f _ x => some (x, Yd E.P n s ob ⟨some d, o.op, o.type, o.pos, o.after, none⟩ x)
 | .l _ c => Za E s c o.op
 | .x _ m e => Zb E s m e o.op
 | .k _ c => match Nm E s o.op with
  | some (.v (.int kk e)) => some (.v (.int kk c), e = c)
  | _ => none
section
variable {E : Env} {n : Nat} {C : Ctx} {s : Ah} {ob : List Ob} {ops : Array Oper} {R : St → Prop} {dst : Option Tmp} {ty : TypeId} {pos : String} {aft : Array Edge} {g : Option (Nat × Bool)}
theorem Ki {D : Op} {z : T} (h : Nn E s D = some z) : Yd E.P n s ob ⟨dst, D, ty, pos, aft, g⟩ z := by
 unfold Nn at h
 split at h
 ·split at h <;> first | cases h | skip
  rename_i M
  split at h <;> first | cases h | skip
  rename_i G
  exact Vs G M (N0 h)
 ·exact (Kh h).yd
theorem Nu {d : Nat} {o : Oper} {hn : Hn} {z : T} {p : Prop} (h : Qc E n s ob d o hn = some (z, p)) (G : p) : Yd E.P n s ob ⟨some d, o.op, o.type, o.pos, o.after, none⟩ z := by
 unfold Qc at h
 split at h
 ·unfold Yc at h
  split at h <;> first | cases h | skip
  rename_i O
  split at h <;> first | cases h | skip
  rename_i D
  split at h <;> first | cases h | skip
  rename_i M
  split at h <;> first | cases h | skip
  rename_i Y
  split at h <;> first | cases h | skip
  rename_i hy
  subst G
  rw [O]
  exact G9 _ 0 _ Y D M rfl (by omega) (N0 hy)
 ·cases h; exact G
 ·unfold Za at h
  split at h <;> first | cases h | skip
  rename_i O
  split at h <;> first | cases h | skip
  rename_i Y
  split at h <;> first | cases h | skip
  rename_i M
  split at h <;> first | cases h | skip
  rename_i D
  subst G
  rw [O]
  exact (Py Y M D).yd
 ·unfold Zb at h
  split at h <;> first | cases h | skip
  rename_i O
  split at h <;> first | cases h | skip
  rename_i Y
  split at h <;> first | cases h | skip
  rename_i M
  split at h <;> first | cases h | skip
  split at h <;> first | cases h | skip
  rename_i fi Z _ sz es D
  cases hb : Nat.beq fi.size sz with
  | false => rw [hb] at h; cases h
  | true =>
   rw [hb, cond_true] at h
   split at h <;> first | cases h | skip
   rename_i hy
   rw [O]
   exact (Rq Y M Z (nq hb) D hy G.1 G.2).yd
 ·split at h <;> first | cases h | skip
  rename_i D
  subst G
  exact (Kh D).yd
end
def Er (ops : Array Oper) (s : Ah) : Option (Nat × Bool) → Option Bool
 | none => some true
 | some (j, want) => match ops[j]? with
  | some o => match o.dst with
   | some t => match get s t with
    | some (.v (.bool true)) => some want
    | some (.v (.bool false)) => some (!want)
    | _ => none
   | none => none
  | none => none
def I8 (E : Env) (n : Nat) (ops : Array Oper) (ob : List Ob) : Nat → Nat → List Oper → Ah → List Hn → Prop → Option (Prop × List Oper × Ah)
 | 0, _, l, s, _, p => some (p, l, s)
 | _ + 1, _, [], _, _, _ => none
 | m + 1, i, o :: l, s, hs, p => match o.dst with
  | none => none
  | some d => bif Nat.blt d n then
   (match Er ops s o.guard with
   | none => none
   | some false => I8 E n ops ob m (i + 1) l ((d, .v undef) :: s) hs p
   | some true => match hs with
    | [] => match Nn E s o.op with
     | some x => I8 E n ops ob m (i + 1) l ((d, x) :: s) [] p
     | none => none
    | h :: hs => bif Nat.beq h.at i then
      (match Qc E n s ob d o h with
      | some (x, q) => I8 E n ops ob m (i + 1) l ((d, x) :: s) hs (q ∧ p)
      | none => none)
     else
      (match Nn E s o.op with
      | some x => I8 E n ops ob m (i + 1) l ((d, x) :: s) (h :: hs) p
      | none => none)) else none
section
variable {E : Env} {n : Nat} {C : Ctx} {s : Ah} {ob : List Ob} {ops : Array Oper} {R : St → Prop}
theorem Fj {j : Nat} {D v : Bool} (h : Er ops s (some (j, D)) = some v) : ∃ t b, (ops[j]?).bind (·.dst) = some t ∧ get s t = some (.v (.bool b)) ∧ (v = true → b = D) ∧ (v = false → b = !D) := by
 simp only [Er] at h
 split at h
 ·rename_i o Y
  split at h
  ·rename_i t O
   have M : (ops[j]?).bind (·.dst) = some t := by rw [Y]; exact O
   split at h
   ·rename_i G
    cases h
    exact ⟨t, true, M, G, by cases D <;> simp, by cases D <;> simp⟩
   ·rename_i G
    cases h
    exact ⟨t, false, M, G, by cases D <;> simp, by cases D <;> simp⟩
   ·cases h
  ·cases h
 ·cases h
theorem Pn {d : Nat} {o : Oper} {l : List Oper} {x : T} (hg : Er ops s o.guard = some true) (D : o.dst = some d) (O : Yd E.P n s ob ⟨some d, o.op, o.type, o.pos, o.after, none⟩ x) (M : Nat.blt d n = true)
  (k : AO E n C ops l ⟨(d, x) :: s, ob⟩ R) : AO E n C ops (o :: l) ⟨s, ob⟩ R := by
 obtain ⟨dst, op, ty, pos, aft, g⟩ := o
 cases D
 cases g with
 | none => exact AO.d O M k
 | some g =>
  obtain ⟨j, G⟩ := g
  obtain ⟨t, b, Y, Z, h3, _⟩ := Fj hg
  have := h3 rfl
  exact AO.guard Y Z (Bh M) (fun _ => AO.d O M k) (fun h => by rw [this] at h; cases G <;> cases h)
theorem Y4 {d : Nat} {o : Oper} {l : List Oper} (hg : Er ops s o.guard = some false) (D : o.dst = some d) (Z : Nat.blt d n = true)
  (k : AO E n C ops l ⟨(d, .v undef) :: s, ob⟩ R) : AO E n C ops (o :: l) ⟨s, ob⟩ R := by
 obtain ⟨dst, op, ty, pos, aft, g⟩ := o
 cases D
 cases g with
 | none => cases hg
 | some g =>
  obtain ⟨j, G⟩ := g
  obtain ⟨t, b, M, O, _, Y⟩ := Fj hg
  have := Y rfl
  exact AO.guard M O (Bh Z) (fun h => by rw [this] at h; cases G <;> cases h) (fun _ => k)
theorem D4 : ∀ (m i : Nat) (l : List Oper) (s : Ah) (O : List Hn) (p : Prop) {P : Prop} {l' : List Oper} {s' : Ah}, I8 E n ops ob m i l s O p = some (P, l', s') → P →
  p ∧ (AO E n C ops l' ⟨s', ob⟩ R → AO E n C ops l ⟨s, ob⟩ R)
 | 0, i, l, s, O, p, P, l', s', h, hP => by cases h; exact ⟨hP, id⟩
 | m + 1, i, [], s, O, p, P, l', s', h, hP => by cases h
 | m + 1, i, o :: l, s, O, p, P, l', s', h, hP => by
  simp only [I8] at h
  split at h
  ·cases h
  ·rename_i d D
   cases hd : Nat.blt d n with
   | false => rw [hd] at h; cases h
   | true =>
    rw [hd, cond_true] at h
    split at h
    ·cases h
    ·rename_i Y
     obtain ⟨G, M⟩ := D4 m (i + 1) l _ O p h hP
     exact ⟨G, fun k => Y4 Y D hd (M k)⟩
    ·rename_i Y
     split at h
     ·split at h
      ·rename_i x Z
       obtain ⟨G, M⟩ := D4 m (i + 1) l _ _ p h hP
       exact ⟨G, fun k => Pn Y D (Ki Z) hd (M k)⟩
      ·cases h
     ·rename_i hn O
      cases hb : Nat.beq hn.at i with
      | true =>
       rw [hb, cond_true] at h
       split at h
       ·rename_i x q Z
        obtain ⟨G, M⟩ := D4 m (i + 1) l _ _ _ h hP
        exact ⟨G.2, fun k => Pn Y D (Nu Z G.1) hd (M k)⟩
       ·cases h
      | false =>
       rw [hb, cond_false] at h
       split at h
       ·rename_i x Z
        obtain ⟨G, M⟩ := D4 m (i + 1) l _ _ p h hP
        exact ⟨G, fun k => Pn Y D (Ki Z) hd (M k)⟩
       ·cases h
theorem bz : (∀ b, (true && b) = b) ∧ (∀ b, (false && b) = false) ∧ (∀ b, (true || b) = true) ∧ (∀ b, (false || b) = b) ∧ (!true) = false ∧ (!false) = true ∧ (∀ a b : Bool, cond true a b = a) ∧ (∀ a b : Bool, cond false a b = b) := by simp
theorem Bc {α : Type} {f : α → List T} {l : List α} : ((l.map f).length : Int) = (l.length : Int) := by rw [List.length_map]
theorem Af (m : Nat) {l D : List Oper} {G : Ah} (h : I8 E n ops ob m 0 l s [] True = some (True, D, G)) (k : AO E n C ops D ⟨G, ob⟩ R) : AO E n C ops l ⟨s, ob⟩ R :=
 (D4 m 0 l s [] True h trivial).2 k
theorem Ak {id : Nat} {y : Code} {Q : Exit → St → Prop} {D : Ah} (h : I8 E n ops ob ops.size 0 ops.toList s [] True = some (True, [], D)) (k : AW E n C y ⟨D, ob⟩ Q) : AW E n C (.seq (.region id ops false) y) ⟨s, ob⟩ Q :=
 Z5 (Z2 ((D4 _ 0 _ s [] True h trivial).2 (Z3 k)))
theorem Bl {id : Nat} {y : Code} {Q : Exit → St → Prop} {G : Ah} {P : Prop} (D : List Hn) (h : I8 E n ops ob ops.size 0 ops.toList s D True = some (P, [], G)) (M : P) (k : AW E n C y ⟨G, ob⟩ Q) :
  AW E n C (.seq (.region id ops false) y) ⟨s, ob⟩ Q :=
 Z5 (Z2 ((D4 _ 0 _ s D True h M).2 (Z3 k)))
theorem T6 {id : Nat} {Q : Exit → St → Prop} {D : Ah} (h : I8 E n ops ob ops.size 0 ops.toList s [] True = some (True, [], D)) (k : Q .normal ⟨D, ob⟩) : AW E n C (.region id ops false) ⟨s, ob⟩ Q :=
 Z2 ((D4 _ 0 _ s [] True h trivial).2 (Z3 k))
theorem Qg {id : Nat} {Q : Exit → St → Prop} {G : Ah} {P : Prop} (D : List Hn) (h : I8 E n ops ob ops.size 0 ops.toList s D True = some (P, [], G)) (M : P) (k : Q .normal ⟨G, ob⟩) :
  AW E n C (.region id ops false) ⟨s, ob⟩ Q :=
 Z2 ((D4 _ 0 _ s D True h M).2 (Z3 k))
theorem Ao (m : Nat) (D : List Hn) {l G : List Oper} {M : Ah} {P : Prop} (h : I8 E n ops ob m 0 l s D True = some (P, G, M)) (O : P) (k : AO E n C ops G ⟨M, ob⟩ R) : AO E n C ops l ⟨s, ob⟩ R :=
 (D4 m 0 l s D True h O).2 k
def Qb (E : Env) (so s : Ah) (d : Nat) (D : Op) : Option (T × Bool) :=
 match (match D with
  | .pick .. => none
  | D => Nn E so D) with
 | some x => some (x, true)
 | none => match Nm E s D with
  | some x => bif free so (some d) then some (x, false) else none
  | none => none
def Yh (b : Bool) (so : Ah) (d : Nat) (x : T) : Ah := bif b then (d, x) :: so else so
def pd : Nat → Nat → List Nat → PL
 | 0, _, _ => .nil
 | m + 1, i, a => bif a.contains i then .act i (pd m (i + 1) a) else .still i (pd m (i + 1) a)
def Fc (E : Env) (n : Nat) (ops : Array Oper) (pobjs : List Ob) : Nat → Nat → PL → Ah → Ah → List Hn → Prop → Option (Prop × PL × Ah × Ah)
 | 0, _, l, so, s, _, p => some (p, l, so, s)
 | m + 1, i, .still j l, so, s, hs, p => match ops[j]? with
  | none => none
  | some o => match o.dst with
   | none => none
   | some d => bif Nat.blt d n then
    (match Er ops s o.guard with
    | none => none
    | some false => bif free so (some d) then Fc E n ops pobjs m (i + 1) l so ((d, .v undef) :: s) hs p else none
    | some true => match hs with
     | [] => match Qb E so s d o.op with
      | some (x, b) => Fc E n ops pobjs m (i + 1) l (Yh b so d x) ((d, x) :: s) [] p
      | none => none
     | h :: hs => bif Nat.beq h.at i then
       (match Qc E n so pobjs d o h with
       | some (x, q) => Fc E n ops pobjs m (i + 1) l ((d, x) :: so) ((d, x) :: s) hs (q ∧ p)
       | none => none)
      else
       (match Qb E so s d o.op with
       | some (x, b) => Fc E n ops pobjs m (i + 1) l (Yh b so d x) ((d, x) :: s) (h :: hs) p
       | none => none)) else none
 | m + 1, i, .act j l, so, s, hs, p => match ops[j]? with
  | none => none
  | some o => match o.dst with
   | none => none
   | some d => bif Nat.blt d n && free so (some d) then
    (match Er ops s o.guard with
    | some false => Fc E n ops pobjs m (i + 1) l so ((d, .v undef) :: s) hs p
    | _ => none) else none
 | _ + 1, _, _, _, _, _, _ => none
section
variable {prot : List Nat} {pobjs : List Ob} {so : Ah}
theorem Oj {j d : Nat} {o : Oper} {l : PL} {x : T} (M : ops[j]? = some o) (hg : Er ops s o.guard = some true) (D : o.dst = some d)
  (O : Yd E.P n so pobjs ⟨some d, o.op, o.type, o.pos, o.after, none⟩ x) (G : Nat.blt d n = true)
  (k : AP E n C ops prot pobjs l ((d, x) :: so) ⟨(d, x) :: s, ob⟩ R) : AP E n C ops prot pobjs (.still j l) so ⟨s, ob⟩ R := by
 obtain ⟨dst, op, ty, pos, aft, g⟩ := o
 cases D
 cases g with
 | none => exact Pm M O rfl (Bh G) k
 | some g =>
  obtain ⟨i, Y⟩ := g
  obtain ⟨t, b, Z, h2, h3, _⟩ := Fj hg
  exact A6 M Z h2 (h3 rfl) O (Bh G) k
theorem Wm {j d : Nat} {o : Oper} {l : PL} {x : T} (M : ops[j]? = some o) (hg : Er ops s o.guard = some true) (D : o.dst = some d)
  (O : Yp E.P n s ⟨some d, o.op, o.type, o.pos, o.after, none⟩ x) (G : Nat.blt d n = true) (hf : free so (some d) = true)
  (k : AP E n C ops prot pobjs l so ⟨(d, x) :: s, ob⟩ R) : AP E n C ops prot pobjs (.still j l) so ⟨s, ob⟩ R := by
 obtain ⟨dst, op, ty, pos, aft, g⟩ := o
 cases D
 cases g with
 | none => exact AP.new M O rfl (Bh G) k hf
 | some g =>
  obtain ⟨i, Y⟩ := g
  obtain ⟨t, b, Z, h2, h3, _⟩ := Fj hg
  exact X8 M Z h2 (h3 rfl) O (Bh G) k hf
theorem Md {j d : Nat} {o : Oper} {l : PL} (Z : ops[j]? = some o) (hg : Er ops s o.guard = some false) (D : o.dst = some d) (Y : Nat.blt d n = true) (hf : free so (some d) = true)
  (k : AP E n C ops prot pobjs l so ⟨(d, .v undef) :: s, ob⟩ R) : AP E n C ops prot pobjs (.still j l) so ⟨s, ob⟩ R ∧ AP E n C ops prot pobjs (.act j l) so ⟨s, ob⟩ R := by
 obtain ⟨dst, op, ty, pos, aft, g⟩ := o
 cases D
 cases g with
 | none => cases hg
 | some g =>
  obtain ⟨i, aa⟩ := g
  obtain ⟨t, b, G, M, _, O⟩ := Fj hg
  exact ⟨AP.skip Z rfl G M (O rfl) (Bh Y) k hf, Wl Z rfl G M (O rfl) (Bh Y) k hf⟩
theorem Mc {j d : Nat} {o : Oper} {l : PL} {x : T} {b : Bool} (O : ops[j]? = some o) (hg : Er ops s o.guard = some true) (G : o.dst = some d) (M : Nat.blt d n = true)
  (D : Qb E so s d o.op = some (x, b)) (k : AP E n C ops prot pobjs l (Yh b so d x) ⟨(d, x) :: s, ob⟩ R) : AP E n C ops prot pobjs (.still j l) so ⟨s, ob⟩ R := by
 unfold Qb at D
 split at D
 ·rename_i h
  cases D
  split at h
  ·cases h
  ·exact Oj O hg G (Ki h) M k
 ·split at D
  ·rename_i h
   cases hf : free so (some d) with
   | false => rw [hf] at D; cases D
   | true =>
    rw [hf, cond_true] at D
    cases D
    exact Wm O hg G (Kh h) M hf k
  ·cases D
theorem Eh : ∀ (m i : Nat) (l : PL) (so s : Ah) (M : List Hn) (p : Prop) {P : Prop} {O : PL} {D Y : Ah}, Fc E n ops pobjs m i l so s M p = some (P, O, D, Y) → P →
  p ∧ (AP E n C ops prot pobjs O D ⟨Y, ob⟩ R → AP E n C ops prot pobjs l so ⟨s, ob⟩ R)
 | 0, i, l, so, s, M, p, P, O, D, Y, h, hP => by
  cases l <;> (simp only [Fc] at h; cases h; exact ⟨hP, id⟩)
 | m + 1, i, .still j l, so, s, M, p, P, O, D, Y, h, hP => by
  simp only [Fc] at h
  split at h
  ·cases h
  ·rename_i o ho
   split at h
   ·cases h
   ·rename_i d G
    cases hd : Nat.blt d n with
    | false => rw [hd] at h; cases h
    | true =>
     rw [hd, cond_true] at h
     split at h
     ·cases h
     ·rename_i hg
      cases hf : free so (some d) with
      | false => rw [hf] at h; cases h
      | true =>
       rw [hf, cond_true] at h
       obtain ⟨Z, h2⟩ := Eh m (i + 1) l so _ M p h hP
       exact ⟨Z, fun k => (Md ho hg G hd hf (h2 k)).1⟩
     ·rename_i hg
      split at h
      ·split at h
       ·rename_i x b hx
        obtain ⟨Z, h2⟩ := Eh m (i + 1) l _ _ _ p h hP
        exact ⟨Z, fun k => Mc ho hg G hd hx (h2 k)⟩
       ·cases h
      ·rename_i hn M
       cases hb : Nat.beq hn.at i with
       | true =>
        rw [hb, cond_true] at h
        split at h
        ·rename_i x q hx
         obtain ⟨Z, h2⟩ := Eh m (i + 1) l _ _ _ _ h hP
         exact ⟨Z.2, fun k => Oj ho hg G (Nu hx Z.1) hd (h2 k)⟩
        ·cases h
       | false =>
        rw [hb, cond_false] at h
        split at h
        ·rename_i x b hx
         obtain ⟨Z, h2⟩ := Eh m (i + 1) l _ _ _ p h hP
         exact ⟨Z, fun k => Mc ho hg G hd hx (h2 k)⟩
        ·cases h
 | m + 1, i, .act j l, so, s, M, p, P, O, D, Y, h, hP => by
  simp only [Fc] at h
  split at h
  ·cases h
  ·rename_i o ho
   split at h
   ·cases h
   ·rename_i d G
    cases hd : Nat.blt d n with
    | false => rw [hd] at h; cases h
    | true =>
     cases hf : free so (some d) with
     | false => rw [hd, hf] at h; cases h
     | true =>
      rw [hd, hf] at h
      simp only [Bool.and_true, cond_true] at h
      split at h
      ·rename_i hg
       obtain ⟨Z, h2⟩ := Eh m (i + 1) l so _ M p h hP
       exact ⟨Z, fun k => (Md ho hg G hd hf (h2 k)).2⟩
      ·cases h
 | m + 1, i, .nil, so, s, M, p, P, O, D, Y, h, hP => by simp [Fc] at h
 | m + 1, i, .two .., so, s, M, p, P, O, D, Y, h, hP => by simp [Fc] at h
 | m + 1, i, .three .., so, s, M, p, P, O, D, Y, h, hP => by simp [Fc] at h
 | m + 1, i, .four .., so, s, M, p, P, O, D, Y, h, hP => by simp [Fc] at h
 | m + 1, i, .five .., so, s, M, p, P, O, D, Y, h, hP => by simp [Fc] at h
 | m + 1, i, .par .., so, s, M, p, P, O, D, Y, h, hP => by simp [Fc] at h
 | m + 1, i, .drop .., so, s, M, p, P, O, D, Y, h, hP => by simp [Fc] at h
theorem Aq (m : Nat) {l G : PL} {D M : Ah} (h : Fc E n ops pobjs m 0 l so s [] True = some (True, G, D, M)) (k : AP E n C ops prot pobjs G D ⟨M, ob⟩ R) :
  AP E n C ops prot pobjs l so ⟨s, ob⟩ R :=
 (Eh m 0 l so s [] True h trivial).2 k
theorem Dd (m : Nat) (G : List Hn) {l M : PL} {D O : Ah} {P : Prop} (h : Fc E n ops pobjs m 0 l so s G True = some (P, M, D, O)) (Y : P) (k : AP E n C ops prot pobjs M D ⟨O, ob⟩ R) :
  AP E n C ops prot pobjs l so ⟨s, ob⟩ R :=
 (Eh m 0 l so s G True h Y).2 k
theorem Uc {d : Nat} {c : Operand} {args : Array Operand} {Y : Array TypeId} {ty : TypeId} {pos : String} {aft : Array Edge} {f : FuncId} {Z D G ys : List T} {y X : T}
  (h : ACalls E f ys [] (fun x new => x = X ∧ new = [])) (k : R ⟨(d, X) :: s, ob⟩)
  (hc : Al s c = some y) (hf : Ho y = some (f, D, G)) (hx : Ee s args.toList = some Z) (O : D ++ Z ++ G = ys)
  (hd : Nat.blt d n = true) (M : Dx X = true) :
  AX E n C [] ⟨some d, .call { callee := .value c, args := args, argTypes := Y }, ty, pos, aft, none⟩ ⟨s, ob⟩ R :=
 Bo hc (.refl _) hf hx (.rest _) O h (Bh hd) (fun _ _ h => by rw [h.1]; exact M) (fun x h => by obtain ⟨_, rfl, _⟩ := h; exact k)
theorem By {d : Nat} {c : Operand} {args : Array Operand} {Y : Array TypeId} {ty : TypeId} {pos : String} {aft : Array Edge} {f : FuncId} {xs D G ys : List T} {y X : T} {l : List Oper}
  (h : ACalls E f ys [] (fun x new => x = X ∧ new = [])) (k : AO E n C ops l ⟨(d, X) :: s, ob⟩ R)
  (hc : Al s c = some y := by exact rfl) (hf : Ho y = some (f, D, G) := by exact rfl) (hx : Ee s args.toList = some xs := by exact rfl) (O : D ++ xs ++ G = ys := by exact rfl)
  (Z : Nat.blt d n = true := by exact rfl) (M : Dx X = true := by exact rfl) :
  AO E n C ops (⟨some d, .call { callee := .value c, args := args, argTypes := Y }, ty, pos, aft, none⟩ :: l) ⟨s, ob⟩ R :=
 Z4 [] rfl (Uc h k hc hf hx O Z M)
theorem Nl {i d : Nat} {c : Operand} {args : Array Operand} {Z : Array TypeId} {ty : TypeId} {pos : String} {aft : Array Edge} {f : FuncId} {xs D G ys : List T} {y X : T} {l : PL}
  (ho : ops[i]? = some ⟨some d, .call { callee := .value c, args := args, argTypes := Z }, ty, pos, aft, none⟩) (h : ACalls E f ys [] (fun x new => x = X ∧ new = [])) (k : AP E n C ops prot pobjs l so ⟨(d, X) :: s, ob⟩ R)
  (hc : Al s c = some y := by exact rfl) (hf : Ho y = some (f, D, G) := by exact rfl) (hx : Ee s args.toList = some xs := by exact rfl) (Y : D ++ xs ++ G = ys := by exact rfl)
  (hd : Nat.blt d n = true := by exact rfl) (M : Dx X = true := by exact rfl) (O : free so (some d) = true := by exact rfl) :
  AP E n C ops prot pobjs (.act i l) so ⟨s, ob⟩ R :=
 Z9 [] ho rfl (by simp) (Uc h k hc hf hx Y hd M) O
theorem Ue {i d j t : Nat} {want b : Bool} {c : Operand} {args : Array Operand} {Z : Array TypeId} {ty : TypeId} {pos : String} {aft : Array Edge} {f : FuncId} {xs D G ys : List T} {y X : T} {l : PL}
  (ho : ops[i]? = some ⟨some d, .call { callee := .value c, args := args, argTypes := Z }, ty, pos, aft, some (j, want)⟩) (h : ACalls E f ys [] (fun x new => x = X ∧ new = [])) (k : AP E n C ops prot pobjs l so ⟨(d, X) :: s, ob⟩ R)
  (hj : (ops[j]?).bind (·.dst) = some t := by exact rfl) (hs : get s t = some (.v (.bool b)) := by exact rfl) (hb : b = want := by exact rfl)
  (hc : Al s c = some y := by exact rfl) (hf : Ho y = some (f, D, G) := by exact rfl) (hx : Ee s args.toList = some xs := by exact rfl) (Y : D ++ xs ++ G = ys := by exact rfl)
  (hd : Nat.blt d n = true := by exact rfl) (M : Dx X = true := by exact rfl) (O : free so (some d) = true := by exact rfl) :
  AP E n C ops prot pobjs (.act i l) so ⟨s, ob⟩ R :=
 X9 [] ho hj hs hb (by simp) (Uc h k hc hf hx Y hd M) O
end
theorem Ud {id : Nat} {y : Code} {Q : Exit → St → Prop} {M D : Ah} {P : Prop} (pl : PL) (prot : List Nat) (pobjs : List Ob) (G : List Hn) (Z : prot.map (fun i => ob[i]?) = pobjs.map some)
  (h : Fc E n ops pobjs ops.size 0 pl s s G True = some (P, .nil, D, M)) (Y : P) (k : AW E n C y ⟨M, ob⟩ Q) (O : Lk ops pl = true := by kernel_rfl) :
  AW E n C (.seq (.region id ops true) y) ⟨s, ob⟩ Q :=
 Z5 (Gv pl prot pobjs O Z ((Eh _ 0 pl s s G True h Y).2 (AP.nil k)))
theorem Nq {id : Nat} {Q : Exit → St → Prop} {M D : Ah} {P : Prop} (pl : PL) (prot : List Nat) (pobjs : List Ob) (G : List Hn) (Z : prot.map (fun i => ob[i]?) = pobjs.map some)
  (h : Fc E n ops pobjs ops.size 0 pl s s G True = some (P, .nil, D, M)) (Y : P) (k : Q .normal ⟨M, ob⟩) (O : Lk ops pl = true := by kernel_rfl) :
  AW E n C (.region id ops true) ⟨s, ob⟩ Q :=
 Gv pl prot pobjs O Z ((Eh _ 0 pl s s G True h Y).2 (AP.nil k))
theorem Cb {id : Nat} {Q : Exit → St → Prop} (pl : PL) (prot : List Nat) (pobjs : List Ob) (G : prot.map (fun i => ob[i]?) = pobjs.map some)
  (h : AP E n C ops prot pobjs pl s ⟨s, ob⟩ (fun σ' => Q .normal σ')) (D : Lk ops pl = true := by kernel_rfl) : AW E n C (.region id ops true) ⟨s, ob⟩ Q := Gv pl prot pobjs D G h
theorem lf {M : Ah → List Ob → Prop} {G D : Ah} {ob' : List Ob} (O : M D ob') (hs : Sub (D ++ G) s) (ks : List Nat) (Y : Bx ob ks = some ob') (Z : ks.Nodup := by decide) :
  ∃ D ob', M D ob' ∧ Left (D ++ G) ob' ⟨s, ob⟩ := ⟨_, _, O, hs, ks, Y, Z⟩
theorem Y8 {s : Ah} : ∀ {l : Ah}, l.map (fun p => get s p.1) = l.map (fun p => some p.2) → Sub l s
 | [], _ => trivial
 | (i, x) :: l, h => by
  simp only [List.map_cons, List.cons.injEq] at h
  exact ⟨h.1, Y8 h.2⟩
theorem lg {M : Ah → List Ob → Prop} {G D : Ah} {ob' : List Ob} (O : M D ob') (ks : List Nat) (hs : (D ++ G).map (fun p => get s p.1) = (D ++ G).map (fun p => some p.2) := by exact rfl)
  (Y : Bx ob ks = some ob' := by exact rfl) (Z : ks.Nodup := by decide) :
  ∃ D ob', M D ob' ∧ Left (D ++ G) ob' ⟨s, ob⟩ := ⟨_, _, O, Y8 hs, ks, Y, Z⟩
theorem Av {t : Nat} {x y : Code} {Q : Exit → St → Prop} {b : Bool} {α : Type} {A B r : α} (h : (if b = true then A else B) = r) (G : get s t = some (.v (.bool b)))
  (h1 : b = true → A = r → AW E n C x ⟨s, ob⟩ Q) (h2 : b = false → B = r → AW E n C y ⟨s, ob⟩ Q) : AW E n C (.cond (.tmp t) x y) ⟨s, ob⟩ Q :=
 AW.cond rfl G (fun D => h1 D (C1 D h)) (fun D => h2 D (C2 D h))
section
variable {σ : St} {dst : Option Tmp} {ty : TypeId} {pos : String} {aft : Array Edge} {g : Option (Nat × Bool)}
theorem AX.lt {d : Nat} {t : TypeId} {m : Nat} {D : Array (Nat × Operand)} {ti ei : TI} {e : Nat} {z : Value} {l : List T} (sz : Nat) (es : List (List T)) (k : R ⟨(d, .list sz es) :: s, ob⟩)
  (ht : E.tab t = some ti := by exact rfl) (O : ti.kind = .slice e := by exact rfl) (he : E.tab e = some ei := by exact rfl) (hz : ei.zero = some z := by exact rfl) (h1 : z.cells.toList.all (·.oneCell') = true := by exact rfl)
  (hsz : ei.size = sz := by exact rfl) (G : z.cells.size = sz := by exact rfl) (hb : Nat.ble (m * sz) 16777216 = true := by exact rfl)
  (Y : Nat.ble m 16777216 = true := by exact rfl) (hf : D6 s (fun i => some (i * sz, sz)) (Gx (Df z) m) D.toList = some l := by exact rfl) (Z : rows sz m l = es := by exact rfl) (M : Nat.blt d n = true := by exact rfl) :
  AX E n C [] ⟨some d, .buildSlice t m D, ty, pos, aft, g⟩ ⟨s, ob⟩ R := X7 ht O he hz h1 hsz G hb Y hf Z (Bh M) k
def aD := @AX.lt
theorem Jg (ks : List Nat) {d : Nat} {c : Operand} {args : Array Operand} {Z : Array TypeId} {f : FuncId} {D G xs ys : List T} {fp : List Ob} {Rc : T → List Ob → List Ob → Prop} {R : St → Prop}
  (h : ACalls E f ys fp (fun x M => ∃ os new, M = os ++ new ∧ os.length = fp.length ∧ Rc x os new)) (k : ∀ x os new, os.length = fp.length → Rc x os new → R ⟨Dw σ.slots (some d) x, Ep σ.objs ks os ++ new⟩)
  (hc : (Al σ.slots c).bind Ho = some (f, D, G) := by exact rfl) (hx : Ee σ.slots args.toList = some xs := by exact rfl) (Y : D ++ xs ++ G = ys := by exact rfl)
  (hk : Bx σ.objs ks = some fp := by exact rfl) (O : ks.Nodup := by decide) (hd : Nat.blt d n = true := by exact rfl) :
  AX E n C ks ⟨some d, .call { callee := .value c, args := args, argTypes := Z }, ty, pos, aft, g⟩ σ R := Og ks hc hx Y hk O h (Bh hd) k
theorem D7 {α : Type} {fr : α → List T} {Y Z lr : List α} (ks : Nat) {d : Nat} {so x : Operand} {t : TypeId} {ti ei : TI} {e sz : Nat} {z v : Value} {R : St → Prop}
  (G : σ.objs[ks]? = some (.us v e sz (Y.map fr))) (O : Eg Y Z = some lr)
  (k : ∀ v', R ⟨Dw σ.slots (some d) (.v v'), σ.objs.set ks (.us v' e sz (lr.map fr))⟩)
  (hx : Al σ.slots x = some (.list sz (Z.map fr)) := by exact rfl) (hs : Al σ.slots so = some (.v v) := by exact rfl)
  (ht : E.tab t = some ti := by exact rfl) (hk : ti.kind = .slice e := by exact rfl) (he : E.tab e = some ei := by exact rfl) (hz : ei.zero = some z := by exact rfl) (hsz : ei.size = sz := by exact rfl)
  (M : z.cells.size = sz := by exact rfl) (D : Nat.ble ei.bytes 2048 = true := by exact rfl) (hd : Nat.blt d n = true := by exact rfl) :
  AX E n C [ks] ⟨some d, .call { callee := .builtin .append, args := #[so, x], argTypes := #[t, t] }, ty, pos, aft, g⟩ σ R :=
 K7 ks ht hk he hz hsz M D hs G (.list hx) (Xw (F2 O).1) (Xv (F2 O).2) (Bh hd) k
end
def kb (s D : Ah) : Prop := D.drop (D.length - s.length) = s ∧ ((D.take (D.length - s.length)).all fun p => (get s p.1).isNone) = true
theorem Ql {s : Ah} {i : Nat} {x : T} : ∀ {l : Ah}, (l.all fun p => (get s p.1).isNone) = true → get s i = some x → get (l ++ s) i = some x
 | [], _, h => h
 | (j, y) :: l, ha, h => by
  simp only [List.all_cons, Bool.and_eq_true] at ha
  simp only [List.cons_append, get]
  cases hb : Nat.beq j i with
  | true =>
   rw [nq hb, h] at ha
   simp at ha
  | false => rw [cond_false]; exact Ql ha.2 h
theorem Yx {s D : Ah} (h : kb s D) (i : Nat) (x : T) (O : get s i = some x) : get D i = some x := by
 obtain ⟨G, M⟩ := h
 rw [← List.take_append_drop (D.length - s.length) D, G]
 exact Ql M O
theorem Fx {x y : Code} {Q : Exit → St → Prop} (d : Nat) (e : Bool) (h : AW E n C x ⟨s, ob⟩ (Gb (fun σ' => get σ'.slots d = some (.v (.bool e)) ∧ σ'.objs = ob ∧ kb s σ'.slots) Q)) (k : AW E n C y ⟨(d, .v (.bool e)) :: s, ob⟩ Q) : AW E n C (.seq x y) ⟨s, ob⟩ Q :=
 Uv _ h fun σ' ⟨O, M, Y⟩ H a w D => k H a w { D with
  slots := fun i z G => by
   simp only [get] at G
   cases hb : Nat.beq d i with
   | true => rw [hb, cond_true] at G; cases G; rw [← nq hb]; exact D.slots d _ O
   | false => rw [hb, cond_false] at G; exact D.slots i z (Yx Y i z G)
  objs := by rw [← M]; exact D.objs
  free := by rw [← M]; exact D.free
  new := by rw [← M]; exact D.new
  nodup := by rw [← M]; exact D.nodup }
theorem jf {d : Nat} {a e : Bool} {s s' : Ah} {ob ob' : List Ob} (h : a = e) (h1 : get s' d = some (.v (.bool a))) (h2 : ob' = ob) (D : kb s s') : get s' d = some (.v (.bool e)) ∧ ob' = ob ∧ kb s s' := ⟨h ▸ h1, h2, D⟩
end
theorem Cf {E : Env} {n : Nat} {C : Ctx} {σ : St} {ty : TypeId} {pos : String} {aft : Array Edge} {g : Option (Nat × Bool)} (ks : List Nat) {d : Nat} {c : Operand} {args : Array Operand} {Z : Array TypeId} {f : FuncId} {D G xs ys : List T} {fp : List Ob} {X : T} {O N : List Ob} {R : St → Prop}
  (h : ACalls E f ys fp (Dz fp.length (fun x os new => x = X ∧ os = O ∧ new = N))) (k : R ⟨Dw σ.slots (some d) X, Ep σ.objs ks O ++ N⟩)
  (hc : (Al σ.slots c).bind Ho = some (f, D, G) := by exact rfl) (hx : Ee σ.slots args.toList = some xs := by exact rfl) (Y : D ++ xs ++ G = ys := by exact rfl)
  (hk : Bx σ.objs ks = some fp := by exact rfl) (M : ks.Nodup := by decide) (hd : Nat.blt d n = true := by exact rfl) :
  AX E n C ks ⟨some d, .call { callee := .value c, args := args, argTypes := Z }, ty, pos, aft, g⟩ σ R :=
 Jg ks h (by rintro _ _ _ _ ⟨rfl, rfl, rfl⟩; exact k) hc hx Y hk M hd
theorem pr {E : Env} {fn : Func} {σ : St} {X : T} (h : Qz E σ.slots σ.objs fn.results.toList [X] := by exact ⟨rfl, True.intro⟩) : Ym E fn (fun x new => x = X ∧ new = []) .ret σ := ⟨.inr rfl, [X], [], h, Ct, rfl, rfl⟩
theorem g0 {n : Nat} {C : Ctx} {s : Ah} {ob : List Ob} : Ghost n C s ob s [] := Ghost.pick [] (K := []) rfl (by decide)
theorem Fy {E : Env} {n : Nat} {C : Ctx} {Q : Exit → St → Prop} {s : Ah} {ob : List Ob} {c : Code} (ks : List Nat) {K : List Ob} (D : Bx ob ks = some K) (k : AW E n C c ⟨s, K⟩ Q) (G : ks.Nodup := by decide) : AW E n C c ⟨s, ob⟩ Q := aA (Ghost.pick ks D G) k
theorem Bk {E : Env} {n : Nat} {C : Ctx} {σ : St} {ty : TypeId} {pos : String} {aft : Array Edge} {g : Option (Nat × Bool)} (k i j : Nat) (es' : List (List T)) {t : TypeId} {x y : Operand} {ti : TI} {c : T} {cs : List T} {b off G sz cap : Nat} {es : List (List T)} {e : List T} {R : St → Prop}
  (O : σ.objs[k]? = some (.arr b G sz cap es)) (kk : R ⟨σ.slots, σ.objs.set k (.arr b G sz cap es')⟩)
  (hx : Al σ.slots x = some (.v (.pointer (some ⟨b, off, none⟩))) := by exact rfl) (Z : E.tab t = some ti := by exact rfl) (he : es[i]? = some e := by exact rfl) (Y : off = i * sz + j := by exact rfl)
  (hy : Al σ.slots y = some c := by exact rfl) (hc : Cz c = some cs := by exact rfl) (hsz : ti.size = cs.length := by exact rfl) (M : Nat.ble (j + cs.length) e.length = true := by exact rfl) (D : es.set i (Fv e j cs) = es' := by exact rfl) :
  AX E n C [k] ⟨none, .store t x y, ty, pos, aft, g⟩ σ R := AX.store k i j Z hx O he Y hy hc hsz (Nat.le_of_ble_eq_true M) rfl D kk
theorem Bg {α β : Type} {l : List α} {i : Int} {f : Nat × α → Option β} {r : β} (h : (ix l i).bind f = some r) : ∃ p, (i = (p.1 : Int) ∧ l[p.1]? = some p.2) ∧ f p = some r := by
 obtain ⟨p, D, G⟩ := Ac h
 exact ⟨p, Xh D, G⟩
theorem Ze {α β : Type} {n : Int} {z : α} {f : List α → Option β} {r : β} (h : (Yf n z).bind f = some r) : ∃ l, (∃ m : Nat, n = (m : Int) ∧ m ≤ 68719476736 ∧ List.replicate m z = l) ∧ f l = some r := by
 obtain ⟨p, D, G⟩ := Ac h
 exact ⟨p, Xf D, G⟩
theorem I2 {α β : Type} {a : α} {b : β} : a = a ∧ b = b := ⟨rfl, rfl⟩
theorem I3 {α β γ : Type} {a : α} {b : β} {c : γ} : a = a ∧ b = b ∧ c = c := ⟨rfl, rfl, rfl⟩
theorem I5 {α β γ δ ε : Type} {a : α} {b : β} {c : γ} {d : δ} {e : ε} : a = a ∧ b = b ∧ c = c ∧ d = d ∧ e = e := ⟨rfl, rfl, rfl, rfl, rfl⟩
theorem I7 {α β γ δ ε ζ η : Type} {a : α} {b : β} {c : γ} {d : δ} {e : ε} {f : ζ} {g : η} : a = a ∧ b = b ∧ c = c ∧ d = d ∧ e = e ∧ f = f ∧ g = g := ⟨rfl, rfl, rfl, rfl, rfl, rfl, rfl⟩
theorem J1 {α : Type} {a : α} : a = a ∧ True := ⟨rfl, J⟩
theorem J2 {α β : Type} {a : α} {b : β} : a = a ∧ b = b ∧ True := ⟨rfl, J1⟩
theorem J3 {α β γ : Type} {a : α} {b : β} {c : γ} : a = a ∧ b = b ∧ c = c ∧ True := ⟨rfl, J2⟩
theorem J4 {α β γ δ : Type} {a : α} {b : β} {c : γ} {d : δ} : a = a ∧ b = b ∧ c = c ∧ d = d ∧ True := ⟨rfl, J3⟩
theorem J5 {α β γ δ ε : Type} {a : α} {b : β} {c : γ} {d : δ} {e : ε} : a = a ∧ b = b ∧ c = c ∧ d = d ∧ e = e ∧ True := ⟨rfl, J4⟩
theorem J6 {α β γ δ ε ζ : Type} {a : α} {b : β} {c : γ} {d : δ} {e : ε} {f : ζ} : a = a ∧ b = b ∧ c = c ∧ d = d ∧ e = e ∧ f = f ∧ True := ⟨rfl, J5⟩
theorem J7 {α β γ δ ε ζ η : Type} {a : α} {b : β} {c : γ} {d : δ} {e : ε} {f : ζ} {g : η} : a = a ∧ b = b ∧ c = c ∧ d = d ∧ e = e ∧ f = f ∧ g = g ∧ True := ⟨rfl, J6⟩
theorem J8 {α β γ δ ε ζ η θ : Type} {a : α} {b : β} {c : γ} {d : δ} {e : ε} {f : ζ} {g : η} {h : θ} : a = a ∧ b = b ∧ c = c ∧ d = d ∧ e = e ∧ f = f ∧ g = g ∧ h = h ∧ True := ⟨rfl, J7⟩
theorem J9 {α β γ δ ε ζ η θ ι : Type} {a : α} {b : β} {c : γ} {d : δ} {e : ε} {f : ζ} {g : η} {h : θ} {i : ι} : a = a ∧ b = b ∧ c = c ∧ d = d ∧ e = e ∧ f = f ∧ g = g ∧ h = h ∧ i = i ∧ True := ⟨rfl, J8⟩
theorem Zw {α β γ δ ε ζ η θ ι κ : Type} {a : α} {b : β} {c : γ} {d : δ} {e : ε} {f : ζ} {g : η} {h : θ} {i : ι} {j : κ} : a = a ∧ b = b ∧ c = c ∧ d = d ∧ e = e ∧ f = f ∧ g = g ∧ h = h ∧ i = i ∧ j = j ∧ True := ⟨rfl, J9⟩
theorem Zv {α β γ δ ε ζ η θ ι κ μ : Type} {a : α} {b : β} {c : γ} {d : δ} {e : ε} {f : ζ} {g : η} {h : θ} {i : ι} {j : κ} {k : μ} : a = a ∧ b = b ∧ c = c ∧ d = d ∧ e = e ∧ f = f ∧ g = g ∧ h = h ∧ i = i ∧ j = j ∧ k = k ∧ True := ⟨rfl, Zw⟩
theorem Zu {α β γ δ ε ζ η θ ι κ μ ν : Type} {a : α} {b : β} {c : γ} {d : δ} {e : ε} {f : ζ} {g : η} {h : θ} {i : ι} {j : κ} {k : μ} {l : ν} : a = a ∧ b = b ∧ c = c ∧ d = d ∧ e = e ∧ f = f ∧ g = g ∧ h = h ∧ i = i ∧ j = j ∧ k = k ∧ l = l ∧ True := ⟨rfl, Zv⟩
theorem Zt {α β γ δ ε ζ η θ ι κ μ ν ξ : Type} {a : α} {b : β} {c : γ} {d : δ} {e : ε} {f : ζ} {g : η} {h : θ} {i : ι} {j : κ} {k : μ} {l : ν} {m : ξ} : a = a ∧ b = b ∧ c = c ∧ d = d ∧ e = e ∧ f = f ∧ g = g ∧ h = h ∧ i = i ∧ j = j ∧ k = k ∧ l = l ∧ m = m ∧ True := ⟨rfl, Zu⟩
theorem Zs {α β γ δ ε ζ η θ ι κ μ ν ξ ο : Type} {a : α} {b : β} {c : γ} {d : δ} {e : ε} {f : ζ} {g : η} {h : θ} {i : ι} {j : κ} {k : μ} {l : ν} {m : ξ} {n : ο} : a = a ∧ b = b ∧ c = c ∧ d = d ∧ e = e ∧ f = f ∧ g = g ∧ h = h ∧ i = i ∧ j = j ∧ k = k ∧ l = l ∧ m = m ∧ n = n ∧ True := ⟨rfl, Zt⟩
theorem Z1 {α β γ δ ε ζ η θ ι κ μ ν ξ ο π : Type} {a : α} {b : β} {c : γ} {d : δ} {e : ε} {f : ζ} {g : η} {h : θ} {i : ι} {j : κ} {k : μ} {l : ν} {m : ξ} {n : ο} {o : π} : a = a ∧ b = b ∧ c = c ∧ d = d ∧ e = e ∧ f = f ∧ g = g ∧ h = h ∧ i = i ∧ j = j ∧ k = k ∧ l = l ∧ m = m ∧ n = n ∧ o = o ∧ True := ⟨rfl, Zs⟩
theorem Bz {E : Env} {n : Nat} {C : Ctx} {σ : St} {dst : Option Tmp} {ty : TypeId} {pos : String} {aft : Array Edge} {g : Option (Nat × Bool)} {t : TypeId} {z : Value} (cs : List T) (m : Nat) {R : St → Prop} (k : ∀ b, R ⟨Dw σ.slots dst (.v (.pointer (some ⟨b, 0, none⟩))), σ.objs ++ [(.arr b t m 1 [cs])]⟩)
  (D : (E.tab t).bind (fun i => i.zero) = some z := by exact rfl) (hc : z.cells.toList.map T.v = cs := by exact rfl) (h1 : z.cells.toList.all (·.oneCell') = true := by exact rfl) (M : cs.length = m := by exact rfl) (G : ∀ d, dst = some d → d < n := by exact dS) :
  AX E n C [] ⟨dst, .alloc t, ty, pos, aft, g⟩ σ R := by
 obtain ⟨i, hi, D⟩ := Option.bind_eq_some_iff.1 D
 exact AX.alloc hi D hc h1 M G k
theorem Cg {E : Env} {n : Nat} {C : Ctx} {σ : St} {dst : Option Tmp} {ty : TypeId} {pos : String} {aft : Array Edge} {g : Option (Nat × Bool)} {t : TypeId} {x : Operand} (cs : List T) (m : Nat) {R : St → Prop} (k : ∀ b, R ⟨Dw σ.slots dst (.v (.pointer (some ⟨b, 0, none⟩))), σ.objs ++ [(.arr b t m 1 [cs])]⟩)
  (M : (Al σ.slots x).bind Cz = some cs := by exact rfl) (G : cs.length = m := by exact rfl) (D : ∀ d, dst = some d → d < n := by exact dS) :
  AX E n C [] ⟨dst, .box t x, ty, pos, aft, g⟩ σ R := by
 obtain ⟨y, O, hc⟩ := Option.bind_eq_some_iff.1 M
 exact AX.box O hc G D k
theorem B0 {E : Env} {n : Nat} {C : Ctx} {s : Ah} {ob : List Ob} {Q : Exit → St → Prop} {c : Operand} {x y : Code} {t : Nat} {b : Bool} (D : get s t = some (.v (.bool b))) (hb : b = true) (h : AW E n C x ⟨s, ob⟩ Q) (hc : c = .tmp t := by rfl) : AW E n C (.cond c x y) ⟨s, ob⟩ Q := Oi (v := true) D hb h hc
theorem B7 {E : Env} {n : Nat} {C : Ctx} {s : Ah} {ob : List Ob} {Q : Exit → St → Prop} {c : Operand} {x y : Code} {t : Nat} {b : Bool} (D : get s t = some (.v (.bool b))) (hb : b = false) (h : AW E n C y ⟨s, ob⟩ Q) (hc : c = .tmp t := by rfl) : AW E n C (.cond c x y) ⟨s, ob⟩ Q := Oi (v := false) D hb h hc
def sl : Nat → Nat → PL → PL
 | 0, _, r => r
 | m + 1, i, r => .still i (sl m (i + 1) r)
theorem io {α : Type _} {a b : α} (h : some a = some b) : b = a := (Option.some.inj h).symm
abbrev RV (t : T) (x : T) (new : List Ob) : Prop := x = t ∧ new = []
abbrev RB (r : Bool) (x : T) (new : List Ob) : Prop := x = .v (.bool r) ∧ new = []
end Go.Aw
