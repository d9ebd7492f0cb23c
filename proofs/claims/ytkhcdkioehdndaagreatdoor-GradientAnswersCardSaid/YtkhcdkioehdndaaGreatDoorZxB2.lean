/- A program logic over the model. No condition. -/
import Derived.Test.YtkhcdkioehdndaaGreatDoorZxB1
import Derived.Scope
import Derived.Laws.StructEq
import Derived.Lib.LazyBuf
import Derived.KernelRfl
set_option maxRecDepth 100000
namespace Go.Aw
set_option linter.unusedVariables false
set_option linter.defProp false
set_option linter.unusedSimpArgs false
def wr (x : Int) : Int := IntKind.i64.wrap x
theorem Ap {x : Int} (h : -9223372036854775808 ≤ x ∧ x ≤ 9223372036854775807) : wr x = x := gB h
def ix {α : Type} (l : List α) (i : Int) : Option (Nat × α) := if 0 ≤ i then (l[i.toNat]?).map fun x => (i.toNat, x) else none
theorem cU {α : Type} {l : List α} {i : Int} {p : Nat × α} (h : ix l i = some p) : i = (p.1 : Int) ∧ l[p.1]? = some p.2 := by
 unfold ix at h
 split at h
 ·obtain ⟨x, D, rfl⟩ := Option.map_eq_some_iff.1 h
  exact ⟨by dsimp only; omega, D⟩
 ·cases h
theorem A6 {α : Type} {l : List α} {k : Nat} {x : α} (h : l[k]? = some x) : ix l (k : Int) = some (k, x) := by simp [ix, h]
def bT : Nat := 68719476736
def Dy {α : Type} (l m : List α) : Option (List α) := if l.length + m.length ≤ bT then some (l ++ m) else none
theorem F3 {α : Type} {l m r : List α} (h : Dy l m = some r) : l.length + m.length ≤ 68719476736 ∧ l ++ m = r := by
 unfold Dy at h
 split at h
 ·rename_i D; exact ⟨D, by cases h; rfl⟩
 ·cases h
theorem Q8 {α : Type} {l m : List α} (h : l.length + m.length ≤ 68719476736) : Dy l m = some (l ++ m) := if_pos h
def dR {α : Type} (n : Int) (z : α) : Option (List α) := if 0 ≤ n ∧ n ≤ (bT : Int) then some (List.replicate n.toNat z) else none
theorem cR {α : Type} {n : Int} {z : α} {r : List α} (h : dR n z = some r) : ∃ m : Nat, n = (m : Int) ∧ m ≤ 68719476736 ∧ List.replicate m z = r := by
 unfold dR at h
 split at h
 ·rename_i D
  refine ⟨n.toNat, by omega, ?_, by cases h; rfl⟩
  have : (bT : Int) = 68719476736 := rfl
  omega
 ·cases h
theorem eQ {α : Type} {m : Nat} (z : α) (h : m ≤ 68719476736) : dR (m : Int) z = some (List.replicate m z) := by
 unfold dR
 have : (bT : Int) = 68719476736 := rfl
 rw [if_pos (by omega)]; simp
def Va {α : Type} (l : List α) (a b : Int) : Option (List α) := if 0 ≤ a ∧ a ≤ b ∧ b ≤ (l.length : Int) then some ((l.drop a.toNat).take (b.toNat - a.toNat)) else none
theorem Nc {α : Type} {l r : List α} {a b : Int} (h : Va l a b = some r) : ∃ x y : Nat, a = (x : Int) ∧ b = (y : Int) ∧ x ≤ y ∧ y ≤ l.length ∧ (l.drop x).take (y - x) = r := by
 unfold Va at h
 split at h
 ·exact ⟨a.toNat, b.toNat, by omega, by omega, by omega, by omega, by cases h; rfl⟩
 ·cases h
def eE (a b : ByteArray) : Option ByteArray := if a.size + b.size ≤ 68719476736 then some (a ++ b) else none
theorem aD {a b r : ByteArray} (h : eE a b = some r) : a.size + b.size < 9223372036854775807 ∧ a ++ b = r := by
 unfold eE at h
 split at h
 ·rename_i D; exact ⟨by omega, by cases h; rfl⟩
 ·cases h
def dT (b : ByteArray) (i : Int) : Option (Nat × Int) := if 0 ≤ i ∧ i < (b.size : Int) then some (i.toNat, ((b.data.getD i.toNat 0).toNat : Int)) else none
theorem Jq {b : ByteArray} {i : Int} {p : Nat × Int} (h : dT b i = some p) : i = (p.1 : Int) ∧ p.1 < b.size ∧ ((b.data.getD p.1 0).toNat : Int) = p.2 := by
 unfold dT at h
 split at h
 ·cases h; exact ⟨by dsimp only; omega, by dsimp only; omega, rfl⟩
 ·cases h
def Vb (a b : Int) : Option Int := if b ≠ 0 then some (wr (a.tdiv b)) else none
theorem Nj {a b r : Int} (h : Vb a b = some r) : b ≠ 0 ∧ IntKind.i64.wrap (a.tdiv b) = r := by
 unfold Vb at h
 split at h
 ·rename_i D; exact ⟨D, by cases h; rfl⟩
 ·cases h
def Rn (a b : Int) : Option Int := if b ≠ 0 then some (a.tmod b) else none
theorem Hl {a b r : Int} (h : Rn a b = some r) : b ≠ 0 ∧ a.tmod b = r := by
 unfold Rn at h
 split at h
 ·rename_i D; exact ⟨D, by cases h; rfl⟩
 ·cases h
def chk (p : Prop) [Decidable p] : Option Unit := if p then some () else none
theorem aB {p : Prop} [Decidable p] {u : Unit} (h : chk p = some u) : p := by
 unfold chk at h
 split at h
 ·assumption
 ·cases h
theorem fB {p : Prop} [Decidable p] (h : p) : chk p = some () := if_pos h
def Ol (a b : ByteArray) : Bool := a.toList == b.toList
theorem Ac {α β : Type} {o : Option α} {f : α → Option β} {r : β} (h : o.bind f = some r) : ∃ x, o = some x ∧ f x = some r := Option.bind_eq_some_iff.1 h
def C2 {S B : Type} (f : S → Option (S ⊕ B)) : Nat → S → Option B
 | 0, _ => none
 | n + 1, s => match f s with
  | none => none
  | some (.inl s') => C2 f n s'
  | some (.inr b) => some b
def E4 : Nat := 18446744073709551616
def forL {α S B : Type} (f : Nat → α → S → Option (S ⊕ B)) : Nat → List α → S → Option (S ⊕ B)
 | _, [], s => some (.inl s)
 | k, x :: l, s => match f k x s with
  | none => none
  | some (.inl s') => forL f (k + 1) l s'
  | some (.inr b) => some (.inr b)
def forS {α S : Type} (f : Nat → α → S → Option S) : Nat → List α → S → Option S
 | _, [], s => some s
 | k, x :: l, s => match f k x s with
  | none => none
  | some s' => forS f (k + 1) l s'
def forI {S B : Type} (f : Nat → S → Option (S ⊕ B)) : Nat → Nat → S → Option (S ⊕ B)
 | _, 0, s => some (.inl s)
 | k, n + 1, s => match f k s with
  | none => none
  | some (.inl s') => forI f (k + 1) n s'
  | some (.inr b) => some (.inr b)
def forJ {S : Type} (f : Nat → S → Option S) : Nat → Nat → S → Option S
 | _, 0, s => some s
 | k, n + 1, s => match f k s with
  | none => none
  | some s' => forJ f (k + 1) n s'
structure Arr (α : Type) (n : Nat) where
 l : List α
 h : l.length = n
theorem Arr.ext' {α : Type} {n : Nat} {a b : Arr α n} (h : a.l = b.l) : a = b := by cases a; cases b; cases h; rfl
instance {α : Type} {n : Nat} [DecidableEq α] : DecidableEq (Arr α n) := fun a b => if h : a.l = b.l then .isTrue (Arr.ext' h) else .isFalse (fun h' => h (by rw [h']))
instance {α : Type} {n : Nat} [Inhabited α] : Inhabited (Arr α n) := ⟨⟨List.replicate n default, by simp⟩⟩
def Arr.set {α : Type} {n : Nat} (a : Arr α n) (i : Nat) (x : α) : Arr α n := ⟨a.l.set i x, by simp [a.h]⟩
section
variable {E : Env} {n : Nat} {C : Ctx} {s : Am} {ob : List Ob} {Q : Exit → St → Prop} {ops : Array Oper} {R : St → Prop}
theorem Ghost.pick (ks : List Nat) {K : List Ob} (hK : C1 ob ks = some K) (hn : ks.Nodup) : Ghost n C s ob s K := by
 intro H a w O
 obtain ⟨p1, p2⟩ := Ge hK
 have D : ∀ (i : Nat) (p : Ob), K[i]? = some p → ∃ k, ks[i]? = some k ∧ ob[k]? = some p := by
  intro i p hi
  have hil := (gs hi).1
  obtain ⟨o, Y, Z⟩ := p2 i ks[i] (gq (by omega))
  rw [hi] at Z
  cases Z
  exact ⟨_, gq (by omega), Y⟩
 have G : ∀ p, p ∈ K → p ∈ ob := fun p M => by
  obtain ⟨i, hi⟩ := List.mem_iff_getElem?.1 M
  obtain ⟨k, _, h⟩ := D i p hi
  exact mg h
 have hl := Dk.1 O.nodup
 refine ⟨H, fun _ _ h => h, { O with objs := fun p M => O.objs p (G p M), free := fun p M => O.free p (G p M), new := fun p M => O.new p (G p M), nodup := ?_ }⟩
 refine Dk.2 ⟨fun i p hi => ?_, fun i j p q hi hj aa b hb => ?_⟩
 ·obtain ⟨k, _, h⟩ := D i p hi
  exact hl.1 k p h
 ·obtain ⟨k, Y, Z⟩ := D i p hi
  obtain ⟨k', h3, h4⟩ := D j q hj
  refine hl.2 k k' p q Z h4 (fun he => aa ?_) b hb
  subst he
  exact (List.getElem?_inj (gs Y).1 hn).1 (Y.trans h3.symm)
theorem Ghost.refl : Ghost n C s ob s ob := fun H _ _ D => ⟨H, fun _ _ h => h, D⟩
theorem Ghost.slots {s' : Am} (h : ∀ (H : GH) (a : Act) (w : World), Gam n C ⟨s, ob⟩ H a w → ∀ i x, get s' i = some x → VR H (a.tmps.getD i undef) x) : Ghost n C s ob s' ob := fun H a w D =>
 ⟨H, fun _ _ h => h, { D with slots := h H a w D }⟩
theorem Ax {so : Am} {prot : List Nat} {pobjs : List Ob} {σ : St} (h : AO E n C ops [] σ R) : AP E n C ops prot pobjs .nil so σ R := fun _ _ H a w _ _ _ _ _ D => h H a w D
theorem Du {pl : PL} {so : Am} {prot : List Nat} {pobjs : List Ob} {s' : Am} {ob' : List Ob} (h : Ghost n C s ob s' ob') (hp : prot.map (fun i => ob'[i]?) = prot.map (fun i => ob[i]?))
  (k : AP E n C ops prot pobjs pl so ⟨s', ob'⟩ R) : AP E n C ops prot pobjs pl so ⟨s, ob⟩ R := by
 intro Hs ws H a w sr wr O hH M Y
 obtain ⟨H', Z, g⟩ := h H a w Y
 refine k Hs ws H' a w sr wr O (fun b o hb => Z _ _ (hH _ _ hb)) (fun p G => ?_) g
 obtain ⟨i, hi, he⟩ := M p G
 have D : i ∈ prot := by simpa using hi
 have : ob'[i]? = ob[i]? := List.map_inj_left.1 hp i D
 exact ⟨i, hi, this.trans he⟩
theorem L8 {pl : PL} {so : Am} {prot : List Nat} {pobjs : List Ob} (d : Nat) (k : AP E n C ops prot pobjs pl (gF so (some d)) ⟨s, ob⟩ R) : AP E n C ops prot pobjs pl so ⟨s, ob⟩ R :=
 fun Hs Z H a w D wr G O Y M => k Hs Z H a w ⟨D.size, fun i x h => D.slots i x (Gm h).2⟩ wr G O Y M
theorem A0 {pl : PL} {so : Am} {prot : List Nat} {pobjs : List Ob} {b c : Bool} (t : Nat) (Y : get s t = some (.v (.bool b))) (hb : b = c) (k : AP E n C ops prot pobjs pl so ⟨(t, .v (.bool c)) :: s, ob⟩ R) : AP E n C ops prot pobjs pl so ⟨s, ob⟩ R := by
 intro Hs ws H a w Z wr D M O G
 subst hb
 exact k Hs ws H a w Z wr D M O (G.same Y)
theorem Cl {o : Oper} {x : T} (hy : Yd E.P n s ob o x) (O : ∀ M, o.dst = some M → M < n) (k : R ⟨El s o.dst x, ob⟩) : AX E n C [] o ⟨s, ob⟩ R := by
 intro H a w G
 obtain ⟨v, Z, D⟩ := hy H a w G.sr G.wr
 simp only [Oper.wp, D w ⟨G.held, fun _ _ _ _ => rfl⟩, Oper.upon]
 refine ⟨_, H, v, k, ?_, rfl, fun _ _ h => h, fun i p Y _ => ⟨Y, by intros; trivial⟩⟩
 have := G.put Z O
 cases h : o.dst <;> simpa [St.put, El, h] using this
theorem Il {H : GH} {a : Act} {j : Nat} {t : Tmp} (r : SR n s H a) (G : (ops[j]?).bind (·.dst) = some t) (M : get s t = some (.v undef)) : yielded ops a.tmps j = none := by
 have D := (r.slots t _ M).v_eq
 simp only [yielded, G, Option.bind_some]
 rw [Array.getD_eq_getD_getElem?] at D
 cases h : a.tmps[t]? with
 | none => rfl
 | some x => rw [h] at D; simp only [Option.getD_some] at D; subst D; rfl
theorem Ju {d : Option Nat} {op : Op} {ty : TypeId} {pos : String} {aft : Array Edge} {l : List Oper} {j : Nat} {D : Bool} {t : Tmp}
  (Y : (ops[j]?).bind (·.dst) = some t) (Z : get s t = some (.v undef)) (O : ∀ G, d = some G → G < n) (k : AO E n C ops l ⟨El s d (.v undef), ob⟩ R) : AO E n C ops (⟨d, op, ty, pos, aft, some (j, D)⟩ :: l) ⟨s, ob⟩ R := by
 intro H a w M
 simp only [T1]
 rw [if_neg (by simp [Region.wanted, Il M.sr Y Z])]
 have := M.put (dst := d) (v := undef) (x := .v undef) (.v _) O
 cases d <;> exact k H _ w this
theorem Av {prot : List Nat} {pobjs : List Ob} {so : Am} {i : Nat} {r : PL} {o : Oper} {j : Nat} {D : Bool} {t : Tmp} (ho : ops[i]? = some o)
  (hg : o.guard = some (j, D)) (Z : (ops[j]?).bind (·.dst) = some t) (hs : get s t = some (.v undef)) (Y : ∀ d, o.dst = some d → d < n)
  (k : AP E n C ops prot pobjs r so (St.put ⟨s, ob⟩ o.dst (.v undef)) R) (hf : free so o.dst = true := by rfl) : AP E n C ops prot pobjs (.still i r) so ⟨s, ob⟩ R := by
 intro Hs ws H a w sr wr G O hp M
 have hw : Region.wanted o (yielded ops a.tmps) = false := by simp [Region.wanted, hg, Il M.sr Z hs]
 have hk := k Hs ws H _ w (sr.free o.dst undef hf) wr G O (by cases h : o.dst <;> simpa [St.put, h] using hp) (M.put (.v undef) Y)
 exact ⟨o, undef, ho, .inr ⟨hw, rfl⟩, G, hk⟩
theorem T0 {c : Code} (t : Nat) {sz : Nat} {es : List (List T)} (G : get s t = some (.list sz es)) (k : es.length ≤ 140737488355328 → AW E n C c ⟨s, ob⟩ Q) : AW E n C c ⟨s, ob⟩ Q :=
 fun H a w D => k (D.slots _ _ G).list_max H a w D
theorem bP {c : Code} (k : Nat) {v : Value} {M sz : Nat} {es : List (List T)} (O : ob[k]? = some (.us v M sz es)) (Y : es.length ≤ 140737488355328 → AW E n C c ⟨s, ob⟩ Q) : AW E n C c ⟨s, ob⟩ Q := by
 intro H a w G
 have D : UsR H w v M sz es := G.objs _ (mg O)
 refine Y ?_ H a w G
 rcases D with ⟨_, rfl⟩ | ⟨_, _, _, _, _, _, _, _, _, _, h, _⟩
 ·simp
 ·exact h
theorem B0 {α : Type} {f : α → List T} {l : List α} {c : Code} (t : Nat) {sz : Nat} (D : get s t = some (.list sz (l.map f))) (k : l.length ≤ 9223372036854775806 → AW E n C c ⟨s, ob⟩ Q) : AW E n C c ⟨s, ob⟩ Q :=
 T0 t D fun h => k (by rw [List.length_map] at h; omega)
theorem Lk {α : Type} {f : α → List T} {l : List α} {c : Code} (k : Nat) {v : Value} {M sz : Nat} (D : ob[k]? = some (.us v M sz (l.map f))) (G : l.length ≤ 9223372036854775806 → AW E n C c ⟨s, ob⟩ Q) : AW E n C c ⟨s, ob⟩ Q :=
 bP k D fun h => G (by rw [List.length_map] at h; omega)
theorem Cr {k m : Nat} (h : k < m) : decide ((k : Int) < (m : Int)) = true := decide_eq_true (by omega)
theorem Cs (m : Nat) : decide (((m : Nat) : Int) < (m : Int)) = false := by simp
def gG (Q : Exit → St → Prop) : Exit → St → Prop
 | .goto _, _ => False
 | e, σ => Q e σ
theorem AW.scope {c : Code} {σ : St} (h : AW E n C c σ (gG Q)) : AW E n C (.scope c) σ Q := fun H a w g =>
 Kf (Hx (h H a w g) fun e a' w' ⟨σ', H', q, D⟩ => by
  cases e <;> first | exact ⟨σ', H', q, D⟩ | exact q.elim)
def Left (s' : Am) (ob' : List Ob) (σ : St) : Prop := Sub s' σ.slots ∧ ∃ ks, C1 σ.objs ks = some ob' ∧ ks.Nodup
theorem Left.ghost {s' : Am} {ob' : List Ob} {σ : St} (h : Left s' ob' σ) : Ghost n C σ.slots σ.objs s' ob' := by
 obtain ⟨D, O, G, M⟩ := h
 exact (Ghost.pick O G M).trans (Ghost.weaken D (List.Sublist.refl _))
theorem Bs {c : Code} {s' : Am} {ob' : List Ob} {σ : St} (h : Left s' ob' σ) (k : AW E n C c ⟨s', ob'⟩ Q) : AW E n C c σ Q := gU h.ghost k
theorem Aj {x y : Code} (M : Am → List Ob → Prop) (ks : Am) (O : Sub ks s)
  (h : AW E n C x ⟨s, ob⟩ (Ic (fun σ' => ∃ s' ob', M s' ob' ∧ Left (s' ++ ks) ob' σ') Q)) (k : ∀ s' ob', M s' ob' → AW E n C y ⟨s' ++ ks, ob'⟩ Q) : AW E n C (.seq x y) ⟨s, ob⟩ Q :=
 Zs _ h (fun _ ⟨_, _, D, G⟩ => Bs G (k _ _ D))
theorem Ab {x y : Code} {σ : St} (h : ∀ D, D = y → AW E n C x σ (Ic (fun σ' => AW E n C D σ' Q) Q)) : AW E n C (.seq x y) σ Q := gR (h y rfl)
@[reducible] def gM {α β : Type} (o : Option α) (a : β) (f : α → β) : β := match o with
 | none => a
 | some x => f x
@[reducible] def gJ {α : Type} (o : Option α) (A : Prop) (B : α → Prop) : Prop := match o with
 | none => A
 | some x => B x
theorem Sk {c : Code} (J : Nat → Am → List Ob → Prop) {m : Nat} {O : Am} {D : List Ob} (Y : J m O D) (hs : Left O D ⟨s, ob⟩)
  (G : ∀ m s ob, J m s ob → AW E n C c ⟨s, ob⟩ (Ic (fun σ' => ∃ M s' ob', M < m ∧ J M s' ob' ∧ Left s' ob' σ') Q)) : AW E n C (.loop c) ⟨s, ob⟩ Q := by
 refine AW.loop (fun m σ => ∃ s' ob', J m s' ob' ∧ Left s' ob' σ) (m := m) ⟨O, D, Y, hs⟩ ?_
 rintro m σ ⟨s', ob', hJ, Z⟩
 refine Bs Z (AW.mono (G m s' ob' hJ) ?_)
 intro e σ' q
 cases e with
 | normal => obtain ⟨M, s', ob', q1, q2, q3⟩ := q; exact ⟨M, q1, s', ob', q2, q3⟩
 | _ => exact q
theorem Pe {G ks : Am} {D : List Ob} (h1 : Sub G s) (h2 : Sub ks s) (M : ∃ p, C1 ob p = some D ∧ p.Nodup) : Left (G ++ ks) D ⟨s, ob⟩ := ⟨Sub.append h1 h2, M⟩
theorem Cm {c : Code} {S B : Type} {f : S → Option (S ⊕ B)} {fuel : Nat} {Z : S} {b : B} (h : C2 f fuel Z = some b) (ks : Am) (hk : Sub ks s) (Φ : S → Am → List Ob → Prop) {s0 : Am} {aa : List Ob} (h0 : Φ Z s0 aa) (hs : Sub s0 s) (ho : ∃ p, C1 ob p = some aa ∧ p.Nodup)
  (Y : ∀ (G : S) (r : S ⊕ B) s ob, Φ G s ob → f G = some r → (∀ b', r = .inr b' → b' = b) →
   AW E n C c ⟨s ++ ks, ob⟩ (Ic (fun σ' => ∃ D s' ob', r = .inl D ∧ Φ D s' ob' ∧ Left (s' ++ ks) ob' σ') Q)) : AW E n C (.loop c) ⟨s, ob⟩ Q := by
 refine Sk (fun m s1 O => ∃ G s', Φ G s' O ∧ C2 f m G = some b ∧ s1 = s' ++ ks) (m := fuel) ⟨Z, s0, h0, h, rfl⟩ (Pe hs hk ho) ?_
 rintro m s1 O ⟨G, s', hΦ, M, rfl⟩
 cases m with
 | zero => simp [C2] at M
 | succ m =>
  simp only [C2] at M
  cases hf : f G with
  | none => rw [hf] at M; cases M
  | some r =>
   rw [hf] at M
   refine AW.mono (Y G r s' O hΦ hf (fun b' hb => ?_)) ?_
   ·subst hb; simpa using M
   ·intro e σ' q
    cases e with
    | normal =>
     obtain ⟨D, s'', ob', rfl, q2, q3⟩ := q
     exact ⟨m, _, ob', Nat.lt_succ_self m, ⟨D, s'', q2, M, rfl⟩, q3⟩
    | _ => exact q
theorem cW {α S B : Type} {f : Nat → α → S → Option (S ⊕ B)} {l : List α} {k : Nat} {x : α} (D : l[k]? = some x) (M : S) : forL f k (l.drop k) M = (match f k x M with
  | none => none
  | some (.inl s') => forL f (k + 1) (l.drop (k + 1)) s'
  | some (.inr b) => some (.inr b)) := by
 have G := (gs D).1
 have O : l[k] = x := by rw [gq G] at D; cases D; rfl
 rw [List.drop_eq_getElem_cons G, O]; rfl
theorem Bh {c : Code} {α S B : Type} {f : Nat → α → S → Option (S ⊕ B)} {l : List α} {aa : S} {o : S ⊕ B} (h : forL f 0 l aa = some o) (ks : Am) (hk : Sub ks s) (Φ : Nat → S → Am → List Ob → Prop) {s0 : Am} {ab : List Ob} (h0 : Φ 0 aa s0 ab) (hs : Sub s0 s) (ho : ∃ p, C1 ob p = some ab ∧ p.Nodup)
  (Z : ∀ (k : Nat) (x : α) (D : S) (r : S ⊕ B) s ob, l[k]? = some x → k < l.length → Φ k D s ob → f k x D = some r → (∀ b', r = .inr b' → .inr b' = o) →
   AW E n C c ⟨s ++ ks, ob⟩ (Ic (fun σ' => ∃ O s' ob', r = .inl O ∧ Φ (k + 1) O s' ob' ∧ Left (s' ++ ks) ob' σ') Q))
  (fin : ∀ (D : S) s ob, Φ l.length D s ob → .inl D = o → AW E n C c ⟨s ++ ks, ob⟩ (Ic (fun _ => False) Q)) : AW E n C (.loop c) ⟨s, ob⟩ Q := by
 refine Sk (fun m s1 M => ∃ k D s', k + m = l.length ∧ Φ k D s' M ∧ forL f k (l.drop k) D = some o ∧ s1 = s' ++ ks) (m := l.length) ⟨0, aa, s0, by simp, h0, h, rfl⟩ (Pe hs hk ho) ?_
 rintro m s1 M ⟨k, D, s', hm, hΦ, G, rfl⟩
 rcases Nat.lt_or_ge k l.length with Y | Y
 ·have hx : l[k]? = some l[k] := gq Y
  rw [cW hx] at G
  cases hf : f k l[k] D with
  | none => rw [hf] at G; cases G
  | some r =>
   rw [hf] at G
   refine AW.mono (Z k _ D r s' M hx Y hΦ hf (fun b' hb => ?_)) ?_
   ·subst hb; simpa using G
   ·intro e σ' q
    cases e with
    | normal =>
     obtain ⟨O, s'', ob', rfl, q2, q3⟩ := q
     exact ⟨m - 1, _, ob', by omega, ⟨k + 1, O, s'', by omega, q2, G, rfl⟩, q3⟩
    | _ => exact q
 ·have : k = l.length := by omega
  subst this
  rw [List.drop_length] at G
  simp only [forL, Option.some.injEq] at G
  refine AW.mono (fin D s' M hΦ G) ?_
  intro e σ' q
  cases e with
  | normal => exact q.elim
  | _ => exact q
theorem Zm {α S : Type} {f : Nat → α → S → Option S} : ∀ (l : List α) (k : Nat) (D : S) (o : S), forS f k l D = some o → forL (B := Empty) (fun k x s => (f k x s).map .inl) k l D = some (.inl o)
 | [], _, _, o, h => by simp only [forS, Option.some.injEq] at h; subst h; rfl
 | x :: l, k, D, o, h => by
  simp only [forS] at h
  simp only [forL]
  cases hf : f k x D with
  | none => rw [hf] at h; cases h
  | some s' => rw [hf] at h; simpa using Zm l (k + 1) s' o h
theorem Ds {c : Code} {α S : Type} {f : Nat → α → S → Option S} {l : List α} {M : S} {o : S} (h : forS f 0 l M = some o) (ks : Am) (hk : Sub ks s) (Φ : Nat → S → Am → List Ob → Prop) {s0 : Am} {O : List Ob} (h0 : Φ 0 M s0 O) (hs : Sub s0 s) (ho : ∃ p, C1 ob p = some O ∧ p.Nodup)
  (G : ∀ (k : Nat) (x : α) (D : S) (r : S) s ob, l[k]? = some x → k < l.length → Φ k D s ob → f k x D = some r →
   AW E n C c ⟨s ++ ks, ob⟩ (Ic (fun σ' => ∃ s' ob', Φ (k + 1) r s' ob' ∧ Left (s' ++ ks) ob' σ') Q))
  (Y : ∀ (D : S) s ob, Φ l.length D s ob → D = o → AW E n C c ⟨s ++ ks, ob⟩ (Ic (fun _ => False) Q)) : AW E n C (.loop c) ⟨s, ob⟩ Q := by
 refine Bh (Zm l 0 M o h) ks hk Φ h0 hs ho ?_ ?_
 ·intro k x D r s ob hx Z hΦ hr _
  obtain ⟨r', aa, rfl⟩ := Option.map_eq_some_iff.1 hr
  refine AW.mono (G k x D r' s ob hx Z hΦ aa) ?_
  intro e σ' q
  cases e with
  | normal => obtain ⟨s', ob', q1, q2⟩ := q; exact ⟨r', s', ob', rfl, q1, q2⟩
  | _ => exact q
 ·intro D s ob hΦ he
  exact Y D s ob hΦ (by injection he)
theorem Zo {S B : Type} {f : Nat → S → Option (S ⊕ B)} : ∀ (m k : Nat) (D : S), forI f k m D = forL (fun k (_ : Unit) s => f k s) k (List.replicate m ()) D
 | 0, _, _ => rfl
 | m + 1, k, D => by
  simp only [forI, List.replicate_succ, forL]
  cases f k D with
  | none => rfl
  | some r => cases r with
   | inl s' => exact Zo m (k + 1) s'
   | inr b => rfl
theorem Do {c : Code} {S B : Type} {f : Nat → S → Option (S ⊕ B)} {m : Nat} {Y : S} {o : S ⊕ B} (h : forI f 0 m Y = some o) (ks : Am) (hk : Sub ks s) (Φ : Nat → S → Am → List Ob → Prop) {s0 : Am} {M : List Ob} (h0 : Φ 0 Y s0 M) (hs : Sub s0 s) (ho : ∃ p, C1 ob p = some M ∧ p.Nodup)
  (G : ∀ (k : Nat) (D : S) (r : S ⊕ B) s ob, k < m → Φ k D s ob → f k D = some r → (∀ b', r = .inr b' → .inr b' = o) →
   AW E n C c ⟨s ++ ks, ob⟩ (Ic (fun σ' => ∃ O s' ob', r = .inl O ∧ Φ (k + 1) O s' ob' ∧ Left (s' ++ ks) ob' σ') Q))
  (Z : ∀ (D : S) s ob, Φ m D s ob → .inl D = o → AW E n C c ⟨s ++ ks, ob⟩ (Ic (fun _ => False) Q)) : AW E n C (.loop c) ⟨s, ob⟩ Q := by
 rw [Zo] at h
 exact Bh h ks hk Φ h0 hs ho (fun k _ D r s ob _ aa => G k D r s ob (by simpa using aa)) (fun D s ob hΦ he => Z D s ob (by simpa using hΦ) he)
theorem Zn {S : Type} {f : Nat → S → Option S} : ∀ (m k : Nat) (D : S) (o : S), forJ f k m D = some o → forI (B := Empty) (fun k s => (f k s).map .inl) k m D = some (.inl o)
 | 0, _, _, o, h => by simp only [forJ, Option.some.injEq] at h; subst h; rfl
 | m + 1, k, D, o, h => by
  simp only [forJ] at h
  simp only [forI]
  cases hf : f k D with
  | none => rw [hf] at h; cases h
  | some s' => rw [hf] at h; simpa using Zn m (k + 1) s' o h
theorem Sl {c : Code} {S : Type} {f : Nat → S → Option S} {m : Nat} {M : S} {o : S} (h : forJ f 0 m M = some o) (ks : Am) (hk : Sub ks s) (Φ : Nat → S → Am → List Ob → Prop) {s0 : Am} {O : List Ob} (h0 : Φ 0 M s0 O) (hs : Sub s0 s) (ho : ∃ p, C1 ob p = some O ∧ p.Nodup)
  (G : ∀ (k : Nat) (D : S) (r : S) s ob, k < m → Φ k D s ob → f k D = some r →
   AW E n C c ⟨s ++ ks, ob⟩ (Ic (fun σ' => ∃ s' ob', Φ (k + 1) r s' ob' ∧ Left (s' ++ ks) ob' σ') Q))
  (Y : ∀ (D : S) s ob, Φ m D s ob → D = o → AW E n C c ⟨s ++ ks, ob⟩ (Ic (fun _ => False) Q)) : AW E n C (.loop c) ⟨s, ob⟩ Q := by
 refine Do (Zn m 0 M o h) ks hk Φ h0 hs ho ?_ ?_
 ·intro k D r s ob Z hΦ hr _
  obtain ⟨r', aa, rfl⟩ := Option.map_eq_some_iff.1 hr
  refine AW.mono (G k D r' s ob Z hΦ aa) ?_
  intro e σ' q
  cases e with
  | normal => obtain ⟨s', ob', q1, q2⟩ := q; exact ⟨r', s', ob', rfl, q1, q2⟩
  | _ => exact q
 ·intro D s ob hΦ he
  exact Y D s ob hΦ (by injection he)
def Eg (k : Nat) (Rc : T → List Ob → List Ob → Prop) (x : T) (D : List Ob) : Prop := ∃ os new, D = os ++ new ∧ os.length = k ∧ Rc x os new
theorem Az {k m : Nat} (h : k < m) (D : m ≤ 9223372036854775806) : IntKind.i64.wrap ((k : Int) + 1) = ((k + 1 : Nat) : Int) := by
 rw [gB (by omega)]; omega
section typed
variable {dst : Option Tmp} {ty : TypeId} {pos : String} {aft : Array Edge} {g : Option (Nat × Bool)} {α : Type} {f : α → List T}
def rI (x : Int) : List T := [.v (.int .i64 x)]
def rK (k : IntKind) (x : Int) : List T := [.v (.int k x)]
def rS (x : ByteArray) : List T := [.v (.string x)]
def rL {α : Type} (sz : Nat) (f : α → List T) (l : List α) : List T := [.list sz (l.map f)]
def cI (x : Int) : T := .v (.int .i64 x)
def cL {α : Type} (sz : Nat) (f : α → List T) (l : List α) : T := .list sz (l.map f)
theorem Da (k : Nat) {x : Operand} {t : TypeId} {objs : List Ob} {v : Value} {Y sz : Nat} {l : List α} {ti : TI} {e : Nat} (M : E.tab t = some ti) (D : ti.kind = .slice e) (O : Au s x = some (.v v))
  (G : objs[k]? = some (.us v Y sz (l.map f))) : Yd E.P n s objs ⟨dst, .call { callee := .builtin .len, args := #[x], argTypes := #[t] }, ty, pos, aft, g⟩ (.v (.int .i64 (l.length : Int))) := by
 have := dI (E := E) (n := n) (dst := dst) (ty := ty) (pos := pos) (aft := aft) (g := g) k M D O G
 rwa [List.length_map] at this
theorem N9 {t : TypeId} {x y : Operand} {k : IntKind} {i : Int} {m : Nat} {b off len : Nat} {ti G : TI} {D : Nat}
  (Y : E.tab t = some ti) (M : ti.kind = .array len D) (hel : E.tab D = some G) (h1 : G.size = 1)
  (Z : Au s x = some (.v (.pointer (some ⟨b, off, none⟩)))) (hy : Au s y = some (.v (.int k i))) (hi : i = (m : Int)) (O : m < len) :
  Yp E.P n s ⟨dst, .indexAddr t x y, ty, pos, aft, g⟩ (.v (.pointer (some ⟨b, off + m, none⟩))) := by
 have := Cy (E := E) (n := n) (dst := dst) (ty := ty) (pos := pos) (aft := aft) (g := g) Y M hel Z hy hi O
 rwa [h1, Nat.mul_one] at this
theorem Ce {t : TypeId} {x y : Operand} {b : ByteArray} {k : IntKind} {i c : Int} {m : Nat} {ti : TI} (M : E.tab t = some ti) (D : ti.kind = .string) (O : Au s x = some (.v (.string b)))
  (Y : Au s y = some (.v (.int k i))) (hi : i = (m : Int)) (G : m < b.size) (hc : ((b.data.getD m 0).toNat : Int) = c) : Yp E.P n s ⟨dst, .index t x y, ty, pos, aft, g⟩ (.v (.int .u8 c)) :=
 hc ▸ Sv M D O Y hi G
theorem aM {t M : TypeId} {x y : Operand} {a b r : ByteArray} (D : Au s x = some (.v (.string a))) (G : Au s y = some (.v (.string b)))
  (hc : a.size + b.size < 9223372036854775807 ∧ a ++ b = r) : Yp E.P n s ⟨dst, .binOp .add t x y M, ty, pos, aft, g⟩ (.v (.string r)) := hc.2 ▸ dH D G hc.1
theorem Dl {l : List α} {m : Nat} {x : α} {e : List T} (h : e = f x) : (l.map f).set m e = (l.set m x).map f := by rw [h, List.map_set]
theorem Ux {l m r : List α} (h : l ++ m = r) : l.map f ++ m.map f = r.map f := by rw [← h, List.map_append]
theorem aG {m r : List α} (h : [] ++ m = r) : m.map f = r.map f := by rw [← h]; rfl
theorem Uy {l m : List α} (h : l.length + m.length ≤ 68719476736) : (l.map f).length + (m.map f).length ≤ 68719476736 := by simpa using h
theorem aH {m : List α} (h : ([] : List α).length + m.length ≤ 68719476736) : (m.map f).length ≤ 68719476736 := by simpa using h
theorem Gd {m : Nat} {z : α} {r : List α} {D : List T} (h : List.replicate m z = r) (G : D = f z) : List.replicate m D = r.map f := by rw [← h, List.map_replicate, G]
theorem cF {x y : Nat} {l r : List α} (h : (l.drop x).take (y - x) = r) : ((l.map f).drop x).take (y - x) = r.map f := by rw [← h, List.map_take, List.map_drop]
theorem E7 {x y : Operand} {t : TypeId} {k1 k2 : IntKind} {i : Int} {m : Nat} {ti D : TI} {e : Nat} {z : Value} {sz : Nat} {es' : List (List T)}
  (ht : E.tab t = some ti) (hk : ti.kind = .slice e) (he : E.tab e = some D) (hz : D.zero = some z) (h1 : z.cells.toList.all (·.oneCell') = true) (hsz : D.size = sz) (Y : z.cells.size = sz) (M : Nat.ble D.bytes 2048 = true)
  (hx : Au s x = some (.v (.int k1 i))) (hy : Au s y = some (.v (.int k2 i))) (hi : i = (m : Int)) (hm : m ≤ 68719476736) (O : List.replicate m (Ed z) = es')
  (Z : ∀ d, dst = some d → d < n) (k : ∀ b, R ⟨El s dst (.v b), ob ++ [.us b e sz es']⟩) :
  AX E n C [] ⟨dst, .makeSlice t x y, ty, pos, aft, g⟩ ⟨s, ob⟩ R := by
 subst O
 have G := Nat.le_of_ble_eq_true M
 refine AX.makeSlice ht hk he hz h1 hsz Y hx hy hi (by simp only [Gx]; omega) ?_ Z k
 have h1 : D.bytes * m ≤ 2048 * 68719476736 := Nat.mul_le_mul G hm
 have h2 : ((D.bytes * m : Nat) : Int) = (D.bytes : Int) * (m : Int) := by simp
 omega
theorem Q9 {x : Operand} {t : TypeId} {lo hi mx : Option Operand} {sz : Nat} {l r : List α} {ti Y : TI} {e : Nat} (a b m : Nat)
  (ht : E.tab t = some ti) (hk : ti.kind = .slice e) (he : E.tab e = some Y) (hsz : Y.size = sz) (hx : Au s x = some (.list sz (l.map f)))
  (h1 : S4 s lo 0 a) (h2 : S4 s hi l.length b) (O : mx = none) (M : a ≤ b) (Z : b ≤ l.length) (hr : (l.drop a).take (b - a) = r) :
  Yp E.P n s ⟨dst, .slice t x lo hi mx, ty, pos, aft, g⟩ (.list sz (r.map f)) := by
 subst O
 have := V6 (E := E) (n := n) (dst := dst) (ty := ty) (pos := pos) (aft := aft) (g := g) (mx := none) a b m ht hk he hsz hx h1 (by rw [List.length_map]; exact h2)
  (fun G D => ⟨G, rfl, by rw [List.length_map] at D; omega, Nat.le_refl _⟩) (fun _ => rfl) M (by rw [List.length_map]; exact Z)
 rwa [cF hr] at this
end typed
theorem Bp {α : Type} {c : Bool} {a b r : α} (hc : c = true) (h : (if c = true then a else b) = r) : a = r := by rw [if_pos hc] at h; exact h
theorem Bq {α : Type} {c : Bool} {a b r : α} (hc : c = false) (h : (if c = true then a else b) = r) : b = r := by rw [if_neg (by simp [hc])] at h; exact h
theorem C0 {α β γ : Type} {f : α → γ} {g : β → γ} {x : α} {r : γ} (h : Sum.elim f g (.inl x) = r) : f x = r := h
theorem Cq {α β γ : Type} {f : α → γ} {g : β → γ} {x : β} {r : γ} (h : Sum.elim f g (.inr x) = r) : g x = r := h
end
theorem Lr {α : Type} {row : α → List T} {sz : Nat} (D : ∀ x, (row x).length = sz) : ∀ {l : List α} {m : Nat} {z : α}, l[m]? = some z → (((l.flatMap row).drop (m * sz)).take sz) = row z
 | [], _, _, h => by simp at h
 | x :: l, 0, z, h => by simp at h; subst h; rw [List.flatMap_cons, Nat.zero_mul, List.drop_zero, List.take_left' (D x)]
 | x :: l, m + 1, z, h => by
  rw [List.flatMap_cons, show (m + 1) * sz = (row x).length + m * sz by rw [D x, Nat.succ_mul]; omega, ← List.drop_drop, List.drop_left]
  exact Lr D (by simpa using h)
theorem Lq {α : Type} {row : α → List T} {sz : Nat} (D : ∀ x, (row x).length = sz) : ∀ l : List α, (l.flatMap row).length = l.length * sz
 | [] => by simp
 | x :: l => by rw [List.flatMap_cons, List.length_append, D x, Lq D l, List.length_cons, Nat.succ_mul]; omega
theorem Sw {E : Env} {n : Nat} {s : Am} {dst : Option Tmp} {ty : TypeId} {pos : String} {aft : Array Edge} {g : Option (Nat × Bool)} {α : Type} {row : α → List T} {t : TypeId} {x y : Operand} {k : IntKind} {i : Int} {m len Y : Nat} {l : List α} {z : α} {ti D : TI}
  (ht : E.tab t = some ti) (hk : ti.kind = .array len Y) (hel : E.tab Y = some D) (M : D.isAgg = true) (hlen : l.length = len) (hr : ∀ x, (row x).length = D.size)
  (hx : Au s x = some (.agg (l.flatMap row))) (hy : Au s y = some (.v (.int k i))) (hi : i = (m : Int)) (Z : l[m]? = some z) :
  Yp E.P n s ⟨dst, .index t x y, ty, pos, aft, g⟩ (.agg (row z)) := by
 have O := (gs Z).1
 refine N8 ht hk hel hx hy hi (by omega) ?_
 have G := Lr (sz := D.size) hr Z
 have h2 := Lq (sz := D.size) hr l
 have h3 : m * D.size + D.size ≤ l.length * D.size := by rw [← Nat.succ_mul]; exact Nat.mul_le_mul_right _ O
 unfold Ef
 rw [M, cond_true]
 cases hb : (Nat.beq (m * D.size) 0 && Nat.beq D.size (l.flatMap row).length) with
 | true =>
  rw [cond_true]
  rw [Bool.and_eq_true] at hb
  have e1 := nq hb.1
  have e2 := nq hb.2
  rw [e1, List.drop_zero, List.take_of_length_le (by omega)] at G
  rw [G]
 | false =>
  rw [cond_false, G, show Nat.ble (m * D.size + D.size) (l.flatMap row).length = true from Nat.ble_eq_true_of_le (by omega)]
  rfl
section
variable {P : Program} {n : Nat} {s : Am} {dst : Option Tmp} {ty : TypeId} {pos : String} {aft : Array Edge} {g : Option (Nat × Bool)}
theorem dE {t M : TypeId} {x y : Operand} {k : IntKind} {a : Int} (D : Au s x = some (.v (.int k a))) (G : Au s y = some (.v (.int .u64 1))) :
  Yp P n s ⟨dst, .binOp .shr t x y M, ty, pos, aft, g⟩ (.v (.int k (a.fdiv 2))) := by
 refine fun H A r => ⟨_, .v _, fun w => ?_⟩
 have : min (1 : Int).toNat k.bits = 1 := by cases k <;> rfl
 simp only [execOp, r.evalv D, r.evalv G, eqGuard, binOp, Op.shift, this]
 rfl
theorem Sh {x y z : Operand} {O : Array TypeId} {k : IntKind} {a b c : Int} (D : Au s x = some (.v (.int k a))) (G : Au s y = some (.v (.int k b))) (M : Au s z = some (.v (.int k c))) :
  Yp P n s ⟨dst, .call { callee := .builtin .min, args := #[x, y, z], argTypes := O }, ty, pos, aft, g⟩ (.v (.int k (min (min a b) c))) := by
 refine fun H A r => ⟨_, .v _, fun w => ?_⟩
 simp [execOp, resolve, invoke, builtin, Builtin.min_, Builtin.min2, r.evalv D, r.evalv G, r.evalv M]
 omega
end
theorem bN {E : Env} {n : Nat} {C : Ctx} {σ : St} {dst : Option Tmp} {ty : TypeId} {pos : String} {aft : Array Edge} {g : Option (Nat × Bool)} {R : St → Prop} {t : TypeId} {g0 : Nat} {cs : List T} {D : TI} {y : T}
  (O : (g0, cs) ∈ gl) (Z : E.tab t = some D) (G : Ef D cs 0 = some y) (Y : ∀ d, dst = some d → d < n) (k : R ⟨El σ.slots dst y, σ.objs⟩) : AX E n C [] ⟨dst, .load t (.global g0), ty, pos, aft, g⟩ σ R := by
 refine AX.value fun H a w M => ?_
 have h : VR H (.pointer (some ⟨g0, 0, none⟩)) (.eptr cs) := (C.hg g0 cs O).mono M.grow
 cases h with
 | eptr b off l cs' ty' fr hb hsz h1 hvs =>
  obtain ⟨p1, p2⟩ := Fb hsz h1 hvs G
  have := D8 (j := 0) (E.ok _ _ Z) (M.held _ _ hb) hsz h1 hvs G
  have hv : VR H (Dr D cs' 0) y := by
   cases ha : D.isAgg with
   | true => simpa [Dr, ha] using (p1 ha).2
   | false => simpa [Dr, ha] using (p2 ha).2
  refine ⟨Dr D cs' 0, w, _, H, ?_, k, ?_, fun _ _ h => h, fun _ _ G _ => ⟨G, fun _ _ => rfl⟩⟩
  ·simp only [execOp, Act.eval, Instr.loadAt, Instr.sureAddr, Sem.run_bind, Sem.run_pure, Result.andThen_ok]
   simp only [Nat.add_zero] at this
   rw [this]
   first | done | rfl
  ·have := M.put hv Y
   cases dst <;> exact this
def Rp (P : Program) (t : TypeId) : Bool :=
 match P.underlying t with
 | some (.struct ff) => ff.toList.all (fun f => f.name != "_") && !(P.stoodInHeld t) && !(P.eqGuardType P.depth t)
 | _ => false
def fH (k : K) : T → T → Option Bool
 | .v (.int k1 a), .v (.int k2 b) => match k with | .int _ => (bif decide (k1 = k2) then some (a == b) else none) | _ => none
 | .v (.bool a), .v (.bool b) => match k with | .bool => some (a == b) | _ => none
 | .v (.string a), .v (.string b) => match k with | .string => some (Ol a b) | _ => none
 | _, _ => none
def Y3 (tab : Nat → Option TI) (cs ds : List T) : List (Nat × Nat) → Option Bool
 | [] => some true
 | (off, t) :: l => match tab t, cs[off]?, ds[off]?, Y3 tab cs ds l with
  | some ti, some x, some y, some r => match fH ti.kind x y with
   | some b => some (b && r)
   | none => none
  | _, _, _, _ => none
section
variable {E : Env} {n : Nat} {C : Ctx} {s : Am} {ob : List Ob} {R : St → Prop} {dst : Option Tmp} {ty : TypeId} {pos : String} {aft : Array Edge} {g : Option (Nat × Bool)}
theorem Zv {P : Program} {t : TypeId} {i : TI} (h : Hd P t = some i) (M : i.kind = .bool) : P.underlying t = some .bool := by
 obtain ⟨d, G, D⟩ := Gi h
 rw [M] at D
 cases d <;> simp [Ki] at D
 exact G
theorem cC {P : Program} {t : TypeId} {i : TI} {k : IntKind} (h : Hd P t = some i) (M : i.kind = .int k) : P.underlying t = some (.int k) := by
 obtain ⟨d, G, D⟩ := Gi h
 rw [M] at D
 cases d <;> simp [Ki] at D
 subst D; exact G
theorem Up {t : TypeId} {ti : TI} (G : E.tab t = some ti) {x y : T} {b : Bool} (h : fH ti.kind x y = some b) {H : GH} {v u : Value} (hv : VR H v x) (M : VR H u y) (d : Nat) (w : World) :
  ti.isAgg = false ∧ (Op.equalIn (d + 1) t v u).run E.P w = .ok b w := by
 unfold fH at h
 split at h
 ·rename_i O a Z Y
  have := hv.v_eq; subst this
  have := M.v_eq; subst this
  split at h
  ·rename_i kk D
   cases hd : decide (O = Z) with
   | false => rw [hd] at h; cases h
   | true =>
    rw [hd] at h
    have := of_decide_eq_true hd
    subst this
    cases h
    exact ⟨by simp [TI.isAgg, D], run_equalIn_int w d t O kk a Y (cC (E.ok _ _ G) D)⟩
  ·cases h
 ·have := hv.v_eq; subst this
  have := M.v_eq; subst this
  split at h
  ·rename_i D
   cases h
   exact ⟨by simp [TI.isAgg, D], run_equalIn_bool' w d t _ _ (Zv (E.ok _ _ G) D)⟩
  ·cases h
 ·have := hv.v_eq; subst this
  have := M.v_eq; subst this
  split at h
  ·rename_i D
   cases h
   exact ⟨by simp [TI.isAgg, D], run_equalIn_string w d t _ _ (F7 (E.ok _ _ G) D)⟩
  ·cases h
 ·cases h
theorem Jp {t : TypeId} {ti : TI} (O : E.tab t = some ti) (G : ti.isAgg = false) {H : GH} {D : Array Value} {cs : List T} (h : VR H (.agg D) (.agg cs)) {off : Nat} {x : T} (Y : cs[off]? = some x) :
  ∃ v, VR H v x ∧ ∀ w, (part t D off).run E.P w = .ok v w := by
 have M : Ef ti cs off = some x := by simp [Ef, G, Y]
 exact G4 h (E.ok _ _ O) M
theorem R9 {H : GH} {xs ys : Array Value} {cs ds : List T} (hx : VR H (.agg xs) (.agg cs)) (hy : VR H (.agg ys) (.agg ds)) (d : Nat) (w : World) : ∀ (G : List Field) (r : Bool), G.all (fun f => f.name != "_") = true →
  Y3 E.tab cs ds (G.map fun f => (f.offset, f.type)) = some r → (Op.eqFields (d + 1) xs ys G).run E.P w = .ok r w
 | [], r, _, h => by simp only [List.map_nil, Y3, Option.some.injEq] at h; subst h; simp [Op.eqFields]
 | f :: G, r, hn, h => by
  simp only [List.all_cons, Bool.and_eq_true] at hn
  simp only [List.map_cons, Y3] at h
  split at h
  ·rename_i ti x y r' O h2 h3 h4
   split at h
   ·rename_i b D
    simp only [Option.some.injEq] at h
    subst h
    have M : ti.isAgg = false := by
     unfold fH at D
     unfold TI.isAgg
     cases hk : ti.kind <;> rw [hk] at D <;> first | rfl | (simp at D; split at D <;> simp at D)
    obtain ⟨v, hv, aa⟩ := Jp O M hx h2
    obtain ⟨u, hu, Z⟩ := Jp O M hy h3
    have he := (Up O D hv hu d w).2
    have ih := R9 hx hy d w G r' hn.2 h4
    have Y : f.name ≠ "_" := by simpa using hn.1
    simp only [Op.eqFields, if_pos Y, Sem.run_bind, aa, Z, Result.andThen_ok, he]
    cases b with
    | true => simpa using ih
    | false => simp
   ·cases h
  ·cases h
theorem Pf {P : Program} {t : TypeId} (h : Rp P t = true) : ∃ D : Array Field, P.underlying t = some (.struct D) ∧ P.fieldsOf t = D ∧ D.toList.all (fun f => f.name != "_") = true ∧ P.stoodInHeld t = false ∧ P.eqGuardType P.depth t = false := by
 unfold Rp at h
 split at h
 ·rename_i D G
  simp only [Bool.and_eq_true, Bool.not_eq_true'] at h
  exact ⟨D, G, by simp [Program.fieldsOf, G], h.1.1, h.1.2, h.2⟩
 ·cases h
def fV (tab : Nat → Option TI) (ok : Nat → Bool) (cs ds : List T) (off t : Nat) : Option Bool :=
 match tab t with
 | some ti => match ti.kind with
  | .struct fs => bif ok t && Nat.ble (off + ti.size) cs.length && Nat.ble (off + ti.size) ds.length then Y3 tab ((cs.drop off).take ti.size) ((ds.drop off).take ti.size) fs else none
  | k => match cs[off]?, ds[off]? with
   | some x, some y => fH k x y
   | _, _ => none
 | none => none
def fJ (tab : Nat → Option TI) (ok : Nat → Bool) (cs ds : List T) : List (Nat × Nat) → Option Bool
 | [] => some true
 | (off, t) :: l => match fV tab ok cs ds off t, fJ tab ok cs ds l with
  | some b, some r => some (b && r)
  | _, _ => none
theorem Pa {ti : TI} {cs : List T} {off : Nat} (G : ti.isAgg = true) (h : off + ti.size ≤ cs.length) : Ef ti cs off = some (.agg ((cs.drop off).take ti.size)) := by
 unfold Ef
 rw [G, cond_true]
 cases hb : (Nat.beq off 0 && Nat.beq ti.size cs.length) with
 | true =>
  rw [cond_true]
  rw [Bool.and_eq_true] at hb
  have D := nq hb.1
  have M := nq hb.2
  rw [D, List.drop_zero, List.take_of_length_le (by omega)]
 | false => rw [cond_false, Nat.ble_eq_true_of_le h]; rfl
theorem cY {ok : Nat → Bool} (hok : ∀ t, ok t = true → Rp E.P t = true) {H : GH} {xs ys : Array Value} {cs ds : List T} (hx : VR H (.agg xs) (.agg cs)) (hy : VR H (.agg ys) (.agg ds)) (d : Nat) (w : World) {off t : Nat} {b : Bool}
  (h : fV E.tab ok cs ds off t = some b) : ∃ u v, (∀ w, (part t xs off).run E.P w = .ok u w) ∧ (∀ w, (part t ys off).run E.P w = .ok v w) ∧ (Op.equalIn (d + 2) t u v).run E.P w = .ok b w := by
 unfold fV at h
 split at h
 ·rename_i Z M
  split at h
  ·rename_i fs Y
   cases hc : (ok t && Nat.ble (off + Z.size) cs.length && Nat.ble (off + Z.size) ds.length) with
   | false => rw [hc] at h; cases h
   | true =>
    rw [hc, cond_true] at h
    simp only [Bool.and_eq_true] at hc
    have ha : Z.isAgg = true := by simp [TI.isAgg, Y]
    obtain ⟨u, hu, D⟩ := G4 hx (E.ok _ _ M) (Pa ha (Nat.le_of_ble_eq_true hc.1.2))
    obtain ⟨v, hv, G⟩ := G4 hy (E.ok _ _ M) (Pa ha (Nat.le_of_ble_eq_true hc.2))
    refine ⟨u, v, D, G, ?_⟩
    obtain ⟨ff, h1, h2, h3, h4, h5⟩ := Pf (hok t hc.1.1)
    obtain ⟨ff', u1, u2⟩ := F6 (E.ok _ _ M) Y
    rw [h1] at u1
    cases u1
    cases hu with
    | agg xs' _ hl1 hc1 hv1 =>
     cases hv with
     | agg ys' _ hl2 hc2 hv2 =>
      have hf := R9 (E := E) (.agg xs' _ hl1 hc1 hv1) (.agg ys' _ hl2 hc2 hv2) d w ff.toList b h3 (by rw [u2]; exact h)
      rw [show d + 2 = (d + 1) + 1 from rfl, run_equalIn_struct w (d + 1) t xs' ys' (by rw [h2]; exact h1) h4, h2]; exact hf
  ·rename_i k Y
   split at h
   ·rename_i x y h2 h3
    have O : Z.isAgg = false := by
     unfold fH at h
     unfold TI.isAgg
     cases Y : Z.kind <;> rw [Y] at h <;> first | rfl | (simp at h; split at h <;> simp at h)
    obtain ⟨v, hv, G⟩ := Jp M O hx h2
    obtain ⟨u, hu, D⟩ := Jp M O hy h3
    exact ⟨v, u, G, D, (Up M h hv hu (d + 1) w).2⟩
   ·cases h
 ·cases h
theorem Uq {ok : Nat → Bool} (G : ∀ t, ok t = true → Rp E.P t = true) {H : GH} {Z ys : Array Value} {cs ds : List T} (O : VR H (.agg Z) (.agg cs)) (Y : VR H (.agg ys) (.agg ds)) (d : Nat) (w : World) : ∀ (D : List Field) (r : Bool), D.all (fun f => f.name != "_") = true →
  fJ E.tab ok cs ds (D.map fun f => (f.offset, f.type)) = some r → (Op.eqFields (d + 2) Z ys D).run E.P w = .ok r w
 | [], r, _, h => by simp only [List.map_nil, fJ, Option.some.injEq] at h; subst h; simp [Op.eqFields]
 | f :: D, r, hn, h => by
  simp only [List.all_cons, Bool.and_eq_true] at hn
  simp only [List.map_cons, fJ] at h
  split at h
  ·rename_i b r' h1 h4
   simp only [Option.some.injEq] at h
   subst h
   obtain ⟨u, v, hu, hv, he⟩ := cY G O Y d w h1
   have ih := Uq G O Y d w D r' hn.2 h4
   have M : f.name ≠ "_" := by simpa using hn.1
   simp only [Op.eqFields, if_pos M, Sem.run_bind, hu, hv, Result.andThen_ok, he]
   cases b with
   | true => simpa using ih
   | false => simp
  ·cases h
theorem Rk {Y : BinOp} {t t' : TypeId} {x y : Operand} {ti : TI} {fs : List (Nat × Nat)} {cs ds : List T} {r q : Bool} (ok : Nat → Bool) (O : ∀ t, ok t = true → Rp E.P t = true) (ht : E.tab t = some ti) (hk : ti.kind = .struct fs) (he : Rp E.P t = true)
  (hx : Au s x = some (.agg cs)) (hy : Au s y = some (.agg ds)) (hr : fJ E.tab ok cs ds fs = some r) (hq : (match Y with | .eql => some r | .neq => some (!r) | _ => none) = some q) :
  Yp E.P n s ⟨dst, .binOp Y t x y t', ty, pos, aft, g⟩ (.v (.bool q)) := by
 intro H A sr
 obtain ⟨ff, Z, h2, h3, h4, h5⟩ := Pf he
 obtain ⟨ff', u1, u2⟩ := F6 (E.ok _ _ ht) hk
 rw [Z] at u1
 cases u1
 have vx := sr.eval hx
 have vy := sr.eval hy
 generalize G : A.eval x = a at vx
 generalize M : A.eval y = b at vy
 refine ⟨_, .v _, fun w => ?_⟩
 cases vx with
 | agg xs _ hl1 hc1 hv1 =>
  cases vy with
  | agg ys _ hl2 hc2 hv2 =>
   have hf := Uq (E := E) O (.agg xs cs hl1 hc1 hv1) (.agg ys ds hl2 hc2 hv2) 9997 w ff.toList r h3 (by rw [u2]; exact hr)
   have D : (Op.equalIn 10000 t (.agg xs) (.agg ys)).run E.P w = .ok r w := by
    rw [show (10000 : Nat) = 9999 + 1 from rfl, run_equalIn_struct w 9999 t xs ys (by rw [h2]; exact Z) h4, h2]; exact hf
   cases Y <;> simp only [Option.some.injEq, reduceCtorEq] at hq <;> subst hq
   ·simp only [execOp, G, M, Sem.run_bind, run_eqGuard_agg w _ t x y xs ys h5, Result.andThen_ok, run_eql_struct, D, Sem.run_pure]
   ·simp only [execOp, G, M, Sem.run_bind, run_eqGuard_agg w _ t x y xs ys h5, Result.andThen_ok, run_neq_struct, D, Sem.run_pure]
theorem bO {t t' : TypeId} {x : Operand} {ti : TI} {e sz : Nat} {es : List (List T)} (ht : E.tab t = some ti) (Y : ti.kind = .slice e) (hx : Au s x = some (.list sz es)) (O : ∀ d, dst = some d → d < n)
  (k : ∀ b : Bool, (b = true → es = []) → R ⟨El s dst (.v (.bool b)), ob⟩) : AX E n C [] ⟨dst, .binOp .eql t x (.const (.slice none 0 0)) t', ty, pos, aft, g⟩ ⟨s, ob⟩ R := by
 refine AX.value fun H a w G => ?_
 have h := G.sr.eval hx
 generalize hv : a.eval x = v at h
 have hr : ∃ D l c, v = .slice D l c ∧ (D.isNone = true → es = []) := by
  cases h with
  | empty a cap sz => exact ⟨a, 0, cap, rfl, fun _ => rfl⟩
  | list b off cap sz es cs ty fr hb hcap hmax hsz hel h1 hvs => exact ⟨_, _, _, rfl, fun h => by simp at h⟩
 obtain ⟨D, l, c, rfl, Z⟩ := hr
 refine ⟨.bool D.isNone, w, _, H, ?_, k D.isNone Z, ?_, fun _ _ h => h, fun i p hp _ => ⟨hp, fun _ _ => rfl⟩⟩
 ·have := run_eql_slice_nil (P := E.P) w t e D l c (D3 (E.ok _ _ ht) Y)
  have M : a.eval (.const (.slice none 0 0)) = .slice none 0 0 := rfl
  simp only [execOp, hv, M, Sem.run_bind, eqGuard, Sem.run_pure, Result.andThen_ok, this]
  simp [this]
 ·have := G.put (dst := dst) (.v (.bool D.isNone)) O
  cases dst <;> exact this
theorem C3 {α : Type} {f : α → List T} {c : Code} {Q : Exit → St → Prop} (q m : Nat) {v : Value} {O sz : Nat} {l : List α} {x : α} (hq : ob[q]? = some (.us v O sz (l.map f))) (Z : l[m]? = some x)
  (k : (∃ c, v = .slice (some ⟨Gp v, 0, none⟩) l.length c) → AW E n C c ⟨s, ob⟩ Q) : AW E n C c ⟨s, ob⟩ Q := by
 intro H a w G
 have D : UsR H w v O sz (l.map f) := G.objs _ (mg hq)
 obtain ⟨c, Y, M, _⟩ := D.arr (Ag (f := f) Z)
 rw [List.length_map] at M
 exact k ⟨c, M⟩ H a w G
theorem F5 {α : Type} {f : α → List T} {c : Code} {Q : Exit → St → Prop} (q : Nat) {v : Value} {M sz : Nat} {l : List α} (Z : ob[q]? = some (.us v M sz (l.map f)))
  (k : (∃ a c, v = .slice a l.length c) → AW E n C c ⟨s, ob⟩ Q) : AW E n C c ⟨s, ob⟩ Q := by
 intro H a w G
 have D : UsR H w v M sz (l.map f) := G.objs _ (mg Z)
 refine k ?_ H a w G
 rcases D with ⟨rfl, Y⟩ | ⟨b, c, O, rfl, _⟩
 ·have : l = [] := by simpa using Y
  subst this; exact ⟨none, 0, rfl⟩
 ·exact ⟨some ⟨b, 0, none⟩, c, by rw [List.length_map]⟩
theorem Bi {α : Type} {t : TypeId} {x y : Operand} {kk : IntKind} {i : Int} {m : Nat} {v : Value} {sz : Nat} {l : List α} {e : α} {ti M : TI} {G : Nat}
  (Z : E.tab t = some ti) (O : ti.kind = .slice G) (hel : E.tab G = some M) (hsz : M.size = sz)
  (hx : Au s x = some (.v v)) (hv : ∃ c, v = .slice (some ⟨Gp v, 0, none⟩) l.length c) (hy : Au s y = some (.v (.int kk i))) (hi : i = (m : Int)) (Y : l[m]? = some e) :
  Yp E.P n s ⟨dst, .indexAddr t x y, ty, pos, aft, g⟩ (.v (.pointer (some ⟨Gp v, m * sz, none⟩))) := by
 obtain ⟨c, hv⟩ := hv
 have D : Au s x = some (.v (.slice (some ⟨Gp v, 0, none⟩) l.length c)) := by rw [← hv]; exact hx
 have := Lb (E := E) (n := n) (dst := dst) (ty := ty) (pos := pos) (aft := aft) (g := g) Z O hel D hy hi (gs Y).1
 rwa [hsz, Nat.zero_add] at this
theorem F4 {α : Type} {x : Operand} {t : TypeId} {v : Value} {l : List α} {ti : TI} {e : Nat} (G : E.tab t = some ti) (D : ti.kind = .slice e) (M : Au s x = some (.v v))
  (hv : ∃ a c, v = .slice a l.length c) : Yp E.P n s ⟨dst, .call { callee := .builtin .len, args := #[x], argTypes := #[t] }, ty, pos, aft, g⟩ (.v (.int .i64 (l.length : Int))) := by
 obtain ⟨a, c, rfl⟩ := hv
 exact Fc G D M
def Tb (l : Li) : Option ByteArray := if (l.all fun x => decide (0 ≤ x ∧ x < 256)) = true then some ⟨(l.map fun x => UInt8.ofNat x.toNat).toArray⟩ else none
theorem Tq {l : Li} (h : (l.all fun x => decide (0 ≤ x ∧ x < 256)) = true) : Es (l.map fun x => UInt8.ofNat x.toNat) = l.map (rK .u8) := by
 unfold Es
 rw [List.map_map]
 refine List.map_congr_left fun x G => ?_
 have := List.all_eq_true.1 h x G
 have := of_decide_eq_true this
 simp only [Function.comp_apply, rK]
 have D : ((UInt8.ofNat x.toNat).toNat : Int) = x := by
  rw [UInt8.toNat_ofNat']
  omega
 rw [D]
theorem Y1 (q : Nat) {t t' : TypeId} {x : Operand} {ti G ei : TI} {e tt : Nat} {l : Li} {v : Value} {r : ByteArray} (M : Tb l = some r) (ht : E.tab t = some ti) (hk : ti.kind = .slice e) (he : E.tab e = some ei) (Y : ei.kind = .int .u8) (Z : E.tab t' = some G) (O : G.kind = .string)
  (hx : Au s x = some (.v v)) (hq : ob[q]? = some (.us v tt 1 (l.map (rK .u8)))) (hd : ∀ d, dst = some d → d < n) (k : R ⟨El s dst (.v (.string r)), ob⟩) : AX E n C [] ⟨dst, .convert t t' x, ty, pos, aft, g⟩ ⟨s, ob⟩ R := by
 unfold Tb at M
 split at M
 ·rename_i D
  cases M
  exact S1 ht hk he Y Z O (by rw [Tq D]; exact Of q hx hq) hd k
 ·cases M
theorem UsR.one {H : GH} {w : World} {v : Value} {D sz : Nat} {es : List (List T)} (h : UsR H w v D sz es) : v.oneCell' = true := by
 rcases h with ⟨rfl, _⟩ | ⟨_, _, _, rfl, _⟩ <;> rfl
theorem AO.one {ops : Array Oper} {l : List Oper} (q : Nat) {v : Value} {G sz : Nat} {es : List (List T)} (M : ob[q]? = some (.us v G sz es)) (k : v.oneCell' = true → AO E n C ops l ⟨s, ob⟩ R) : AO E n C ops l ⟨s, ob⟩ R :=
 fun H a w D => k (UsR.one (show UsR H w v G sz es from D.objs _ (mg M))) H a w D
theorem AP.one {ops : Array Oper} {pl : PL} {so : Am} {prot : List Nat} {pobjs : List Ob} (q : Nat) {v : Value} {M sz : Nat} {es : List (List T)} (Z : ob[q]? = some (.us v M sz es)) (k : v.oneCell' = true → AP E n C ops prot pobjs pl so ⟨s, ob⟩ R) : AP E n C ops prot pobjs pl so ⟨s, ob⟩ R :=
 fun Hs ws H a w sr wr O Y D G => k (UsR.one (show UsR H w v M sz es from G.objs _ (mg Z))) Hs ws H a w sr wr O Y D G
theorem Dm {v : Value} (h : v.oneCell' = true) : Dw (.v v) = some [.v v] := by simp [Dw, h]
theorem Nt {D : Nat → Option (Nat × Nat)} {l : List T} : E5 s D l [] = some l := rfl
theorem D4 {D : Nat → Option (Nat × Nat)} {l l' : List T} {i off size : Nat} {x : Operand} {r : List (Nat × Operand)} {c : T} {cs : List T} (G : D i = some (off, size)) (O : Au s x = some c) (hc : Dw c = some cs)
  (hb : (Nat.beq cs.length size && Nat.ble (off + cs.length) l.length) = true) (M : E5 s D (Hc l off cs) r = some l') : E5 s D l ((i, x) :: r) = some l' := by
 simp only [E5, G, O, Option.bind_some, hc, hb, cond_true]; exact M
theorem Ng : ∀ {l cs : List T}, l.length = cs.length → Hc l 0 cs = cs
 | [], [], _ => rfl
 | [], _ :: _, h => by simp at h
 | _ :: _, [], h => by simp at h
 | x :: l, c :: cs, h => by simp only [Hc]; rw [Ng (by simpa using h)]
theorem Zk {α : Type} {l : List α} {i : Nat} {x : α} (h : l[i]? = some x) : i < l.length := (gs h).1
theorem Zq {α : Type} {k : Nat} {a : Arr α k} {i : Nat} {x : α} (h : a.l[i]? = some x) : i < k := by have := Zk h; rwa [a.h] at this
theorem R1 {D : TI} {cs : List T} (G : D.isAgg = true) (h : D.size = cs.length) : Ef D cs 0 = some (.agg cs) := by simp [Ef, G, h]
theorem Gg {α : Type} {O : α → T} {t : TypeId} {x y : Operand} {k : IntKind} {i : Int} {m len M : Nat} {l : List α} {z : α} {ti D : TI} (ht : E.tab t = some ti) (Z : ti.kind = .array len M) (hel : E.tab M = some D) (h1 : D.size = 1) (G : D.isAgg = false)
  (hx : Au s x = some (.agg (l.map O))) (hy : Au s y = some (.v (.int k i))) (hi : i = (m : Int)) (Y : l[m]? = some z) (hlen : l.length = len := by first | rfl | exact Arr.h _) :
  Yp E.P n s ⟨dst, .index t x y, ty, pos, aft, g⟩ (O z) :=
 N8 ht Z hel hx hy hi (by have := Zk Y; omega) (by rw [h1, Nat.mul_one]; simp [Ef, G, Y])
theorem fN {x : Nat} (h : (0 : Int) = (x : Int)) : S4 s none 0 x := by show x = 0; omega
theorem fZ {l y : Nat} (h : (l : Int) = (y : Int)) : S4 s none l y := by show y = l; omega
end
section
variable {E : Env} {n : Nat} {C : Ctx} {σ : St} {s : Am} {dst : Option Tmp} {ty : TypeId} {pos : String} {aft : Array Edge} {g : Option (Nat × Bool)}
theorem Ghost.lit (t : Nat) {ob : List Ob} {sz : Nat} {es es' : List (List T)} (h : get s t = some (.list sz es)) (hl : LendLL [] es es') : Ghost n C s ob ((t, .list sz es') :: s) ob := Ghost.slots fun H a w G i x D => by
 simp only [get] at D
 cases hb : Nat.beq t i with
 | true =>
  have := nq hb
  subst this
  rw [hb, cond_true] at D
  cases D
  refine VR.rows (G.slots t _ h) hl.length fun i M O => ?_
  obtain ⟨e, q1, q2, q3⟩ := Le (H := H) (H1 := H) (w := w) (objs := []) (by simp) (by simp) (fun _ _ h => h) hl i M O
  exact ⟨e, q1, q2, fun j y Z v Y => q3 j y Z Y⟩
 | false =>
  rw [hb, cond_false] at D
  exact G.slots i x D
theorem AX.take (k m : Nat) {md : List Nat} {o : Oper} {ob : List Ob} {R : St → Prop} {v : Value} {ty tyi szi : Nat} {vs : List Value} {L : List (Option (List (List T)))} {es : List (List T)} (hk : ob[k]? = some (.uss v ty tyi szi vs L)) (hm : L[m]? = some (some es))
  (h : AX E n C md o ⟨s, ob.set k (.uss v ty tyi szi vs (L.set m none)) ++ [.us (vs.getD m undef) tyi szi es]⟩ R) : AX E n C (k :: md) o ⟨s, ob⟩ R := by
 intro H a w gm
 obtain ⟨H1, h1, Z⟩ := Ghost.take (n := n) (C := C) (s := s) k m hk hm H a w gm
 refine Df ?_ (fun _ _ _ h => h) (h H1 a w Z)
 rintro a' w' ⟨σ', H', v, hr, G, ha, M, O⟩
 refine ⟨σ', H', v, hr, G, ha, fun b o hb => M _ _ (h1 _ _ hb), fun i p Y D => ?_⟩
 simp only [List.contains_cons, Bool.or_eq_false_iff, beq_eq_false_iff_ne] at D
 refine O i p ?_ D.2
 dsimp only at Y ⊢
 rw [List.getElem?_append_left (by simpa using (gs Y).1), List.getElem?_set_ne (Ne.symm D.1)]; exact Y
end
inductive NewK where
 | us (e z : Nat) (es : List (List T))
 | box (ty m : Nat) (cs : List T)
 | fn (f : List T → T)
structure NewOp where
 j : Nat
 ds : List Nat
 d : Nat
 k : NewK
def NewK.obs : NewK → T → List Ob
 | .us e z es, .v v => [.us v e z es]
 | .box ty m cs, .v (.pointer (some a)) => [.arr a.block ty m 1 [cs]]
 | _, _ => []
def NewK.ok (D : List T) (x : T) : NewK → Prop
 | .us _ _ _ => ∃ v, x = .v v ∧ v.oneCell' = true
 | .box _ _ _ => ∃ b, x = .v (.pointer (some ⟨b, 0, none⟩))
 | .fn f => x = f D
def NewK.okW (D : List T) (x : T) : NewK → Prop
 | .us _ _ _ => ∃ v, x = .v v
 | .box _ _ _ => ∃ b, x = .v (.pointer (some ⟨b, 0, none⟩))
 | .fn f => x = f D
def U9 (v : Nat → T) (j : Nat) (x : T) : Nat → T := fun i => bif Nat.beq i j then x else v i
def News : List NewOp → (Nat → T) → Am → List Ob → (Am → List Ob → Prop) → Prop
 | [], _, s, ob, F => F s ob
 | ⟨j, _, d, .us e z es⟩ :: l, v, s, ob, F => ∀ x : Value, x.oneCell' = true → News l (U9 v j (.v x)) ((d, .v x) :: s) (ob ++ [.us x e z es]) F
 | ⟨j, _, d, .box ty m cs⟩ :: l, v, s, ob, F => ∀ b : Nat, News l (U9 v j (.v (.pointer (some ⟨b, 0, none⟩)))) ((d, .v (.pointer (some ⟨b, 0, none⟩))) :: s) (ob ++ [.arr b ty m 1 [cs]]) F
 | ⟨j, ds, d, .fn f⟩ :: l, v, s, ob, F => News l (U9 v j (f (ds.map v))) ((d, f (ds.map v)) :: s) ob F
def Vc (v : Nat → T) : List NewOp → Am → Am
 | [], s => s
 | p :: l, s => Vc v l ((p.d, v p.j) :: s)
def Ro (v : Nat → T) : List NewOp → List Ob → List Ob
 | [], ob => ob
 | p :: l, ob => Ro v l (ob ++ p.k.obs (v p.j))
def bW : List Nat → List NewOp → Bool
 | _, [] => true
 | P, p :: l => p.ds.all P.contains && bW (p.j :: P) l
theorem News.get (vals : Nat → T) {F : Am → List Ob → Prop} : ∀ (l : List NewOp) (P : List Nat) (v : Nat → T) (s : Am) (ob : List Ob), bW P l = true → (∀ i, i ∈ P → v i = vals i) → (∀ p, p ∈ l → p.k.ok (p.ds.map vals) (vals p.j)) → News l v s ob F → F (Vc vals l s) (Ro vals l ob)
 | [], P, v, s, ob, _, _, _, h => h
 | ⟨j, ds, d, k⟩ :: l, P, v, s, ob, hb, hv, ho, h => by
  simp only [bW, Bool.and_eq_true] at hb
  have O := ho _ (.head _)
  have G : ∀ x, x = vals j → ∀ i, i ∈ j :: P → U9 v j x i = vals i := by
   intro x D i hi
   unfold U9
   cases hij : Nat.beq i j with
   | true => rw [cond_true, D, nq hij]
   | false =>
    rw [cond_false]
    rcases List.mem_cons.1 hi with rfl | hi
    ·simp at hij
    ·exact hv i hi
  cases k with
  | us e z es =>
   obtain ⟨x, D, Z⟩ := O
   have := News.get vals l (j :: P) _ _ _ hb.2 (G _ D.symm) (fun p M => ho p (.tail _ M)) (h x Z)
   simp only [Vc, Ro, D, NewK.obs]; exact this
  | box ty m cs =>
   obtain ⟨b, D⟩ := O
   have := News.get vals l (j :: P) _ _ _ hb.2 (G _ D.symm) (fun p M => ho p (.tail _ M)) (h b)
   simp only [Vc, Ro, D, NewK.obs]; exact this
  | fn f =>
   have hm : ds.map v = ds.map vals := List.map_congr_left fun i hi => hv i (by have := List.all_eq_true.1 hb.1 i hi; simpa using this)
   have D : vals j = f (ds.map vals) := O
   have Y : News l (U9 v j (f (ds.map v))) ((d, f (ds.map v)) :: s) ob F := h
   rw [hm, ← D] at Y
   have := News.get vals l (j :: P) _ _ _ hb.2 (G _ rfl) (fun p M => ho p (.tail _ M)) Y
   simp only [Vc, Ro, NewK.obs, List.append_nil]; exact this
theorem R4 {vals : Nat → T} {i : Nat} {x : T} : ∀ {l : List NewOp} {s : Am}, Aw.get (Vc vals l s) i = some x → (∃ p, p ∈ l ∧ p.d = i ∧ vals p.j = x) ∨ Aw.get s i = some x
 | [], s, h => .inr h
 | p :: l, s, h => by
  rcases R4 (l := l) h with ⟨q, D, G⟩ | h
  ·exact .inl ⟨q, .tail _ D, G⟩
  ·simp only [Aw.get] at h
   cases hb : Nat.beq p.d i with
   | true => rw [hb, cond_true] at h; cases h; exact .inl ⟨p, .head _, nq hb, rfl⟩
   | false => rw [hb, cond_false] at h; exact .inr h
def Ev (vals : Nat → T) (D : List Nat) : List NewOp → List Ob
 | [] => []
 | p :: l => (bif D.contains p.j then p.k.obs (vals p.j) else []) ++ Ev vals D l
theorem K9 {vals : Nat → T} {D : List Nat} : ∀ {l : List NewOp} {ob : List Ob}, (∀ p, p ∈ l → p.j ∈ D) → ob ++ Ev vals D l = Ro vals l ob
 | [], ob, _ => by simp [Ev, Ro]
 | p :: l, ob, h => by
  have G : D.contains p.j = true := by simpa using h p (.head _)
  simp only [Ev, Ro, G, cond_true]
  rw [← List.append_assoc]
  exact K9 fun q M => h q (.tail _ M)
theorem Pg {vals : Nat → T} : ∀ {l : List NewOp}, Ev vals [] l = []
 | [] => rfl
 | p :: l => by simp only [Ev, Pg (l := l)]; rfl
theorem N4 {vals vals' : Nat → T} {D D' : List Nat} : ∀ {l : List NewOp}, (∀ p, p ∈ l → (D.contains p.j = D'.contains p.j) ∧ (p.j ∈ D → vals p.j = vals' p.j)) → Ev vals D l = Ev vals' D' l
 | [], _ => rfl
 | p :: l, h => by
  obtain ⟨G, M⟩ := h p (.head _)
  simp only [Ev, N4 (l := l) fun q O => h q (.tail _ O), G]
  cases hc : D'.contains p.j with
  | true => rw [M (by rw [hc] at G; simpa using G)]
  | false => rfl
theorem N3 {vals vals' : Nat → T} {D : List Nat} {p : NewOp} : ∀ {l : List NewOp}, p ∈ l → (l.map NewOp.j).Nodup → p.j ∉ D → (∀ i, i ∈ D → vals i = vals' i) → List.Perm (Ev vals D l ++ p.k.obs (vals' p.j)) (Ev vals' (p.j :: D) l)
 | q :: l, M, hn, hp, hv => by
  simp only [List.map_cons, List.nodup_cons] at hn
  rcases List.mem_cons.1 M with rfl | M
  ·have e : Ev vals D l = Ev vals' (p.j :: D) l := N4 fun r hr => by
    have G : r.j ≠ p.j := fun O => hn.1 (O ▸ List.mem_map_of_mem hr)
    refine ⟨?_, fun h => hv _ h⟩
    simp [G]
   have Y : D.contains p.j = false := by simpa using hp
   have Z : (p.j :: D).contains p.j = true := by simp
   simp only [Ev, Y, Z, cond_true, cond_false, List.nil_append, e]
   exact List.perm_append_comm
  ·have G : q.j ≠ p.j := fun O => hn.1 (O ▸ List.mem_map_of_mem M)
   have ih := N3 M hn.2 hp hv
   have e : (bif D.contains q.j then q.k.obs (vals q.j) else []) = bif (p.j :: D).contains q.j then q.k.obs (vals' q.j) else [] := by
    have : (p.j :: D).contains q.j = D.contains q.j := by simp [G]
    rw [this]
    cases hc : D.contains q.j with
    | true => rw [cond_true, cond_true, hv _ (by simpa using hc)]
    | false => rfl
   simp only [Ev, List.append_assoc, e]
   exact List.Perm.append_left _ ih
theorem Vy {l m : List Ob} (h : List.Perm l m) : List.Perm (l.flatMap Ob.fp) (m.flatMap Ob.fp) := by
 induction h with
 | nil => exact .nil
 | cons x _ ih => simp only [List.flatMap_cons]; exact List.Perm.append_left _ ih
 | swap x y l =>
  simp only [List.flatMap_cons, ← List.append_assoc]
  exact List.Perm.append_right _ List.perm_append_comm
 | trans _ _ a b => exact a.trans b
def PAllN (F : NewOp → Prop) : List NewOp → Prop
 | [] => True
 | p :: l => F p ∧ PAllN F l
theorem PAllN.get {F : NewOp → Prop} : ∀ {l : List NewOp}, PAllN F l → ∀ p, p ∈ l → F p
 | q :: l, ⟨h1, h2⟩, p, h => by
  rcases List.mem_cons.1 h with rfl | h
  ·exact h1
  ·exact PAllN.get h2 p h
section
variable {E : Env} {n : Nat} {C : Ctx} {ops : Array Oper} {s : Am} {ob : List Ob} {R : St → Prop}
theorem bM {H : GH} {a : Act} {w : World} {ob' : List Ob} (g : Gam n C ⟨s, ob⟩ H a w) (h : List.Perm ob ob') : Gam n C ⟨s, ob'⟩ H a w :=
 { g with objs := fun p D => g.objs p (h.mem_iff.2 D), free := fun p D => g.free p (h.mem_iff.2 D), new := fun p D => g.new p (h.mem_iff.2 D), nodup := (Vy h).nodup_iff.1 g.nodup }
def Jh : List NewOp → Nat → Nat
 | [], _ => 0
 | p :: l, j => bif Nat.beq p.j j then p.d else Jh l j
theorem Sa : ∀ {l : List NewOp} {p : NewOp}, p ∈ l → (l.map NewOp.j).Nodup → Jh l p.j = p.d
 | q :: l, p, D, hn => by
  simp only [List.map_cons, List.nodup_cons] at hn
  simp only [Jh]
  rcases List.mem_cons.1 D with rfl | D
  ·simp
  ·have : Nat.beq q.j p.j = false := by
    cases hb : Nat.beq q.j p.j with
    | false => rfl
    | true => exact absurd (nq hb ▸ List.mem_map_of_mem D) hn.1
   rw [this, cond_false]; exact Sa D hn.2
def fG : List NewOp → Nat → NewK
 | [], _ => .fn fun _ => .tup []
 | p :: l, j => bif Nat.beq p.j j then p.k else fG l j
theorem Zh : ∀ {l : List NewOp} {p : NewOp}, p ∈ l → (l.map NewOp.j).Nodup → fG l p.j = p.k
 | q :: l, p, D, hn => by
  simp only [List.map_cons, List.nodup_cons] at hn
  simp only [fG]
  rcases List.mem_cons.1 D with rfl | D
  ·simp
  ·have : Nat.beq q.j p.j = false := by
    cases hb : Nat.beq q.j p.j with
    | false => rfl
    | true => exact absurd (nq hb ▸ List.mem_map_of_mem D) hn.1
   rw [this, cond_false]; exact Zh D hn.2
def DepN (A : List NewOp) : List Nat → Am → List T → (Am → List T → Prop) → Prop
 | [], s, xs, F => F s xs
 | j :: ds, s, xs, F => match fG A j with
  | .us _ _ _ => ∀ v : Value, v.oneCell' = true → DepN A ds ((Jh A j, .v v) :: s) (xs ++ [.v v]) F
  | .box _ _ _ => ∀ b : Nat, DepN A ds ((Jh A j, .v (.pointer (some ⟨b, 0, none⟩))) :: s) (xs ++ [.v (.pointer (some ⟨b, 0, none⟩))]) F
  | .fn _ => ∀ x : T, DepN A ds ((Jh A j, x) :: s) (xs ++ [x]) F
def Vd (A : List NewOp) (vals : Nat → T) : List Nat → Am → Am
 | [], s => s
 | j :: ds, s => Vd A vals ds ((Jh A j, vals j) :: s)
theorem DepN.get {A : List NewOp} {vals : Nat → T} {F : Am → List T → Prop} : ∀ {ds : List Nat} {s : Am} {G : List T}, (∀ d, d ∈ ds → ∃ Y, NewK.ok Y (vals d) (fG A d)) → DepN A ds s G F → F (Vd A vals ds s) (G ++ ds.map vals)
 | [], s, G, _, h => by simpa [DepN, Vd] using h
 | j :: ds, s, G, hv, h => by
  have D := hv j (by simp)
  have O := fun d hd => hv d (List.mem_cons_of_mem _ hd)
  simp only [DepN] at h
  obtain ⟨Y, D⟩ := D
  simp only [Vd, List.map_cons]
  rw [show G ++ vals j :: ds.map vals = (G ++ [vals j]) ++ ds.map vals by simp]
  cases hk : fG A j with
  | us e z es =>
   rw [hk] at h D
   obtain ⟨v, M, Z⟩ := D
   rw [M]; exact DepN.get O (h v Z)
  | box ty m cs =>
   rw [hk] at h D
   obtain ⟨b, M⟩ := D
   rw [M]; exact DepN.get O (h b)
  | fn f =>
   rw [hk] at h
   exact DepN.get O (h (vals j))
theorem Sb {A : List NewOp} {vals : Nat → T} {i : Nat} {x : T} : ∀ {ds : List Nat} {s : Am}, Aw.get (Vd A vals ds s) i = some x → (∃ d, d ∈ ds ∧ Jh A d = i ∧ vals d = x) ∨ Aw.get s i = some x
 | [], s, h => .inr h
 | d :: ds, s, h => by
  rcases Sb (ds := ds) h with ⟨D, G, M⟩ | h
  ·exact .inl ⟨D, by simp [G], M⟩
  ·simp only [Aw.get] at h
   cases hb : Nat.beq (Jh A d) i with
   | true => rw [hb, cond_true] at h; cases h; exact .inl ⟨d, by simp, nq hb, rfl⟩
   | false => rw [hb, cond_false] at h; exact .inr h
def bV : List Nat → Bool
 | [] => true
 | x :: l => (l.all fun y => !Nat.beq x y) && bV l
theorem Uk : ∀ {l : List Nat}, bV l = true → l.Nodup
 | [], _ => .nil
 | x :: l, h => by
  simp only [bV, Bool.and_eq_true] at h
  refine List.nodup_cons.2 ⟨fun D => ?_, Uk h.2⟩
  have := List.all_eq_true.1 h.1 x D
  simp at this
theorem AP.any {r : PL} {so : Am} {prot : List Nat} {pobjs : List Ob} (A : List NewOp)
  (hB : (bV (A.map NewOp.j) && (bW [] A && (A.all (fun p => A.all fun q => Nat.beq p.j q.j || !Nat.beq p.d q.d) && (A.all fun p => (Aw.get s p.d).isNone && free so (some p.d))))) = true)
  (hstep : PAllN (fun p => ∃ o, ops[p.j]? = some o ∧ o.guard = none ∧ o.dst = some p.d ∧
   DepN A p.ds s [] fun s' xs => ∀ ob, AX E n C [] o ⟨s', ob⟩ fun σ' => ∃ x, Aw.get σ'.slots p.d = some x ∧ p.k.okW xs x ∧ σ'.objs = ob ++ p.k.obs x) A)
  (k : News A (fun _ => .tup []) s ob (fun s' ob' => AP E n C ops prot pobjs r so ⟨s', ob'⟩ R)) :
  AP E n C ops prot pobjs (.par (A.map fun p => (p.j, p.ds)) r) so ⟨s, ob⟩ R := by
 simp only [Bool.and_eq_true] at hB
 obtain ⟨hn, hb, hj, hs⟩ := hB
 have hn := Uk hn
 have hdd : ∀ p, p ∈ A → ∀ q, q ∈ A → p.d = q.d → p.j = q.j := fun p G q hq he => by
  have := List.all_eq_true.1 (List.all_eq_true.1 hj p G) q hq
  rw [he] at this
  simp at this
  exact this
 have hs' : ∀ p, p ∈ A → Aw.get s p.d = none ∧ free so (some p.d) = true := fun p G => by
  have := List.all_eq_true.1 hs p G
  simp only [Bool.and_eq_true, Option.isNone_iff_eq_none] at this
  exact this
 have back : ∀ p, p ∈ A → ∀ q, q ∈ A → p.j = q.j → p = q := by
  have : ∀ l : List NewOp, (l.map NewOp.j).Nodup → ∀ p, p ∈ l → ∀ q, q ∈ l → p.j = q.j → p = q := by
   intro l
   induction l with
   | nil => intro _ p G; cases G
   | cons x l ih =>
    intro hn p G q hq he
    simp only [List.map_cons, List.nodup_cons] at hn
    rcases List.mem_cons.1 G with h1 | h1 <;> rcases List.mem_cons.1 hq with h2 | h2
    ·rw [h1, h2]
    ·exact absurd (show x.j ∈ l.map NewOp.j by rw [← h1, he]; exact List.mem_map_of_mem h2) hn.1
    ·exact absurd (show x.j ∈ l.map NewOp.j by rw [← h2, ← he]; exact List.mem_map_of_mem h1) hn.1
    ·exact ih hn.2 p h1 q h2 he
  exact this A hn
 intro Hs ws H a w sr wr ag hH hpp gm
 refine ⟨fun D a w => ∃ (vals : Nat → T) (H : GH), (∀ p, p ∈ A → p.j ∈ D → p.k.ok (p.ds.map vals) (vals p.j) ∧ VR H (a.tmps.getD p.d undef) (vals p.j) ∧ ∀ x, x ∈ p.ds → x ∈ D) ∧ (∀ d, d ∈ D → ∃ p, p ∈ A ∧ p.j = d) ∧ (∀ b o, Hs b = some o → H b = some o) ∧ SR n so Hs a ∧
  Gam n C ⟨s, ob ++ Ev vals D A⟩ H a w ∧ Ij Hs pobjs ws w, ?_, ?_, ?_⟩
 ·exact ⟨fun _ => .tup [], H, by simp, by simp, hH, sr, by rw [Pg, List.append_nil]; exact gm, ag⟩
 ·rintro D j ds a w hm Z hjD ⟨vals, H, hd, hDA, hH, sr, gm, ag⟩
  obtain ⟨p, G, he⟩ := List.mem_map.1 hm
  simp only [Prod.mk.injEq] at he
  obtain ⟨rfl, rfl⟩ := he
  obtain ⟨o, ho, hg, hdst, Y⟩ := hstep.get p G
  have Y := DepN.get (vals := vals) (fun d hdd => by
   obtain ⟨q, hq, rfl⟩ := hDA d (Z d hdd)
   rw [Zh hq hn]; exact ⟨_, (hd q hq (Z _ hdd)).1⟩) Y
  have hsl : ∀ i x, Aw.get (Vd A vals p.ds s) i = some x → VR H (a.tmps.getD i undef) x := by
   intro i x h
   rcases Sb h with ⟨d, h1, h2, h3⟩ | h
   ·obtain ⟨q, hq, rfl⟩ := hDA d (Z d h1)
    rw [Sa hq hn] at h2
    rw [← h2, ← h3]; exact (hd q hq (Z _ h1)).2.1
   ·exact gm.slots i x h
  rw [List.nil_append] at Y
  have Y := Y (ob ++ Ev vals D A) H a w { gm with slots := hsl }
  simp only [wpOp, ho]
  rw [if_pos (by simp [Region.wanted, hg])]
  refine .inl (Df ?_ (fun _ _ _ h => h.elim) Y)
  rintro a' w' ⟨σ', H', v, ⟨x, hget, hx, hobj⟩, gm', ha', hHH, hfr⟩
  have ag' : Ij Hs pobjs ws w' := by
   refine ⟨fun b o hb => gm'.held _ _ (hHH _ _ (hH _ _ hb)), fun q O b hb => ?_⟩
   obtain ⟨i, hi, hoi⟩ := hpp q O
   have hoi' : (ob ++ Ev vals D A)[i]? = some q := by rw [List.getElem?_append_left (gs hoi).1]; exact hoi
   exact ((hfr i q hoi' (by simp)).2 b hb).trans (ag.2 q O b hb)
  have hne : ∀ i, i ∈ D → U9 vals p.j x i = vals i := fun i hi => by
   unfold U9
   cases hij : Nat.beq i p.j with
   | true => exact absurd (nq hij ▸ hi) hjD
   | false => rfl
  have hx : p.k.ok (p.ds.map vals) x := by
   cases hk : p.k with
   | us e z es =>
    rw [hk] at hx hobj
    obtain ⟨v, rfl⟩ := hx
    refine ⟨v, rfl, UsR.one (show UsR H' w' v e z es from gm'.objs (.us v e z es) ?_)⟩
    rw [hobj]; simp [NewK.obs]
   | box ty m cs => rw [hk] at hx; exact hx
   | fn f => rw [hk] at hx; exact hx
  have hself : U9 vals p.j x p.j = x := by unfold U9; simp
  have htmp : ∀ i, i ≠ p.d → a'.tmps.getD i undef = a.tmps.getD i undef := fun i hi => by
   rw [ha', hdst]
   simp [Act.put, Array.getD_eq_getD_getElem?, Array.getElem?_setIfInBounds_ne (Ne.symm hi)]
  have hdsm : p.ds.map (U9 vals p.j x) = p.ds.map vals := List.map_congr_left fun i hi => hne i (Z i hi)
  refine ⟨ag', U9 vals p.j x, H', fun q hq hqD => ?_, fun d hdD => ?_, fun b o hb => hHH _ _ (hH _ _ hb), ?_, ?_, ag'⟩
  ·by_cases O : q.j = p.j
   ·have := back q hq p G O
    subst this
    rw [hself, hdsm]
    exact ⟨hx, gm'.slots _ _ hget, fun y hy => List.mem_cons_of_mem _ (Z y hy)⟩
   ·have hqD' : q.j ∈ D := by
     rcases List.mem_cons.1 hqD with h | h
     ·exact absurd h O
     ·exact h
    obtain ⟨h1, h2, h3⟩ := hd q hq hqD'
    rw [hne _ hqD', List.map_congr_left fun i hi => hne i (h3 i hi), htmp q.d fun h => O (hdd q hq p G h)]
    exact ⟨h1, h2.mono hHH, fun y hy => List.mem_cons_of_mem _ (h3 y hy)⟩
  ·rcases List.mem_cons.1 hdD with rfl | hdD
   ·exact ⟨p, G, rfl⟩
   ·exact hDA d hdD
  ·rw [ha', hdst]
   exact sr.free _ _ (hs' p G).2
  ·refine bM (ob := σ'.objs) { gm' with slots := fun i y hy => ?_ } ?_
   ·have hi : i ≠ p.d := fun h => by rw [h, (hs' p G).1] at hy; cases hy
    rw [htmp i hi]
    exact (gm.slots i y hy).mono hHH
   ·rw [hobj, List.append_assoc]
    refine List.Perm.append_left _ ?_
    have := N3 (vals' := U9 vals p.j x) G hn hjD (fun i hi => (hne i hi).symm)
    rw [hself] at this
    exact this
 ·rintro D a w hall ⟨vals, H, hd, hDA, hH, sr, gm, ag⟩
  have M : ∀ p, p ∈ A → p.j ∈ D := fun p G => hall (p.j, p.ds) (List.mem_map_of_mem (f := fun p : NewOp => (p.j, p.ds)) G)
  have kk := News.get vals A [] _ _ _ hb (fun i hi => by cases hi) (fun p G => (hd p G (M p G)).1) k
  rw [K9 M] at gm
  refine kk Hs ws H a w sr wr ag hH (fun q O => ?_) { gm with slots := fun i x hx => ?_ }
  ·obtain ⟨i, hi, hoi⟩ := hpp q O
   refine ⟨i, hi, ?_⟩
   dsimp only
   rw [← K9 M, List.getElem?_append_left (gs hoi).1]; exact hoi
  ·rcases R4 hx with ⟨p, G, rfl, rfl⟩ | hx
   ·exact (hd p G (M p G)).2.1
   ·exact gm.slots i x hx
theorem AP.same {pl : PL} {so : Am} {prot : List Nat} {pobjs : List Ob} (t : Nat) (x : T) (Y : Aw.get s t = some x) (k : AP E n C ops prot pobjs pl so ⟨(t, x) :: s, ob⟩ R) : AP E n C ops prot pobjs pl so ⟨s, ob⟩ R :=
 fun Hs ws H a w Z wr G O D M => k Hs ws H a w Z wr G O D (M.same Y)
end
def Rs (s : Am) (x y : Operand) : Option (IntKind × Int × IntKind × Int) :=
 match Au s x with
 | some (.v (.int k a)) => match Au s y with
  | some (.v (.int k' b)) => some (k, a, k', b)
  | _ => none
 | _ => none
def eF (s : Am) (D : BinOp) (x y : Operand) : Option T :=
 match Rs s x y with
 | some (.i64, a, .i64, b) => match D with
  | .lss => some (.v (.bool (decide (a < b))))
  | .leq => some (.v (.bool (decide (a ≤ b))))
  | .gtr => some (.v (.bool (decide (a > b))))
  | .geq => some (.v (.bool (decide (a ≥ b))))
  | .eql => some (.v (.bool (a == b)))
  | .neq => some (.v (.bool (a != b)))
  | .add => some (.v (.int .i64 (wr (a + b))))
  | .sub => some (.v (.int .i64 (wr (a - b))))
  | .mul => some (.v (.int .i64 (wr (a * b))))
  | _ => none
 | _ => none
def Ta (E : Env) (s : Am) (t : TypeId) (x : Operand) (f : Nat) : Option T :=
 match E.tab t with
 | some ti => match ti.kind with
  | .struct fs => match fs[f]? with
   | some (off, ft) => match E.tab ft with
    | some fi => bif Nat.beq fi.size 0 then none else
     match Au s x with
     | some (.v (.pointer (some ⟨b, o, none⟩))) => some (.v (.pointer (some ⟨b, o + off, none⟩)))
     | some (.eptr cs) => bif Nat.ble off cs.length then some (.eptr (cs.drop off)) else none
     | _ => none
    | none => none
   | none => none
  | _ => none
 | none => none
def Y6 (E : Env) (s : Am) (c : Call) : Option T :=
 match c with
 | ⟨.builtin .min, ⟨[x, y]⟩, _⟩ => match Rs s x y with
  | some (.i64, a, .i64, b) => some (.v (.int .i64 (min a b)))
  | _ => none
 | ⟨.builtin .max, ⟨[x, y]⟩, _⟩ => match Rs s x y with
  | some (.i64, a, .i64, b) => some (.v (.int .i64 (max a b)))
  | _ => none
 | ⟨.builtin .len, ⟨[x]⟩, ⟨[t]⟩⟩ => match E.tab t with
  | some ti => match ti.kind with
   | .string => match Au s x with
    | some (.v (.string b)) => some (.v (.int .i64 b.size))
    | _ => none
   | _ => none
  | none => none
 | _ => none
def Rq (E : Env) (s : Am) : Op → Option T
 | .move x => Au s x
 | .assign x => Au s x
 | .pick c a b => match Au s c with
  | some (.v (.bool true)) => Au s a
  | some (.v (.bool false)) => Au s b
  | _ => none
 | .nilCheck x => match Au s x with
  | some (.v (.pointer (some b))) => some (.v (.pointer (some b)))
  | some (.eptr cs) => some (.eptr cs)
  | _ => none
 | .extract x i => match Au s x with
  | some (.tup l) => l[i]?
  | _ => none
 | .unOp .not _ x => match Au s x with
  | some (.v (.bool b)) => some (.v (.bool (!b)))
  | _ => none
 | .unOp .neg _ x => match Au s x with
  | some (.v (.int .i64 a)) => some (.v (.int .i64 (wr (0 - a))))
  | _ => none
 | .binOp op _ x y _ => eF s op x y
 | .fieldAddr t x f => Ta E s t x f
 | .call c => Y6 E s c
 | _ => none
section
variable {E : Env} {n : Nat} {C : Ctx} {s : Am} {ob : List Ob} {ops : Array Oper} {R : St → Prop} {dst : Option Tmp} {ty : TypeId} {pos : String} {aft : Array Edge} {g : Option (Nat × Bool)}
theorem Nm {x y : Operand} {k D : IntKind} {a b : Int} (h : Rs s x y = some (k, a, D, b)) : Au s x = some (.v (.int k a)) ∧ Au s y = some (.v (.int D b)) := by
 unfold Rs at h
 split at h
 ·rename_i G
  split at h
  ·rename_i M
   cases h
   exact ⟨G, M⟩
  ·cases h
 ·cases h
theorem dC {M : BinOp} {t O : TypeId} {x y : Operand} {z : T} (h : eF s M x y = some z) : Yp E.P n s ⟨dst, .binOp M t x y O, ty, pos, aft, g⟩ z := by
 unfold eF at h
 split at h <;> first | cases h | skip
 rename_i hi
 obtain ⟨D, G⟩ := Nm hi
 split at h <;> first | cases h | skip
 ·exact hE D G rfl
 ·exact hE D G rfl
 ·exact hE D G rfl
 ·exact hE D G rfl
 ·exact hE D G rfl
 ·exact hE D G rfl
 ·exact D2 D G rfl
 ·exact D2 D G rfl
 ·exact D2 D G rfl
theorem Vz {t : TypeId} {x : Operand} {f : Nat} {z : T} (h : Ta E s t x f = some z) : Yp E.P n s ⟨dst, .fieldAddr t x f, ty, pos, aft, g⟩ z := by
 unfold Ta at h
 split at h <;> first | cases h | skip
 rename_i ti Z
 split at h <;> first | cases h | skip
 rename_i fs Y
 split at h <;> first | cases h | skip
 rename_i M ft O
 split at h <;> first | cases h | skip
 rename_i fi D
 cases hz : Nat.beq fi.size 0 with
 | true => rw [hz] at h; cases h
 | false =>
  rw [hz, cond_false] at h
  split at h <;> first | cases h | skip
  ·rename_i G
   exact Sx Z Y O D hz G
  ·rename_i cs G
   cases hle : Nat.ble M cs.length with
   | true => rw [hle, cond_true] at h; cases h; exact V8 Z Y O D hz G hle
   | false => rw [hle] at h; cases h
theorem aE {c : Call} {z : T} (h : Y6 E s c = some z) : Yp E.P n s ⟨dst, .call c, ty, pos, aft, g⟩ z := by
 unfold Y6 at h
 split at h <;> first | cases h | skip
 ·split at h <;> first | cases h | skip
  rename_i hi
  obtain ⟨D, G⟩ := Nm hi
  exact dF D G
 ·split at h <;> first | cases h | skip
  rename_i hi
  obtain ⟨D, G⟩ := Nm hi
  exact dG D G
 ·split at h <;> first | cases h | skip
  rename_i Y O
  split at h <;> first | cases h | skip
  rename_i M
  split at h <;> first | cases h | skip
  rename_i D
  exact Rj O M D
theorem Nd {M : Op} {z : T} (h : Rq E s M = some z) : Yp E.P n s ⟨dst, M, ty, pos, aft, g⟩ z := by
 unfold Rq at h
 split at h <;> first | cases h | skip
 ·exact Yp.move h
 ·exact Yp.assign h
 ·split at h <;> first | cases h | skip
  ·rename_i G; exact aK G h
  ·rename_i G; exact aL G h
 ·split at h <;> first | cases h | skip
  ·rename_i D; exact Rh D
  ·rename_i D; exact Ri D
 ·split at h <;> first | cases h | skip
  rename_i D; exact Yp.extract D h
 ·split at h <;> first | cases h | skip
  rename_i D; exact Yp.not D
 ·split at h <;> first | cases h | skip
  rename_i D; exact Yp.neg D rfl
 ·exact dC h
 ·exact Vz h
 ·exact aE h
end
def T6 (D : TI) (cs : List T) (off : Nat) : Option T :=
 bif D.isAgg then (bif Nat.beq off 0 && Nat.beq D.size cs.length then some (.agg cs) else none) else cs[off]?
theorem R2 {D : TI} {cs : List T} {off : Nat} {y : T} (h : T6 D cs off = some y) : Ef D cs off = some y := by
 unfold T6 at h
 unfold Ef
 cases ha : D.isAgg with
 | false => rw [ha, cond_false] at h; rw [cond_false]; exact h
 | true =>
  rw [ha, cond_true] at h
  rw [cond_true]
  cases hb : (Nat.beq off 0 && Nat.beq D.size cs.length) with
  | true => rw [hb, cond_true] at h; rw [cond_true]; exact h
  | false => rw [hb] at h; cases h
def Rr (E : Env) (s : Am) : Op → Option T
 | .load t x => match Au s x with
  | some (.eptr cs) => match E.tab t with
   | some fi => T6 fi cs 0
   | none => none
  | _ => none
 | op => Rq E s op
inductive Hn where
 | o (i k : Nat)
 | f (i : Nat) (x : T)
 | l (i : Nat) (c : Int)
 | x (i : Nat) (m : Nat) (e : List T)
 | k (i : Nat) (c : Int)
def Hn.at : Hn → Nat
 | .o i _ => i
 | .f i _ => i
 | .l i _ => i
 | .x i _ _ => i
 | .k i _ => i
def dX (E : Env) (s : Am) (ob : List Ob) (k : Nat) : Op → Option (T × Prop)
 | .load t x => match Au s x with
  | some (.v (.pointer (some ⟨b, off, none⟩))) => match ob[k]? with
   | some (.arr b' _ _ _ [e]) => match E.tab t with
    | some fi => match T6 fi e off with
     | some y => some (y, b = b')
     | none => none
    | none => none
   | _ => none
  | _ => none
 | _ => none
def fL (E : Env) (s : Am) (c : Int) : Op → Option (T × Prop)
 | .call ⟨.builtin .len, ⟨[x]⟩, ⟨[t]⟩⟩ => match E.tab t with
  | some ti => match ti.kind with
   | .slice _ => match Au s x with
    | some (.list _ es) => some (.v (.int .i64 c), (es.length : Int) = c)
    | _ => none
   | _ => none
  | none => none
 | _ => none
def fM (E : Env) (s : Am) (m : Nat) (e : List T) : Op → Option (T × Prop)
 | .indexAddr t x y => match E.tab t with
  | some ti => match ti.kind with
   | .slice el => match E.tab el with
    | some fi => match Au s x with
     | some (.list sz es) => bif Nat.beq fi.size sz then
      (match Au s y with
      | some (.v (.int _ i)) => some (.eptr e, i = (m : Int) ∧ es[m]? = some e)
      | _ => none) else none
     | _ => none
    | none => none
   | _ => none
  | none => none
 | _ => none
def T5 (E : Env) (n : Nat) (s : Am) (ob : List Ob) (d : Nat) (o : Oper) : Hn → Option (T × Prop)
 | .o _ k => dX E s ob k o.op
 | .f _ x => some (x, Yd E.P n s ob ⟨some d, o.op, o.type, o.pos, o.after, none⟩ x)
 | .l _ c => fL E s c o.op
 | .x _ m e => fM E s m e o.op
 | .k _ c => match Rq E s o.op with
  | some (.v (.int kk e)) => some (.v (.int kk c), e = c)
  | _ => none
section
variable {E : Env} {n : Nat} {C : Ctx} {s : Am} {ob : List Ob} {ops : Array Oper} {R : St → Prop} {dst : Option Tmp} {ty : TypeId} {pos : String} {aft : Array Edge} {g : Option (Nat × Bool)}
theorem Nf {D : Op} {z : T} (h : Rr E s D = some z) : Yd E.P n s ob ⟨dst, D, ty, pos, aft, g⟩ z := by
 unfold Rr at h
 split at h
 ·split at h <;> first | cases h | skip
  rename_i M
  split at h <;> first | cases h | skip
  rename_i G
  exact aN G M (R2 h)
 ·exact (Nd h).yd
theorem Rx {d : Nat} {o : Oper} {hn : Hn} {z : T} {p : Prop} (h : T5 E n s ob d o hn = some (z, p)) (G : p) : Yd E.P n s ob ⟨some d, o.op, o.type, o.pos, o.after, none⟩ z := by
 unfold T5 at h
 split at h
 ·unfold dX at h
  split at h <;> first | cases h | skip
  rename_i O
  split at h <;> first | cases h | skip
  rename_i D
  split at h <;> first | cases h | skip
  rename_i M
  split at h <;> first | cases h | skip
  rename_i Y
  split at h <;> first | cases h | skip
  rename_i hy
  subst G
  rw [O]
  exact Gt _ 0 _ Y D M rfl (by omega) (R2 hy)
 ·cases h; exact G
 ·unfold fL at h
  split at h <;> first | cases h | skip
  rename_i O
  split at h <;> first | cases h | skip
  rename_i Y
  split at h <;> first | cases h | skip
  rename_i M
  split at h <;> first | cases h | skip
  rename_i D
  subst G
  rw [O]
  exact (Ts Y M D).yd
 ·unfold fM at h
  split at h <;> first | cases h | skip
  rename_i O
  split at h <;> first | cases h | skip
  rename_i Y
  split at h <;> first | cases h | skip
  rename_i M
  split at h <;> first | cases h | skip
  split at h <;> first | cases h | skip
  rename_i fi Z _ sz es D
  cases hb : Nat.beq fi.size sz with
  | false => rw [hb] at h; cases h
  | true =>
   rw [hb, cond_true] at h
   split at h <;> first | cases h | skip
   rename_i hy
   rw [O]
   exact (V7 Y M Z (nq hb) D hy G.1 G.2).yd
 ·split at h <;> first | cases h | skip
  rename_i D
  subst G
  exact (Nd D).yd
end
def Fu (ops : Array Oper) (s : Am) : Option (Nat × Bool) → Option Bool
 | none => some true
 | some (j, want) => match ops[j]? with
  | some o => match o.dst with
   | some t => match get s t with
    | some (.v (.bool true)) => some want
    | some (.v (.bool false)) => some (!want)
    | _ => none
   | none => none
  | none => none
def Lw (E : Env) (n : Nat) (ops : Array Oper) (ob : List Ob) : Nat → Nat → List Oper → Am → List Hn → Prop → Option (Prop × List Oper × Am)
 | 0, _, l, s, _, p => some (p, l, s)
 | _ + 1, _, [], _, _, _ => none
 | m + 1, i, o :: l, s, hs, p => match o.dst with
  | none => none
  | some d => bif Nat.blt d n then
   (match Fu ops s o.guard with
   | none => none
   | some false => Lw E n ops ob m (i + 1) l ((d, .v undef) :: s) hs p
   | some true => match hs with
    | [] => match Rr E s o.op with
     | some x => Lw E n ops ob m (i + 1) l ((d, x) :: s) [] p
     | none => none
    | h :: hs => bif Nat.beq h.at i then
      (match T5 E n s ob d o h with
      | some (x, q) => Lw E n ops ob m (i + 1) l ((d, x) :: s) hs (q ∧ p)
      | none => none)
     else
      (match Rr E s o.op with
      | some x => Lw E n ops ob m (i + 1) l ((d, x) :: s) (h :: hs) p
      | none => none)) else none
section
variable {E : Env} {n : Nat} {C : Ctx} {s : Am} {ob : List Ob} {ops : Array Oper} {R : St → Prop}
theorem Gv {j : Nat} {D v : Bool} (h : Fu ops s (some (j, D)) = some v) : ∃ t b, (ops[j]?).bind (·.dst) = some t ∧ get s t = some (.v (.bool b)) ∧ (v = true → b = D) ∧ (v = false → b = !D) := by
 simp only [Fu] at h
 split at h
 ·rename_i o Y
  split at h
  ·rename_i t O
   have M : (ops[j]?).bind (·.dst) = some t := by rw [Y]; exact O
   split at h
   ·rename_i G
    cases h
    exact ⟨t, true, M, G, by cases D <;> simp, by cases D <;> simp⟩
   ·rename_i G
    cases h
    exact ⟨t, false, M, G, by cases D <;> simp, by cases D <;> simp⟩
   ·cases h
  ·cases h
 ·cases h
theorem Th {d : Nat} {o : Oper} {l : List Oper} {x : T} (hg : Fu ops s o.guard = some true) (D : o.dst = some d) (O : Yd E.P n s ob ⟨some d, o.op, o.type, o.pos, o.after, none⟩ x) (M : Nat.blt d n = true)
  (k : AO E n C ops l ⟨(d, x) :: s, ob⟩ R) : AO E n C ops (o :: l) ⟨s, ob⟩ R := by
 obtain ⟨dst, op, ty, pos, aft, g⟩ := o
 cases D
 cases g with
 | none => exact hF O M k
 | some g =>
  obtain ⟨j, G⟩ := g
  obtain ⟨t, b, Y, Z, h3, _⟩ := Gv hg
  have := h3 rfl
  exact AO.guard Y Z (Cj M) (fun _ => hF O M k) (fun h => by rw [this] at h; cases G <;> cases h)
theorem fF {d : Nat} {o : Oper} {l : List Oper} (hg : Fu ops s o.guard = some false) (D : o.dst = some d) (Z : Nat.blt d n = true)
  (k : AO E n C ops l ⟨(d, .v undef) :: s, ob⟩ R) : AO E n C ops (o :: l) ⟨s, ob⟩ R := by
 obtain ⟨dst, op, ty, pos, aft, g⟩ := o
 cases D
 cases g with
 | none => cases hg
 | some g =>
  obtain ⟨j, G⟩ := g
  obtain ⟨t, b, M, O, _, Y⟩ := Gv hg
  have := Y rfl
  exact AO.guard M O (Cj Z) (fun h => by rw [this] at h; cases G <;> cases h) (fun _ => k)
theorem E3 : ∀ (m i : Nat) (l : List Oper) (s : Am) (O : List Hn) (p : Prop) {P : Prop} {l' : List Oper} {s' : Am}, Lw E n ops ob m i l s O p = some (P, l', s') → P →
  p ∧ (AO E n C ops l' ⟨s', ob⟩ R → AO E n C ops l ⟨s, ob⟩ R)
 | 0, i, l, s, O, p, P, l', s', h, hP => by cases h; exact ⟨hP, id⟩
 | m + 1, i, [], s, O, p, P, l', s', h, hP => by cases h
 | m + 1, i, o :: l, s, O, p, P, l', s', h, hP => by
  simp only [Lw] at h
  split at h
  ·cases h
  ·rename_i d D
   cases hd : Nat.blt d n with
   | false => rw [hd] at h; cases h
   | true =>
    rw [hd, cond_true] at h
    split at h
    ·cases h
    ·rename_i Y
     obtain ⟨G, M⟩ := E3 m (i + 1) l _ O p h hP
     exact ⟨G, fun k => fF Y D hd (M k)⟩
    ·rename_i Y
     split at h
     ·split at h
      ·rename_i x Z
       obtain ⟨G, M⟩ := E3 m (i + 1) l _ _ p h hP
       exact ⟨G, fun k => Th Y D (Nf Z) hd (M k)⟩
      ·cases h
     ·rename_i hn O
      cases hb : Nat.beq hn.at i with
      | true =>
       rw [hb, cond_true] at h
       split at h
       ·rename_i x q Z
        obtain ⟨G, M⟩ := E3 m (i + 1) l _ _ _ h hP
        exact ⟨G.2, fun k => Th Y D (Rx Z G.1) hd (M k)⟩
       ·cases h
      | false =>
       rw [hb, cond_false] at h
       split at h
       ·rename_i x Z
        obtain ⟨G, M⟩ := E3 m (i + 1) l _ _ p h hP
        exact ⟨G, fun k => Th Y D (Nf Z) hd (M k)⟩
       ·cases h
theorem bz : (∀ b, (true && b) = b) ∧ (∀ b, (false && b) = false) ∧ (∀ b, (true || b) = true) ∧ (∀ b, (false || b) = b) ∧ (!true) = false ∧ (!false) = true ∧ (∀ a b : Bool, cond true a b = a) ∧ (∀ a b : Bool, cond false a b = b) := by simp
theorem A2 {α : Type} {f : α → List T} {l : List α} : ((l.map f).length : Int) = (l.length : Int) := by rw [List.length_map]
theorem Af (m : Nat) {l D : List Oper} {s' : Am} (h : Lw E n ops ob m 0 l s [] True = some (True, D, s')) (k : AO E n C ops D ⟨s', ob⟩ R) : AO E n C ops l ⟨s, ob⟩ R :=
 (E3 m 0 l s [] True h trivial).2 k
theorem Ai {id : Nat} {y : Code} {Q : Exit → St → Prop} {s' : Am} (h : Lw E n ops ob ops.size 0 ops.toList s [] True = some (True, [], s')) (k : AW E n C y ⟨s', ob⟩ Q) : AW E n C (.seq (.region id ops false) y) ⟨s, ob⟩ Q :=
 gR (gN ((E3 _ 0 _ s [] True h trivial).2 (gO k)))
theorem A8 {id : Nat} {y : Code} {Q : Exit → St → Prop} {s' : Am} {P : Prop} (D : List Hn) (h : Lw E n ops ob ops.size 0 ops.toList s D True = some (P, [], s')) (G : P) (k : AW E n C y ⟨s', ob⟩ Q) :
  AW E n C (.seq (.region id ops false) y) ⟨s, ob⟩ Q :=
 gR (gN ((E3 _ 0 _ s D True h G).2 (gO k)))
theorem Vh {id : Nat} {Q : Exit → St → Prop} {s' : Am} (h : Lw E n ops ob ops.size 0 ops.toList s [] True = some (True, [], s')) (k : Q .normal ⟨s', ob⟩) : AW E n C (.region id ops false) ⟨s, ob⟩ Q :=
 gN ((E3 _ 0 _ s [] True h trivial).2 (gO k))
theorem G7 {id : Nat} {Q : Exit → St → Prop} {s' : Am} {P : Prop} (D : List Hn) (h : Lw E n ops ob ops.size 0 ops.toList s D True = some (P, [], s')) (G : P) (k : Q .normal ⟨s', ob⟩) :
  AW E n C (.region id ops false) ⟨s, ob⟩ Q :=
 gN ((E3 _ 0 _ s D True h G).2 (gO k))
theorem Ao (m : Nat) (D : List Hn) {l G : List Oper} {s' : Am} {P : Prop} (h : Lw E n ops ob m 0 l s D True = some (P, G, s')) (M : P) (k : AO E n C ops G ⟨s', ob⟩ R) : AO E n C ops l ⟨s, ob⟩ R :=
 (E3 m 0 l s D True h M).2 k
def T4 (E : Env) (so s : Am) (d : Nat) (D : Op) : Option (T × Bool) :=
 match (match D with
  | .pick .. => none
  | D => Rr E so D) with
 | some x => some (x, true)
 | none => match Rq E s D with
  | some x => bif free so (some d) then some (x, false) else none
  | none => none
def eC (b : Bool) (so : Am) (d : Nat) (x : T) : Am := bif b then (d, x) :: so else so
def pd : Nat → Nat → List Nat → PL
 | 0, _, _ => .nil
 | m + 1, i, a => bif a.contains i then .act i (pd m (i + 1) a) else .still i (pd m (i + 1) a)
def Gq (E : Env) (n : Nat) (ops : Array Oper) (pobjs : List Ob) : Nat → Nat → PL → Am → Am → List Hn → Prop → Option (Prop × PL × Am × Am)
 | 0, _, l, so, s, _, p => some (p, l, so, s)
 | m + 1, i, .still j l, so, s, hs, p => match ops[j]? with
  | none => none
  | some o => match o.dst with
   | none => none
   | some d => bif Nat.blt d n then
    (match Fu ops s o.guard with
    | none => none
    | some false => bif free so (some d) then Gq E n ops pobjs m (i + 1) l so ((d, .v undef) :: s) hs p else none
    | some true => match hs with
     | [] => match T4 E so s d o.op with
      | some (x, b) => Gq E n ops pobjs m (i + 1) l (eC b so d x) ((d, x) :: s) [] p
      | none => none
     | h :: hs => bif Nat.beq h.at i then
       (match T5 E n so pobjs d o h with
       | some (x, q) => Gq E n ops pobjs m (i + 1) l ((d, x) :: so) ((d, x) :: s) hs (q ∧ p)
       | none => none)
      else
       (match T4 E so s d o.op with
       | some (x, b) => Gq E n ops pobjs m (i + 1) l (eC b so d x) ((d, x) :: s) (h :: hs) p
       | none => none)) else none
 | m + 1, i, .act j l, so, s, hs, p => match ops[j]? with
  | none => none
  | some o => match o.dst with
   | none => none
   | some d => bif Nat.blt d n && free so (some d) then
    (match Fu ops s o.guard with
    | some false => Gq E n ops pobjs m (i + 1) l so ((d, .v undef) :: s) hs p
    | _ => none) else none
 | _ + 1, _, _, _, _, _, _ => none
section
variable {prot : List Nat} {pobjs : List Ob} {so : Am}
theorem So {j d : Nat} {o : Oper} {l : PL} {x : T} (M : ops[j]? = some o) (hg : Fu ops s o.guard = some true) (D : o.dst = some d)
  (O : Yd E.P n so pobjs ⟨some d, o.op, o.type, o.pos, o.after, none⟩ x) (G : Nat.blt d n = true)
  (k : AP E n C ops prot pobjs l ((d, x) :: so) ⟨(d, x) :: s, ob⟩ R) : AP E n C ops prot pobjs (.still j l) so ⟨s, ob⟩ R := by
 obtain ⟨dst, op, ty, pos, aft, g⟩ := o
 cases D
 cases g with
 | none => exact Tg M O rfl (Cj G) k
 | some g =>
  obtain ⟨i, Y⟩ := g
  obtain ⟨t, b, Z, h2, h3, _⟩ := Gv hg
  exact H5 M Z h2 (h3 rfl) O (Cj G) k
theorem bR {j d : Nat} {o : Oper} {l : PL} {x : T} (M : ops[j]? = some o) (hg : Fu ops s o.guard = some true) (D : o.dst = some d)
  (O : Yp E.P n s ⟨some d, o.op, o.type, o.pos, o.after, none⟩ x) (G : Nat.blt d n = true) (hf : free so (some d) = true)
  (k : AP E n C ops prot pobjs l so ⟨(d, x) :: s, ob⟩ R) : AP E n C ops prot pobjs (.still j l) so ⟨s, ob⟩ R := by
 obtain ⟨dst, op, ty, pos, aft, g⟩ := o
 cases D
 cases g with
 | none => exact AP.new M O rfl (Cj G) k hf
 | some g =>
  obtain ⟨i, Y⟩ := g
  obtain ⟨t, b, Z, h2, h3, _⟩ := Gv hg
  exact dO M Z h2 (h3 rfl) O (Cj G) k hf
theorem Qf {j d : Nat} {o : Oper} {l : PL} (Z : ops[j]? = some o) (hg : Fu ops s o.guard = some false) (D : o.dst = some d) (Y : Nat.blt d n = true) (hf : free so (some d) = true)
  (k : AP E n C ops prot pobjs l so ⟨(d, .v undef) :: s, ob⟩ R) : AP E n C ops prot pobjs (.still j l) so ⟨s, ob⟩ R ∧ AP E n C ops prot pobjs (.act j l) so ⟨s, ob⟩ R := by
 obtain ⟨dst, op, ty, pos, aft, g⟩ := o
 cases D
 cases g with
 | none => cases hg
 | some g =>
  obtain ⟨i, aa⟩ := g
  obtain ⟨t, b, G, M, _, O⟩ := Gv hg
  exact ⟨AP.skip Z rfl G M (O rfl) (Cj Y) k hf, bQ Z rfl G M (O rfl) (Cj Y) k hf⟩
theorem Qe {j d : Nat} {o : Oper} {l : PL} {x : T} {b : Bool} (O : ops[j]? = some o) (hg : Fu ops s o.guard = some true) (G : o.dst = some d) (M : Nat.blt d n = true)
  (D : T4 E so s d o.op = some (x, b)) (k : AP E n C ops prot pobjs l (eC b so d x) ⟨(d, x) :: s, ob⟩ R) : AP E n C ops prot pobjs (.still j l) so ⟨s, ob⟩ R := by
 unfold T4 at D
 split at D
 ·rename_i h
  cases D
  split at h
  ·cases h
  ·exact So O hg G (Nf h) M k
 ·split at D
  ·rename_i h
   cases hf : free so (some d) with
   | false => rw [hf] at D; cases D
   | true =>
    rw [hf, cond_true] at D
    cases D
    exact bR O hg G (Nd h) M hf k
  ·cases D
theorem Fj : ∀ (m i : Nat) (l : PL) (so s : Am) (M : List Hn) (p : Prop) {P : Prop} {O : PL} {D s' : Am}, Gq E n ops pobjs m i l so s M p = some (P, O, D, s') → P →
  p ∧ (AP E n C ops prot pobjs O D ⟨s', ob⟩ R → AP E n C ops prot pobjs l so ⟨s, ob⟩ R)
 | 0, i, l, so, s, M, p, P, O, D, s', h, hP => by
  cases l <;> (simp only [Gq] at h; cases h; exact ⟨hP, id⟩)
 | m + 1, i, .still j l, so, s, M, p, P, O, D, s', h, hP => by
  simp only [Gq] at h
  split at h
  ·cases h
  ·rename_i o ho
   split at h
   ·cases h
   ·rename_i d G
    cases hd : Nat.blt d n with
    | false => rw [hd] at h; cases h
    | true =>
     rw [hd, cond_true] at h
     split at h
     ·cases h
     ·rename_i hg
      cases hf : free so (some d) with
      | false => rw [hf] at h; cases h
      | true =>
       rw [hf, cond_true] at h
       obtain ⟨Y, Z⟩ := Fj m (i + 1) l so _ M p h hP
       exact ⟨Y, fun k => (Qf ho hg G hd hf (Z k)).1⟩
     ·rename_i hg
      split at h
      ·split at h
       ·rename_i x b hx
        obtain ⟨Y, Z⟩ := Fj m (i + 1) l _ _ _ p h hP
        exact ⟨Y, fun k => Qe ho hg G hd hx (Z k)⟩
       ·cases h
      ·rename_i hn M
       cases hb : Nat.beq hn.at i with
       | true =>
        rw [hb, cond_true] at h
        split at h
        ·rename_i x q hx
         obtain ⟨Y, Z⟩ := Fj m (i + 1) l _ _ _ _ h hP
         exact ⟨Y.2, fun k => So ho hg G (Rx hx Y.1) hd (Z k)⟩
        ·cases h
       | false =>
        rw [hb, cond_false] at h
        split at h
        ·rename_i x b hx
         obtain ⟨Y, Z⟩ := Fj m (i + 1) l _ _ _ p h hP
         exact ⟨Y, fun k => Qe ho hg G hd hx (Z k)⟩
        ·cases h
 | m + 1, i, .act j l, so, s, M, p, P, O, D, s', h, hP => by
  simp only [Gq] at h
  split at h
  ·cases h
  ·rename_i o ho
   split at h
   ·cases h
   ·rename_i d G
    cases hd : Nat.blt d n with
    | false => rw [hd] at h; cases h
    | true =>
     cases hf : free so (some d) with
     | false => rw [hd, hf] at h; cases h
     | true =>
      rw [hd, hf] at h
      simp only [Bool.and_true, cond_true] at h
      split at h
      ·rename_i hg
       obtain ⟨Y, Z⟩ := Fj m (i + 1) l so _ M p h hP
       exact ⟨Y, fun k => (Qf ho hg G hd hf (Z k)).2⟩
      ·cases h
 | m + 1, i, .nil, so, s, M, p, P, O, D, s', h, hP => by simp [Gq] at h
 | m + 1, i, .two .., so, s, M, p, P, O, D, s', h, hP => by simp [Gq] at h
 | m + 1, i, .three .., so, s, M, p, P, O, D, s', h, hP => by simp [Gq] at h
 | m + 1, i, .four .., so, s, M, p, P, O, D, s', h, hP => by simp [Gq] at h
 | m + 1, i, .five .., so, s, M, p, P, O, D, s', h, hP => by simp [Gq] at h
 | m + 1, i, .par .., so, s, M, p, P, O, D, s', h, hP => by simp [Gq] at h
 | m + 1, i, .drop .., so, s, M, p, P, O, D, s', h, hP => by simp [Gq] at h
theorem Bb (m : Nat) {l G : PL} {D s' : Am} (h : Gq E n ops pobjs m 0 l so s [] True = some (True, G, D, s')) (k : AP E n C ops prot pobjs G D ⟨s', ob⟩ R) :
  AP E n C ops prot pobjs l so ⟨s, ob⟩ R :=
 (Fj m 0 l so s [] True h trivial).2 k
theorem Cg (m : Nat) (G : List Hn) {l M : PL} {D s' : Am} {P : Prop} (h : Gq E n ops pobjs m 0 l so s G True = some (P, M, D, s')) (O : P) (k : AP E n C ops prot pobjs M D ⟨s', ob⟩ R) :
  AP E n C ops prot pobjs l so ⟨s, ob⟩ R :=
 (Fj m 0 l so s G True h O).2 k
theorem Za {d : Nat} {c : Operand} {args : Array Operand} {Y : Array TypeId} {ty : TypeId} {pos : String} {aft : Array Edge} {f : FuncId} {Z D G ys : List T} {y X : T}
  (h : ACalls E f ys [] (fun x new => x = X ∧ new = [])) (k : R ⟨(d, X) :: s, ob⟩)
  (hc : Au s c = some y) (hf : Kg y = some (f, D, G)) (hx : Fh s args.toList = some Z) (O : D ++ Z ++ G = ys)
  (hd : Nat.blt d n = true) (M : Eu X = true) :
  AX E n C [] ⟨some d, .call { callee := .value c, args := args, argTypes := Y }, ty, pos, aft, none⟩ ⟨s, ob⟩ R :=
 By hc (.refl _) hf hx (.rest _) O h (Cj hd) (fun _ _ h => by rw [h.1]; exact M) (fun x h => by obtain ⟨_, rfl, _⟩ := h; exact k)
theorem Br {d : Nat} {c : Operand} {args : Array Operand} {Y : Array TypeId} {ty : TypeId} {pos : String} {aft : Array Edge} {f : FuncId} {xs D G ys : List T} {y X : T} {l : List Oper}
  (h : ACalls E f ys [] (fun x new => x = X ∧ new = [])) (k : AO E n C ops l ⟨(d, X) :: s, ob⟩ R)
  (hc : Au s c = some y := by exact rfl) (hf : Kg y = some (f, D, G) := by exact rfl) (hx : Fh s args.toList = some xs := by exact rfl) (O : D ++ xs ++ G = ys := by exact rfl)
  (Z : Nat.blt d n = true := by exact rfl) (M : Eu X = true := by exact rfl) :
  AO E n C ops (⟨some d, .call { callee := .value c, args := args, argTypes := Y }, ty, pos, aft, none⟩ :: l) ⟨s, ob⟩ R :=
 gP [] rfl (Za h k hc hf hx O Z M)
theorem Gh {i d : Nat} {c : Operand} {args : Array Operand} {Z : Array TypeId} {ty : TypeId} {pos : String} {aft : Array Edge} {f : FuncId} {xs D G ys : List T} {y X : T} {l : PL}
  (ho : ops[i]? = some ⟨some d, .call { callee := .value c, args := args, argTypes := Z }, ty, pos, aft, none⟩) (h : ACalls E f ys [] (fun x new => x = X ∧ new = [])) (k : AP E n C ops prot pobjs l so ⟨(d, X) :: s, ob⟩ R)
  (hc : Au s c = some y := by exact rfl) (hf : Kg y = some (f, D, G) := by exact rfl) (hx : Fh s args.toList = some xs := by exact rfl) (Y : D ++ xs ++ G = ys := by exact rfl)
  (hd : Nat.blt d n = true := by exact rfl) (M : Eu X = true := by exact rfl) (O : free so (some d) = true := by exact rfl) :
  AP E n C ops prot pobjs (.act i l) so ⟨s, ob⟩ R :=
 gV [] ho rfl (by simp) (Za h k hc hf hx Y hd M) O
theorem Ik {i d j t : Nat} {want b : Bool} {c : Operand} {args : Array Operand} {Z : Array TypeId} {ty : TypeId} {pos : String} {aft : Array Edge} {f : FuncId} {xs D G ys : List T} {y X : T} {l : PL}
  (ho : ops[i]? = some ⟨some d, .call { callee := .value c, args := args, argTypes := Z }, ty, pos, aft, some (j, want)⟩) (h : ACalls E f ys [] (fun x new => x = X ∧ new = [])) (k : AP E n C ops prot pobjs l so ⟨(d, X) :: s, ob⟩ R)
  (hj : (ops[j]?).bind (·.dst) = some t := by exact rfl) (hs : get s t = some (.v (.bool b)) := by exact rfl) (hb : b = want := by exact rfl)
  (hc : Au s c = some y := by exact rfl) (hf : Kg y = some (f, D, G) := by exact rfl) (hx : Fh s args.toList = some xs := by exact rfl) (Y : D ++ xs ++ G = ys := by exact rfl)
  (hd : Nat.blt d n = true := by exact rfl) (M : Eu X = true := by exact rfl) (O : free so (some d) = true := by exact rfl) :
  AP E n C ops prot pobjs (.act i l) so ⟨s, ob⟩ R :=
 dP [] ho hj hs hb (by simp) (Za h k hc hf hx Y hd M) O
end
theorem Ua {id : Nat} {y : Code} {Q : Exit → St → Prop} {s' D : Am} {P : Prop} (pl : PL) (prot : List Nat) (pobjs : List Ob) (G : List Hn) (Y : prot.map (fun i => ob[i]?) = pobjs.map some)
  (h : Gq E n ops pobjs ops.size 0 pl s s G True = some (P, .nil, D, s')) (O : P) (k : AW E n C y ⟨s', ob⟩ Q) (M : Ov ops pl = true := by kernel_rfl) :
  AW E n C (.seq (.region id ops true) y) ⟨s, ob⟩ Q :=
 gR (Jb pl prot pobjs M Y ((Fj _ 0 pl s s G True h O).2 (AP.nil k)))
theorem Ll {id : Nat} {Q : Exit → St → Prop} {s' D : Am} {P : Prop} (pl : PL) (prot : List Nat) (pobjs : List Ob) (G : List Hn) (Y : prot.map (fun i => ob[i]?) = pobjs.map some)
  (h : Gq E n ops pobjs ops.size 0 pl s s G True = some (P, .nil, D, s')) (O : P) (k : Q .normal ⟨s', ob⟩) (M : Ov ops pl = true := by kernel_rfl) :
  AW E n C (.region id ops true) ⟨s, ob⟩ Q :=
 Jb pl prot pobjs M Y ((Fj _ 0 pl s s G True h O).2 (AP.nil k))
theorem Ca {id : Nat} {Q : Exit → St → Prop} (pl : PL) (prot : List Nat) (pobjs : List Ob) (G : prot.map (fun i => ob[i]?) = pobjs.map some)
  (h : AP E n C ops prot pobjs pl s ⟨s, ob⟩ (fun σ' => Q .normal σ')) (D : Ov ops pl = true := by kernel_rfl) : AW E n C (.region id ops true) ⟨s, ob⟩ Q := Jb pl prot pobjs D G h
theorem lf {M : Am → List Ob → Prop} {D s' : Am} {ob' : List Ob} (G : M s' ob') (Z : Sub (s' ++ D) s) (ks : List Nat) (O : C1 ob ks = some ob') (Y : ks.Nodup := by decide) :
  ∃ s' ob', M s' ob' ∧ Left (s' ++ D) ob' ⟨s, ob⟩ := ⟨_, _, G, Z, ks, O, Y⟩
theorem fK {s : Am} : ∀ {l : Am}, l.map (fun p => get s p.1) = l.map (fun p => some p.2) → Sub l s
 | [], _ => trivial
 | (i, x) :: l, h => by
  simp only [List.map_cons, List.cons.injEq] at h
  exact ⟨h.1, fK h.2⟩
theorem lg {M : Am → List Ob → Prop} {D s' : Am} {ob' : List Ob} (G : M s' ob') (ks : List Nat) (Z : (s' ++ D).map (fun p => get s p.1) = (s' ++ D).map (fun p => some p.2) := by exact rfl)
  (O : C1 ob ks = some ob' := by exact rfl) (Y : ks.Nodup := by decide) :
  ∃ s' ob', M s' ob' ∧ Left (s' ++ D) ob' ⟨s, ob⟩ := ⟨_, _, G, fK Z, ks, O, Y⟩
theorem Ar {t : Nat} {x y : Code} {Q : Exit → St → Prop} {b : Bool} {α : Type} {A B r : α} (h : (if b = true then A else B) = r) (G : get s t = some (.v (.bool b)))
  (h1 : b = true → A = r → AW E n C x ⟨s, ob⟩ Q) (h2 : b = false → B = r → AW E n C y ⟨s, ob⟩ Q) : AW E n C (.cond (.tmp t) x y) ⟨s, ob⟩ Q :=
 AW.cond rfl G (fun D => h1 D (Bp D h)) (fun D => h2 D (Bq D h))
section
variable {σ : St} {dst : Option Tmp} {ty : TypeId} {pos : String} {aft : Array Edge} {g : Option (Nat × Bool)}
theorem AX.lt {d : Nat} {t : TypeId} {m : Nat} {D : Array (Nat × Operand)} {ti ei : TI} {e : Nat} {z : Value} {l : List T} (sz : Nat) (es : List (List T)) (k : R ⟨(d, .list sz es) :: s, ob⟩)
  (ht : E.tab t = some ti := by exact rfl) (O : ti.kind = .slice e := by exact rfl) (he : E.tab e = some ei := by exact rfl) (hz : ei.zero = some z := by exact rfl) (h1 : z.cells.toList.all (·.oneCell') = true := by exact rfl)
  (hsz : ei.size = sz := by exact rfl) (G : z.cells.size = sz := by exact rfl) (hb : Nat.ble (m * sz) 16777216 = true := by exact rfl)
  (Y : Nat.ble m 16777216 = true := by exact rfl) (hf : E5 s (fun i => some (i * sz, sz)) (Je (Ed z) m) D.toList = some l := by exact rfl) (Z : rows sz m l = es := by exact rfl) (M : Nat.blt d n = true := by exact rfl) :
  AX E n C [] ⟨some d, .buildSlice t m D, ty, pos, aft, g⟩ ⟨s, ob⟩ R := dN ht O he hz h1 hsz G hb Y hf Z (Cj M) k
def gY := @AX.lt
theorem Mb (ks : List Nat) {d : Nat} {c : Operand} {args : Array Operand} {Z : Array TypeId} {f : FuncId} {D G xs ys : List T} {fp : List Ob} {Rc : T → List Ob → List Ob → Prop} {R : St → Prop}
  (h : ACalls E f ys fp (fun x M => ∃ os new, M = os ++ new ∧ os.length = fp.length ∧ Rc x os new)) (k : ∀ x os new, os.length = fp.length → Rc x os new → R ⟨El σ.slots (some d) x, Fr σ.objs ks os ++ new⟩)
  (hc : (Au σ.slots c).bind Kg = some (f, D, G) := by exact rfl) (hx : Fh σ.slots args.toList = some xs := by exact rfl) (Y : D ++ xs ++ G = ys := by exact rfl)
  (hk : C1 σ.objs ks = some fp := by exact rfl) (O : ks.Nodup := by decide) (hd : Nat.blt d n = true := by exact rfl) :
  AX E n C ks ⟨some d, .call { callee := .value c, args := args, argTypes := Z }, ty, pos, aft, g⟩ σ R := Sj ks hc hx Y hk O h (Cj hd) k
theorem Dd {α : Type} {fr : α → List T} {Y Z lr : List α} (ks : Nat) {d : Nat} {so x : Operand} {t : TypeId} {ti ei : TI} {e sz : Nat} {z v : Value} {R : St → Prop}
  (G : σ.objs[ks]? = some (.us v e sz (Y.map fr))) (O : Dy Y Z = some lr)
  (k : ∀ v', R ⟨El σ.slots (some d) (.v v'), σ.objs.set ks (.us v' e sz (lr.map fr))⟩)
  (hx : Au σ.slots x = some (.list sz (Z.map fr)) := by exact rfl) (hs : Au σ.slots so = some (.v v) := by exact rfl)
  (ht : E.tab t = some ti := by exact rfl) (hk : ti.kind = .slice e := by exact rfl) (he : E.tab e = some ei := by exact rfl) (hz : ei.zero = some z := by exact rfl) (hsz : ei.size = sz := by exact rfl)
  (M : z.cells.size = sz := by exact rfl) (D : Nat.ble ei.bytes 2048 = true := by exact rfl) (hd : Nat.blt d n = true := by exact rfl) :
  AX E n C [ks] ⟨some d, .call { callee := .builtin .append, args := #[so, x], argTypes := #[t, t] }, ty, pos, aft, g⟩ σ R :=
 Ja ks ht hk he hz hsz M D hs G (.list hx) (Uy (F3 O).1) (Ux (F3 O).2) (Cj hd) k
end
def kb (s s' : Am) : Prop := s'.drop (s'.length - s.length) = s ∧ ((s'.take (s'.length - s.length)).all fun p => (get s p.1).isNone) = true
theorem Uo {s : Am} {i : Nat} {x : T} : ∀ {l : Am}, (l.all fun p => (get s p.1).isNone) = true → get s i = some x → get (l ++ s) i = some x
 | [], _, h => h
 | (j, y) :: l, ha, h => by
  simp only [List.all_cons, Bool.and_eq_true] at ha
  simp only [List.cons_append, get]
  cases hb : Nat.beq j i with
  | true =>
   rw [nq hb, h] at ha
   simp at ha
  | false => rw [cond_false]; exact Uo ha.2 h
theorem eV {s s' : Am} (h : kb s s') (i : Nat) (x : T) (M : get s i = some x) : get s' i = some x := by
 obtain ⟨D, G⟩ := h
 rw [← List.take_append_drop (s'.length - s.length) s', D]
 exact Uo G M
theorem Ew {x y : Code} {Q : Exit → St → Prop} (d : Nat) (e : Bool) (h : AW E n C x ⟨s, ob⟩ (Ic (fun σ' => get σ'.slots d = some (.v (.bool e)) ∧ σ'.objs = ob ∧ kb s σ'.slots) Q)) (k : AW E n C y ⟨(d, .v (.bool e)) :: s, ob⟩ Q) : AW E n C (.seq x y) ⟨s, ob⟩ Q :=
 Zs _ h fun σ' ⟨O, M, Y⟩ H a w D => k H a w { D with
  slots := fun i z G => by
   simp only [get] at G
   cases hb : Nat.beq d i with
   | true => rw [hb, cond_true] at G; cases G; rw [← nq hb]; exact D.slots d _ O
   | false => rw [hb, cond_false] at G; exact D.slots i z (eV Y i z G)
  objs := by rw [← M]; exact D.objs
  free := by rw [← M]; exact D.free
  new := by rw [← M]; exact D.new
  nodup := by rw [← M]; exact D.nodup }
theorem jf {d : Nat} {a e : Bool} {s s' : Am} {ob ob' : List Ob} (h : a = e) (h1 : get s' d = some (.v (.bool a))) (h2 : ob' = ob) (D : kb s s') : get s' d = some (.v (.bool e)) ∧ ob' = ob ∧ kb s s' := ⟨h ▸ h1, h2, D⟩
end
theorem Bz {E : Env} {n : Nat} {C : Ctx} {σ : St} {ty : TypeId} {pos : String} {aft : Array Edge} {g : Option (Nat × Bool)} (ks : List Nat) {d : Nat} {c : Operand} {args : Array Operand} {Z : Array TypeId} {f : FuncId} {D G xs ys : List T} {fp : List Ob} {X : T} {O N : List Ob} {R : St → Prop}
  (h : ACalls E f ys fp (Eg fp.length (fun x os new => x = X ∧ os = O ∧ new = N))) (k : R ⟨El σ.slots (some d) X, Fr σ.objs ks O ++ N⟩)
  (hc : (Au σ.slots c).bind Kg = some (f, D, G) := by exact rfl) (hx : Fh σ.slots args.toList = some xs := by exact rfl) (Y : D ++ xs ++ G = ys := by exact rfl)
  (hk : C1 σ.objs ks = some fp := by exact rfl) (M : ks.Nodup := by decide) (hd : Nat.blt d n = true := by exact rfl) :
  AX E n C ks ⟨some d, .call { callee := .value c, args := args, argTypes := Z }, ty, pos, aft, g⟩ σ R :=
 Mb ks h (by rintro _ _ _ _ ⟨rfl, rfl, rfl⟩; exact k) hc hx Y hk M hd
theorem pr {E : Env} {fn : Func} {σ : St} {X : T} (h : Vf E σ.slots σ.objs fn.results.toList [X] := by exact ⟨rfl, True.intro⟩) : eG E fn (fun x new => x = X ∧ new = []) .ret σ := ⟨.inr rfl, [X], [], h, Cv, rfl, rfl⟩
theorem g0 {n : Nat} {C : Ctx} {s : Am} {ob : List Ob} : Ghost n C s ob s [] := Ghost.pick [] (K := []) rfl (by decide)
theorem Em {E : Env} {n : Nat} {C : Ctx} {Q : Exit → St → Prop} {s : Am} {ob : List Ob} {c : Code} (ks : List Nat) {K : List Ob} (D : C1 ob ks = some K) (k : AW E n C c ⟨s, K⟩ Q) (G : ks.Nodup := by decide) : AW E n C c ⟨s, ob⟩ Q := gU (Ghost.pick ks D G) k
theorem Bc {E : Env} {n : Nat} {C : Ctx} {σ : St} {ty : TypeId} {pos : String} {aft : Array Edge} {g : Option (Nat × Bool)} (k i j : Nat) (es' : List (List T)) {t : TypeId} {x y : Operand} {ti : TI} {c : T} {cs : List T} {b off G sz cap : Nat} {es : List (List T)} {e : List T} {R : St → Prop}
  (O : σ.objs[k]? = some (.arr b G sz cap es)) (kk : R ⟨σ.slots, σ.objs.set k (.arr b G sz cap es')⟩)
  (hx : Au σ.slots x = some (.v (.pointer (some ⟨b, off, none⟩))) := by exact rfl) (Z : E.tab t = some ti := by exact rfl) (he : es[i]? = some e := by exact rfl) (Y : off = i * sz + j := by exact rfl)
  (hy : Au σ.slots y = some c := by exact rfl) (hc : Dw c = some cs := by exact rfl) (hsz : ti.size = cs.length := by exact rfl) (M : Nat.ble (j + cs.length) e.length = true := by exact rfl) (D : es.set i (Hc e j cs) = es' := by exact rfl) :
  AX E n C [k] ⟨none, .store t x y, ty, pos, aft, g⟩ σ R := hM k i j Z hx O he Y hy hc hsz (Nat.le_of_ble_eq_true M) rfl D kk
theorem A7 {α β : Type} {l : List α} {i : Int} {f : Nat × α → Option β} {r : β} (h : (ix l i).bind f = some r) : ∃ p, (i = (p.1 : Int) ∧ l[p.1]? = some p.2) ∧ f p = some r := by
 obtain ⟨p, D, G⟩ := Ac h
 exact ⟨p, cU D, G⟩
theorem dW {α β : Type} {n : Int} {z : α} {f : List α → Option β} {r : β} (h : (dR n z).bind f = some r) : ∃ l, (∃ m : Nat, n = (m : Int) ∧ m ≤ 68719476736 ∧ List.replicate m z = l) ∧ f l = some r := by
 obtain ⟨p, D, G⟩ := Ac h
 exact ⟨p, cR D, G⟩
theorem I2 {α β : Type} {a : α} {b : β} : a = a ∧ b = b := ⟨rfl, rfl⟩
theorem I3 {α β γ : Type} {a : α} {b : β} {c : γ} : a = a ∧ b = b ∧ c = c := ⟨rfl, rfl, rfl⟩
theorem I5 {α β γ δ ε : Type} {a : α} {b : β} {c : γ} {d : δ} {e : ε} : a = a ∧ b = b ∧ c = c ∧ d = d ∧ e = e := ⟨rfl, rfl, rfl, rfl, rfl⟩
theorem I7 {α β γ δ ε ζ η : Type} {a : α} {b : β} {c : γ} {d : δ} {e : ε} {f : ζ} {g : η} : a = a ∧ b = b ∧ c = c ∧ d = d ∧ e = e ∧ f = f ∧ g = g := ⟨rfl, rfl, rfl, rfl, rfl, rfl, rfl⟩
theorem J1 {α : Type} {a : α} : a = a ∧ True := ⟨rfl, J⟩
theorem J2 {α β : Type} {a : α} {b : β} : a = a ∧ b = b ∧ True := ⟨rfl, J1⟩
theorem J3 {α β γ : Type} {a : α} {b : β} {c : γ} : a = a ∧ b = b ∧ c = c ∧ True := ⟨rfl, J2⟩
theorem J4 {α β γ δ : Type} {a : α} {b : β} {c : γ} {d : δ} : a = a ∧ b = b ∧ c = c ∧ d = d ∧ True := ⟨rfl, J3⟩
theorem J5 {α β γ δ ε : Type} {a : α} {b : β} {c : γ} {d : δ} {e : ε} : a = a ∧ b = b ∧ c = c ∧ d = d ∧ e = e ∧ True := ⟨rfl, J4⟩
theorem J6 {α β γ δ ε ζ : Type} {a : α} {b : β} {c : γ} {d : δ} {e : ε} {f : ζ} : a = a ∧ b = b ∧ c = c ∧ d = d ∧ e = e ∧ f = f ∧ True := ⟨rfl, J5⟩
theorem J7 {α β γ δ ε ζ η : Type} {a : α} {b : β} {c : γ} {d : δ} {e : ε} {f : ζ} {g : η} : a = a ∧ b = b ∧ c = c ∧ d = d ∧ e = e ∧ f = f ∧ g = g ∧ True := ⟨rfl, J6⟩
theorem J8 {α β γ δ ε ζ η θ : Type} {a : α} {b : β} {c : γ} {d : δ} {e : ε} {f : ζ} {g : η} {h : θ} : a = a ∧ b = b ∧ c = c ∧ d = d ∧ e = e ∧ f = f ∧ g = g ∧ h = h ∧ True := ⟨rfl, J7⟩
theorem J9 {α β γ δ ε ζ η θ ι : Type} {a : α} {b : β} {c : γ} {d : δ} {e : ε} {f : ζ} {g : η} {h : θ} {i : ι} : a = a ∧ b = b ∧ c = c ∧ d = d ∧ e = e ∧ f = f ∧ g = g ∧ h = h ∧ i = i ∧ True := ⟨rfl, J8⟩
theorem gI {α β γ δ ε ζ η θ ι κ : Type} {a : α} {b : β} {c : γ} {d : δ} {e : ε} {f : ζ} {g : η} {h : θ} {i : ι} {j : κ} : a = a ∧ b = b ∧ c = c ∧ d = d ∧ e = e ∧ f = f ∧ g = g ∧ h = h ∧ i = i ∧ j = j ∧ True := ⟨rfl, J9⟩
theorem gH {α β γ δ ε ζ η θ ι κ μ : Type} {a : α} {b : β} {c : γ} {d : δ} {e : ε} {f : ζ} {g : η} {h : θ} {i : ι} {j : κ} {k : μ} : a = a ∧ b = b ∧ c = c ∧ d = d ∧ e = e ∧ f = f ∧ g = g ∧ h = h ∧ i = i ∧ j = j ∧ k = k ∧ True := ⟨rfl, gI⟩
theorem gD {α β γ δ ε ζ η θ ι κ μ ν : Type} {a : α} {b : β} {c : γ} {d : δ} {e : ε} {f : ζ} {g : η} {h : θ} {i : ι} {j : κ} {k : μ} {l : ν} : a = a ∧ b = b ∧ c = c ∧ d = d ∧ e = e ∧ f = f ∧ g = g ∧ h = h ∧ i = i ∧ j = j ∧ k = k ∧ l = l ∧ True := ⟨rfl, gH⟩
theorem fU {α β γ δ ε ζ η θ ι κ μ ν ξ : Type} {a : α} {b : β} {c : γ} {d : δ} {e : ε} {f : ζ} {g : η} {h : θ} {i : ι} {j : κ} {k : μ} {l : ν} {m : ξ} : a = a ∧ b = b ∧ c = c ∧ d = d ∧ e = e ∧ f = f ∧ g = g ∧ h = h ∧ i = i ∧ j = j ∧ k = k ∧ l = l ∧ m = m ∧ True := ⟨rfl, gD⟩
theorem fY {α β γ δ ε ζ η θ ι κ μ ν ξ ο : Type} {a : α} {b : β} {c : γ} {d : δ} {e : ε} {f : ζ} {g : η} {h : θ} {i : ι} {j : κ} {k : μ} {l : ν} {m : ξ} {n : ο} : a = a ∧ b = b ∧ c = c ∧ d = d ∧ e = e ∧ f = f ∧ g = g ∧ h = h ∧ i = i ∧ j = j ∧ k = k ∧ l = l ∧ m = m ∧ n = n ∧ True := ⟨rfl, fU⟩
theorem fX {α β γ δ ε ζ η θ ι κ μ ν ξ ο π : Type} {a : α} {b : β} {c : γ} {d : δ} {e : ε} {f : ζ} {g : η} {h : θ} {i : ι} {j : κ} {k : μ} {l : ν} {m : ξ} {n : ο} {o : π} : a = a ∧ b = b ∧ c = c ∧ d = d ∧ e = e ∧ f = f ∧ g = g ∧ h = h ∧ i = i ∧ j = j ∧ k = k ∧ l = l ∧ m = m ∧ n = n ∧ o = o ∧ True := ⟨rfl, fY⟩
theorem Bl {E : Env} {n : Nat} {C : Ctx} {σ : St} {dst : Option Tmp} {ty : TypeId} {pos : String} {aft : Array Edge} {g : Option (Nat × Bool)} {t : TypeId} {z : Value} (cs : List T) (m : Nat) {R : St → Prop} (k : ∀ b, R ⟨El σ.slots dst (.v (.pointer (some ⟨b, 0, none⟩))), σ.objs ++ [(.arr b t m 1 [cs])]⟩)
  (D : (E.tab t).bind (fun i => i.zero) = some z := by exact rfl) (hc : z.cells.toList.map T.v = cs := by exact rfl) (h1 : z.cells.toList.all (·.oneCell') = true := by exact rfl) (M : cs.length = m := by exact rfl) (G : ∀ d, dst = some d → d < n := by exact dS) :
  AX E n C [] ⟨dst, .alloc t, ty, pos, aft, g⟩ σ R := by
 obtain ⟨i, hi, D⟩ := Option.bind_eq_some_iff.1 D
 exact AX.alloc hi D hc h1 M G k
theorem Cc {E : Env} {n : Nat} {C : Ctx} {σ : St} {dst : Option Tmp} {ty : TypeId} {pos : String} {aft : Array Edge} {g : Option (Nat × Bool)} {t : TypeId} {x : Operand} (cs : List T) (m : Nat) {R : St → Prop} (k : ∀ b, R ⟨El σ.slots dst (.v (.pointer (some ⟨b, 0, none⟩))), σ.objs ++ [(.arr b t m 1 [cs])]⟩)
  (M : (Au σ.slots x).bind Dw = some cs := by exact rfl) (G : cs.length = m := by exact rfl) (D : ∀ d, dst = some d → d < n := by exact dS) :
  AX E n C [] ⟨dst, .box t x, ty, pos, aft, g⟩ σ R := by
 obtain ⟨y, O, hc⟩ := Option.bind_eq_some_iff.1 M
 exact AX.box O hc G D k
theorem Bf {E : Env} {n : Nat} {C : Ctx} {s : Am} {ob : List Ob} {Q : Exit → St → Prop} {c : Operand} {x y : Code} {t : Nat} {b : Bool} (D : get s t = some (.v (.bool b))) (hb : b = true) (h : AW E n C x ⟨s, ob⟩ Q) (hc : c = .tmp t := by rfl) : AW E n C (.cond c x y) ⟨s, ob⟩ Q := Sm (v := true) D hb h hc
theorem Bg {E : Env} {n : Nat} {C : Ctx} {s : Am} {ob : List Ob} {Q : Exit → St → Prop} {c : Operand} {x y : Code} {t : Nat} {b : Bool} (D : get s t = some (.v (.bool b))) (hb : b = false) (h : AW E n C y ⟨s, ob⟩ Q) (hc : c = .tmp t := by rfl) : AW E n C (.cond c x y) ⟨s, ob⟩ Q := Sm (v := false) D hb h hc
def sl : Nat → Nat → PL → PL
 | 0, _, r => r
 | m + 1, i, r => .still i (sl m (i + 1) r)
theorem io {α : Type _} {a b : α} (h : some a = some b) : b = a := (Option.some.inj h).symm
abbrev RV (t : T) (x : T) (new : List Ob) : Prop := x = t ∧ new = []
abbrev RB (r : Bool) (x : T) (new : List Ob) : Prop := x = .v (.bool r) ∧ new = []
end Go.Aw
