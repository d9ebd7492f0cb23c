/- A program logic over the model. No condition. -/
import Derived.Test.YtihdchjpepkpbaaGreatZwB1
import Derived.Scope
import Derived.Laws.StructEq
import Derived.Lib.LazyBuf
import Derived.KernelRfl
import Derived.Laws.IdiomRangeMap
set_option maxRecDepth 100000
namespace Go.Aw
set_option linter.unusedVariables false
set_option linter.defProp false
set_option linter.unusedSimpArgs false
def wr (x : Int) : Int := IntKind.i64.wrap x
theorem As {x : Int} (h : -9223372036854775808 ≤ x ∧ x ≤ 9223372036854775807) : wr x = x := gF h
def ix {α : Type} (l : List α) (i : Int) : Option (Nat × α) := if 0 ≤ i then (l[i.toNat]?).map fun x => (i.toNat, x) else none
theorem cN {α : Type} {l : List α} {i : Int} {p : Nat × α} (h : ix l i = some p) : i = (p.1 : Int) ∧ l[p.1]? = some p.2 := by
 unfold ix at h
 split at h
 ·obtain ⟨x, G, rfl⟩ := Option.map_eq_some_iff.1 h
  exact ⟨by dsimp only; omega, G⟩
 ·cases h
theorem Bb {α : Type} {l : List α} {k : Nat} {x : α} (h : l[k]? = some x) : ix l (k : Int) = some (k, x) := by simp [ix, h]
def Yu : Nat := 68719476736
def C5 {α : Type} (l m : List α) : Option (List α) := if l.length + m.length ≤ Yu then some (l ++ m) else none
theorem Du {α : Type} {l m r : List α} (h : C5 l m = some r) : l.length + m.length ≤ 68719476736 ∧ l ++ m = r := by
 unfold C5 at h
 split at h
 ·rename_i G; exact ⟨G, by cases h; rfl⟩
 ·cases h
theorem Vg {α : Type} {l m : List α} (h : l.length + m.length ≤ 68719476736) : C5 l m = some (l ++ m) := if_pos h
def dO {α : Type} (n : Int) (z : α) : Option (List α) := if 0 ≤ n ∧ n ≤ (Yu : Int) then some (List.replicate n.toNat z) else none
theorem cF {α : Type} {n : Int} {z : α} {r : List α} (h : dO n z = some r) : ∃ m : Nat, n = (m : Int) ∧ m ≤ 68719476736 ∧ List.replicate m z = r := by
 unfold dO at h
 split at h
 ·rename_i G
  refine ⟨n.toNat, by omega, ?_, by cases h; rfl⟩
  have : (Yu : Int) = 68719476736 := rfl
  omega
 ·cases h
theorem eT {α : Type} {m : Nat} (z : α) (h : m ≤ 68719476736) : dO (m : Int) z = some (List.replicate m z) := by
 unfold dO
 have : (Yu : Int) = 68719476736 := rfl
 rw [if_pos (by omega)]; simp
def Ke {α : Type} (l : List α) (a b : Int) : Option (List α) := if 0 ≤ a ∧ a ≤ b ∧ b ≤ (l.length : Int) then some ((l.drop a.toNat).take (b.toNat - a.toNat)) else none
theorem G5 {α : Type} {l r : List α} {a b : Int} (h : Ke l a b = some r) : ∃ x y : Nat, a = (x : Int) ∧ b = (y : Int) ∧ x ≤ y ∧ y ≤ l.length ∧ (l.drop x).take (y - x) = r := by
 unfold Ke at h
 split at h
 ·exact ⟨a.toNat, b.toNat, by omega, by omega, by omega, by omega, by cases h; rfl⟩
 ·cases h
def Yw (a b : ByteArray) : Option ByteArray := if a.size + b.size ≤ 68719476736 then some (a ++ b) else none
theorem So {a b r : ByteArray} (h : Yw a b = some r) : a.size + b.size < 9223372036854775807 ∧ a ++ b = r := by
 unfold Yw at h
 split at h
 ·rename_i G; exact ⟨by omega, by cases h; rfl⟩
 ·cases h
def dP (b : ByteArray) (i : Int) : Option (Nat × Int) := if 0 ≤ i ∧ i < (b.size : Int) then some (i.toNat, ((b.data.getD i.toNat 0).toNat : Int)) else none
theorem Jj {b : ByteArray} {i : Int} {p : Nat × Int} (h : dP b i = some p) : i = (p.1 : Int) ∧ p.1 < b.size ∧ ((b.data.getD p.1 0).toNat : Int) = p.2 := by
 unfold dP at h
 split at h
 ·cases h; exact ⟨by dsimp only; omega, by dsimp only; omega, rfl⟩
 ·cases h
def Pz (a b : Int) : Option Int := if b ≠ 0 then some (wr (a.tdiv b)) else none
theorem G7 {a b r : Int} (h : Pz a b = some r) : b ≠ 0 ∧ IntKind.i64.wrap (a.tdiv b) = r := by
 unfold Pz at h
 split at h
 ·rename_i G; exact ⟨G, by cases h; rfl⟩
 ·cases h
def Tf (a b : Int) : Option Int := if b ≠ 0 then some (a.tmod b) else none
theorem Jg {a b r : Int} (h : Tf a b = some r) : b ≠ 0 ∧ a.tmod b = r := by
 unfold Tf at h
 split at h
 ·rename_i G; exact ⟨G, by cases h; rfl⟩
 ·cases h
def chk (p : Prop) [Decidable p] : Option Unit := if p then some () else none
theorem Sm {p : Prop} [Decidable p] {u : Unit} (h : chk p = some u) : p := by
 unfold chk at h
 split at h
 ·assumption
 ·cases h
theorem fD {p : Prop} [Decidable p] (h : p) : chk p = some () := if_pos h
def Rr (a b : ByteArray) : Bool := a.toList == b.toList
theorem Aa {α β : Type} {o : Option α} {f : α → Option β} {r : β} (h : o.bind f = some r) : ∃ x, o = some x ∧ f x = some r := Option.bind_eq_some_iff.1 h
def Bj {S B : Type} (f : S → Option (S ⊕ B)) : Nat → S → Option B
 | 0, _ => none
 | n + 1, s => match f s with
  | none => none
  | some (.inl s') => Bj f n s'
  | some (.inr b) => some b
def Da : Nat := 18446744073709551616
def forL {α S B : Type} (f : Nat → α → S → Option (S ⊕ B)) : Nat → List α → S → Option (S ⊕ B)
 | _, [], s => some (.inl s)
 | k, x :: l, s => match f k x s with
  | none => none
  | some (.inl s') => forL f (k + 1) l s'
  | some (.inr b) => some (.inr b)
def forS {α S : Type} (f : Nat → α → S → Option S) : Nat → List α → S → Option S
 | _, [], s => some s
 | k, x :: l, s => match f k x s with
  | none => none
  | some s' => forS f (k + 1) l s'
def forI {S B : Type} (f : Nat → S → Option (S ⊕ B)) : Nat → Nat → S → Option (S ⊕ B)
 | _, 0, s => some (.inl s)
 | k, n + 1, s => match f k s with
  | none => none
  | some (.inl s') => forI f (k + 1) n s'
  | some (.inr b) => some (.inr b)
def forJ {S : Type} (f : Nat → S → Option S) : Nat → Nat → S → Option S
 | _, 0, s => some s
 | k, n + 1, s => match f k s with
  | none => none
  | some s' => forJ f (k + 1) n s'
structure Arr (α : Type) (n : Nat) where
 l : List α
 h : l.length = n
theorem Arr.ext' {α : Type} {n : Nat} {a b : Arr α n} (h : a.l = b.l) : a = b := by cases a; cases b; cases h; rfl
instance {α : Type} {n : Nat} [DecidableEq α] : DecidableEq (Arr α n) := fun a b => if h : a.l = b.l then .isTrue (Arr.ext' h) else .isFalse (fun h' => h (by rw [h']))
instance {α : Type} {n : Nat} [Inhabited α] : Inhabited (Arr α n) := ⟨⟨List.replicate n default, by simp⟩⟩
def Arr.set {α : Type} {n : Nat} (a : Arr α n) (i : Nat) (x : α) : Arr α n := ⟨a.l.set i x, by simp [a.h]⟩
section
variable {E : Env} {n : Nat} {C : Ctx} {s : Ak} {ob : List Ob} {Q : Exit → St → Prop} {ops : Array Oper} {R : St → Prop}
theorem Ghost.pick (ks : List Nat) {K : List Ob} (hK : Cv ob ks = some K) (hn : ks.Nodup) : Ghost n C s ob s K := by
 intro H a w X
 obtain ⟨p1, p2⟩ := Fq hK
 have G : ∀ (i : Nat) (p : Ob), K[i]? = some p → ∃ k, ks[i]? = some k ∧ ob[k]? = some p := by
  intro i p M
  have hil := (gs M).1
  obtain ⟨o, Y, Z⟩ := p2 i ks[i] (gq (by omega))
  rw [M] at Z
  cases Z
  exact ⟨_, gq (by omega), Y⟩
 have O : ∀ p, p ∈ K → p ∈ ob := fun p W => by
  obtain ⟨i, M⟩ := List.mem_iff_getElem?.1 W
  obtain ⟨k, _, h⟩ := G i p M
  exact mg h
 have hl := Cb.1 X.nodup
 refine ⟨H, fun _ _ h => h, { X with objs := fun p W => X.objs p (O p W), free := fun p W => X.free p (O p W), new := fun p W => X.new p (O p W), nodup := ?_ }⟩
 refine Cb.2 ⟨fun i p M => ?_, fun i j p q M hj aa b hb => ?_⟩
 ·obtain ⟨k, _, h⟩ := G i p M
  exact hl.1 k p h
 ·obtain ⟨k, Y, Z⟩ := G i p M
  obtain ⟨k', h3, h4⟩ := G j q hj
  refine hl.2 k k' p q Z h4 (fun he => aa ?_) b hb
  subst he
  exact (List.getElem?_inj (gs Y).1 hn).1 (Y.trans h3.symm)
theorem Ghost.refl : Ghost n C s ob s ob := fun H _ _ G => ⟨H, fun _ _ h => h, G⟩
theorem Ghost.slots {s' : Ak} (h : ∀ (H : GH) (a : Act) (w : World), Gam n C ⟨s, ob⟩ H a w → ∀ i x, get s' i = some x → VR H (a.tmps.getD i undef) x) : Ghost n C s ob s' ob := fun H a w G =>
 ⟨H, fun _ _ h => h, { G with slots := h H a w G }⟩
theorem A2 {so : Ak} {prot : List Nat} {pobjs : List Ob} {σ : St} (h : AO E n C ops [] σ R) : AP E n C ops prot pobjs .nil so σ R := fun _ _ H a w _ _ _ _ _ G => h H a w G
theorem Vi {pl : PL} {so : Ak} {prot : List Nat} {pobjs : List Ob} (d : Nat) (k : AP E n C ops prot pobjs pl (gJ so (some d)) ⟨s, ob⟩ R) : AP E n C ops prot pobjs pl so ⟨s, ob⟩ R :=
 fun Hs Y H a w G wr M W X O => k Hs Y H a w ⟨G.size, fun i x h => G.slots i x (Fz h).2⟩ wr M W X O
theorem Ba {pl : PL} {so : Ak} {prot : List Nat} {pobjs : List Ob} {b c : Bool} (t : Nat) (X : get s t = some (.v (.bool b))) (hb : b = c) (k : AP E n C ops prot pobjs pl so ⟨(t, .v (.bool c)) :: s, ob⟩ R) : AP E n C ops prot pobjs pl so ⟨s, ob⟩ R := by
 intro Hs Z H a w Y wr G O W M
 subst hb
 exact k Hs Z H a w Y wr G O W (M.same X)
theorem Fe {o : Oper} {x : T} (Y : Yd E.P n s ob o x) (hd : ∀ O, o.dst = some O → O < n) (k : R ⟨Dq s o.dst x, ob⟩) : AX E n C [] o ⟨s, ob⟩ R := by
 intro H a w M
 obtain ⟨v, X, G⟩ := Y H a w M.sr M.wr
 simp only [Oper.wp, G w ⟨M.held, fun _ _ _ _ => rfl⟩, Oper.upon]
 refine ⟨_, H, v, k, ?_, rfl, fun _ _ h => h, fun i p W _ => ⟨W, by intros; trivial⟩⟩
 have := M.put X hd
 cases h : o.dst <;> simpa [St.put, Dq, h] using this
theorem Hy {H : GH} {a : Act} {j : Nat} {t : Tmp} (r : SR n s H a) (M : (ops[j]?).bind (·.dst) = some t) (O : get s t = some (.v undef)) : yielded ops a.tmps j = none := by
 have G := (r.slots t _ O).v_eq
 simp only [yielded, M, Option.bind_some]
 rw [Array.getD_eq_getD_getElem?] at G
 cases h : a.tmps[t]? with
 | none => rfl
 | some x => rw [h] at G; simp only [Option.getD_some] at G; subst G; rfl
theorem Bk {d : Option Nat} {Y : Op} {ty : TypeId} {pos : String} {aft : Array Edge} {l : List Oper} {j : Nat} {G : Bool} {t : Tmp}
  (W : (ops[j]?).bind (·.dst) = some t) (X : get s t = some (.v undef)) (hd : ∀ M, d = some M → M < n) (k : AO E n C ops l ⟨Dq s d (.v undef), ob⟩ R) : AO E n C ops (⟨d, Y, ty, pos, aft, some (j, G)⟩ :: l) ⟨s, ob⟩ R := by
 intro H a w O
 simp only [Uj]
 rw [if_neg (by simp [Region.wanted, Hy O.sr W X])]
 have := O.put (dst := d) (v := undef) (x := .v undef) (.v _) hd
 cases d <;> exact k H _ w this
theorem Ch {prot : List Nat} {pobjs : List Ob} {so : Ak} {i : Nat} {r : PL} {o : Oper} {j : Nat} {G : Bool} {t : Tmp} (Z : ops[i]? = some o)
  (hg : o.guard = some (j, G)) (X : (ops[j]?).bind (·.dst) = some t) (hs : get s t = some (.v undef)) (hd : ∀ d, o.dst = some d → d < n)
  (k : AP E n C ops prot pobjs r so (St.put ⟨s, ob⟩ o.dst (.v undef)) R) (hf : free so o.dst = true := by rfl) : AP E n C ops prot pobjs (.still i r) so ⟨s, ob⟩ R := by
 intro Hs ws H a w sr wr M W hp O
 have hw : Region.wanted o (yielded ops a.tmps) = false := by simp [Region.wanted, hg, Hy O.sr X hs]
 have Y := k Hs ws H _ w (sr.free o.dst undef hf) wr M W (by cases h : o.dst <;> simpa [St.put, h] using hp) (O.put (.v undef) hd)
 exact ⟨o, undef, Z, .inr ⟨hw, rfl⟩, M, Y⟩
theorem Ui {c : Code} (t : Nat) {sz : Nat} {es : List (List T)} (M : get s t = some (.list sz es)) (k : es.length ≤ 140737488355328 → AW E n C c ⟨s, ob⟩ Q) : AW E n C c ⟨s, ob⟩ Q :=
 fun H a w G => k (G.slots _ _ M).list_max H a w G
theorem bI {c : Code} (k : Nat) {v : Value} {O sz : Nat} {es : List (List T)} (W : ob[k]? = some (.us v O sz es)) (X : es.length ≤ 140737488355328 → AW E n C c ⟨s, ob⟩ Q) : AW E n C c ⟨s, ob⟩ Q := by
 intro H a w M
 have G : UsR H w v O sz es := M.objs _ (mg W)
 refine X ?_ H a w M
 rcases G with ⟨_, rfl⟩ | ⟨_, _, _, _, _, _, _, _, _, _, h, _⟩
 ·simp
 ·exact h
theorem Cu {α : Type} {f : α → List T} {l : List α} {c : Code} (t : Nat) {sz : Nat} (G : get s t = some (.list sz (l.map f))) (k : l.length ≤ 9223372036854775806 → AW E n C c ⟨s, ob⟩ Q) : AW E n C c ⟨s, ob⟩ Q :=
 Ui t G fun h => k (by rw [List.length_map] at h; omega)
theorem fU {α : Type} {f : α → List T} {l : List α} {c : Code} (k : Nat) {v : Value} {O sz : Nat} (G : ob[k]? = some (.us v O sz (l.map f))) (M : l.length ≤ 9223372036854775806 → AW E n C c ⟨s, ob⟩ Q) : AW E n C c ⟨s, ob⟩ Q :=
 bI k G fun h => M (by rw [List.length_map] at h; omega)
theorem Dr {k m : Nat} (h : k < m) : decide ((k : Int) < (m : Int)) = true := decide_eq_true (by omega)
theorem Ds (m : Nat) : decide (((m : Nat) : Int) < (m : Int)) = false := by simp
def gK (Q : Exit → St → Prop) : Exit → St → Prop
 | .goto _, _ => False
 | e, σ => Q e σ
theorem AW.scope {c : Code} {σ : St} (h : AW E n C c σ (gK Q)) : AW E n C (.scope c) σ Q := fun H a w g =>
 Kb (Hm (h H a w g) fun e a' w' ⟨σ', H', q, G⟩ => by
  cases e <;> first | exact ⟨σ', H', q, G⟩ | exact q.elim)
def Left (s' : Ak) (ob' : List Ob) (σ : St) : Prop := Sub s' σ.slots ∧ ∃ ks, Cv σ.objs ks = some ob' ∧ ks.Nodup
theorem Left.ghost {s' : Ak} {ob' : List Ob} {σ : St} (h : Left s' ob' σ) : Ghost n C σ.slots σ.objs s' ob' := by
 obtain ⟨G, W, M, O⟩ := h
 exact (Ghost.pick W M O).trans (Ghost.weaken G (List.Sublist.refl _))
theorem A6 {c : Code} {s' : Ak} {ob' : List Ob} {σ : St} (h : Left s' ob' σ) (k : AW E n C c ⟨s', ob'⟩ Q) : AW E n C c σ Q := gY h.ghost k
theorem Aj {x y : Code} (M : Ak → List Ob → Prop) (ks : Ak) (W : Sub ks s)
  (h : AW E n C x ⟨s, ob⟩ (Hv (fun σ' => ∃ s' ob', M s' ob' ∧ Left (s' ++ ks) ob' σ') Q)) (k : ∀ s' ob', M s' ob' → AW E n C y ⟨s' ++ ks, ob'⟩ Q) : AW E n C (.seq x y) ⟨s, ob⟩ Q :=
 AW.cut _ h (fun _ ⟨_, _, G, O⟩ => A6 O (k _ _ G))
theorem Ab {x y : Code} {σ : St} (h : ∀ G, G = y → AW E n C x σ (Hv (fun σ' => AW E n C G σ' Q) Q)) : AW E n C (.seq x y) σ Q := gT (h y rfl)
@[reducible] def gP {α β : Type} (o : Option α) (a : β) (f : α → β) : β := match o with
 | none => a
 | some x => f x
@[reducible] def gM {α : Type} (o : Option α) (A : Prop) (B : α → Prop) : Prop := match o with
 | none => A
 | some x => B x
theorem Ni {c : Code} (J : Nat → Ak → List Ob → Prop) {m : Nat} {W : Ak} {G : List Ob} (X : J m W G) (hs : Left W G ⟨s, ob⟩)
  (M : ∀ m s ob, J m s ob → AW E n C c ⟨s, ob⟩ (Hv (fun σ' => ∃ O s' ob', O < m ∧ J O s' ob' ∧ Left s' ob' σ') Q)) : AW E n C (.loop c) ⟨s, ob⟩ Q := by
 refine AW.loop (fun m σ => ∃ s' ob', J m s' ob' ∧ Left s' ob' σ) (m := m) ⟨W, G, X, hs⟩ ?_
 rintro m σ ⟨s', ob', Z, Y⟩
 refine A6 Y (AW.mono (M m s' ob' Z) ?_)
 intro e σ' q
 cases e with
 | normal => obtain ⟨O, s', ob', q1, q2, q3⟩ := q; exact ⟨O, q1, s', ob', q2, q3⟩
 | _ => exact q
theorem Ou {M ks : Ak} {G : List Ob} (h1 : Sub M s) (h2 : Sub ks s) (O : ∃ p, Cv ob p = some G ∧ p.Nodup) : Left (M ++ ks) G ⟨s, ob⟩ := ⟨Sub.append h1 h2, O⟩
theorem A5 {c : Code} {S B : Type} {f : S → Option (S ⊕ B)} {M : Nat} {Z : S} {b : B} (h : Bj f M Z = some b) (ks : Ak) (hk : Sub ks s) (Φ : S → Ak → List Ob → Prop) {s0 : Ak} {aa : List Ob} (h0 : Φ Z s0 aa) (hs : Sub s0 s) (ho : ∃ p, Cv ob p = some aa ∧ p.Nodup)
  (Y : ∀ (O : S) (r : S ⊕ B) s ob, Φ O s ob → f O = some r → (∀ b', r = .inr b' → b' = b) →
   AW E n C c ⟨s ++ ks, ob⟩ (Hv (fun σ' => ∃ G s' ob', r = .inl G ∧ Φ G s' ob' ∧ Left (s' ++ ks) ob' σ') Q)) : AW E n C (.loop c) ⟨s, ob⟩ Q := by
 refine Ni (fun m s1 X => ∃ O s', Φ O s' X ∧ Bj f m O = some b ∧ s1 = s' ++ ks) (m := M) ⟨Z, s0, h0, h, rfl⟩ (Ou hs hk ho) ?_
 rintro m s1 X ⟨O, s', hΦ, W, rfl⟩
 cases m with
 | zero => simp [Bj] at W
 | succ m =>
  simp only [Bj] at W
  cases hf : f O with
  | none => rw [hf] at W; cases W
  | some r =>
   rw [hf] at W
   refine AW.mono (Y O r s' X hΦ hf (fun b' hb => ?_)) ?_
   ·subst hb; simpa using W
   ·intro e σ' q
    cases e with
    | normal =>
     obtain ⟨G, s'', ob', rfl, q2, q3⟩ := q
     exact ⟨m, _, ob', Nat.lt_succ_self m, ⟨G, s'', q2, W, rfl⟩, q3⟩
    | _ => exact q
theorem cP {α S B : Type} {f : Nat → α → S → Option (S ⊕ B)} {l : List α} {k : Nat} {x : α} (G : l[k]? = some x) (O : S) : forL f k (l.drop k) O = (match f k x O with
  | none => none
  | some (.inl s') => forL f (k + 1) (l.drop (k + 1)) s'
  | some (.inr b) => some (.inr b)) := by
 have M := (gs G).1
 have W : l[k] = x := by rw [gq M] at G; cases G; rfl
 rw [List.drop_eq_getElem_cons M, W]; rfl
theorem Ca {c : Code} {α S B : Type} {f : Nat → α → S → Option (S ⊕ B)} {l : List α} {Z : S} {o : S ⊕ B} (h : forL f 0 l Z = some o) (ks : Ak) (hk : Sub ks s) (Φ : Nat → S → Ak → List Ob → Prop) {s0 : Ak} {aa : List Ob} (h0 : Φ 0 Z s0 aa) (hs : Sub s0 s) (ho : ∃ p, Cv ob p = some aa ∧ p.Nodup)
  (Y : ∀ (k : Nat) (x : α) (G : S) (r : S ⊕ B) s ob, l[k]? = some x → k < l.length → Φ k G s ob → f k x G = some r → (∀ b', r = .inr b' → .inr b' = o) →
   AW E n C c ⟨s ++ ks, ob⟩ (Hv (fun σ' => ∃ W s' ob', r = .inl W ∧ Φ (k + 1) W s' ob' ∧ Left (s' ++ ks) ob' σ') Q))
  (fin : ∀ (G : S) s ob, Φ l.length G s ob → .inl G = o → AW E n C c ⟨s ++ ks, ob⟩ (Hv (fun _ => False) Q)) : AW E n C (.loop c) ⟨s, ob⟩ Q := by
 refine Ni (fun m s1 O => ∃ k G s', k + m = l.length ∧ Φ k G s' O ∧ forL f k (l.drop k) G = some o ∧ s1 = s' ++ ks) (m := l.length) ⟨0, Z, s0, by simp, h0, h, rfl⟩ (Ou hs hk ho) ?_
 rintro m s1 O ⟨k, G, s', hm, hΦ, M, rfl⟩
 rcases Nat.lt_or_ge k l.length with X | X
 ·have hx : l[k]? = some l[k] := gq X
  rw [cP hx] at M
  cases hf : f k l[k] G with
  | none => rw [hf] at M; cases M
  | some r =>
   rw [hf] at M
   refine AW.mono (Y k _ G r s' O hx X hΦ hf (fun b' hb => ?_)) ?_
   ·subst hb; simpa using M
   ·intro e σ' q
    cases e with
    | normal =>
     obtain ⟨W, s'', ob', rfl, q2, q3⟩ := q
     exact ⟨m - 1, _, ob', by omega, ⟨k + 1, W, s'', by omega, q2, M, rfl⟩, q3⟩
    | _ => exact q
 ·have : k = l.length := by omega
  subst this
  rw [List.drop_length] at M
  simp only [forL, Option.some.injEq] at M
  refine AW.mono (fin G s' O hΦ M) ?_
  intro e σ' q
  cases e with
  | normal => exact q.elim
  | _ => exact q
theorem Zd {α S : Type} {f : Nat → α → S → Option S} : ∀ (l : List α) (k : Nat) (G : S) (o : S), forS f k l G = some o → forL (B := Empty) (fun k x s => (f k x s).map .inl) k l G = some (.inl o)
 | [], _, _, o, h => by simp only [forS, Option.some.injEq] at h; subst h; rfl
 | x :: l, k, G, o, h => by
  simp only [forS] at h
  simp only [forL]
  cases hf : f k x G with
  | none => rw [hf] at h; cases h
  | some s' => rw [hf] at h; simpa using Zd l (k + 1) s' o h
theorem Dx {c : Code} {α S : Type} {f : Nat → α → S → Option S} {l : List α} {O : S} {o : S} (h : forS f 0 l O = some o) (ks : Ak) (hk : Sub ks s) (Φ : Nat → S → Ak → List Ob → Prop) {s0 : Ak} {W : List Ob} (h0 : Φ 0 O s0 W) (hs : Sub s0 s) (ho : ∃ p, Cv ob p = some W ∧ p.Nodup)
  (M : ∀ (k : Nat) (x : α) (G : S) (r : S) s ob, l[k]? = some x → k < l.length → Φ k G s ob → f k x G = some r →
   AW E n C c ⟨s ++ ks, ob⟩ (Hv (fun σ' => ∃ s' ob', Φ (k + 1) r s' ob' ∧ Left (s' ++ ks) ob' σ') Q))
  (X : ∀ (G : S) s ob, Φ l.length G s ob → G = o → AW E n C c ⟨s ++ ks, ob⟩ (Hv (fun _ => False) Q)) : AW E n C (.loop c) ⟨s, ob⟩ Q := by
 refine Ca (Zd l 0 O o h) ks hk Φ h0 hs ho ?_ ?_
 ·intro k x G r s ob hx Y hΦ hr _
  obtain ⟨r', Z, rfl⟩ := Option.map_eq_some_iff.1 hr
  refine AW.mono (M k x G r' s ob hx Y hΦ Z) ?_
  intro e σ' q
  cases e with
  | normal => obtain ⟨s', ob', q1, q2⟩ := q; exact ⟨r', s', ob', rfl, q1, q2⟩
  | _ => exact q
 ·intro G s ob hΦ he
  exact X G s ob hΦ (by injection he)
theorem Zf {S B : Type} {f : Nat → S → Option (S ⊕ B)} : ∀ (m k : Nat) (G : S), forI f k m G = forL (fun k (_ : Unit) s => f k s) k (List.replicate m ()) G
 | 0, _, _ => rfl
 | m + 1, k, G => by
  simp only [forI, List.replicate_succ, forL]
  cases f k G with
  | none => rfl
  | some r => cases r with
   | inl s' => exact Zf m (k + 1) s'
   | inr b => rfl
theorem Ff {c : Code} {S B : Type} {f : Nat → S → Option (S ⊕ B)} {m : Nat} {X : S} {o : S ⊕ B} (h : forI f 0 m X = some o) (ks : Ak) (hk : Sub ks s) (Φ : Nat → S → Ak → List Ob → Prop) {s0 : Ak} {O : List Ob} (h0 : Φ 0 X s0 O) (hs : Sub s0 s) (ho : ∃ p, Cv ob p = some O ∧ p.Nodup)
  (M : ∀ (k : Nat) (G : S) (r : S ⊕ B) s ob, k < m → Φ k G s ob → f k G = some r → (∀ b', r = .inr b' → .inr b' = o) →
   AW E n C c ⟨s ++ ks, ob⟩ (Hv (fun σ' => ∃ W s' ob', r = .inl W ∧ Φ (k + 1) W s' ob' ∧ Left (s' ++ ks) ob' σ') Q))
  (Y : ∀ (G : S) s ob, Φ m G s ob → .inl G = o → AW E n C c ⟨s ++ ks, ob⟩ (Hv (fun _ => False) Q)) : AW E n C (.loop c) ⟨s, ob⟩ Q := by
 rw [Zf] at h
 exact Ca h ks hk Φ h0 hs ho (fun k _ G r s ob _ Z => M k G r s ob (by simpa using Z)) (fun G s ob hΦ he => Y G s ob (by simpa using hΦ) he)
theorem Ze {S : Type} {f : Nat → S → Option S} : ∀ (m k : Nat) (G : S) (o : S), forJ f k m G = some o → forI (B := Empty) (fun k s => (f k s).map .inl) k m G = some (.inl o)
 | 0, _, _, o, h => by simp only [forJ, Option.some.injEq] at h; subst h; rfl
 | m + 1, k, G, o, h => by
  simp only [forJ] at h
  simp only [forI]
  cases hf : f k G with
  | none => rw [hf] at h; cases h
  | some s' => rw [hf] at h; simpa using Ze m (k + 1) s' o h
theorem bJ {c : Code} {S : Type} {f : Nat → S → Option S} {m : Nat} {O : S} {o : S} (h : forJ f 0 m O = some o) (ks : Ak) (hk : Sub ks s) (Φ : Nat → S → Ak → List Ob → Prop) {s0 : Ak} {W : List Ob} (h0 : Φ 0 O s0 W) (hs : Sub s0 s) (ho : ∃ p, Cv ob p = some W ∧ p.Nodup)
  (M : ∀ (k : Nat) (G : S) (r : S) s ob, k < m → Φ k G s ob → f k G = some r →
   AW E n C c ⟨s ++ ks, ob⟩ (Hv (fun σ' => ∃ s' ob', Φ (k + 1) r s' ob' ∧ Left (s' ++ ks) ob' σ') Q))
  (X : ∀ (G : S) s ob, Φ m G s ob → G = o → AW E n C c ⟨s ++ ks, ob⟩ (Hv (fun _ => False) Q)) : AW E n C (.loop c) ⟨s, ob⟩ Q := by
 refine Ff (Ze m 0 O o h) ks hk Φ h0 hs ho ?_ ?_
 ·intro k G r s ob Y hΦ hr _
  obtain ⟨r', Z, rfl⟩ := Option.map_eq_some_iff.1 hr
  refine AW.mono (M k G r' s ob Y hΦ Z) ?_
  intro e σ' q
  cases e with
  | normal => obtain ⟨s', ob', q1, q2⟩ := q; exact ⟨r', s', ob', rfl, q1, q2⟩
  | _ => exact q
 ·intro G s ob hΦ he
  exact X G s ob hΦ (by injection he)
def Er (k : Nat) (Rc : T → List Ob → List Ob → Prop) (x : T) (G : List Ob) : Prop := ∃ os new, G = os ++ new ∧ os.length = k ∧ Rc x os new
theorem A4 {k m : Nat} (h : k < m) (G : m ≤ 9223372036854775806) : IntKind.i64.wrap ((k : Int) + 1) = ((k + 1 : Nat) : Int) := by
 rw [gF (by omega)]; omega
section typed
variable {dst : Option Tmp} {ty : TypeId} {pos : String} {aft : Array Edge} {g : Option (Nat × Bool)} {α : Type} {f : α → List T}
def rI (x : Int) : List T := [.v (.int .i64 x)]
def rK (k : IntKind) (x : Int) : List T := [.v (.int k x)]
def rB (x : Bool) : List T := [.v (.bool x)]
def rS (x : ByteArray) : List T := [.v (.string x)]
def rL {α : Type} (sz : Nat) (f : α → List T) (l : List α) : List T := [.list sz (l.map f)]
def cI (x : Int) : T := .v (.int .i64 x)
def cL {α : Type} (sz : Nat) (f : α → List T) (l : List α) : T := .list sz (l.map f)
theorem B0 (k : Nat) {x : Operand} {t : TypeId} {objs : List Ob} {v : Value} {X sz : Nat} {l : List α} {ti : TI} {e : Nat} (O : E.tab t = some ti) (G : ti.kind = .slice e) (W : Ap s x = some (.v v))
  (M : objs[k]? = some (.us v X sz (l.map f))) : Yd E.P n s objs ⟨dst, .call { callee := .builtin .len, args := #[x], argTypes := #[t] }, ty, pos, aft, g⟩ (.v (.int .i64 (l.length : Int))) := by
 have := Vh (E := E) (n := n) (dst := dst) (ty := ty) (pos := pos) (aft := aft) (g := g) k O G W M
 rwa [List.length_map] at this
theorem Bp {t : TypeId} {x y : Operand} {b : ByteArray} {k : IntKind} {i c : Int} {m : Nat} {ti : TI} (O : E.tab t = some ti) (G : ti.kind = .string) (W : Ap s x = some (.v (.string b)))
  (X : Ap s y = some (.v (.int k i))) (hi : i = (m : Int)) (M : m < b.size) (hc : ((b.data.getD m 0).toNat : Int) = c) : Yp E.P n s ⟨dst, .index t x y, ty, pos, aft, g⟩ (.v (.int .u8 c)) :=
 hc ▸ S8 O G W X hi M
theorem Sr {t O : TypeId} {x y : Operand} {a b r : ByteArray} (G : Ap s x = some (.v (.string a))) (M : Ap s y = some (.v (.string b)))
  (hc : a.size + b.size < 9223372036854775807 ∧ a ++ b = r) : Yp E.P n s ⟨dst, .binOp .add t x y O, ty, pos, aft, g⟩ (.v (.string r)) := hc.2 ▸ dA G M hc.1
theorem Ub (k : Nat) {β : Type} {x : Operand} {t : TypeId} {objs : List Ob} {v : Value} {Y tyi szi : Nat} {vs : List Value} {l : List β} {G : β → Option (List (List T))} {ti : TI} {e : Nat} (W : E.tab t = some ti) (M : ti.kind = .slice e) (X : Ap s x = some (.v v))
  (O : objs[k]? = some (.uss v Y tyi szi vs (l.map G))) : Yd E.P n s objs ⟨dst, .call { callee := .builtin .len, args := #[x], argTypes := #[t] }, ty, pos, aft, g⟩ (.v (.int .i64 (l.length : Int))) := by
 have := V5 (E := E) (n := n) (dst := dst) (ty := ty) (pos := pos) (aft := aft) (g := g) k W M X O
 rwa [List.length_map] at this
theorem Wk {objs : List Ob} (k : Nat) {v : Value} {G tyi szi : Nat} {vs : List Value} {l : List (List α)} (h : objs[k]? = some (.uss v G tyi szi vs (l.map fun x => some (x.map f)))) : Lend objs (.v v) (.list 1 (l.map (rL szi f))) := by
 refine Lend.uss k (ty := G) (tyi := tyi) (szi := szi) (vs := vs) (L := l.map fun x => x.map f) ?_ ?_
 ·rw [h, List.map_map]; rfl
 ·simp [Es, List.map_map, rL, Function.comp_def]
theorem Y5 {β γ : Type} {l : List β} {G : β → γ} {m : Nat} {x : β} (h : l[m]? = some x) : m < (l.map G).length := by rw [List.length_map]; exact (gs h).1
theorem bX {β γ : Type} {l : List β} {G : β → Option γ} {m k : Nat} {x : β} (h : l[m]? = some x) : m < ((l.map G).set k none).length := by rw [List.length_set, List.length_map]; exact (gs h).1
theorem Z0 {β γ : Type} {l : List β} {G : β → Option γ} {m : Nat} {x : β} (h : l[m]? = some x) : ((l.map G).set m none)[m]? = some none := by
 rw [List.getElem?_set_self]; rw [List.length_map]; exact (gs h).1
theorem cX {l r : List (List α)} (h : l ++ [[]] = r) : (l.map fun x => some (x.map f)) ++ [some []] = r.map fun x => some (x.map f) := by rw [← h]; simp
theorem Zp {l : List (List α)} (h : l.length + ([[]] : List (List α)).length ≤ 68719476736) : (l.map fun x => some (x.map f)).length + 1 ≤ 68719476736 := by simpa using h
theorem Ew {l : List α} {m : Nat} {x : α} {e : List T} (h : e = f x) : (l.map f).set m e = (l.set m x).map f := by rw [h, List.map_set]
theorem Q8 {l m r : List α} (h : l ++ m = r) : l.map f ++ m.map f = r.map f := by rw [← h, List.map_append]
theorem Z9 {m r : List α} (h : [] ++ m = r) : m.map f = r.map f := by rw [← h]; rfl
theorem Q9 {l m : List α} (h : l.length + m.length ≤ 68719476736) : (l.map f).length + (m.map f).length ≤ 68719476736 := by simpa using h
theorem aA {m : List α} (h : ([] : List α).length + m.length ≤ 68719476736) : (m.map f).length ≤ 68719476736 := by simpa using h
theorem cB {m : Nat} {z : α} {r : List α} {G : List T} (h : List.replicate m z = r) (M : G = f z) : List.replicate m G = r.map f := by rw [← h, List.map_replicate, M]
theorem Us {x y : Nat} {l r : List α} (h : (l.drop x).take (y - x) = r) : ((l.map f).drop x).take (y - x) = r.map f := by rw [← h, List.map_take, List.map_drop]
theorem bG {x y : Operand} {t : TypeId} {k1 k2 : IntKind} {i : Int} {m : Nat} {ti G : TI} {e : Nat} {z : Value} {sz : Nat} {es' : List (List T)}
  (ht : E.tab t = some ti) (Y : ti.kind = .slice e) (he : E.tab e = some G) (hz : G.zero = some z) (h1 : z.cells.toList.all (·.oneCell') = true) (hsz : G.size = sz) (X : z.cells.size = sz) (O : Nat.ble G.bytes 2048 = true)
  (hx : Ap s x = some (.v (.int k1 i))) (hy : Ap s y = some (.v (.int k2 i))) (hi : i = (m : Int)) (Z : m ≤ 68719476736) (W : List.replicate m (D4 z) = es')
  (hd : ∀ d, dst = some d → d < n) (k : ∀ b, R ⟨Dq s dst (.v b), ob ++ [.us b e sz es']⟩) :
  AX E n C [] ⟨dst, .makeSlice t x y, ty, pos, aft, g⟩ ⟨s, ob⟩ R := by
 subst W
 have M := Nat.le_of_ble_eq_true O
 refine AX.makeSlice ht Y he hz h1 hsz X hx hy hi (by simp only [F0]; omega) ?_ hd k
 have h1 : G.bytes * m ≤ 2048 * 68719476736 := Nat.mul_le_mul M Z
 have h2 : ((G.bytes * m : Nat) : Int) = (G.bytes : Int) * (m : Int) := by simp
 omega
theorem Rb {x : Operand} {t : TypeId} {lo hi mx : Option Operand} {sz : Nat} {l r : List α} {ti X : TI} {e : Nat} (a b m : Nat)
  (ht : E.tab t = some ti) (Z : ti.kind = .slice e) (he : E.tab e = some X) (hsz : X.size = sz) (hx : Ap s x = some (.list sz (l.map f)))
  (h1 : Rs s lo 0 a) (h2 : Rs s hi l.length b) (W : mx = none) (O : a ≤ b) (Y : b ≤ l.length) (hr : (l.drop a).take (b - a) = r) :
  Yp E.P n s ⟨dst, .slice t x lo hi mx, ty, pos, aft, g⟩ (.list sz (r.map f)) := by
 subst W
 have := Oy (E := E) (n := n) (dst := dst) (ty := ty) (pos := pos) (aft := aft) (g := g) (mx := none) a b m ht Z he hsz hx h1 (by rw [List.length_map]; exact h2)
  (fun M G => ⟨M, rfl, by rw [List.length_map] at G; omega, Nat.le_refl _⟩) (fun _ => rfl) O (by rw [List.length_map]; exact Y)
 rwa [Us hr] at this
end typed
theorem Bc {α : Type} {c : Bool} {a b r : α} (hc : c = true) (h : (if c = true then a else b) = r) : a = r := by rw [if_pos hc] at h; exact h
theorem Bd {α : Type} {c : Bool} {a b r : α} (hc : c = false) (h : (if c = true then a else b) = r) : b = r := by rw [if_neg (by simp [hc])] at h; exact h
theorem Dl {α β γ : Type} {f : α → γ} {g : β → γ} {x : α} {r : γ} (h : Sum.elim f g (.inl x) = r) : f x = r := h
theorem Dm {α β γ : Type} {f : α → γ} {g : β → γ} {x : β} {r : γ} (h : Sum.elim f g (.inr x) = r) : g x = r := h
end
section
variable {P : Program} {n : Nat} {s : Ak} {dst : Option Tmp} {ty : TypeId} {pos : String} {aft : Array Edge} {g : Option (Nat × Bool)}
end
section
variable {E : Env} {n : Nat} {C : Ctx} {s : Ak} {ob : List Ob} {R : St → Prop} {dst : Option Tmp} {ty : TypeId} {pos : String} {aft : Array Edge} {g : Option (Nat × Bool)}
theorem Qs {P : Program} {t : TypeId} {i : TI} {k : IntKind} (h : Gt P t = some i) (O : i.kind = .int k) : P.underlying t = some (.int k) := by
 obtain ⟨d, M, G⟩ := Fx h
 rw [O] at G
 cases d <;> simp [Kh] at G
 subst G; exact M
theorem bH {t t' : TypeId} {x : Operand} {ti : TI} {e sz : Nat} {es : List (List T)} (ht : E.tab t = some ti) (W : ti.kind = .slice e) (hx : Ap s x = some (.list sz es)) (hd : ∀ d, dst = some d → d < n)
  (k : ∀ b : Bool, (b = true → es = []) → R ⟨Dq s dst (.v (.bool b)), ob⟩) : AX E n C [] ⟨dst, .binOp .eql t x (.const (.slice none 0 0)) t', ty, pos, aft, g⟩ ⟨s, ob⟩ R := by
 refine iC fun H a w M => ?_
 have h := M.sr.eval hx
 generalize hv : a.eval x = v at h
 have Z : ∃ G l c, v = .slice G l c ∧ (G.isNone = true → es = []) := by
  cases h with
  | empty a cap sz => exact ⟨a, 0, cap, rfl, fun _ => rfl⟩
  | list b off cap sz es cs ty fr hb hcap hmax hsz hel h1 hvs => exact ⟨_, _, _, rfl, fun h => by simp at h⟩
 obtain ⟨G, l, c, rfl, X⟩ := Z
 refine ⟨.bool G.isNone, w, _, H, ?_, k G.isNone X, ?_, fun _ _ h => h, fun i p Y _ => ⟨Y, fun _ _ => rfl⟩⟩
 ·have := run_eql_slice_nil (P := E.P) w t e G l c (Dc (E.ok _ _ ht) W)
  have O : a.eval (.const (.slice none 0 0)) = .slice none 0 0 := rfl
  simp only [execOp, hv, O, Sem.run_bind, eqGuard, Sem.run_pure, Result.andThen_ok, this]
  simp [this]
 ·have := M.put (dst := dst) (.v (.bool G.isNone)) hd
  cases dst <;> exact this
theorem Fo {α : Type} {f : α → List T} {c : Code} {Q : Exit → St → Prop} (q m : Nat) {v : Value} {W sz : Nat} {l : List α} {x : α} (Z : ob[q]? = some (.us v W sz (l.map f))) (Y : l[m]? = some x)
  (k : (∃ c, v = .slice (some ⟨Fi v, 0, none⟩) l.length c) → AW E n C c ⟨s, ob⟩ Q) : AW E n C c ⟨s, ob⟩ Q := by
 intro H a w M
 have G : UsR H w v W sz (l.map f) := M.objs _ (mg Z)
 obtain ⟨c, X, O, _⟩ := G.arr (Al (f := f) Y)
 rw [List.length_map] at O
 exact k ⟨c, O⟩ H a w M
theorem Di {α : Type} {f : α → List T} {c : Code} {Q : Exit → St → Prop} (q : Nat) {v : Value} {O sz : Nat} {l : List α} (Y : ob[q]? = some (.us v O sz (l.map f)))
  (k : (∃ a c, v = .slice a l.length c) → AW E n C c ⟨s, ob⟩ Q) : AW E n C c ⟨s, ob⟩ Q := by
 intro H a w M
 have G : UsR H w v O sz (l.map f) := M.objs _ (mg Y)
 refine k ?_ H a w M
 rcases G with ⟨rfl, X⟩ | ⟨b, c, W, rfl, _⟩
 ·have : l = [] := by simpa using X
  subst this; exact ⟨none, 0, rfl⟩
 ·exact ⟨some ⟨b, 0, none⟩, c, by rw [List.length_map]⟩
theorem C8 {α : Type} {t : TypeId} {x y : Operand} {kk : IntKind} {i : Int} {m : Nat} {v : Value} {sz : Nat} {l : List α} {e : α} {ti O : TI} {M : Nat}
  (Y : E.tab t = some ti) (W : ti.kind = .slice M) (hel : E.tab M = some O) (hsz : O.size = sz)
  (Z : Ap s x = some (.v v)) (hv : ∃ c, v = .slice (some ⟨Fi v, 0, none⟩) l.length c) (hy : Ap s y = some (.v (.int kk i))) (hi : i = (m : Int)) (X : l[m]? = some e) :
  Yp E.P n s ⟨dst, .indexAddr t x y, ty, pos, aft, g⟩ (.v (.pointer (some ⟨Fi v, m * sz, none⟩))) := by
 obtain ⟨c, hv⟩ := hv
 have G : Ap s x = some (.v (.slice (some ⟨Fi v, 0, none⟩) l.length c)) := by rw [← hv]; exact Z
 have := K0 (E := E) (n := n) (dst := dst) (ty := ty) (pos := pos) (aft := aft) (g := g) Y W hel G hy hi (gs X).1
 rwa [hsz, Nat.zero_add] at this
theorem Dg {α : Type} {x : Operand} {t : TypeId} {v : Value} {l : List α} {ti : TI} {e : Nat} (M : E.tab t = some ti) (G : ti.kind = .slice e) (O : Ap s x = some (.v v))
  (hv : ∃ a c, v = .slice a l.length c) : Yp E.P n s ⟨dst, .call { callee := .builtin .len, args := #[x], argTypes := #[t] }, ty, pos, aft, g⟩ (.v (.int .i64 (l.length : Int))) := by
 obtain ⟨a, c, rfl⟩ := hv
 exact Ev M G O
def P3 (l : Li) : Option ByteArray := if (l.all fun x => decide (0 ≤ x ∧ x < 256)) = true then some ⟨(l.map fun x => UInt8.ofNat x.toNat).toArray⟩ else none
theorem T6 {l : Li} (h : (l.all fun x => decide (0 ≤ x ∧ x < 256)) = true) : Ed (l.map fun x => UInt8.ofNat x.toNat) = l.map (rK .u8) := by
 unfold Ed
 rw [List.map_map]
 refine List.map_congr_left fun x M => ?_
 have := List.all_eq_true.1 h x M
 have := of_decide_eq_true this
 simp only [Function.comp_apply, rK]
 have G : ((UInt8.ofNat x.toNat).toNat : Int) = x := by
  rw [UInt8.toNat_ofNat']
  omega
 rw [G]
theorem Yr (q : Nat) {t t' : TypeId} {x : Operand} {ti M Z : TI} {e tt : Nat} {l : Li} {v : Value} {r : ByteArray} (O : P3 l = some r) (ht : E.tab t = some ti) (hk : ti.kind = .slice e) (he : E.tab e = some Z) (X : Z.kind = .int .u8) (Y : E.tab t' = some M) (W : M.kind = .string)
  (hx : Ap s x = some (.v v)) (hq : ob[q]? = some (.us v tt 1 (l.map (rK .u8)))) (hd : ∀ d, dst = some d → d < n) (k : R ⟨Dq s dst (.v (.string r)), ob⟩) : AX E n C [] ⟨dst, .convert t t' x, ty, pos, aft, g⟩ ⟨s, ob⟩ R := by
 unfold P3 at O
 split at O
 ·rename_i G
  cases O
  exact Tc ht hk he X Y W (by rw [T6 G]; exact Gi q hx hq) hd k
 ·cases O
theorem UsR.one {H : GH} {w : World} {v : Value} {G sz : Nat} {es : List (List T)} (h : UsR H w v G sz es) : v.oneCell' = true := by
 rcases h with ⟨rfl, _⟩ | ⟨_, _, _, rfl, _⟩ <;> rfl
theorem AO.one {ops : Array Oper} {l : List Oper} (q : Nat) {v : Value} {M sz : Nat} {es : List (List T)} (O : ob[q]? = some (.us v M sz es)) (k : v.oneCell' = true → AO E n C ops l ⟨s, ob⟩ R) : AO E n C ops l ⟨s, ob⟩ R :=
 fun H a w G => k (UsR.one (show UsR H w v M sz es from G.objs _ (mg O))) H a w G
theorem AP.one {ops : Array Oper} {pl : PL} {so : Ak} {prot : List Nat} {pobjs : List Ob} (q : Nat) {v : Value} {O sz : Nat} {es : List (List T)} (Y : ob[q]? = some (.us v O sz es)) (k : v.oneCell' = true → AP E n C ops prot pobjs pl so ⟨s, ob⟩ R) : AP E n C ops prot pobjs pl so ⟨s, ob⟩ R :=
 fun Hs ws H a w Z wr W X G M => k (UsR.one (show UsR H w v O sz es from M.objs _ (mg Y))) Hs ws H a w Z wr W X G M
theorem Ci {v : Value} (h : v.oneCell' = true) : Do (.v v) = some [.v v] := by simp [Do, h]
theorem R2 : ∀ {l cs : List T}, l.length = cs.length → E6 l 0 cs = cs
 | [], [], _ => rfl
 | [], _ :: _, h => by simp at h
 | _ :: _, [], h => by simp at h
 | x :: l, c :: cs, h => by simp only [E6]; rw [R2 (by simpa using h)]
theorem eZ {α : Type} {l : List α} {i : Nat} {x : α} (h : l[i]? = some x) : i < l.length := (gs h).1
theorem R5 {G : TI} {cs : List T} (M : G.isAgg = true) (h : G.size = cs.length) : Ex G cs 0 = some (.agg cs) := by simp [Ex, M, h]
theorem Fu {α : Type} {W : α → T} {t : TypeId} {x y : Operand} {k : IntKind} {i : Int} {m len O : Nat} {l : List α} {z : α} {ti G : TI} (Z : E.tab t = some ti) (Y : ti.kind = .array len O) (hel : E.tab O = some G) (h1 : G.size = 1) (M : G.isAgg = false)
  (hx : Ap s x = some (.agg (l.map W))) (hy : Ap s y = some (.v (.int k i))) (hi : i = (m : Int)) (X : l[m]? = some z) (hlen : l.length = len := by first | rfl | exact Arr.h _) :
  Yp E.P n s ⟨dst, .index t x y, ty, pos, aft, g⟩ (W z) :=
 T8 Z Y hel hx hy hi (by have := eZ X; omega) (by rw [h1, Nat.mul_one]; simp [Ex, M, X])
def Ru {α : Type} (l : List α) (a b c : Int) : Option (List α) := if 0 ≤ a ∧ a ≤ b ∧ b ≤ c ∧ c ≤ (l.length : Int) then some ((l.drop a.toNat).take (b.toNat - a.toNat)) else none
theorem Vn {α : Type} {l r : List α} {a b c : Int} (h : Ru l a b c = some r) : ∃ x y z : Nat, a = (x : Int) ∧ b = (y : Int) ∧ c = (z : Int) ∧ x ≤ y ∧ y ≤ z ∧ z ≤ l.length ∧ (l.drop x).take (y - x) = r := by
 unfold Ru at h
 split at h
 ·exact ⟨a.toNat, b.toNat, c.toNat, by omega, by omega, by omega, by omega, by omega, by omega, by cases h; rfl⟩
 ·cases h
theorem aB {α : Type} {f : α → List T} {x : Operand} {t : TypeId} {lo hi : Option Operand} {mx : Operand} {sz : Nat} {l r : List α} {ti W : TI} {e : Nat} (a b m : Nat)
  (ht : E.tab t = some ti) (Z : ti.kind = .slice e) (he : E.tab e = some W) (hsz : W.size = sz) (hx : Ap s x = some (.list sz (l.map f)))
  (h1 : Rs s lo 0 a) (h2 : Rs s hi l.length b) (Y : ∃ k i, Ap s mx = some (.v (.int k i)) ∧ i = (m : Int)) (hn : hi = none → False) (O : a ≤ b) (M : b ≤ m) (hm : m ≤ l.length) (hr : (l.drop a).take (b - a) = r) :
  Yp E.P n s ⟨dst, .slice t x lo hi (some mx), ty, pos, aft, g⟩ (.list sz (r.map f)) := by
 have := Oy (E := E) (n := n) (dst := dst) (ty := ty) (pos := pos) (aft := aft) (g := g) (mx := some mx) a b m ht Z he hsz hx h1 (by rw [List.length_map]; exact h2)
  (fun X G => ⟨m, Y, M, by rw [List.length_map] at G; omega⟩) (fun h => (hn h).elim) O (by rw [List.length_map]; omega)
 rwa [Us hr] at this
theorem fP {x : Nat} (h : (0 : Int) = (x : Int)) : Rs s none 0 x := by show x = 0; omega
theorem gC {l y : Nat} (h : (l : Int) = (y : Int)) : Rs s none l y := by show y = l; omega
end
section
variable {E : Env} {n : Nat} {C : Ctx} {σ : St} {s : Ak} {dst : Option Tmp} {ty : TypeId} {pos : String} {aft : Array Edge} {g : Option (Nat × Bool)}
theorem K9 {H : GH} {w : World} {cs : List T} {b off tt sz cap : Nat} {es : List (List T)} (i j : Nat) {e : List T} (hor : ArrR H w b tt sz cap es) (he : es[i]? = some e) (ho : off = i * sz + j)
  {news : List Value} (M : news.length = cs.length) (W : ∀ v, v ∈ news → v.oneCell' = true) (hvr : ∀ (i : Nat) (x : T), cs[i]? = some x → VR H (news.getD i undef) x) (hj : j + cs.length ≤ e.length) :
  ∃ w', (storeCells ⟨b, off, none⟩ news).run E.P w = .ok () w' ∧ ArrR H w' b tt sz cap (es.set i (E6 e j cs)) ∧ (w'.os = w.os ∧ w'.tape = w.tape ∧ w'.output = w.output) ∧ w'.heap.size = w.heap.size ∧
   ∀ i, i ≠ b → w'.heap[i]? = w.heap[i]? := by
 obtain ⟨O, a1, a2, a3, a4, a5, a6⟩ := hor
 have aa := (gs he).1
 have hel := a5 i e he
 have ab : (i + 1) * sz ≤ cap * sz := Nat.mul_le_mul_right _ (by omega)
 rw [Nat.succ_mul] at ab
 have ac := run_storeCells_at (P := E.P) b off tt news 0 O w a1 (by rw [M]; omega) W
 simp only [Nat.add_zero] at ac
 refine ⟨w.setRow b (O.toList.take off ++ news ++ O.toList.drop (off + news.length)).toArray, ac, ?_, ⟨rfl, rfl, rfl⟩, Fp _ _ _, fun i hi => setRow_other w b i _ hi⟩
 refine ⟨_, setRow_heap w b O _ tt _ a1, ?_, by simpa using a3, by simpa using a4, ?_, ?_⟩
 ·simp only [List.size_toArray, List.length_append, List.length_take, List.length_drop, Array.length_toList, M]
  omega
 ·intro Z e' G
  rw [List.getElem?_set] at G
  split at G
  ·simp only [aa, if_true, Option.some.injEq] at G
   subst G; rw [D6]; exact hel
  ·exact a5 Z e' G
 ·intro Z e' G j' x' Y
  rw [F3 (by rw [M]; omega)]
  rw [List.getElem?_set] at G
  split at G
  ·rename_i X
   subst X
   simp only [aa, if_true, Option.some.injEq] at G
   subst G
   rcases G6 e j cs j' x' Y with ⟨q1, q2, q3⟩ | ⟨q1, q2⟩
   ·rw [if_pos (by rw [M]; omega)]
    rw [show i * sz + j' - off = j' - j by omega]
    have hlt := (gs q3).1
    refine ⟨?_, hvr _ _ q3⟩
    rw [List.getD, gq (by omega)]
    exact W _ (List.getElem_mem (by omega))
   ·rw [if_neg (by rw [M]; omega)]
    exact a6 i e he j' x' q2
  ·rename_i X
   have hj'l := (gs Y).1
   have hel' := a5 Z e' G
   rw [if_neg ?_]
   ·exact a6 Z e' G j' x' Y
   ·rw [M]
    rintro ⟨q1, q2⟩
    rcases Nat.lt_or_gt_of_ne X with h | h
    ·have : (i + 1) * sz ≤ Z * sz := Nat.mul_le_mul_right _ h
     rw [Nat.succ_mul] at this; omega
    ·have : (Z + 1) * sz ≤ i * sz := Nat.mul_le_mul_right _ h
     rw [Nat.succ_mul] at this; omega
theorem Ghost.lit (t : Nat) {ob : List Ob} {sz : Nat} {es es' : List (List T)} (h : get s t = some (.list sz es)) (hl : LendLL [] es es') : Ghost n C s ob ((t, .list sz es') :: s) ob := Ghost.slots fun H a w M i x G => by
 simp only [get] at G
 cases hb : Nat.beq t i with
 | true =>
  have := nq hb
  subst this
  rw [hb, cond_true] at G
  cases G
  refine VR.rows (M.slots t _ h) hl.length fun i O W => ?_
  obtain ⟨e, Z, q2, q3⟩ := K3 (H := H) (H1 := H) (w := w) (objs := []) (by simp) (by simp) (fun _ _ h => h) hl i O W
  exact ⟨e, Z, q2, fun j y Y v X => q3 j y Y X⟩
 | false =>
  rw [hb, cond_false] at G
  exact M.slots i x G
theorem AX.take (k m : Nat) {md : List Nat} {o : Oper} {ob : List Ob} {R : St → Prop} {v : Value} {ty tyi szi : Nat} {vs : List Value} {L : List (Option (List (List T)))} {es : List (List T)} (hk : ob[k]? = some (.uss v ty tyi szi vs L)) (hm : L[m]? = some (some es))
  (h : AX E n C md o ⟨s, ob.set k (.uss v ty tyi szi vs (L.set m none)) ++ [.us (vs.getD m undef) tyi szi es]⟩ R) : AX E n C (k :: md) o ⟨s, ob⟩ R := by
 intro H a w Z
 obtain ⟨H1, h1, Y⟩ := Ghost.take (n := n) (C := C) (s := s) k m hk hm H a w Z
 refine Cm ?_ (fun _ _ _ h => h) (h H1 a w Y)
 rintro a' w' ⟨σ', H', v, hr, M, ha, O, W⟩
 refine ⟨σ', H', v, hr, M, ha, fun b o hb => O _ _ (h1 _ _ hb), fun i p X G => ?_⟩
 simp only [List.contains_cons, Bool.or_eq_false_iff, beq_eq_false_iff_ne] at G
 refine W i p ?_ G.2
 dsimp only at X ⊢
 rw [List.getElem?_append_left (by simpa using (gs X).1), List.getElem?_set_ne (Ne.symm G.1)]; exact X
end
inductive NewK where
 | us (e z : Nat) (es : List (List T))
 | box (ty m : Nat) (cs : List T)
 | fn (f : List T → T)
structure NewOp where
 j : Nat
 ds : List Nat
 d : Nat
 k : NewK
def NewK.obs : NewK → T → List Ob
 | .us e z es, .v v => [.us v e z es]
 | .box ty m cs, .v (.pointer (some a)) => [.arr a.block ty m 1 [cs]]
 | _, _ => []
def NewK.ok (G : List T) (x : T) : NewK → Prop
 | .us _ _ _ => ∃ v, x = .v v ∧ v.oneCell' = true
 | .box _ _ _ => ∃ b, x = .v (.pointer (some ⟨b, 0, none⟩))
 | .fn f => x = f G
def NewK.okW (G : List T) (x : T) : NewK → Prop
 | .us _ _ _ => ∃ v, x = .v v
 | .box _ _ _ => ∃ b, x = .v (.pointer (some ⟨b, 0, none⟩))
 | .fn f => x = f G
def upd (v : Nat → T) (j : Nat) (x : T) : Nat → T := fun i => bif Nat.beq i j then x else v i
def News : List NewOp → (Nat → T) → Ak → List Ob → (Ak → List Ob → Prop) → Prop
 | [], _, s, ob, F => F s ob
 | ⟨j, _, d, .us e z es⟩ :: l, v, s, ob, F => ∀ x : Value, x.oneCell' = true → News l (upd v j (.v x)) ((d, .v x) :: s) (ob ++ [.us x e z es]) F
 | ⟨j, _, d, .box ty m cs⟩ :: l, v, s, ob, F => ∀ b : Nat, News l (upd v j (.v (.pointer (some ⟨b, 0, none⟩)))) ((d, .v (.pointer (some ⟨b, 0, none⟩))) :: s) (ob ++ [.arr b ty m 1 [cs]]) F
 | ⟨j, ds, d, .fn f⟩ :: l, v, s, ob, F => News l (upd v j (f (ds.map v))) ((d, f (ds.map v)) :: s) ob F
def Vk (v : Nat → T) : List NewOp → Ak → Ak
 | [], s => s
 | p :: l, s => Vk v l ((p.d, v p.j) :: s)
def Rt (v : Nat → T) : List NewOp → List Ob → List Ob
 | [], ob => ob
 | p :: l, ob => Rt v l (ob ++ p.k.obs (v p.j))
def bO : List Nat → List NewOp → Bool
 | _, [] => true
 | P, p :: l => p.ds.all P.contains && bO (p.j :: P) l
theorem News.get (vals : Nat → T) {F : Ak → List Ob → Prop} : ∀ (l : List NewOp) (P : List Nat) (v : Nat → T) (s : Ak) (ob : List Ob), bO P l = true → (∀ i, i ∈ P → v i = vals i) → (∀ p, p ∈ l → p.k.ok (p.ds.map vals) (vals p.j)) → News l v s ob F → F (Vk vals l s) (Rt vals l ob)
 | [], P, v, s, ob, _, _, _, h => h
 | ⟨j, ds, d, k⟩ :: l, P, v, s, ob, hb, hv, ho, h => by
  simp only [bO, Bool.and_eq_true] at hb
  have X := ho _ (.head _)
  have M : ∀ x, x = vals j → ∀ i, i ∈ j :: P → upd v j x i = vals i := by
   intro x G i O
   unfold upd
   cases hij : Nat.beq i j with
   | true => rw [cond_true, G, nq hij]
   | false =>
    rw [cond_false]
    rcases List.mem_cons.1 O with rfl | O
    ·simp at hij
    ·exact hv i O
  cases k with
  | us e z es =>
   obtain ⟨x, G, Z⟩ := X
   have := News.get vals l (j :: P) _ _ _ hb.2 (M _ G.symm) (fun p W => ho p (.tail _ W)) (h x Z)
   simp only [Vk, Rt, G, NewK.obs]; exact this
  | box ty m cs =>
   obtain ⟨b, G⟩ := X
   have := News.get vals l (j :: P) _ _ _ hb.2 (M _ G.symm) (fun p W => ho p (.tail _ W)) (h b)
   simp only [Vk, Rt, G, NewK.obs]; exact this
  | fn f =>
   have hm : ds.map v = ds.map vals := List.map_congr_left fun i O => hv i (by have := List.all_eq_true.1 hb.1 i O; simpa using this)
   have G : vals j = f (ds.map vals) := X
   have Y : News l (upd v j (f (ds.map v))) ((d, f (ds.map v)) :: s) ob F := h
   rw [hm, ← G] at Y
   have := News.get vals l (j :: P) _ _ _ hb.2 (M _ rfl) (fun p W => ho p (.tail _ W)) Y
   simp only [Vk, Rt, NewK.obs, List.append_nil]; exact this
theorem R8 {vals : Nat → T} {i : Nat} {x : T} : ∀ {l : List NewOp} {s : Ak}, Aw.get (Vk vals l s) i = some x → (∃ p, p ∈ l ∧ p.d = i ∧ vals p.j = x) ∨ Aw.get s i = some x
 | [], s, h => .inr h
 | p :: l, s, h => by
  rcases R8 (l := l) h with ⟨q, G, M⟩ | h
  ·exact .inl ⟨q, .tail _ G, M⟩
  ·simp only [Aw.get] at h
   cases hb : Nat.beq p.d i with
   | true => rw [hb, cond_true] at h; cases h; exact .inl ⟨p, .head _, nq hb, rfl⟩
   | false => rw [hb, cond_false] at h; exact .inr h
def Eg (vals : Nat → T) (D : List Nat) : List NewOp → List Ob
 | [] => []
 | p :: l => (bif D.contains p.j then p.k.obs (vals p.j) else []) ++ Eg vals D l
theorem Kz {vals : Nat → T} {D : List Nat} : ∀ {l : List NewOp} {ob : List Ob}, (∀ p, p ∈ l → p.j ∈ D) → ob ++ Eg vals D l = Rt vals l ob
 | [], ob, _ => by simp [Eg, Rt]
 | p :: l, ob, h => by
  have G : D.contains p.j = true := by simpa using h p (.head _)
  simp only [Eg, Rt, G, cond_true]
  rw [← List.append_assoc]
  exact Kz fun q M => h q (.tail _ M)
theorem Ow {vals : Nat → T} : ∀ {l : List NewOp}, Eg vals [] l = []
 | [] => rfl
 | p :: l => by simp only [Eg, Ow (l := l)]; rfl
theorem Np {vals vals' : Nat → T} {D D' : List Nat} : ∀ {l : List NewOp}, (∀ p, p ∈ l → (D.contains p.j = D'.contains p.j) ∧ (p.j ∈ D → vals p.j = vals' p.j)) → Eg vals D l = Eg vals' D' l
 | [], _ => rfl
 | p :: l, h => by
  obtain ⟨G, M⟩ := h p (.head _)
  simp only [Eg, Np (l := l) fun q O => h q (.tail _ O), G]
  cases hc : D'.contains p.j with
  | true => rw [M (by rw [hc] at G; simpa using G)]
  | false => rfl
theorem Nn {vals vals' : Nat → T} {D : List Nat} {p : NewOp} : ∀ {l : List NewOp}, p ∈ l → (l.map NewOp.j).Nodup → p.j ∉ D → (∀ i, i ∈ D → vals i = vals' i) → List.Perm (Eg vals D l ++ p.k.obs (vals' p.j)) (Eg vals' (p.j :: D) l)
 | q :: l, M, hn, hp, hv => by
  simp only [List.map_cons, List.nodup_cons] at hn
  rcases List.mem_cons.1 M with rfl | M
  ·have e : Eg vals D l = Eg vals' (p.j :: D) l := Np fun r Y => by
    have G : r.j ≠ p.j := fun O => hn.1 (O ▸ List.mem_map_of_mem Y)
    refine ⟨?_, fun h => hv _ h⟩
    simp [G]
   have W : D.contains p.j = false := by simpa using hp
   have X : (p.j :: D).contains p.j = true := by simp
   simp only [Eg, W, X, cond_true, cond_false, List.nil_append, e]
   exact List.perm_append_comm
  ·have G : q.j ≠ p.j := fun O => hn.1 (O ▸ List.mem_map_of_mem M)
   have Z := Nn M hn.2 hp hv
   have e : (bif D.contains q.j then q.k.obs (vals q.j) else []) = bif (p.j :: D).contains q.j then q.k.obs (vals' q.j) else [] := by
    have : (p.j :: D).contains q.j = D.contains q.j := by simp [G]
    rw [this]
    cases hc : D.contains q.j with
    | true => rw [cond_true, cond_true, hv _ (by simpa using hc)]
    | false => rfl
   simp only [Eg, List.append_assoc, e]
   exact List.Perm.append_left _ Z
theorem Vz {l m : List Ob} (h : List.Perm l m) : List.Perm (l.flatMap Ob.fp) (m.flatMap Ob.fp) := by
 induction h with
 | nil => exact .nil
 | cons x _ ih => simp only [List.flatMap_cons]; exact List.Perm.append_left _ ih
 | swap x y l =>
  simp only [List.flatMap_cons, ← List.append_assoc]
  exact List.Perm.append_right _ List.perm_append_comm
 | trans _ _ a b => exact a.trans b
def PAllN (F : NewOp → Prop) : List NewOp → Prop
 | [] => True
 | p :: l => F p ∧ PAllN F l
theorem PAllN.get {F : NewOp → Prop} : ∀ {l : List NewOp}, PAllN F l → ∀ p, p ∈ l → F p
 | q :: l, ⟨h1, h2⟩, p, h => by
  rcases List.mem_cons.1 h with rfl | h
  ·exact h1
  ·exact PAllN.get h2 p h
section
variable {E : Env} {n : Nat} {C : Ctx} {ops : Array Oper} {s : Ak} {ob : List Ob} {R : St → Prop}
theorem bE {H : GH} {a : Act} {w : World} {ob' : List Ob} (g : Gam n C ⟨s, ob⟩ H a w) (h : List.Perm ob ob') : Gam n C ⟨s, ob'⟩ H a w :=
 { g with objs := fun p G => g.objs p (h.mem_iff.2 G), free := fun p G => g.free p (h.mem_iff.2 G), new := fun p G => g.new p (h.mem_iff.2 G), nodup := (Vz h).nodup_iff.1 g.nodup }
def Ja : List NewOp → Nat → Nat
 | [], _ => 0
 | p :: l, j => bif Nat.beq p.j j then p.d else Ja l j
theorem Sj : ∀ {l : List NewOp} {p : NewOp}, p ∈ l → (l.map NewOp.j).Nodup → Ja l p.j = p.d
 | q :: l, p, G, hn => by
  simp only [List.map_cons, List.nodup_cons] at hn
  simp only [Ja]
  rcases List.mem_cons.1 G with rfl | G
  ·simp
  ·have : Nat.beq q.j p.j = false := by
    cases hb : Nat.beq q.j p.j with
    | false => rfl
    | true => exact absurd (nq hb ▸ List.mem_map_of_mem G) hn.1
   rw [this, cond_false]; exact Sj G hn.2
def fH : List NewOp → Nat → NewK
 | [], _ => .fn fun _ => .tup []
 | p :: l, j => bif Nat.beq p.j j then p.k else fH l j
theorem Za : ∀ {l : List NewOp} {p : NewOp}, p ∈ l → (l.map NewOp.j).Nodup → fH l p.j = p.k
 | q :: l, p, G, hn => by
  simp only [List.map_cons, List.nodup_cons] at hn
  simp only [fH]
  rcases List.mem_cons.1 G with rfl | G
  ·simp
  ·have : Nat.beq q.j p.j = false := by
    cases hb : Nat.beq q.j p.j with
    | false => rfl
    | true => exact absurd (nq hb ▸ List.mem_map_of_mem G) hn.1
   rw [this, cond_false]; exact Za G hn.2
def DepN (A : List NewOp) : List Nat → Ak → List T → (Ak → List T → Prop) → Prop
 | [], s, xs, F => F s xs
 | j :: ds, s, xs, F => match fH A j with
  | .us _ _ _ => ∀ v : Value, v.oneCell' = true → DepN A ds ((Ja A j, .v v) :: s) (xs ++ [.v v]) F
  | .box _ _ _ => ∀ b : Nat, DepN A ds ((Ja A j, .v (.pointer (some ⟨b, 0, none⟩))) :: s) (xs ++ [.v (.pointer (some ⟨b, 0, none⟩))]) F
  | .fn _ => ∀ x : T, DepN A ds ((Ja A j, x) :: s) (xs ++ [x]) F
def Vl (A : List NewOp) (vals : Nat → T) : List Nat → Ak → Ak
 | [], s => s
 | j :: ds, s => Vl A vals ds ((Ja A j, vals j) :: s)
theorem DepN.get {A : List NewOp} {vals : Nat → T} {F : Ak → List T → Prop} : ∀ {ds : List Nat} {s : Ak} {M : List T}, (∀ d, d ∈ ds → ∃ X, NewK.ok X (vals d) (fH A d)) → DepN A ds s M F → F (Vl A vals ds s) (M ++ ds.map vals)
 | [], s, M, _, h => by simpa [DepN, Vl] using h
 | j :: ds, s, M, hv, h => by
  have G := hv j (by simp)
  have W := fun d hd => hv d (List.mem_cons_of_mem _ hd)
  simp only [DepN] at h
  obtain ⟨X, G⟩ := G
  simp only [Vl, List.map_cons]
  rw [show M ++ vals j :: ds.map vals = (M ++ [vals j]) ++ ds.map vals by simp]
  cases hk : fH A j with
  | us e z es =>
   rw [hk] at h G
   obtain ⟨v, O, Y⟩ := G
   rw [O]; exact DepN.get W (h v Y)
  | box ty m cs =>
   rw [hk] at h G
   obtain ⟨b, O⟩ := G
   rw [O]; exact DepN.get W (h b)
  | fn f =>
   rw [hk] at h
   exact DepN.get W (h (vals j))
theorem Sl {A : List NewOp} {vals : Nat → T} {i : Nat} {x : T} : ∀ {ds : List Nat} {s : Ak}, Aw.get (Vl A vals ds s) i = some x → (∃ d, d ∈ ds ∧ Ja A d = i ∧ vals d = x) ∨ Aw.get s i = some x
 | [], s, h => .inr h
 | d :: ds, s, h => by
  rcases Sl (ds := ds) h with ⟨G, M, O⟩ | h
  ·exact .inl ⟨G, by simp [M], O⟩
  ·simp only [Aw.get] at h
   cases hb : Nat.beq (Ja A d) i with
   | true => rw [hb, cond_true] at h; cases h; exact .inl ⟨d, by simp, nq hb, rfl⟩
   | false => rw [hb, cond_false] at h; exact .inr h
def Yv : List Nat → Bool
 | [] => true
 | x :: l => (l.all fun y => !Nat.beq x y) && Yv l
theorem Qt : ∀ {l : List Nat}, Yv l = true → l.Nodup
 | [], _ => .nil
 | x :: l, h => by
  simp only [Yv, Bool.and_eq_true] at h
  refine List.nodup_cons.2 ⟨fun G => ?_, Qt h.2⟩
  have := List.all_eq_true.1 h.1 x G
  simp at this
theorem AP.any {r : PL} {so : Ak} {prot : List Nat} {pobjs : List Ob} (A : List NewOp)
  (hB : (Yv (A.map NewOp.j) && (bO [] A && (A.all (fun p => A.all fun q => Nat.beq p.j q.j || !Nat.beq p.d q.d) && (A.all fun p => (Aw.get s p.d).isNone && free so (some p.d))))) = true)
  (hstep : PAllN (fun p => ∃ o, ops[p.j]? = some o ∧ o.guard = none ∧ o.dst = some p.d ∧
   DepN A p.ds s [] fun s' xs => ∀ ob, AX E n C [] o ⟨s', ob⟩ fun σ' => ∃ x, Aw.get σ'.slots p.d = some x ∧ p.k.okW xs x ∧ σ'.objs = ob ++ p.k.obs x) A)
  (k : News A (fun _ => .tup []) s ob (fun s' ob' => AP E n C ops prot pobjs r so ⟨s', ob'⟩ R)) :
  AP E n C ops prot pobjs (.par (A.map fun p => (p.j, p.ds)) r) so ⟨s, ob⟩ R := by
 simp only [Bool.and_eq_true] at hB
 obtain ⟨hn, hb, hj, hs⟩ := hB
 have hn := Qt hn
 have hdd : ∀ p, p ∈ A → ∀ q, q ∈ A → p.d = q.d → p.j = q.j := fun p G q Y he => by
  have := List.all_eq_true.1 (List.all_eq_true.1 hj p G) q Y
  rw [he] at this
  simp at this
  exact this
 have hs' : ∀ p, p ∈ A → Aw.get s p.d = none ∧ free so (some p.d) = true := fun p G => by
  have := List.all_eq_true.1 hs p G
  simp only [Bool.and_eq_true, Option.isNone_iff_eq_none] at this
  exact this
 have back : ∀ p, p ∈ A → ∀ q, q ∈ A → p.j = q.j → p = q := by
  have : ∀ l : List NewOp, (l.map NewOp.j).Nodup → ∀ p, p ∈ l → ∀ q, q ∈ l → p.j = q.j → p = q := by
   intro l
   induction l with
   | nil => intro _ p G; cases G
   | cons x l ih =>
    intro hn p G q Y he
    simp only [List.map_cons, List.nodup_cons] at hn
    rcases List.mem_cons.1 G with h1 | h1 <;> rcases List.mem_cons.1 Y with h2 | h2
    ·rw [h1, h2]
    ·exact absurd (show x.j ∈ l.map NewOp.j by rw [← h1, he]; exact List.mem_map_of_mem h2) hn.1
    ·exact absurd (show x.j ∈ l.map NewOp.j by rw [← h2, ← he]; exact List.mem_map_of_mem h1) hn.1
    ·exact ih hn.2 p h1 q h2 he
  exact this A hn
 intro Hs ws H a w sr wr ag hH hpp gm
 refine ⟨fun D a w => ∃ (vals : Nat → T) (H : GH), (∀ p, p ∈ A → p.j ∈ D → p.k.ok (p.ds.map vals) (vals p.j) ∧ VR H (a.tmps.getD p.d undef) (vals p.j) ∧ ∀ x, x ∈ p.ds → x ∈ D) ∧ (∀ d, d ∈ D → ∃ p, p ∈ A ∧ p.j = d) ∧ (∀ b o, Hs b = some o → H b = some o) ∧ SR n so Hs a ∧
  Gam n C ⟨s, ob ++ Eg vals D A⟩ H a w ∧ Gm Hs pobjs ws w, ?_, ?_, ?_⟩
 ·exact ⟨fun _ => .tup [], H, by simp, by simp, hH, sr, by rw [Ow, List.append_nil]; exact gm, ag⟩
 ·rintro D j ds a w hm Kc hjD ⟨vals, H, hd, hDA, hH, sr, gm, ag⟩
  obtain ⟨p, G, he⟩ := List.mem_map.1 hm
  simp only [Prod.mk.injEq] at he
  obtain ⟨rfl, rfl⟩ := he
  obtain ⟨o, ho, hg, hdst, X⟩ := hstep.get p G
  have X := DepN.get (vals := vals) (fun d hdd => by
   obtain ⟨q, Y, rfl⟩ := hDA d (Kc d hdd)
   rw [Za Y hn]; exact ⟨_, (hd q Y (Kc _ hdd)).1⟩) X
  have hsl : ∀ i x, Aw.get (Vl A vals p.ds s) i = some x → VR H (a.tmps.getD i undef) x := by
   intro i x h
   rcases Sl h with ⟨d, h1, h2, h3⟩ | h
   ·obtain ⟨q, Y, rfl⟩ := hDA d (Kc d h1)
    rw [Sj Y hn] at h2
    rw [← h2, ← h3]; exact (hd q Y (Kc _ h1)).2.1
   ·exact gm.slots i x h
  rw [List.nil_append] at X
  have X := X (ob ++ Eg vals D A) H a w { gm with slots := hsl }
  simp only [wpOp, ho]
  rw [if_pos (by simp [Region.wanted, hg])]
  refine .inl (Cm ?_ (fun _ _ _ h => h.elim) X)
  rintro a' w' ⟨σ', H', v, ⟨x, hget, Z, hobj⟩, gm', ha', hHH, hfr⟩
  have ag' : Gm Hs pobjs ws w' := by
   refine ⟨fun b o hb => gm'.held _ _ (hHH _ _ (hH _ _ hb)), fun q O b hb => ?_⟩
   obtain ⟨i, W, hoi⟩ := hpp q O
   have hoi' : (ob ++ Eg vals D A)[i]? = some q := by rw [List.getElem?_append_left (gs hoi).1]; exact hoi
   exact ((hfr i q hoi' (by simp)).2 b hb).trans (ag.2 q O b hb)
  have hne : ∀ i, i ∈ D → upd vals p.j x i = vals i := fun i W => by
   unfold upd
   cases hij : Nat.beq i p.j with
   | true => exact absurd (nq hij ▸ W) hjD
   | false => rfl
  have Z : p.k.ok (p.ds.map vals) x := by
   cases hk : p.k with
   | us e z es =>
    rw [hk] at Z hobj
    obtain ⟨v, rfl⟩ := Z
    refine ⟨v, rfl, UsR.one (show UsR H' w' v e z es from gm'.objs (.us v e z es) ?_)⟩
    rw [hobj]; simp [NewK.obs]
   | box ty m cs => rw [hk] at Z; exact Z
   | fn f => rw [hk] at Z; exact Z
  have hself : upd vals p.j x p.j = x := by unfold upd; simp
  have htmp : ∀ i, i ≠ p.d → a'.tmps.getD i undef = a.tmps.getD i undef := fun i W => by
   rw [ha', hdst]
   simp [Act.put, Array.getD_eq_getD_getElem?, Array.getElem?_setIfInBounds_ne (Ne.symm W)]
  have hdsm : p.ds.map (upd vals p.j x) = p.ds.map vals := List.map_congr_left fun i W => hne i (Kc i W)
  refine ⟨ag', upd vals p.j x, H', fun q Y hqD => ?_, fun d hdD => ?_, fun b o hb => hHH _ _ (hH _ _ hb), ?_, ?_, ag'⟩
  ·by_cases O : q.j = p.j
   ·have := back q Y p G O
    subst this
    rw [hself, hdsm]
    exact ⟨Z, gm'.slots _ _ hget, fun y hy => List.mem_cons_of_mem _ (Kc y hy)⟩
   ·have hqD' : q.j ∈ D := by
     rcases List.mem_cons.1 hqD with h | h
     ·exact absurd h O
     ·exact h
    obtain ⟨h1, h2, h3⟩ := hd q Y hqD'
    rw [hne _ hqD', List.map_congr_left fun i W => hne i (h3 i W), htmp q.d fun h => O (hdd q Y p G h)]
    exact ⟨h1, h2.mono hHH, fun y hy => List.mem_cons_of_mem _ (h3 y hy)⟩
  ·rcases List.mem_cons.1 hdD with rfl | hdD
   ·exact ⟨p, G, rfl⟩
   ·exact hDA d hdD
  ·rw [ha', hdst]
   exact sr.free _ _ (hs' p G).2
  ·refine bE (ob := σ'.objs) { gm' with slots := fun i y hy => ?_ } ?_
   ·have W : i ≠ p.d := fun h => by rw [h, (hs' p G).1] at hy; cases hy
    rw [htmp i W]
    exact (gm.slots i y hy).mono hHH
   ·rw [hobj, List.append_assoc]
    refine List.Perm.append_left _ ?_
    have := Nn (vals' := upd vals p.j x) G hn hjD (fun i W => (hne i W).symm)
    rw [hself] at this
    exact this
 ·rintro D a w hall ⟨vals, H, hd, hDA, hH, sr, gm, ag⟩
  have M : ∀ p, p ∈ A → p.j ∈ D := fun p G => hall (p.j, p.ds) (List.mem_map_of_mem (f := fun p : NewOp => (p.j, p.ds)) G)
  have kk := News.get vals A [] _ _ _ hb (fun i W => by cases W) (fun p G => (hd p G (M p G)).1) k
  rw [Kz M] at gm
  refine kk Hs ws H a w sr wr ag hH (fun q O => ?_) { gm with slots := fun i x Z => ?_ }
  ·obtain ⟨i, W, hoi⟩ := hpp q O
   refine ⟨i, W, ?_⟩
   dsimp only
   rw [← Kz M, List.getElem?_append_left (gs hoi).1]; exact hoi
  ·rcases R8 Z with ⟨p, G, rfl, rfl⟩ | Z
   ·exact (hd p G (M p G)).2.1
   ·exact gm.slots i x Z
theorem AP.same {pl : PL} {so : Ak} {prot : List Nat} {pobjs : List Ob} (t : Nat) (x : T) (X : Aw.get s t = some x) (k : AP E n C ops prot pobjs pl so ⟨(t, x) :: s, ob⟩ R) : AP E n C ops prot pobjs pl so ⟨s, ob⟩ R :=
 fun Hs Z H a w Y wr M W G O => k Hs Z H a w Y wr M W G (O.same X)
end
structure MixOp where
 j : Nat
 ds : List Nat
 d : Nat
 x : T
 ks : List Nat
 os : List Ob
def MixOp.go (p : MixOp) (ob : List Ob) : List Ob := D8 ob p.ks p.os
def MixOp.lit (p : MixOp) : Bool := p.ks.isEmpty
theorem E2 {p : MixOp} (h : p.lit = true) (ob : List Ob) : p.go ob = ob := by
 unfold MixOp.go
 rw [List.isEmpty_iff.1 h]; cases p.os <;> rfl
theorem Jr {i : Nat} : ∀ {ks : List Nat} {os ob : List Ob}, i ∉ ks → (D8 ob ks os)[i]? = ob[i]?
 | [], os, ob, _ => by cases os <;> rfl
 | k :: ks, [], ob, _ => rfl
 | k :: ks, o :: os, ob, h => by
  simp only [D8]
  rw [Jr (ks := ks) fun G => h (.tail _ G)]
  exact List.getElem?_set_ne fun e => h (by rw [e]; exact .head _)
def Dj (D : List Nat) : List MixOp → List Ob → List Ob
 | [], ob => ob
 | p :: l, ob => Dj D l (bif D.contains p.j then p.go ob else ob)
def Vj (j : Nat) : List MixOp → List Ob → List Ob
 | [], ob => ob
 | p :: l, ob => bif Nat.beq p.j j then ob else Vj j l (p.go ob)
def bR : List MixOp → List Ob → List Ob
 | [], ob => ob
 | p :: l, ob => bR l (p.go ob)
def dM : List MixOp → Nat → Nat
 | [], _ => 0
 | p :: l, j => bif Nat.beq p.j j then p.d else dM l j
def xM : List MixOp → Nat → T
 | [], _ => .tup []
 | p :: l, j => bif Nat.beq p.j j then p.x else xM l j
def bQ (A : List MixOp) : List Nat → Ak → Ak
 | [], s => s
 | j :: ds, s => bQ A ds ((dM A j, xM A j) :: s)
def eF : List MixOp → Ak → Ak
 | [], s => s
 | p :: l, s => eF l ((p.d, p.x) :: s)
def bP : List MixOp → Bool
 | [] => true
 | p :: l => (p.lit || l.all fun q => q.lit || q.ds.contains p.j) && bP l
def PAllM (F : MixOp → Prop) : List MixOp → Prop
 | [] => True
 | p :: l => F p ∧ PAllM F l
theorem PAllM.get {F : MixOp → Prop} : ∀ {l : List MixOp}, PAllM F l → ∀ p, p ∈ l → F p
 | q :: l, ⟨h1, h2⟩, p, h => by
  rcases List.mem_cons.1 h with rfl | h
  ·exact h1
  ·exact PAllM.get h2 p h
theorem Yy : ∀ {l : List MixOp} {p : MixOp}, p ∈ l → (l.map MixOp.j).Nodup → dM l p.j = p.d ∧ xM l p.j = p.x
 | q :: l, p, G, hn => by
  simp only [List.map_cons, List.nodup_cons] at hn
  simp only [dM, xM]
  rcases List.mem_cons.1 G with rfl | G
  ·simp
  ·have : Nat.beq q.j p.j = false := by
    cases hb : Nat.beq q.j p.j with
    | false => rfl
    | true => exact absurd (nq hb ▸ List.mem_map_of_mem G) hn.1
   rw [this, cond_false, cond_false]; exact Yy G hn.2
theorem Sk {A : List MixOp} {i : Nat} {x : T} : ∀ {ds : List Nat} {s : Ak}, Aw.get (bQ A ds s) i = some x → (∃ d, d ∈ ds ∧ dM A d = i ∧ xM A d = x) ∨ Aw.get s i = some x
 | [], s, h => .inr h
 | d :: ds, s, h => by
  rcases Sk (ds := ds) h with ⟨G, M, O⟩ | h
  ·exact .inl ⟨G, by simp [M], O⟩
  ·simp only [Aw.get] at h
   cases hb : Nat.beq (dM A d) i with
   | true => rw [hb, cond_true] at h; cases h; exact .inl ⟨d, by simp, nq hb, rfl⟩
   | false => rw [hb, cond_false] at h; exact .inr h
theorem Sc {i : Nat} {x : T} : ∀ {l : List MixOp} {s : Ak}, Aw.get (eF l s) i = some x → (∃ p, p ∈ l ∧ p.d = i ∧ p.x = x) ∨ Aw.get s i = some x
 | [], s, h => .inr h
 | p :: l, s, h => by
  rcases Sc (l := l) h with ⟨q, G, M⟩ | h
  ·exact .inl ⟨q, .tail _ G, M⟩
  ·simp only [Aw.get] at h
   cases hb : Nat.beq p.d i with
   | true => rw [hb, cond_true] at h; cases h; exact .inl ⟨p, .head _, nq hb, rfl⟩
   | false => rw [hb, cond_false] at h; exact .inr h
theorem Ix {D : List Nat} : ∀ {l : List MixOp} {ob : List Ob}, (∀ p, p ∈ l → p.j ∈ D) → Dj D l ob = bR l ob
 | [], _, _ => rfl
 | p :: l, ob, h => by
  have G : D.contains p.j = true := by simpa using h p (.head _)
  simp only [Dj, bR, G, cond_true]
  exact Ix fun q M => h q (.tail _ M)
theorem Nt : ∀ {l : List MixOp} {ob : List Ob}, Dj [] l ob = ob
 | [], _ => rfl
 | p :: l, ob => by simp only [Dj]; exact Nt (l := l)
theorem Hd {D : List Nat} : ∀ {l : List MixOp} {ob : List Ob}, (∀ q, q ∈ l → q.lit = true ∨ q.j ∉ D) → Dj D l ob = ob
 | [], _, _ => rfl
 | p :: l, ob, h => by
  simp only [Dj]
  have : (bif D.contains p.j then p.go ob else ob) = ob := by
   rcases h p (.head _) with h | h
   ·rw [E2 h]; cases D.contains p.j <;> rfl
   ·have : D.contains p.j = false := by simpa using h
    rw [this]; rfl
  rw [this]
  exact Hd fun q G => h q (.tail _ G)
theorem Ft {D : List Nat} {p : MixOp} (hp : p.lit = false) : ∀ {l : List MixOp} {ob : List Ob}, p ∈ l → (l.map MixOp.j).Nodup → bP l = true → (∀ d, d ∈ p.ds → d ∈ D) → p.j ∉ D → (∀ q, q ∈ l → q.j ∈ D → ∀ d, d ∈ q.ds → d ∈ D) →
  Dj D l ob = Vj p.j l ob ∧ Dj (p.j :: D) l ob = p.go (Vj p.j l ob)
 | q :: l, ob, Y, hn, hc, hd, hj, hcl => by
  simp only [List.map_cons, List.nodup_cons] at hn
  simp only [bP, Bool.and_eq_true] at hc
  rcases List.mem_cons.1 Y with rfl | Y
  ·have ab : D.contains p.j = false := by simpa using hj
   have G : ∀ r, r ∈ l → r.lit = true ∨ r.j ∉ D := fun r O => by
    have X : (p.lit || l.all fun q => q.lit || q.ds.contains p.j) = true := hc.1
    rw [hp, Bool.false_or] at X
    have := List.all_eq_true.1 X r O
    simp only [Bool.or_eq_true] at this
    rcases this with h | h
    ·exact .inl h
    ·exact .inr fun hrD => hj (hcl r (.tail _ O) hrD p.j (by simpa using h))
   have M : ∀ r, r ∈ l → r.lit = true ∨ r.j ∉ p.j :: D := fun r O => (G r O).imp id fun h W => by
    rcases List.mem_cons.1 W with W | W
    ·exact hn.1 (W ▸ List.mem_map_of_mem O)
    ·exact h W
   have e1 : Nat.beq p.j p.j = true := by simp
   have e2 : (p.j :: D).contains p.j = true := by simp
   simp only [Dj, Vj, ab, e1, e2, cond_true, cond_false]
   exact ⟨Hd G, Hd M⟩
  ·have Z : q.j ≠ p.j := fun he => hn.1 (he ▸ List.mem_map_of_mem Y)
   have aa : Nat.beq q.j p.j = false := by
    cases hb : Nat.beq q.j p.j with
    | false => rfl
    | true => exact absurd (nq hb) Z
   have e : (bif D.contains q.j then q.go ob else ob) = q.go ob := by
    cases hq : q.lit with
    | true => rw [E2 hq]; cases D.contains q.j <;> rfl
    | false =>
     have X := hc.1
     rw [hq, Bool.false_or] at X
     have := List.all_eq_true.1 X p Y
     rw [hp, Bool.false_or] at this
     have : D.contains q.j = true := by simpa using hd q.j (by simpa using this)
     rw [this]; rfl
   have e' : (bif (p.j :: D).contains q.j then q.go ob else ob) = q.go ob := by
    have : (p.j :: D).contains q.j = D.contains q.j := by simp [Z]
    rw [this, e]
   simp only [Dj, Vj, aa, cond_false, e, e']
   exact Ft hp Y hn.2 hc.2 hd hj fun r O => hcl r (.tail _ O)
theorem Nu {D : List Nat} {p : MixOp} (M : p.lit = true) : ∀ {l : List MixOp} {ob : List Ob}, (∀ q, q ∈ l → q.j = p.j → q = p) → Dj (p.j :: D) l ob = Dj D l ob
 | [], _, _ => rfl
 | q :: l, ob, h => by
  simp only [Dj]
  have e : (bif (p.j :: D).contains q.j then q.go ob else ob) = bif D.contains q.j then q.go ob else ob := by
   by_cases G : q.j = p.j
   ·have := h q (.head _) G
    subst this
    rw [E2 M]
    cases (q.j :: D).contains q.j <;> cases D.contains q.j <;> rfl
   ·have : (p.j :: D).contains q.j = D.contains q.j := by simp [G]
    rw [this]
  rw [e]
  exact Nu M fun r O => h r (.tail _ O)
theorem Lf {D : List Nat} {i : Nat} {G : List Ob} : ∀ {l : List MixOp} {ob : List Ob}, ob[i]? = G[i]? → (∀ q, q ∈ l → i ∉ q.ks) → (Dj D l ob)[i]? = G[i]?
 | [], _, h, _ => h
 | q :: l, ob, h, hb => by
  simp only [Dj]
  refine Lf ?_ fun r M => hb r (.tail _ M)
  cases D.contains q.j with
  | false => exact h
  | true => exact (Jr (hb q (.head _))).trans h
section
variable {E : Env} {n : Nat} {C : Ctx} {ops : Array Oper} {s : Ak} {ob : List Ob} {R : St → Prop}
theorem Qr {r : PL} {so : Ak} {prot : List Nat} {pobjs : List Ob} {L : List (List Nat)} (A : List MixOp)
  (hB : (Yv (A.map MixOp.j) && (bP A && (A.all (fun p => A.all fun q => Nat.beq p.j q.j || !Nat.beq p.d q.d) && (A.all fun p => (Aw.get s p.d).isNone && (free so (some p.d) && prot.all fun i => !p.ks.contains i))))) = true)
  (hstep : PAllM (fun p => ∃ o, ops[p.j]? = some o ∧ o.guard = none ∧ o.dst = some p.d ∧
   ∀ ob0, (bif p.lit then True else ob0 = Vj p.j A ob) → AX E n C p.ks o ⟨bQ A p.ds s, ob0⟩ fun σ' => Aw.get σ'.slots p.d = some p.x ∧ σ'.objs = p.go ob0) A)
  (k : AP E n C ops prot pobjs r so ⟨eF A s, bR A ob⟩ R) :
  AP E n C ops prot pobjs (.parS (A.map fun p => (p.j, p.ds)) L r) so ⟨s, ob⟩ R := by
 simp only [Bool.and_eq_true] at hB
 obtain ⟨Z, hc, hj, hs⟩ := hB
 have Z := Qt Z
 have hdd : ∀ p, p ∈ A → ∀ q, q ∈ A → p.d = q.d → p.j = q.j := fun p G q M he => by
  have := List.all_eq_true.1 (List.all_eq_true.1 hj p G) q M
  rw [he] at this
  simp at this
  exact this
 have hs0 : ∀ p, p ∈ A → Aw.get s p.d = none ∧ free so (some p.d) = true ∧ (prot.all fun i => !p.ks.contains i) = true := fun p G => by
  have := List.all_eq_true.1 hs p G
  simp only [Bool.and_eq_true, Option.isNone_iff_eq_none] at this
  exact this
 have hs' : ∀ p, p ∈ A → Aw.get s p.d = none ∧ free so (some p.d) = true := fun p G => ⟨(hs0 p G).1, (hs0 p G).2.1⟩
 have back : ∀ p, p ∈ A → ∀ q, q ∈ A → p.j = q.j → p = q := by
  have : ∀ l : List MixOp, (l.map MixOp.j).Nodup → ∀ p, p ∈ l → ∀ q, q ∈ l → p.j = q.j → p = q := by
   intro l
   induction l with
   | nil => intro _ p G; cases G
   | cons x l ih =>
    intro Z p G q M he
    simp only [List.map_cons, List.nodup_cons] at Z
    rcases List.mem_cons.1 G with h1 | h1 <;> rcases List.mem_cons.1 M with h2 | h2
    ·rw [h1, h2]
    ·exact absurd (show x.j ∈ l.map MixOp.j by rw [← h1, he]; exact List.mem_map_of_mem h2) Z.1
    ·exact absurd (show x.j ∈ l.map MixOp.j by rw [← h2, ← he]; exact List.mem_map_of_mem h1) Z.1
    ·exact ih Z.2 p h1 q h2 he
  exact this A Z
 have hpr : ∀ D i, prot.contains i = true → (Dj D A ob)[i]? = ob[i]? := fun D i Y => Lf rfl fun q M => by
  have := List.all_eq_true.1 (hs0 q M).2.2 i (by simpa using Y)
  simpa using this
 intro Hs ws H a w sr wr ag hH hpp gm
 refine ⟨fun D a w => ∃ H : GH, (∀ p, p ∈ A → p.j ∈ D → VR H (a.tmps.getD p.d undef) p.x ∧ ∀ x, x ∈ p.ds → x ∈ D) ∧ (∀ d, d ∈ D → ∃ p, p ∈ A ∧ p.j = d) ∧ (∀ b o, Hs b = some o → H b = some o) ∧ SR n so Hs a ∧
  Gam n C ⟨s, Dj D A ob⟩ H a w ∧ Gm Hs pobjs ws w, ?_, ?_, ?_⟩
 ·exact ⟨H, by simp, by simp, hH, sr, by rw [Nt]; exact gm, ag⟩
 ·rintro D j ds a w hm Kc hjD ⟨H, hd, hDA, hH, sr, gm, ag⟩
  obtain ⟨p, G, he⟩ := List.mem_map.1 hm
  simp only [Prod.mk.injEq] at he
  obtain ⟨rfl, rfl⟩ := he
  obtain ⟨o, ho, hg, hdst, aa⟩ := hstep.get p G
  have hmd' : ∀ i, prot.contains i = true → p.ks.contains i = false := fun i Y => by
   have := (List.all_eq_true.1 (hs0 p G).2.2) i (by simpa using Y)
   simpa using this
  have hcl : ∀ q, q ∈ A → q.j ∈ D → ∀ d, d ∈ q.ds → d ∈ D := fun q M h => (hd q M h).2
  have aa := aa (Dj D A ob) (by
   cases X : p.lit with
   | true => trivial
   | false => exact (Ft X G Z hc Kc hjD hcl).1)
  have hsl : ∀ i x, Aw.get (bQ A p.ds s) i = some x → VR H (a.tmps.getD i undef) x := by
   intro i x h
   rcases Sk h with ⟨d, h1, h2, h3⟩ | h
   ·obtain ⟨q, M, rfl⟩ := hDA d (Kc d h1)
    rw [(Yy M Z).1] at h2
    rw [(Yy M Z).2] at h3
    rw [← h2, ← h3]; exact (hd q M (Kc _ h1)).1
   ·exact gm.slots i x h
  have aa := aa H a w { gm with slots := hsl }
  simp only [wpOp, ho]
  rw [if_pos (by simp [Region.wanted, hg])]
  refine .inl (Cm ?_ (fun _ _ _ h => h.elim) aa)
  rintro a' w' ⟨σ', H', v, ⟨hget, hobj⟩, gm', ha', hHH, hfr⟩
  have hobj' : σ'.objs = Dj (p.j :: D) A ob := by
   rw [hobj]
   cases X : p.lit with
   | true => rw [E2 X]; exact (Nu X fun q M he => back q M p G he).symm
   | false => rw [(Ft X G Z hc Kc hjD hcl).2, ← (Ft X G Z hc Kc hjD hcl).1]
  have ag' : Gm Hs pobjs ws w' := by
   refine ⟨fun b o X => gm'.held _ _ (hHH _ _ (hH _ _ X)), fun q O b X => ?_⟩
   obtain ⟨i, Y, hoi⟩ := hpp q O
   exact ((hfr i q (by dsimp only; rw [hpr D i Y]; exact hoi) (hmd' i Y)).2 b X).trans (ag.2 q O b X)
  have htmp : ∀ i, i ≠ p.d → a'.tmps.getD i undef = a.tmps.getD i undef := fun i Y => by
   rw [ha', hdst]
   simp [Act.put, Array.getD_eq_getD_getElem?, Array.getElem?_setIfInBounds_ne (Ne.symm Y)]
  refine ⟨ag', H', fun q M hqD => ?_, fun d hdD => ?_, fun b o X => hHH _ _ (hH _ _ X), ?_, ?_, ag'⟩
  ·by_cases O : q.j = p.j
   ·have := back q M p G O
    subst this
    exact ⟨gm'.slots _ _ hget, fun y hy => List.mem_cons_of_mem _ (Kc y hy)⟩
   ·have hqD' : q.j ∈ D := by
     rcases List.mem_cons.1 hqD with h | h
     ·exact absurd h O
     ·exact h
    obtain ⟨h2, h3⟩ := hd q M hqD'
    rw [htmp q.d fun h => O (hdd q M p G h)]
    exact ⟨h2.mono hHH, fun y hy => List.mem_cons_of_mem _ (h3 y hy)⟩
  ·rcases List.mem_cons.1 hdD with rfl | hdD
   ·exact ⟨p, G, rfl⟩
   ·exact hDA d hdD
  ·rw [ha', hdst]
   exact sr.free _ _ (hs' p G).2
  ·have gm'' : Gam n C ⟨σ'.slots, Dj (p.j :: D) A ob⟩ H' a' w' := by rw [← hobj']; exact gm'
   refine { gm'' with slots := fun i y hy => ?_ }
   have Y : i ≠ p.d := fun h => by rw [h, (hs' p G).1] at hy; cases hy
   rw [htmp i Y]
   exact (gm.slots i y hy).mono hHH
 ·rintro D a w hall ⟨H, hd, hDA, hH, sr, gm, ag⟩
  have W : ∀ p, p ∈ A → p.j ∈ D := fun p G => hall (p.j, p.ds) (List.mem_map_of_mem (f := fun p : MixOp => (p.j, p.ds)) G)
  rw [Ix W] at gm
  refine k Hs ws H a w sr wr ag hH (fun q O => ?_) { gm with slots := fun i x hx => ?_ }
  ·obtain ⟨i, Y, hoi⟩ := hpp q O
   refine ⟨i, Y, ?_⟩
   dsimp only
   rw [← Ix (D := D) W, hpr D i Y]; exact hoi
  ·rcases Sc hx with ⟨p, G, rfl, rfl⟩ | hx
   ·exact (hd p G (W p G)).1
   ·exact gm.slots i x hx
end
def Rx (s : Ak) (x y : Operand) : Option (IntKind × Int × IntKind × Int) :=
 match Ap s x with
 | some (.v (.int k a)) => match Ap s y with
  | some (.v (.int k' b)) => some (k, a, k', b)
  | _ => none
 | _ => none
def eG (s : Ak) (G : BinOp) (x y : Operand) : Option T :=
 match Rx s x y with
 | some (.i64, a, .i64, b) => match G with
  | .lss => some (.v (.bool (decide (a < b))))
  | .leq => some (.v (.bool (decide (a ≤ b))))
  | .gtr => some (.v (.bool (decide (a > b))))
  | .geq => some (.v (.bool (decide (a ≥ b))))
  | .eql => some (.v (.bool (a == b)))
  | .neq => some (.v (.bool (a != b)))
  | .add => some (.v (.int .i64 (wr (a + b))))
  | .sub => some (.v (.int .i64 (wr (a - b))))
  | .mul => some (.v (.int .i64 (wr (a * b))))
  | _ => none
 | _ => none
def Tq (E : Env) (s : Ak) (t : TypeId) (x : Operand) (f : Nat) : Option T :=
 match E.tab t with
 | some ti => match ti.kind with
  | .struct fs => match fs[f]? with
   | some (off, ft) => match E.tab ft with
    | some fi => bif Nat.beq fi.size 0 then none else
     match Ap s x with
     | some (.v (.pointer (some ⟨b, o, none⟩))) => some (.v (.pointer (some ⟨b, o + off, none⟩)))
     | some (.eptr cs) => bif Nat.ble off cs.length then some (.eptr (cs.drop off)) else none
     | _ => none
    | none => none
   | none => none
  | _ => none
 | none => none
def Yz (E : Env) (s : Ak) (c : Call) : Option T :=
 match c with
 | ⟨.builtin .min, ⟨[x, y]⟩, _⟩ => match Rx s x y with
  | some (.i64, a, .i64, b) => some (.v (.int .i64 (min a b)))
  | _ => none
 | ⟨.builtin .max, ⟨[x, y]⟩, _⟩ => match Rx s x y with
  | some (.i64, a, .i64, b) => some (.v (.int .i64 (max a b)))
  | _ => none
 | ⟨.builtin .len, ⟨[x]⟩, ⟨[t]⟩⟩ => match E.tab t with
  | some ti => match ti.kind with
   | .string => match Ap s x with
    | some (.v (.string b)) => some (.v (.int .i64 b.size))
    | _ => none
   | _ => none
  | none => none
 | _ => none
def Rv (E : Env) (s : Ak) : Op → Option T
 | .move x => Ap s x
 | .assign x => Ap s x
 | .pick c a b => match Ap s c with
  | some (.v (.bool true)) => Ap s a
  | some (.v (.bool false)) => Ap s b
  | _ => none
 | .nilCheck x => match Ap s x with
  | some (.v (.pointer (some b))) => some (.v (.pointer (some b)))
  | some (.eptr cs) => some (.eptr cs)
  | _ => none
 | .extract x i => match Ap s x with
  | some (.tup l) => l[i]?
  | _ => none
 | .unOp .not _ x => match Ap s x with
  | some (.v (.bool b)) => some (.v (.bool (!b)))
  | _ => none
 | .unOp .neg _ x => match Ap s x with
  | some (.v (.int .i64 a)) => some (.v (.int .i64 (wr (0 - a))))
  | _ => none
 | .binOp op _ x y _ => eG s op x y
 | .fieldAddr t x f => Tq E s t x f
 | .call c => Yz E s c
 | _ => none
section
variable {E : Env} {n : Nat} {C : Ctx} {s : Ak} {ob : List Ob} {ops : Array Oper} {R : St → Prop} {dst : Option Tmp} {ty : TypeId} {pos : String} {aft : Array Edge} {g : Option (Nat × Bool)}
theorem M9 {x y : Operand} {k G : IntKind} {a b : Int} (h : Rx s x y = some (k, a, G, b)) : Ap s x = some (.v (.int k a)) ∧ Ap s y = some (.v (.int G b)) := by
 unfold Rx at h
 split at h
 ·rename_i M
  split at h
  ·rename_i O
   cases h
   exact ⟨M, O⟩
  ·cases h
 ·cases h
theorem cW {O : BinOp} {t X : TypeId} {x y : Operand} {z : T} (h : eG s O x y = some z) : Yp E.P n s ⟨dst, .binOp O t x y X, ty, pos, aft, g⟩ z := by
 unfold eG at h
 split at h <;> first | cases h | skip
 rename_i W
 obtain ⟨G, M⟩ := M9 W
 split at h <;> first | cases h | skip
 ·exact hY G M rfl
 ·exact hY G M rfl
 ·exact hY G M rfl
 ·exact hY G M rfl
 ·exact hY G M rfl
 ·exact hY G M rfl
 ·exact C2 G M rfl
 ·exact C2 G M rfl
 ·exact C2 G M rfl
theorem V0 {t : TypeId} {x : Operand} {f : Nat} {z : T} (h : Tq E s t x f = some z) : Yp E.P n s ⟨dst, .fieldAddr t x f, ty, pos, aft, g⟩ z := by
 unfold Tq at h
 split at h <;> first | cases h | skip
 rename_i ti Y
 split at h <;> first | cases h | skip
 rename_i fs X
 split at h <;> first | cases h | skip
 rename_i O ft W
 split at h <;> first | cases h | skip
 rename_i fi G
 cases hz : Nat.beq fi.size 0 with
 | true => rw [hz] at h; cases h
 | false =>
  rw [hz, cond_false] at h
  split at h <;> first | cases h | skip
  ·rename_i M
   exact S9 Y X W G hz M
  ·rename_i Z M
   cases hle : Nat.ble O Z.length with
   | true => rw [hle, cond_true] at h; cases h; exact V4 Y X W G hz M hle
   | false => rw [hle] at h; cases h
theorem Z7 {c : Call} {z : T} (h : Yz E s c = some z) : Yp E.P n s ⟨dst, .call c, ty, pos, aft, g⟩ z := by
 unfold Yz at h
 split at h <;> first | cases h | skip
 ·split at h <;> first | cases h | skip
  rename_i M
  obtain ⟨G, O⟩ := M9 M
  exact cY G O
 ·split at h <;> first | cases h | skip
  rename_i M
  obtain ⟨G, O⟩ := M9 M
  exact cZ G O
 ·split at h <;> first | cases h | skip
  rename_i Y X
  split at h <;> first | cases h | skip
  rename_i W
  split at h <;> first | cases h | skip
  rename_i G
  exact Rm X W G
theorem M2 {O : Op} {z : T} (h : Rv E s O = some z) : Yp E.P n s ⟨dst, O, ty, pos, aft, g⟩ z := by
 unfold Rv at h
 split at h <;> first | cases h | skip
 ·exact Yp.move h
 ·exact Yp.assign h
 ·split at h <;> first | cases h | skip
  ·rename_i M; exact aC M h
  ·rename_i M; exact aD M h
 ·split at h <;> first | cases h | skip
  ·rename_i G; exact Rk G
  ·rename_i G; exact Rl G
 ·split at h <;> first | cases h | skip
  rename_i G; exact Yp.extract G h
 ·split at h <;> first | cases h | skip
  rename_i G; exact Yp.not G
 ·split at h <;> first | cases h | skip
  rename_i G; exact Yp.neg G rfl
 ·exact cW h
 ·exact V0 h
 ·exact Z7 h
end
def Un (G : TI) (cs : List T) (off : Nat) : Option T :=
 bif G.isAgg then (bif Nat.beq off 0 && Nat.beq G.size cs.length then some (.agg cs) else none) else cs[off]?
theorem R6 {G : TI} {cs : List T} {off : Nat} {y : T} (h : Un G cs off = some y) : Ex G cs off = some y := by
 unfold Un at h
 unfold Ex
 cases ha : G.isAgg with
 | false => rw [ha, cond_false] at h; rw [cond_false]; exact h
 | true =>
  rw [ha, cond_true] at h
  rw [cond_true]
  cases hb : (Nat.beq off 0 && Nat.beq G.size cs.length) with
  | true => rw [hb, cond_true] at h; rw [cond_true]; exact h
  | false => rw [hb] at h; cases h
def Rw (E : Env) (s : Ak) : Op → Option T
 | .load t x => match Ap s x with
  | some (.eptr cs) => match E.tab t with
   | some fi => Un fi cs 0
   | none => none
  | _ => none
 | op => Rv E s op
inductive Hn where
 | o (i k : Nat)
 | f (i : Nat) (x : T)
 | l (i : Nat) (c : Int)
 | x (i : Nat) (m : Nat) (e : List T)
 | k (i : Nat) (c : Int)
def Hn.at : Hn → Nat
 | .o i _ => i
 | .f i _ => i
 | .l i _ => i
 | .x i _ _ => i
 | .k i _ => i
def dU (E : Env) (s : Ak) (ob : List Ob) (k : Nat) : Op → Option (T × Prop)
 | .load t x => match Ap s x with
  | some (.v (.pointer (some ⟨b, off, none⟩))) => match ob[k]? with
   | some (.arr b' _ _ _ [e]) => match E.tab t with
    | some fi => match Un fi e off with
     | some y => some (y, b = b')
     | none => none
    | none => none
   | _ => none
  | _ => none
 | _ => none
def fM (E : Env) (s : Ak) (c : Int) : Op → Option (T × Prop)
 | .call ⟨.builtin .len, ⟨[x]⟩, ⟨[t]⟩⟩ => match E.tab t with
  | some ti => match ti.kind with
   | .slice _ => match Ap s x with
    | some (.list _ es) => some (.v (.int .i64 c), (es.length : Int) = c)
    | _ => none
   | _ => none
  | none => none
 | _ => none
def fN (E : Env) (s : Ak) (m : Nat) (e : List T) : Op → Option (T × Prop)
 | .indexAddr t x y => match E.tab t with
  | some ti => match ti.kind with
   | .slice el => match E.tab el with
    | some fi => match Ap s x with
     | some (.list sz es) => bif Nat.beq fi.size sz then
      (match Ap s y with
      | some (.v (.int _ i)) => some (.eptr e, i = (m : Int) ∧ es[m]? = some e)
      | _ => none) else none
     | _ => none
    | none => none
   | _ => none
  | none => none
 | _ => none
def Um (E : Env) (n : Nat) (s : Ak) (ob : List Ob) (d : Nat) (o : Oper) : Hn → Option (T × Prop)
 | .o _ k => dU E s ob k o.op
 | .f _ x => some (x, Yd E.P n s ob ⟨some d, o.op, o.type, o.pos, o.after, none⟩ x)
 | .l _ c => fM E s c o.op
 | .x _ m e => fN E s m e o.op
 | .k _ c => match Rv E s o.op with
  | some (.v (.int kk e)) => some (.v (.int kk c), e = c)
  | _ => none
section
variable {E : Env} {n : Nat} {C : Ctx} {s : Ak} {ob : List Ob} {ops : Array Oper} {R : St → Prop} {dst : Option Tmp} {ty : TypeId} {pos : String} {aft : Array Edge} {g : Option (Nat × Bool)}
theorem M3 {G : Op} {z : T} (h : Rw E s G = some z) : Yd E.P n s ob ⟨dst, G, ty, pos, aft, g⟩ z := by
 unfold Rw at h
 split at h
 ·split at h <;> first | cases h | skip
  rename_i O
  split at h <;> first | cases h | skip
  rename_i M
  exact aF M O (R6 h)
 ·exact (M2 h).yd
theorem R1 {d : Nat} {o : Oper} {hn : Hn} {z : T} {p : Prop} (h : Um E n s ob d o hn = some (z, p)) (M : p) : Yd E.P n s ob ⟨some d, o.op, o.type, o.pos, o.after, none⟩ z := by
 unfold Um at h
 split at h
 ·unfold dU at h
  split at h <;> first | cases h | skip
  rename_i W
  split at h <;> first | cases h | skip
  rename_i G
  split at h <;> first | cases h | skip
  rename_i O
  split at h <;> first | cases h | skip
  rename_i X
  split at h <;> first | cases h | skip
  rename_i Z
  subst M
  rw [W]
  exact Jp _ 0 _ X G O rfl (by omega) (R6 Z)
 ·cases h; exact M
 ·unfold fM at h
  split at h <;> first | cases h | skip
  rename_i W
  split at h <;> first | cases h | skip
  rename_i X
  split at h <;> first | cases h | skip
  rename_i O
  split at h <;> first | cases h | skip
  rename_i G
  subst M
  rw [W]
  exact (T7 X O G).yd
 ·unfold fN at h
  split at h <;> first | cases h | skip
  rename_i W
  split at h <;> first | cases h | skip
  rename_i X
  split at h <;> first | cases h | skip
  rename_i O
  split at h <;> first | cases h | skip
  split at h <;> first | cases h | skip
  rename_i fi Y _ sz es G
  cases hb : Nat.beq fi.size sz with
  | false => rw [hb] at h; cases h
  | true =>
   rw [hb, cond_true] at h
   split at h <;> first | cases h | skip
   rename_i Z
   rw [W]
   exact (V3 X O Y (nq hb) G Z M.1 M.2).yd
 ·split at h <;> first | cases h | skip
  rename_i G
  subst M
  exact (M2 G).yd
end
def E9 (ops : Array Oper) (s : Ak) : Option (Nat × Bool) → Option Bool
 | none => some true
 | some (j, want) => match ops[j]? with
  | some o => match o.dst with
   | some t => match get s t with
    | some (.v (.bool true)) => some want
    | some (.v (.bool false)) => some (!want)
    | _ => none
   | none => none
  | none => none
def Ll (E : Env) (n : Nat) (ops : Array Oper) (ob : List Ob) : Nat → Nat → List Oper → Ak → List Hn → Prop → Option (Prop × List Oper × Ak)
 | 0, _, l, s, _, p => some (p, l, s)
 | _ + 1, _, [], _, _, _ => none
 | m + 1, i, o :: l, s, hs, p => match o.dst with
  | none => none
  | some d => bif Nat.blt d n then
   (match E9 ops s o.guard with
   | none => none
   | some false => Ll E n ops ob m (i + 1) l ((d, .v undef) :: s) hs p
   | some true => match hs with
    | [] => match Rw E s o.op with
     | some x => Ll E n ops ob m (i + 1) l ((d, x) :: s) [] p
     | none => none
    | h :: hs => bif Nat.beq h.at i then
      (match Um E n s ob d o h with
      | some (x, q) => Ll E n ops ob m (i + 1) l ((d, x) :: s) hs (q ∧ p)
      | none => none)
     else
      (match Rw E s o.op with
      | some x => Ll E n ops ob m (i + 1) l ((d, x) :: s) (h :: hs) p
      | none => none)) else none
section
variable {E : Env} {n : Nat} {C : Ctx} {s : Ak} {ob : List Ob} {ops : Array Oper} {R : St → Prop}
theorem F5 {j : Nat} {G v : Bool} (h : E9 ops s (some (j, G)) = some v) : ∃ t b, (ops[j]?).bind (·.dst) = some t ∧ get s t = some (.v (.bool b)) ∧ (v = true → b = G) ∧ (v = false → b = !G) := by
 simp only [E9] at h
 split at h
 ·rename_i o W
  split at h
  ·rename_i t hd
   have O : (ops[j]?).bind (·.dst) = some t := by rw [W]; exact hd
   split at h
   ·rename_i M
    cases h
    exact ⟨t, true, O, M, by cases G <;> simp, by cases G <;> simp⟩
   ·rename_i M
    cases h
    exact ⟨t, false, O, M, by cases G <;> simp, by cases G <;> simp⟩
   ·cases h
  ·cases h
 ·cases h
theorem Tz {d : Nat} {o : Oper} {l : List Oper} {x : T} (hg : E9 ops s o.guard = some true) (G : o.dst = some d) (O : Yd E.P n s ob ⟨some d, o.op, o.type, o.pos, o.after, none⟩ x) (hd : Nat.blt d n = true)
  (k : AO E n C ops l ⟨(d, x) :: s, ob⟩ R) : AO E n C ops (o :: l) ⟨s, ob⟩ R := by
 obtain ⟨dst, Z, ty, pos, aft, g⟩ := o
 cases G
 cases g with
 | none => exact hM O hd k
 | some g =>
  obtain ⟨j, M⟩ := g
  obtain ⟨t, b, W, X, Y, _⟩ := F5 hg
  have := Y rfl
  exact AO.guard W X (Be hd) (fun _ => hM O hd k) (fun h => by rw [this] at h; cases M <;> cases h)
theorem fG {d : Nat} {o : Oper} {l : List Oper} (hg : E9 ops s o.guard = some false) (G : o.dst = some d) (hd : Nat.blt d n = true)
  (k : AO E n C ops l ⟨(d, .v undef) :: s, ob⟩ R) : AO E n C ops (o :: l) ⟨s, ob⟩ R := by
 obtain ⟨dst, Y, ty, pos, aft, g⟩ := o
 cases G
 cases g with
 | none => cases hg
 | some g =>
  obtain ⟨j, M⟩ := g
  obtain ⟨t, b, O, W, _, X⟩ := F5 hg
  have := X rfl
  exact AO.guard O W (Be hd) (fun h => by rw [this] at h; cases M <;> cases h) (fun _ => k)
theorem Ep : ∀ (m i : Nat) (l : List Oper) (s : Ak) (W : List Hn) (p : Prop) {P : Prop} {Z : List Oper} {s' : Ak}, Ll E n ops ob m i l s W p = some (P, Z, s') → P →
  p ∧ (AO E n C ops Z ⟨s', ob⟩ R → AO E n C ops l ⟨s, ob⟩ R)
 | 0, i, l, s, W, p, P, Z, s', h, hP => by cases h; exact ⟨hP, id⟩
 | m + 1, i, [], s, W, p, P, Z, s', h, hP => by cases h
 | m + 1, i, o :: l, s, W, p, P, Z, s', h, hP => by
  simp only [Ll] at h
  split at h
  ·cases h
  ·rename_i d G
   cases hd : Nat.blt d n with
   | false => rw [hd] at h; cases h
   | true =>
    rw [hd, cond_true] at h
    split at h
    ·cases h
    ·rename_i X
     obtain ⟨M, O⟩ := Ep m (i + 1) l _ W p h hP
     exact ⟨M, fun k => fG X G hd (O k)⟩
    ·rename_i X
     split at h
     ·split at h
      ·rename_i x Y
       obtain ⟨M, O⟩ := Ep m (i + 1) l _ _ p h hP
       exact ⟨M, fun k => Tz X G (M3 Y) hd (O k)⟩
      ·cases h
     ·rename_i hn W
      cases hb : Nat.beq hn.at i with
      | true =>
       rw [hb, cond_true] at h
       split at h
       ·rename_i x q Y
        obtain ⟨M, O⟩ := Ep m (i + 1) l _ _ _ h hP
        exact ⟨M.2, fun k => Tz X G (R1 Y M.1) hd (O k)⟩
       ·cases h
      | false =>
       rw [hb, cond_false] at h
       split at h
       ·rename_i x Y
        obtain ⟨M, O⟩ := Ep m (i + 1) l _ _ p h hP
        exact ⟨M, fun k => Tz X G (M3 Y) hd (O k)⟩
       ·cases h
theorem bz : (∀ b, (true && b) = b) ∧ (∀ b, (false && b) = false) ∧ (∀ b, (true || b) = true) ∧ (∀ b, (false || b) = b) ∧ (!true) = false ∧ (!false) = true ∧ (∀ a b : Bool, cond true a b = a) ∧ (∀ a b : Bool, cond false a b = b) := by simp
theorem Ax {α : Type} {f : α → List T} {l : List α} : ((l.map f).length : Int) = (l.length : Int) := by rw [List.length_map]
theorem Ac (m : Nat) {l G : List Oper} {s' : Ak} (h : Ll E n ops ob m 0 l s [] True = some (True, G, s')) (k : AO E n C ops G ⟨s', ob⟩ R) : AO E n C ops l ⟨s, ob⟩ R :=
 (Ep m 0 l s [] True h trivial).2 k
theorem Ag {id : Nat} {y : Code} {Q : Exit → St → Prop} {s' : Ak} (h : Ll E n ops ob ops.size 0 ops.toList s [] True = some (True, [], s')) (k : AW E n C y ⟨s', ob⟩ Q) : AW E n C (.seq (.region id ops false) y) ⟨s, ob⟩ Q :=
 gT (gQ ((Ep _ 0 _ s [] True h trivial).2 (gR k)))
theorem A8 {id : Nat} {y : Code} {Q : Exit → St → Prop} {s' : Ak} {P : Prop} (G : List Hn) (h : Ll E n ops ob ops.size 0 ops.toList s G True = some (P, [], s')) (M : P) (k : AW E n C y ⟨s', ob⟩ Q) :
  AW E n C (.seq (.region id ops false) y) ⟨s, ob⟩ Q :=
 gT (gQ ((Ep _ 0 _ s G True h M).2 (gR k)))
theorem N2 {id : Nat} {Q : Exit → St → Prop} {s' : Ak} (h : Ll E n ops ob ops.size 0 ops.toList s [] True = some (True, [], s')) (k : Q .normal ⟨s', ob⟩) : AW E n C (.region id ops false) ⟨s, ob⟩ Q :=
 gQ ((Ep _ 0 _ s [] True h trivial).2 (gR k))
theorem Gn {id : Nat} {Q : Exit → St → Prop} {s' : Ak} {P : Prop} (G : List Hn) (h : Ll E n ops ob ops.size 0 ops.toList s G True = some (P, [], s')) (M : P) (k : Q .normal ⟨s', ob⟩) :
  AW E n C (.region id ops false) ⟨s, ob⟩ Q :=
 gQ ((Ep _ 0 _ s G True h M).2 (gR k))
theorem Aq (m : Nat) (G : List Hn) {l M : List Oper} {s' : Ak} {P : Prop} (h : Ll E n ops ob m 0 l s G True = some (P, M, s')) (O : P) (k : AO E n C ops M ⟨s', ob⟩ R) : AO E n C ops l ⟨s, ob⟩ R :=
 (Ep m 0 l s G True h O).2 k
def Ul (E : Env) (so s : Ak) (d : Nat) (G : Op) : Option (T × Bool) :=
 match (match G with
  | .pick .. => none
  | G => Rw E so G) with
 | some x => some (x, true)
 | none => match Rv E s G with
  | some x => bif free so (some d) then some (x, false) else none
  | none => none
def eE (b : Bool) (so : Ak) (d : Nat) (x : T) : Ak := bif b then (d, x) :: so else so
def pd : Nat → Nat → List Nat → PL
 | 0, _, _ => .nil
 | m + 1, i, a => bif a.contains i then .act i (pd m (i + 1) a) else .still i (pd m (i + 1) a)
def Fw (E : Env) (n : Nat) (ops : Array Oper) (pobjs : List Ob) : Nat → Nat → PL → Ak → Ak → List Hn → Prop → Option (Prop × PL × Ak × Ak)
 | 0, _, l, so, s, _, p => some (p, l, so, s)
 | m + 1, i, .still j l, so, s, hs, p => match ops[j]? with
  | none => none
  | some o => match o.dst with
   | none => none
   | some d => bif Nat.blt d n then
    (match E9 ops s o.guard with
    | none => none
    | some false => bif free so (some d) then Fw E n ops pobjs m (i + 1) l so ((d, .v undef) :: s) hs p else none
    | some true => match hs with
     | [] => match Ul E so s d o.op with
      | some (x, b) => Fw E n ops pobjs m (i + 1) l (eE b so d x) ((d, x) :: s) [] p
      | none => none
     | h :: hs => bif Nat.beq h.at i then
       (match Um E n so pobjs d o h with
       | some (x, q) => Fw E n ops pobjs m (i + 1) l ((d, x) :: so) ((d, x) :: s) hs (q ∧ p)
       | none => none)
      else
       (match Ul E so s d o.op with
       | some (x, b) => Fw E n ops pobjs m (i + 1) l (eE b so d x) ((d, x) :: s) (h :: hs) p
       | none => none)) else none
 | m + 1, i, .act j l, so, s, hs, p => match ops[j]? with
  | none => none
  | some o => match o.dst with
   | none => none
   | some d => bif Nat.blt d n && free so (some d) then
    (match E9 ops s o.guard with
    | some false => Fw E n ops pobjs m (i + 1) l so ((d, .v undef) :: s) hs p
    | _ => none) else none
 | _ + 1, _, _, _, _, _, _ => none
section
variable {prot : List Nat} {pobjs : List Ob} {so : Ak}
theorem Sw {j d : Nat} {o : Oper} {l : PL} {x : T} (M : ops[j]? = some o) (hg : E9 ops s o.guard = some true) (G : o.dst = some d)
  (O : Yd E.P n so pobjs ⟨some d, o.op, o.type, o.pos, o.after, none⟩ x) (hd : Nat.blt d n = true)
  (k : AP E n C ops prot pobjs l ((d, x) :: so) ⟨(d, x) :: s, ob⟩ R) : AP E n C ops prot pobjs (.still j l) so ⟨s, ob⟩ R := by
 obtain ⟨dst, op, ty, pos, aft, g⟩ := o
 cases G
 cases g with
 | none => exact Ty M O rfl (Be hd) k
 | some g =>
  obtain ⟨i, W⟩ := g
  obtain ⟨t, b, X, Y, Z, _⟩ := F5 hg
  exact dJ M X Y (Z rfl) O (Be hd) k
theorem bL {j d : Nat} {o : Oper} {l : PL} {x : T} (M : ops[j]? = some o) (hg : E9 ops s o.guard = some true) (G : o.dst = some d)
  (O : Yp E.P n s ⟨some d, o.op, o.type, o.pos, o.after, none⟩ x) (hd : Nat.blt d n = true) (hf : free so (some d) = true)
  (k : AP E n C ops prot pobjs l so ⟨(d, x) :: s, ob⟩ R) : AP E n C ops prot pobjs (.still j l) so ⟨s, ob⟩ R := by
 obtain ⟨dst, op, ty, pos, aft, g⟩ := o
 cases G
 cases g with
 | none => exact AP.new M O rfl (Be hd) k hf
 | some g =>
  obtain ⟨i, W⟩ := g
  obtain ⟨t, b, X, Y, Z, _⟩ := F5 hg
  exact dK M X Y (Z rfl) O (Be hd) k hf
theorem Py {j d : Nat} {o : Oper} {l : PL} (X : ops[j]? = some o) (hg : E9 ops s o.guard = some false) (G : o.dst = some d) (hd : Nat.blt d n = true) (hf : free so (some d) = true)
  (k : AP E n C ops prot pobjs l so ⟨(d, .v undef) :: s, ob⟩ R) : AP E n C ops prot pobjs (.still j l) so ⟨s, ob⟩ R ∧ AP E n C ops prot pobjs (.act j l) so ⟨s, ob⟩ R := by
 obtain ⟨dst, op, ty, pos, aft, g⟩ := o
 cases G
 cases g with
 | none => cases hg
 | some g =>
  obtain ⟨i, Y⟩ := g
  obtain ⟨t, b, M, O, _, W⟩ := F5 hg
  exact ⟨AP.skip X rfl M O (W rfl) (Be hd) k hf, bK X rfl M O (W rfl) (Be hd) k hf⟩
theorem Px {j d : Nat} {o : Oper} {l : PL} {x : T} {b : Bool} (O : ops[j]? = some o) (hg : E9 ops s o.guard = some true) (M : o.dst = some d) (hd : Nat.blt d n = true)
  (G : Ul E so s d o.op = some (x, b)) (k : AP E n C ops prot pobjs l (eE b so d x) ⟨(d, x) :: s, ob⟩ R) : AP E n C ops prot pobjs (.still j l) so ⟨s, ob⟩ R := by
 unfold Ul at G
 split at G
 ·rename_i h
  cases G
  split at h
  ·cases h
  ·exact Sw O hg M (M3 h) hd k
 ·split at G
  ·rename_i h
   cases hf : free so (some d) with
   | false => rw [hf] at G; cases G
   | true =>
    rw [hf, cond_true] at G
    cases G
    exact bL O hg M (M2 h) hd hf k
  ·cases G
theorem Ez : ∀ (m i : Nat) (l : PL) (so s : Ak) (O : List Hn) (p : Prop) {P : Prop} {W : PL} {G s' : Ak}, Fw E n ops pobjs m i l so s O p = some (P, W, G, s') → P →
  p ∧ (AP E n C ops prot pobjs W G ⟨s', ob⟩ R → AP E n C ops prot pobjs l so ⟨s, ob⟩ R)
 | 0, i, l, so, s, O, p, P, W, G, s', h, hP => by
  cases l <;> (simp only [Fw] at h; cases h; exact ⟨hP, id⟩)
 | m + 1, i, .still j l, so, s, O, p, P, W, G, s', h, hP => by
  simp only [Fw] at h
  split at h
  ·cases h
  ·rename_i o ho
   split at h
   ·cases h
   ·rename_i d M
    cases hd : Nat.blt d n with
    | false => rw [hd] at h; cases h
    | true =>
     rw [hd, cond_true] at h
     split at h
     ·cases h
     ·rename_i Z
      cases hf : free so (some d) with
      | false => rw [hf] at h; cases h
      | true =>
       rw [hf, cond_true] at h
       obtain ⟨X, Y⟩ := Ez m (i + 1) l so _ O p h hP
       exact ⟨X, fun k => (Py ho Z M hd hf (Y k)).1⟩
     ·rename_i Z
      split at h
      ·split at h
       ·rename_i x b hx
        obtain ⟨X, Y⟩ := Ez m (i + 1) l _ _ _ p h hP
        exact ⟨X, fun k => Px ho Z M hd hx (Y k)⟩
       ·cases h
      ·rename_i hn O
       cases hb : Nat.beq hn.at i with
       | true =>
        rw [hb, cond_true] at h
        split at h
        ·rename_i x q hx
         obtain ⟨X, Y⟩ := Ez m (i + 1) l _ _ _ _ h hP
         exact ⟨X.2, fun k => Sw ho Z M (R1 hx X.1) hd (Y k)⟩
        ·cases h
       | false =>
        rw [hb, cond_false] at h
        split at h
        ·rename_i x b hx
         obtain ⟨X, Y⟩ := Ez m (i + 1) l _ _ _ p h hP
         exact ⟨X, fun k => Px ho Z M hd hx (Y k)⟩
        ·cases h
 | m + 1, i, .act j l, so, s, O, p, P, W, G, s', h, hP => by
  simp only [Fw] at h
  split at h
  ·cases h
  ·rename_i o ho
   split at h
   ·cases h
   ·rename_i d M
    cases hd : Nat.blt d n with
    | false => rw [hd] at h; cases h
    | true =>
     cases hf : free so (some d) with
     | false => rw [hd, hf] at h; cases h
     | true =>
      rw [hd, hf] at h
      simp only [Bool.and_true, cond_true] at h
      split at h
      ·rename_i Z
       obtain ⟨X, Y⟩ := Ez m (i + 1) l so _ O p h hP
       exact ⟨X, fun k => (Py ho Z M hd hf (Y k)).2⟩
      ·cases h
 | m + 1, i, .nil, so, s, O, p, P, W, G, s', h, hP => by simp [Fw] at h
 | m + 1, i, .two .., so, s, O, p, P, W, G, s', h, hP => by simp [Fw] at h
 | m + 1, i, .three .., so, s, O, p, P, W, G, s', h, hP => by simp [Fw] at h
 | m + 1, i, .four .., so, s, O, p, P, W, G, s', h, hP => by simp [Fw] at h
 | m + 1, i, .five .., so, s, O, p, P, W, G, s', h, hP => by simp [Fw] at h
 | m + 1, i, .par .., so, s, O, p, P, W, G, s', h, hP => by simp [Fw] at h
 | m + 1, i, .parS .., so, s, O, p, P, W, G, s', h, hP => by simp [Fw] at h
 | m + 1, i, .drop .., so, s, O, p, P, W, G, s', h, hP => by simp [Fw] at h
theorem Bm (m : Nat) {l M : PL} {G s' : Ak} (h : Fw E n ops pobjs m 0 l so s [] True = some (True, M, G, s')) (k : AP E n C ops prot pobjs M G ⟨s', ob⟩ R) :
  AP E n C ops prot pobjs l so ⟨s, ob⟩ R :=
 (Ez m 0 l so s [] True h trivial).2 k
theorem C6 (m : Nat) (M : List Hn) {l O : PL} {G s' : Ak} {P : Prop} (h : Fw E n ops pobjs m 0 l so s M True = some (P, O, G, s')) (W : P) (k : AP E n C ops prot pobjs O G ⟨s', ob⟩ R) :
  AP E n C ops prot pobjs l so ⟨s, ob⟩ R :=
 (Ez m 0 l so s M True h W).2 k
theorem Y4 {d : Nat} {c : Operand} {args : Array Operand} {Y : Array TypeId} {ty : TypeId} {pos : String} {aft : Array Edge} {f : FuncId} {Z G M ys : List T} {y X : T}
  (h : ACalls E f ys [] (fun x new => x = X ∧ new = [])) (k : R ⟨(d, X) :: s, ob⟩)
  (hc : Ap s c = some y) (hf : I8 y = some (f, G, M)) (hx : Ey s args.toList = some Z) (W : G ++ Z ++ M = ys)
  (hd : Nat.blt d n = true) (O : Ef X = true) :
  AX E n C [] ⟨some d, .call { callee := .value c, args := args, argTypes := Y }, ty, pos, aft, none⟩ ⟨s, ob⟩ R :=
 Cw hc (.refl _) hf hx (.rest _) W h (Be hd) (fun _ _ h => by rw [h.1]; exact O) (fun x h => by obtain ⟨_, rfl, _⟩ := h; exact k)
theorem AO.c {d : Nat} {c : Operand} {args : Array Operand} {Y : Array TypeId} {ty : TypeId} {pos : String} {aft : Array Edge} {f : FuncId} {xs G M ys : List T} {y X : T} {l : List Oper}
  (h : ACalls E f ys [] (fun x new => x = X ∧ new = [])) (k : AO E n C ops l ⟨(d, X) :: s, ob⟩ R)
  (hc : Ap s c = some y := by exact rfl) (hf : I8 y = some (f, G, M) := by exact rfl) (Z : Ey s args.toList = some xs := by exact rfl) (W : G ++ xs ++ M = ys := by exact rfl)
  (hd : Nat.blt d n = true := by exact rfl) (O : Ef X = true := by exact rfl) :
  AO E n C ops (⟨some d, .call { callee := .value c, args := args, argTypes := Y }, ty, pos, aft, none⟩ :: l) ⟨s, ob⟩ R :=
 gS [] rfl (Y4 h k hc hf Z W hd O)
def hG := @AO.c
theorem AP.c {i d : Nat} {c : Operand} {args : Array Operand} {Z : Array TypeId} {ty : TypeId} {pos : String} {aft : Array Edge} {f : FuncId} {xs G M ys : List T} {y X : T} {l : PL}
  (ho : ops[i]? = some ⟨some d, .call { callee := .value c, args := args, argTypes := Z }, ty, pos, aft, none⟩) (h : ACalls E f ys [] (fun x new => x = X ∧ new = [])) (k : AP E n C ops prot pobjs l so ⟨(d, X) :: s, ob⟩ R)
  (hc : Ap s c = some y := by exact rfl) (hf : I8 y = some (f, G, M) := by exact rfl) (hx : Ey s args.toList = some xs := by exact rfl) (Y : G ++ xs ++ M = ys := by exact rfl)
  (hd : Nat.blt d n = true := by exact rfl) (O : Ef X = true := by exact rfl) (W : free so (some d) = true := by exact rfl) :
  AP E n C ops prot pobjs (.act i l) so ⟨s, ob⟩ R :=
 gX [] ho rfl (by simp) (Y4 h k hc hf hx Y hd O) W
def iA := @AP.c
theorem Gx {i d j t : Nat} {want b : Bool} {c : Operand} {args : Array Operand} {Z : Array TypeId} {ty : TypeId} {pos : String} {aft : Array Edge} {f : FuncId} {xs G M ys : List T} {y X : T} {l : PL}
  (ho : ops[i]? = some ⟨some d, .call { callee := .value c, args := args, argTypes := Z }, ty, pos, aft, some (j, want)⟩) (h : ACalls E f ys [] (fun x new => x = X ∧ new = [])) (k : AP E n C ops prot pobjs l so ⟨(d, X) :: s, ob⟩ R)
  (hj : (ops[j]?).bind (·.dst) = some t := by exact rfl) (hs : get s t = some (.v (.bool b)) := by exact rfl) (hb : b = want := by exact rfl)
  (hc : Ap s c = some y := by exact rfl) (hf : I8 y = some (f, G, M) := by exact rfl) (hx : Ey s args.toList = some xs := by exact rfl) (Y : G ++ xs ++ M = ys := by exact rfl)
  (hd : Nat.blt d n = true := by exact rfl) (O : Ef X = true := by exact rfl) (W : free so (some d) = true := by exact rfl) :
  AP E n C ops prot pobjs (.act i l) so ⟨s, ob⟩ R :=
 dL [] ho hj hs hb (by simp) (Y4 h k hc hf hx Y hd O) W
end
theorem fV {id : Nat} {y : Code} {Q : Exit → St → Prop} {s' G : Ak} {P : Prop} (pl : PL) (prot : List Nat) (pobjs : List Ob) (M : List Hn) (X : prot.map (fun i => ob[i]?) = pobjs.map some)
  (h : Fw E n ops pobjs ops.size 0 pl s s M True = some (P, .nil, G, s')) (W : P) (k : AW E n C y ⟨s', ob⟩ Q) (O : Od ops pl = true := by kernel_rfl) :
  AW E n C (.seq (.region id ops true) y) ⟨s, ob⟩ Q :=
 gT (I1 pl prot pobjs O X ((Ez _ 0 pl s s M True h W).2 (AP.nil k)))
theorem Gw {id : Nat} {Q : Exit → St → Prop} {s' G : Ak} {P : Prop} (pl : PL) (prot : List Nat) (pobjs : List Ob) (M : List Hn) (X : prot.map (fun i => ob[i]?) = pobjs.map some)
  (h : Fw E n ops pobjs ops.size 0 pl s s M True = some (P, .nil, G, s')) (W : P) (k : Q .normal ⟨s', ob⟩) (O : Od ops pl = true := by kernel_rfl) :
  AW E n C (.region id ops true) ⟨s, ob⟩ Q :=
 I1 pl prot pobjs O X ((Ez _ 0 pl s s M True h W).2 (AP.nil k))
theorem C4 {id : Nat} {Q : Exit → St → Prop} (pl : PL) (prot : List Nat) (pobjs : List Ob) (M : prot.map (fun i => ob[i]?) = pobjs.map some)
  (h : AP E n C ops prot pobjs pl s ⟨s, ob⟩ (fun σ' => Q .normal σ')) (G : Od ops pl = true := by kernel_rfl) : AW E n C (.region id ops true) ⟨s, ob⟩ Q := I1 pl prot pobjs G M h
theorem lf {M : Ak → List Ob → Prop} {G s' : Ak} {ob' : List Ob} (O : M s' ob') (Y : Sub (s' ++ G) s) (ks : List Nat) (W : Cv ob ks = some ob') (X : ks.Nodup := by decide) :
  ∃ s' ob', M s' ob' ∧ Left (s' ++ G) ob' ⟨s, ob⟩ := ⟨_, _, O, Y, ks, W, X⟩
theorem fL {s : Ak} : ∀ {l : Ak}, l.map (fun p => get s p.1) = l.map (fun p => some p.2) → Sub l s
 | [], _ => trivial
 | (i, x) :: l, h => by
  simp only [List.map_cons, List.cons.injEq] at h
  exact ⟨h.1, fL h.2⟩
theorem lg {M : Ak → List Ob → Prop} {G s' : Ak} {ob' : List Ob} (O : M s' ob') (ks : List Nat) (Y : (s' ++ G).map (fun p => get s p.1) = (s' ++ G).map (fun p => some p.2) := by exact rfl)
  (W : Cv ob ks = some ob' := by exact rfl) (X : ks.Nodup := by decide) :
  ∃ s' ob', M s' ob' ∧ Left (s' ++ G) ob' ⟨s, ob⟩ := ⟨_, _, O, fL Y, ks, W, X⟩
theorem An {t : Nat} {x y : Code} {Q : Exit → St → Prop} {b : Bool} {α : Type} {A B r : α} (h : (if b = true then A else B) = r) (M : get s t = some (.v (.bool b)))
  (h1 : b = true → A = r → AW E n C x ⟨s, ob⟩ Q) (h2 : b = false → B = r → AW E n C y ⟨s, ob⟩ Q) : AW E n C (.cond (.tmp t) x y) ⟨s, ob⟩ Q :=
 AW.cond rfl M (fun G => h1 G (Bc G h)) (fun G => h2 G (Bd G h))
section
variable {σ : St} {dst : Option Tmp} {ty : TypeId} {pos : String} {aft : Array Edge} {g : Option (Nat × Bool)}
theorem AX.lt {d : Nat} {t : TypeId} {m : Nat} {G : Array (Nat × Operand)} {ti ei : TI} {e : Nat} {z : Value} {l : List T} (sz : Nat) (es : List (List T)) (k : R ⟨(d, .list sz es) :: s, ob⟩)
  (Y : E.tab t = some ti := by exact rfl) (O : ti.kind = .slice e := by exact rfl) (he : E.tab e = some ei := by exact rfl) (Z : ei.zero = some z := by exact rfl) (h1 : z.cells.toList.all (·.oneCell') = true := by exact rfl)
  (hsz : ei.size = sz := by exact rfl) (M : z.cells.size = sz := by exact rfl) (hb : Nat.ble (m * sz) 16777216 = true := by exact rfl)
  (W : Nat.ble m 16777216 = true := by exact rfl) (hf : Gl s (fun i => some (i * sz, sz)) (I9 (D4 z) m) G.toList = some l := by exact rfl) (X : rows sz m l = es := by exact rfl) (hd : Nat.blt d n = true := by exact rfl) :
  AX E n C [] ⟨some d, .buildSlice t m G, ty, pos, aft, g⟩ ⟨s, ob⟩ R := dG Y O he Z h1 hsz M hb W hf X (Be hd) k
def hE := @AX.lt
theorem E7 (ks : List Nat) {d : Nat} {c : Operand} {args : Array Operand} {Y : Array TypeId} {f : FuncId} {G M xs ys : List T} {fp : List Ob} {Rc : T → List Ob → List Ob → Prop} {R : St → Prop}
  (h : ACalls E f ys fp (fun x O => ∃ os new, O = os ++ new ∧ os.length = fp.length ∧ Rc x os new)) (k : ∀ x os new, os.length = fp.length → Rc x os new → R ⟨Dq σ.slots (some d) x, D8 σ.objs ks os ++ new⟩)
  (hc : (Ap σ.slots c).bind I8 = some (f, G, M) := by exact rfl) (hx : Ey σ.slots args.toList = some xs := by exact rfl) (X : G ++ xs ++ M = ys := by exact rfl)
  (Z : Cv σ.objs ks = some fp := by exact rfl) (W : ks.Nodup := by decide) (hd : Nat.blt d n = true := by exact rfl) :
  AX E n C ks ⟨some d, .call { callee := .value c, args := args, argTypes := Y }, ty, pos, aft, g⟩ σ R := Su ks hc hx X Z W h (Be hd) k
theorem Cq {α : Type} {fr : α → List T} {X Y Z : List α} (ks : Nat) {d : Nat} {so x : Operand} {t : TypeId} {ti ei : TI} {e sz : Nat} {z v : Value} {R : St → Prop}
  (M : σ.objs[ks]? = some (.us v e sz (X.map fr))) (W : C5 X Y = some Z)
  (k : ∀ v', R ⟨Dq σ.slots (some d) (.v v'), σ.objs.set ks (.us v' e sz (Z.map fr))⟩)
  (hx : Ap σ.slots x = some (.list sz (Y.map fr)) := by exact rfl) (hs : Ap σ.slots so = some (.v v) := by exact rfl)
  (ht : E.tab t = some ti := by exact rfl) (hk : ti.kind = .slice e := by exact rfl) (he : E.tab e = some ei := by exact rfl) (hz : ei.zero = some z := by exact rfl) (hsz : ei.size = sz := by exact rfl)
  (O : z.cells.size = sz := by exact rfl) (G : Nat.ble ei.bytes 2048 = true := by exact rfl) (hd : Nat.blt d n = true := by exact rfl) :
  AX E n C [ks] ⟨some d, .call { callee := .builtin .append, args := #[so, x], argTypes := #[t, t] }, ty, pos, aft, g⟩ σ R :=
 Gj ks ht hk he hz hsz O G hs M (.list hx) (Q9 (Du W).1) (Q8 (Du W).2) (Be hd) k
end
def kb (s s' : Ak) : Prop := s'.drop (s'.length - s.length) = s ∧ ((s'.take (s'.length - s.length)).all fun p => (get s p.1).isNone) = true
theorem Vc {s : Ak} {i : Nat} {x : T} : ∀ {l : Ak}, (l.all fun p => (get s p.1).isNone) = true → get s i = some x → get (l ++ s) i = some x
 | [], _, h => h
 | (j, y) :: l, ha, h => by
  simp only [List.all_cons, Bool.and_eq_true] at ha
  simp only [List.cons_append, get]
  cases hb : Nat.beq j i with
  | true =>
   rw [nq hb, h] at ha
   simp at ha
  | false => rw [cond_false]; exact Vc ha.2 h
theorem eW {s s' : Ak} (h : kb s s') (i : Nat) (x : T) (O : get s i = some x) : get s' i = some x := by
 obtain ⟨G, M⟩ := h
 rw [← List.take_append_drop (s'.length - s.length) s', G]
 exact Vc M O
theorem E8 {x y : Code} {Q : Exit → St → Prop} (d : Nat) (e : Bool) (h : AW E n C x ⟨s, ob⟩ (Hv (fun σ' => get σ'.slots d = some (.v (.bool e)) ∧ σ'.objs = ob ∧ kb s σ'.slots) Q)) (k : AW E n C y ⟨(d, .v (.bool e)) :: s, ob⟩ Q) : AW E n C (.seq x y) ⟨s, ob⟩ Q :=
 AW.cut _ h fun σ' ⟨W, O, X⟩ H a w G => k H a w { G with
  slots := fun i z M => by
   simp only [get] at M
   cases hb : Nat.beq d i with
   | true => rw [hb, cond_true] at M; cases M; rw [← nq hb]; exact G.slots d _ W
   | false => rw [hb, cond_false] at M; exact G.slots i z (eW X i z M)
  objs := by rw [← O]; exact G.objs
  free := by rw [← O]; exact G.free
  new := by rw [← O]; exact G.new
  nodup := by rw [← O]; exact G.nodup }
theorem jf {d : Nat} {a e : Bool} {s s' : Ak} {ob ob' : List Ob} (h : a = e) (h1 : get s' d = some (.v (.bool a))) (h2 : ob' = ob) (G : kb s s') : get s' d = some (.v (.bool e)) ∧ ob' = ob ∧ kb s s' := ⟨h ▸ h1, h2, G⟩
end
theorem Ar {E : Env} {n : Nat} {C : Ctx} {σ : St} {ty : TypeId} {pos : String} {aft : Array Edge} {g : Option (Nat × Bool)} (ks : List Nat) {d : Nat} {c : Operand} {args : Array Operand} {Z : Array TypeId} {f : FuncId} {G M xs ys : List T} {fp : List Ob} {X : T} {O N : List Ob} {R : St → Prop}
  (h : ACalls E f ys fp (Er fp.length (fun x os new => x = X ∧ os = O ∧ new = N))) (k : R ⟨Dq σ.slots (some d) X, D8 σ.objs ks O ++ N⟩)
  (hc : (Ap σ.slots c).bind I8 = some (f, G, M) := by exact rfl) (hx : Ey σ.slots args.toList = some xs := by exact rfl) (Y : G ++ xs ++ M = ys := by exact rfl)
  (hk : Cv σ.objs ks = some fp := by exact rfl) (W : ks.Nodup := by decide) (hd : Nat.blt d n = true := by exact rfl) :
  AX E n C ks ⟨some d, .call { callee := .value c, args := args, argTypes := Z }, ty, pos, aft, g⟩ σ R :=
 E7 ks h (by rintro _ _ _ _ ⟨rfl, rfl, rfl⟩; exact k) hc hx Y hk W hd
theorem pr {E : Env} {fn : Func} {σ : St} {X : T} (h : Vm E σ.slots σ.objs fn.results.toList [X] := by exact ⟨rfl, True.intro⟩) : eH E fn (fun x new => x = X ∧ new = []) .ret σ := ⟨.inr rfl, [X], [], h, Cd, rfl, rfl⟩
theorem g0 {n : Nat} {C : Ctx} {s : Ak} {ob : List Ob} : Ghost n C s ob s [] := Ghost.pick [] (K := []) rfl (by decide)
theorem F2 {E : Env} {n : Nat} {C : Ctx} {Q : Exit → St → Prop} {s : Ak} {ob : List Ob} {c : Code} (ks : List Nat) {K : List Ob} (G : Cv ob ks = some K) (k : AW E n C c ⟨s, K⟩ Q) (M : ks.Nodup := by decide) : AW E n C c ⟨s, ob⟩ Q := gY (Ghost.pick ks G M) k
theorem Bo {E : Env} {n : Nat} {C : Ctx} {σ : St} {ty : TypeId} {pos : String} {aft : Array Edge} {g : Option (Nat × Bool)} (k i j : Nat) (es' : List (List T)) {t : TypeId} {x y : Operand} {ti : TI} {c : T} {cs : List T} {b off M sz cap : Nat} {es : List (List T)} {e : List T} {R : St → Prop}
  (W : σ.objs[k]? = some (.arr b M sz cap es)) (kk : R ⟨σ.slots, σ.objs.set k (.arr b M sz cap es')⟩)
  (Z : Ap σ.slots x = some (.v (.pointer (some ⟨b, off, none⟩))) := by exact rfl) (Y : E.tab t = some ti := by exact rfl) (he : es[i]? = some e := by exact rfl) (X : off = i * sz + j := by exact rfl)
  (hy : Ap σ.slots y = some c := by exact rfl) (hc : Do c = some cs := by exact rfl) (hsz : ti.size = cs.length := by exact rfl) (O : Nat.ble (j + cs.length) e.length = true := by exact rfl) (G : es.set i (E6 e j cs) = es' := by exact rfl) :
  AX E n C [k] ⟨none, .store t x y, ty, pos, aft, g⟩ σ R := hO k i j Y Z W he X hy hc hsz (Nat.le_of_ble_eq_true O) rfl G kk
theorem Bh {α β : Type} {l : List α} {i : Int} {f : Nat × α → Option β} {r : β} (h : (ix l i).bind f = some r) : ∃ p, (i = (p.1 : Int) ∧ l[p.1]? = some p.2) ∧ f p = some r := by
 obtain ⟨p, G, M⟩ := Aa h
 exact ⟨p, cN G, M⟩
theorem fS {α β : Type} {n : Int} {z : α} {f : List α → Option β} {r : β} (h : (dO n z).bind f = some r) : ∃ l, (∃ m : Nat, n = (m : Int) ∧ m ≤ 68719476736 ∧ List.replicate m z = l) ∧ f l = some r := by
 obtain ⟨p, G, M⟩ := Aa h
 exact ⟨p, cF G, M⟩
theorem I2 {α β : Type} {a : α} {b : β} : a = a ∧ b = b := ⟨rfl, rfl⟩
theorem I3 {α β γ : Type} {a : α} {b : β} {c : γ} : a = a ∧ b = b ∧ c = c := ⟨rfl, rfl, rfl⟩
theorem I5 {α β γ δ ε : Type} {a : α} {b : β} {c : γ} {d : δ} {e : ε} : a = a ∧ b = b ∧ c = c ∧ d = d ∧ e = e := ⟨rfl, rfl, rfl, rfl, rfl⟩
theorem I7 {α β γ δ ε ζ η : Type} {a : α} {b : β} {c : γ} {d : δ} {e : ε} {f : ζ} {g : η} : a = a ∧ b = b ∧ c = c ∧ d = d ∧ e = e ∧ f = f ∧ g = g := ⟨rfl, rfl, rfl, rfl, rfl, rfl, rfl⟩
theorem J1 {α : Type} {a : α} : a = a ∧ True := ⟨rfl, J⟩
theorem J2 {α β : Type} {a : α} {b : β} : a = a ∧ b = b ∧ True := ⟨rfl, J1⟩
theorem J3 {α β γ : Type} {a : α} {b : β} {c : γ} : a = a ∧ b = b ∧ c = c ∧ True := ⟨rfl, J2⟩
theorem J4 {α β γ δ : Type} {a : α} {b : β} {c : γ} {d : δ} : a = a ∧ b = b ∧ c = c ∧ d = d ∧ True := ⟨rfl, J3⟩
theorem J5 {α β γ δ ε : Type} {a : α} {b : β} {c : γ} {d : δ} {e : ε} : a = a ∧ b = b ∧ c = c ∧ d = d ∧ e = e ∧ True := ⟨rfl, J4⟩
theorem J6 {α β γ δ ε ζ : Type} {a : α} {b : β} {c : γ} {d : δ} {e : ε} {f : ζ} : a = a ∧ b = b ∧ c = c ∧ d = d ∧ e = e ∧ f = f ∧ True := ⟨rfl, J5⟩
theorem J7 {α β γ δ ε ζ η : Type} {a : α} {b : β} {c : γ} {d : δ} {e : ε} {f : ζ} {g : η} : a = a ∧ b = b ∧ c = c ∧ d = d ∧ e = e ∧ f = f ∧ g = g ∧ True := ⟨rfl, J6⟩
theorem J8 {α β γ δ ε ζ η θ : Type} {a : α} {b : β} {c : γ} {d : δ} {e : ε} {f : ζ} {g : η} {h : θ} : a = a ∧ b = b ∧ c = c ∧ d = d ∧ e = e ∧ f = f ∧ g = g ∧ h = h ∧ True := ⟨rfl, J7⟩
theorem J9 {α β γ δ ε ζ η θ ι : Type} {a : α} {b : β} {c : γ} {d : δ} {e : ε} {f : ζ} {g : η} {h : θ} {i : ι} : a = a ∧ b = b ∧ c = c ∧ d = d ∧ e = e ∧ f = f ∧ g = g ∧ h = h ∧ i = i ∧ True := ⟨rfl, J8⟩
theorem gB {α β γ δ ε ζ η θ ι κ : Type} {a : α} {b : β} {c : γ} {d : δ} {e : ε} {f : ζ} {g : η} {h : θ} {i : ι} {j : κ} : a = a ∧ b = b ∧ c = c ∧ d = d ∧ e = e ∧ f = f ∧ g = g ∧ h = h ∧ i = i ∧ j = j ∧ True := ⟨rfl, J9⟩
theorem gG {α β γ δ ε ζ η θ ι κ μ : Type} {a : α} {b : β} {c : γ} {d : δ} {e : ε} {f : ζ} {g : η} {h : θ} {i : ι} {j : κ} {k : μ} : a = a ∧ b = b ∧ c = c ∧ d = d ∧ e = e ∧ f = f ∧ g = g ∧ h = h ∧ i = i ∧ j = j ∧ k = k ∧ True := ⟨rfl, gB⟩
theorem fI {α β γ δ ε ζ η θ ι κ μ ν : Type} {a : α} {b : β} {c : γ} {d : δ} {e : ε} {f : ζ} {g : η} {h : θ} {i : ι} {j : κ} {k : μ} {l : ν} : a = a ∧ b = b ∧ c = c ∧ d = d ∧ e = e ∧ f = f ∧ g = g ∧ h = h ∧ i = i ∧ j = j ∧ k = k ∧ l = l ∧ True := ⟨rfl, gG⟩
theorem fY {α β γ δ ε ζ η θ ι κ μ ν ξ : Type} {a : α} {b : β} {c : γ} {d : δ} {e : ε} {f : ζ} {g : η} {h : θ} {i : ι} {j : κ} {k : μ} {l : ν} {m : ξ} : a = a ∧ b = b ∧ c = c ∧ d = d ∧ e = e ∧ f = f ∧ g = g ∧ h = h ∧ i = i ∧ j = j ∧ k = k ∧ l = l ∧ m = m ∧ True := ⟨rfl, fI⟩
theorem eC {α β γ δ ε ζ η θ ι κ μ ν ξ ο : Type} {a : α} {b : β} {c : γ} {d : δ} {e : ε} {f : ζ} {g : η} {h : θ} {i : ι} {j : κ} {k : μ} {l : ν} {m : ξ} {n : ο} : a = a ∧ b = b ∧ c = c ∧ d = d ∧ e = e ∧ f = f ∧ g = g ∧ h = h ∧ i = i ∧ j = j ∧ k = k ∧ l = l ∧ m = m ∧ n = n ∧ True := ⟨rfl, fY⟩
theorem gL {α β γ δ ε ζ η θ ι κ μ ν ξ ο π : Type} {a : α} {b : β} {c : γ} {d : δ} {e : ε} {f : ζ} {g : η} {h : θ} {i : ι} {j : κ} {k : μ} {l : ν} {m : ξ} {n : ο} {o : π} : a = a ∧ b = b ∧ c = c ∧ d = d ∧ e = e ∧ f = f ∧ g = g ∧ h = h ∧ i = i ∧ j = j ∧ k = k ∧ l = l ∧ m = m ∧ n = n ∧ o = o ∧ True := ⟨rfl, eC⟩
theorem Cl {E : Env} {n : Nat} {C : Ctx} {σ : St} {dst : Option Tmp} {ty : TypeId} {pos : String} {aft : Array Edge} {g : Option (Nat × Bool)} {t : TypeId} {z : Value} (cs : List T) (m : Nat) {R : St → Prop} (k : ∀ b, R ⟨Dq σ.slots dst (.v (.pointer (some ⟨b, 0, none⟩))), σ.objs ++ [(.arr b t m 1 [cs])]⟩)
  (G : (E.tab t).bind (fun i => i.zero) = some z := by exact rfl) (hc : z.cells.toList.map T.v = cs := by exact rfl) (h1 : z.cells.toList.all (·.oneCell') = true := by exact rfl) (M : cs.length = m := by exact rfl) (hd : ∀ d, dst = some d → d < n := by exact dS) :
  AX E n C [] ⟨dst, .alloc t, ty, pos, aft, g⟩ σ R := by
 obtain ⟨i, hi, G⟩ := Option.bind_eq_some_iff.1 G
 exact AX.alloc hi G hc h1 M hd k
theorem Ck {E : Env} {n : Nat} {C : Ctx} {σ : St} {dst : Option Tmp} {ty : TypeId} {pos : String} {aft : Array Edge} {g : Option (Nat × Bool)} {t : TypeId} {x : Operand} (cs : List T) (m : Nat) {R : St → Prop} (k : ∀ b, R ⟨Dq σ.slots dst (.v (.pointer (some ⟨b, 0, none⟩))), σ.objs ++ [(.arr b t m 1 [cs])]⟩)
  (M : (Ap σ.slots x).bind Do = some cs := by exact rfl) (G : cs.length = m := by exact rfl) (hd : ∀ d, dst = some d → d < n := by exact dS) :
  AX E n C [] ⟨dst, .box t x, ty, pos, aft, g⟩ σ R := by
 obtain ⟨y, O, hc⟩ := Option.bind_eq_some_iff.1 M
 exact AX.box O hc G hd k
theorem Bw {E : Env} {n : Nat} {C : Ctx} {s : Ak} {ob : List Ob} {Q : Exit → St → Prop} {c : Operand} {x y : Code} {t : Nat} {b : Bool} (G : get s t = some (.v (.bool b))) (hb : b = true) (h : AW E n C x ⟨s, ob⟩ Q) (hc : c = .tmp t := by rfl) : AW E n C (.cond c x y) ⟨s, ob⟩ Q := Sv (v := true) G hb h hc
theorem Bx {E : Env} {n : Nat} {C : Ctx} {s : Ak} {ob : List Ob} {Q : Exit → St → Prop} {c : Operand} {x y : Code} {t : Nat} {b : Bool} (G : get s t = some (.v (.bool b))) (hb : b = false) (h : AW E n C y ⟨s, ob⟩ Q) (hc : c = .tmp t := by rfl) : AW E n C (.cond c x y) ⟨s, ob⟩ Q := Sv (v := false) G hb h hc
def sl : Nat → Nat → PL → PL
 | 0, _, r => r
 | m + 1, i, r => .still i (sl m (i + 1) r)
theorem io {α : Type _} {a b : α} (h : some a = some b) : b = a := (Option.some.inj h).symm
abbrev RV (t : T) (x : T) (new : List Ob) : Prop := x = t ∧ new = []
abbrev RB (r : Bool) (x : T) (new : List Ob) : Prop := x = .v (.bool r) ∧ new = []
def Cs {α : Type} : List (Int × α) → Int → Option α
 | [], _ => none
 | (k, x) :: l, i => if k = i then some x else Cs l i
def Kg {α : Type} : List (Int × α) → Int → α → List (Int × α)
 | [], _, _ => []
 | (k, x) :: l, i, y => if k = i then (k, y) :: l else (k, x) :: Kg l i y
def Gu {α : Type} (l : List (Int × α)) (i : Int) (y : α) : List (Int × α) := if (Cs l i).isSome then Kg l i y else l ++ [(i, y)]
def Cj {α : Type} (f : α → Value) : List (Int × α) → Nat → List MapEntry
 | [], _ => []
 | (k, x) :: l, n => { key := .int .i64 k, val := f x, born := n } :: Cj f l (n + 1)
def Cc {α : Type} (f : α → Value) (l : List (Int × α)) : Obj := .map (Cj f l 0).toArray l.length
theorem Jt {α : Type} (f : α → Value) (i : Int) (y : α) : ∀ (l : List (Int × α)) (n : Nat), Cj f (l ++ [(i, y)]) n = Cj f l n ++ [{ key := .int .i64 i, val := f y, born := n + l.length }]
 | [], n => rfl
 | (k, x) :: l, n => by simp only [List.cons_append, Cj, Jt f i y l (n + 1), List.length_cons]; rw [show n + 1 + l.length = n + (l.length + 1) by omega]
theorem Ov {α : Type} (f : α → Value) (i : Int) : ∀ (l : List (Int × α)) (n j : Nat), ∃ m, Instr.findNow (.int .i64) (.int .i64 i) (Cj f l n) j = some ((Cs l i).map fun x => (m, f x)) ∧
  ((Cs l i).isSome → j ≤ m ∧ (Cj f l n)[m - j]? = some { key := .int .i64 i, val := (f <$> Cs l i).getD undef, born := n + (m - j) } ∧ ∀ y : α, (Cj f l n).modify (m - j) (fun e => { e with key := .int .i64 i, val := f y }) = Cj f (Kg l i y) n)
 | [], n, j => ⟨0, by simp [Cj, Instr.findNow, Cs]⟩
 | (k, x) :: l, n, j => by
  by_cases h : k = i
  ·subst h
   refine ⟨j, by simp [Cj, Instr.findNow, Instr.sameNow, Cs], fun _ => ⟨Nat.le_refl _, ?_, fun y => ?_⟩⟩
   ·simp [Cj, Cs]
   ·simp [Cj, Kg]
  ·obtain ⟨m, M, O⟩ := Ov f i l (n + 1) (j + 1)
   have W : (i == k) = false := by simp; omega
   refine ⟨m, by simp [Cj, Instr.findNow, Instr.sameNow, Cs, h, W, M], fun G => ?_⟩
   simp only [Cs, h, if_false] at G ⊢
   obtain ⟨Z, X, Y⟩ := O G
   have e : m - j = (m - (j + 1)) + 1 := by omega
   refine ⟨by omega, ?_, fun y => ?_⟩
   ·rw [e]; simp only [Cj, List.getElem?_cons_succ]; rw [X]; congr 2; omega
   ·rw [e]; simp only [Cj, Kg, h, if_false, List.modify_succ_cons]; rw [Y y]
theorem Sb {α : Type} (i : Int) (y : α) : ∀ l : List (Int × α), (Kg l i y).length = l.length
 | [] => rfl
 | (k, x) :: l => by simp only [Kg]; split <;> simp [Sb i y l]
section
variable {E : Env} {n : Nat} {C : Ctx} {σ : St} {s : Ak} {ob : List Ob} {dst : Option Tmp} {ty : TypeId} {pos : String} {aft : Array Edge} {g : Option (Nat × Bool)} {R : St → Prop}
theorem Ln {P : Program} {t : TypeId} {i : TI} (h : Gt P t = some i) {k e : Nat} (O : i.kind = .map k e) : P.underlying t = some (.map k e) := by
 obtain ⟨d, M, G⟩ := Fx h
 rw [O] at G
 cases d <;> simp [Kh] at G
 obtain ⟨rfl, rfl⟩ := G; exact M
theorem AX.makeMap {α : Type} (f : α → Value) {t : TypeId} (hd : ∀ d, dst = some d → d < n) (k : ∀ b, R ⟨Dq σ.slots dst (.v (.map (some b))), σ.objs ++ [.raw b (Cc f [])]⟩) :
  AX E n C [] ⟨dst, .makeMap t none, ty, pos, aft, g⟩ σ R := by
 refine iC fun H a w M => ?_
 have G : OR H (w.alloc (Cc f [])) (.raw w.heap.size (Cc f [])) := heap_alloc_new w _
 refine ⟨.map (some w.heap.size), w.alloc (Cc f []), _, H, ?_, k w.heap.size, ?_, fun _ _ h => h, ?_⟩
 ·simp only [execOp, Instr.makeMap, Cc, Cj, newObj]; rfl
 ·have := (M.alloc G rfl).put (dst := dst) (.v (.map (some w.heap.size))) hd
  cases dst <;> exact this
 ·intro i p O _
  exact ⟨Dp O, fun b W => heap_alloc_old w _ ((M.objs p (mg O)).lt b W)⟩
theorem M4 {α : Type} {P : Program} {w : World} {t kt : TypeId} {f : α → Value} {l : List (Int × α)} {i : Int} (Y : P.underlying kt = some (.int .i64)) :
  ∃ m, (Instr.findKey kt (.int .i64 i) (Cj f l 0)).run P w = .ok ((Cs l i).map fun x => (m, f x)) w ∧
   ((Cs l i).isSome → (Cj f l 0)[m]? = some { key := .int .i64 i, val := (f <$> Cs l i).getD undef, born := m } ∧ ∀ y : α, (Cj f l 0).modify m (fun e => { e with key := .int .i64 i, val := f y }) = Cj f (Kg l i y) 0) := by
 obtain ⟨m, O, W⟩ := Ov f i l 0 0
 refine ⟨m, ?_, fun X => ?_⟩
 ·simp only [Instr.findKey, Sem.run_bind, run_underlying Y, Result.andThen_ok, O, Sem.run_pure]
 ·obtain ⟨_, G, M⟩ := W X
  rw [Nat.sub_zero] at G M
  rw [Nat.zero_add] at G
  exact ⟨G, M⟩
theorem Gk {P : Program} {w : World} {kt : TypeId} {i : Int} (G : P.underlying kt = some (.int .i64)) (e : Bool) (v : Value) : (Instr.checkKey e 10000 kt v).run P w = .ok () w := by
 unfold Instr.checkKey
 simp only [Sem.run_bind, run_underlying G, Result.andThen_ok, Sem.run_pure]
theorem T9 {α : Type} (q : Nat) {f : α → Value} {t : TypeId} {x y : Operand} {b : Nat} {l : List (Int × α)} {i : Int} {ti ki ei : TI} {kt et : Nat} {z : α} {u v : T}
  (ht : E.tab t = some ti) (hk : ti.kind = .map kt et) (X : E.tab kt = some ki) (Y : ki.kind = .int .i64) (O : E.tab et = some ei) (hz : ei.zero = some (f z))
  (G : Ap s x = some (.v (.map (some b)))) (ho : ob[q]? = some (.raw b (Cc f l))) (hy : Ap s y = some (.v (.int .i64 i)))
  (hu : T.v (f ((Cs l i).getD z)) = u) (hv : T.v (.bool (Cs l i).isSome) = v) :
  Yd E.P n s ob ⟨dst, .lookup t x y true, ty, pos, aft, g⟩ (.tup [u, v]) := by
 subst hu; subst hv
 intro H a w sr wr
 have hh : w.heap[b]? = some (Cc f l) := wr.objs _ (mg ho)
 refine ⟨.tuple #[f ((Cs l i).getD z), .bool (Cs l i).isSome], ?_, fun Z ag => ?_⟩
 ·exact .tup _ _ (by simp) fun j x G => by
   match j, G with
   | 0, G => simp at G; subst G; exact .v _
   | 1, G => simp at G; subst G; exact .v _
 ·have W : Z.heap[b]? = some (Cc f l) := (ag.2 _ (mg ho) b (by simp [Ob.fp])).trans hh
  have M := Qs (E.ok _ _ X) Y
  obtain ⟨m, r1, r2⟩ := M4 (P := E.P) (w := Z) (t := t) (kt := kt) (f := f) (l := l) (i := i) M
  simp only [execOp, sr.evalv G, sr.evalv hy, Instr.lookup, Sem.run_bind, run_underlying (Ln (E.ok _ _ ht) hk), Result.andThen_ok]
  simp only [getObj, Sem.run, W, Cc, Result.andThen_ok, Sem.run_bind, Sem.run_pure, Gk (i := i) M, r1]
  cases hm : Cs l i with
  | none => simp [C7 (E.ok _ _ O) Z hz]
  | some x => simp
theorem Em {α : Type} (q : Nat) {f : α → Value} {t : TypeId} {x y : Operand} {b : Nat} {l : List (Int × α)} {i : Int} {ti ki Z : TI} {kt et : Nat} {z : α} {u : T}
  (ht : E.tab t = some ti) (hk : ti.kind = .map kt et) (W : E.tab kt = some ki) (X : ki.kind = .int .i64) (M : E.tab et = some Z) (hz : Z.zero = some (f z))
  (hx : Ap s x = some (.v (.map (some b)))) (ho : ob[q]? = some (.raw b (Cc f l))) (hy : Ap s y = some (.v (.int .i64 i)))
  (hu : T.v (f ((Cs l i).getD z)) = u) :
  Yd E.P n s ob ⟨dst, .lookup t x y false, ty, pos, aft, g⟩ u := by
 subst hu
 intro H a w sr wr
 have hh : w.heap[b]? = some (Cc f l) := wr.objs _ (mg ho)
 refine ⟨f ((Cs l i).getD z), .v _, fun Y ag => ?_⟩
 have O : Y.heap[b]? = some (Cc f l) := (ag.2 _ (mg ho) b (by simp [Ob.fp])).trans hh
 have G := Qs (E.ok _ _ W) X
 obtain ⟨m, r1, r2⟩ := M4 (P := E.P) (w := Y) (t := t) (kt := kt) (f := f) (l := l) (i := i) G
 simp only [execOp, sr.evalv hx, sr.evalv hy, Instr.lookup, Sem.run_bind, run_underlying (Ln (E.ok _ _ ht) hk), Result.andThen_ok]
 simp only [getObj, Sem.run, O, Cc, Result.andThen_ok, Sem.run_bind, Sem.run_pure, Gk (i := i) G, r1]
 cases hm : Cs l i with
 | none => simp [C7 (E.ok _ _ M) Y hz]
 | some x => simp
def mI (x : Int) : Value := .int .i64 x
theorem cA {P : Program} {w : World} {b : Nat} {es : Array MapEntry} {c : Nat} (h : w.heap[b]? = some (.map es c)) : (getObj b).run P w = .ok (.map es c) w := by
 simp only [getObj, Sem.run, h]
theorem AX.mapUpdate {α : Type} (q : Nat) {f : α → Value} {t : TypeId} {x y v : Operand} {b : Nat} {l : List (Int × α)} {i : Int} {ti ki : TI} {kt et : Nat} {z : α}
  (ht : E.tab t = some ti) (hk : ti.kind = .map kt et) (hki : E.tab kt = some ki) (hkk : ki.kind = .int .i64)
  (hx : Ap σ.slots x = some (.v (.map (some b)))) (ho : σ.objs[q]? = some (.raw b (Cc f l))) (hy : Ap σ.slots y = some (.v (.int .i64 i))) (hv : Ap σ.slots v = some (.v (f z)))
  (hd : dst = none) (kk : R ⟨σ.slots, σ.objs.set q (.raw b (Cc f (Gu l i z)))⟩) :
  AX E n C [q] ⟨dst, .mapUpdate t x y v, ty, pos, aft, g⟩ σ R := by
 subst hd
 refine AX.skip fun H a w X => ?_
 have hh : w.heap[b]? = some (Cc f l) := X.objs _ (mg ho)
 have ab : b < w.heap.size := (Array.getElem?_eq_some_iff.1 hh).1
 have M := Qs (E.ok _ _ hki) hkk
 obtain ⟨m, r1, r2⟩ := M4 (P := E.P) (w := w) (t := t) (kt := kt) (f := f) (l := l) (i := i) M
 have O : ∀ o : Obj, ∀ k : Sem Unit, (Sem.setObj b o k).run E.P w = k.run E.P { w with heap := w.heap.setIfInBounds b o } := by
  intro o k
  simp only [Sem.run, hh, Cc]
 have aa : (execOp a.eval ⟨none, .mapUpdate t x y v, ty, pos, aft, g⟩).run E.P w = .ok .skip { w with heap := w.heap.setIfInBounds b (Cc f (Gu l i z)) } := by
  simp only [execOp, X.sr.evalv hx, X.sr.evalv hy, X.sr.evalv hv, Instr.mapUpdate, Sem.run_bind, run_underlying (Ln (E.ok _ _ ht) hk), Result.andThen_ok]
  simp only [cA (show w.heap[b]? = some (.map (Cj f l 0).toArray l.length) from hh), Result.andThen_ok, Sem.run_bind, Sem.run_pure, Gk (i := i) M, r1]
  cases Y : Cs l i with
  | none =>
   simp only [Option.map_none, Sem.run_bind]
   have : Gu l i z = l ++ [(i, z)] := by unfold Gu; rw [Y]; rfl
   simp only [setObj, O, Sem.run_pure, Result.andThen_ok]
   rw [this]
   simp only [Cc, Jt, List.length_append, List.length_singleton, Nat.zero_add]
   congr 3
   simp
  | some u =>
   obtain ⟨e1, e2⟩ := r2 (by rw [Y]; rfl)
   have : Gu l i z = Kg l i z := by unfold Gu; rw [Y]; rfl
   simp only [Option.map_some, Sem.run_bind]
   have hkt : (Instr.keyThatStays (.int .i64 i) (.int .i64 i)).run E.P w = .ok (.int .i64 i) w := by
    simp [Instr.keyThatStays, Instr.sameBits]
   have he : ((((Cj f l 0).toArray)[m]?).map (·.key)).getD (.int .i64 i) = .int .i64 i := by
    simp [e1]
   rw [he, hkt]
   simp only [Result.andThen_ok, setObj, O, Sem.run_pure]
   rw [this]
   have Z : ((Cj f l 0).toArray.modify m fun e => { key := .int .i64 i, val := f z, born := e.born }) = (Cj f (Kg l i z) 0).toArray := by
    have := e2 z
    rw [← this]
    simp
   simp only [Cc, Sb, Z]
   rfl
 refine ⟨_, _, H, aa, kk, ?_, fun _ _ h => h, fun i' p hp Y => ?_⟩
 ·refine X.set ho ⟨rfl, rfl, rfl⟩ (by simp) (fun j hj G => ?_) ?_ (fun b' W => .inr (by simpa [Ob.fp] using W)) (by simp [Ob.fp])
  ·simp only [Ob.fp, List.mem_singleton] at G
   simp [Array.getElem?_setIfInBounds_ne (Ne.symm G)]
  ·show (w.heap.setIfInBounds b _)[b]? = _
   simp [Array.getElem?_setIfInBounds_self, ab]
 ·have G : q ≠ i' := fun h => by subst h; simp at Y
  refine ⟨Ek hp G, fun b' W => ?_⟩
  have : b ≠ b' := fun h => X.apart ho hp G b' W (by simp [Ob.fp, h])
  simp [Array.getElem?_setIfInBounds_ne this]
end
theorem Hq {α : Type} (f : α → Value) : ∀ (l : List (Int × α)) (n j : Nat), (Cj f l n)[j]? = (l[j]?).map fun p => { key := .int .i64 p.1, val := f p.2, born := n + j }
 | [], n, j => by simp [Cj]
 | (k, x) :: l, n, 0 => by simp [Cj]
 | (k, x) :: l, n, j + 1 => by
  simp only [Cj, List.getElem?_cons_succ, Hq f l (n + 1) j]
  rw [show n + 1 + j = n + (j + 1) by omega]
theorem Ot {α : Type} {f : α → Value} {l : List (Int × α)} {e : MapEntry} (h : e ∈ Cj f l 0) : ∃ p, l[e.born]? = some p ∧ e = { key := .int .i64 p.1, val := f p.2, born := e.born } := by
 obtain ⟨j, G⟩ := List.mem_iff_getElem?.1 h
 rw [Hq] at G
 obtain ⟨p, M, rfl⟩ := Option.map_eq_some_iff.1 G
 exact ⟨p, by simpa using M, by simp⟩
theorem S3 {α : Type} (f : α → Value) (l : List (Int × α)) : ((Cj f l 0).map (·.born)).Nodup := by
 have : ∀ (l : List (Int × α)) (n : Nat), (Cj f l n).map (·.born) = List.range' n l.length := by
  intro l
  induction l with
  | nil => intro n; rfl
  | cons p l ih => intro n; obtain ⟨k, x⟩ := p; simp [Cj, ih, List.range'_succ]
 rw [this]
 exact List.nodup_range'
section
variable {P : Program}
theorem S0 (w : World) (ty : TypeId) (W bm since c0 : Nat) (seen : Array Nat) (es : Array MapEntry) (G : Nat) (hi : w.heap[W]? = some (.mapIter (some bm) since seen c0)) (hb : w.heap[bm]? = some (.map es G))
  (O : ∀ x ∈ es.toList, x.born < since) (hsc : since ≤ c0) :
  ((leftOf es seen).size = 0 ∧ (Instr.next (.pointer (some ⟨W, 0, none⟩)) false ty).run P w = .ok (.tuple #[.bool false]) w) ∨
  ∃ e ∈ (leftOf es seen).toList, ∃ w1 : World, (w1 = w ∨ w1 = w.drew) ∧ (Instr.next (.pointer (some ⟨W, 0, none⟩)) false ty).run P w = .ok (.tuple #[.bool true, e.key, e.val]) { w1 with heap := w1.heap.setIfInBounds W (.mapIter (some bm) since (seen.push e.born) G) } := by
 simp only [Instr.next, getObj, Sem.run_bind, Sem.run, hi, hb, Result.andThen, next_test_false seen es since c0 O hsc, Bool.false_eq_true, if_false]
 unfold leftOf
 have M : ∀ x ∈ (Array.filter (fun e => !seen.contains e.born) es).toList, x.born < since := fun x X => O x (by simp at X ⊢; exact X.1)
 generalize Array.filter (fun e => !seen.contains e.born) es = L at M ⊢
 have e1 : L.filter (fun x => decide (x.born < since)) = L := Array.filter_eq_self.2 (fun x X => by simpa using M x (by simpa using X))
 have e2 : L.filter (fun x => decide (x.born ≥ since)) = #[] := by
  rw [Array.filter_eq_empty_iff]
  intro x X
  have := M x (by simpa using X)
  simp
  omega
 simp only [e1, e2, Array.append_empty]
 by_cases h0 : L.size = 0
 ·left
  have : L = #[] := Array.eq_empty_of_size_eq_zero h0
  subst this
  refine ⟨rfl, ?_⟩
  simp [choose, Sem.run, Question.forced]
 ·right
  have hne : L.isEmpty = false := by simp [Array.isEmpty, h0]
  simp only [hne, Bool.false_eq_true, if_false, Array.empty_append, Array.size_map]
  have hch : ∃ (j : Nat) (w1 : World), j < L.size ∧ (w1 = w ∨ w1 = w.drew) ∧ (choose (Question.mapNext L.size)).run P w = .ok j w1 := by
   by_cases hf : L.size ≤ 1
   ·exact ⟨0, w, by omega, .inl rfl, by simp [choose, Sem.run, Question.forced, hf]⟩
   ·exact ⟨_, w.drew, Nat.mod_lt _ (by omega), .inr rfl, by
     simp only [choose, Sem.run, Question.forced, decide_eq_true_eq, hf, if_false, Question.cut]
     rfl⟩
  obtain ⟨j, w1, hj, Y, Z⟩ := hch
  refine ⟨L[j], by simp, w1, Y, ?_⟩
  have hi1 : w1.heap[W]? = some (.mapIter (some bm) since seen c0) := by rcases Y with rfl | rfl <;> exact hi
  have aa : ∀ (o' : Obj), (setObj W o').run P w1 = .ok () { w1 with heap := w1.heap.setIfInBounds W o' } := fun o' => by
   simp only [setObj, Sem.run, hi1]
  simp only [Z, Array.getElem?_map, Array.getElem?_eq_getElem hj, Option.map_some, Sem.run_bind, aa, Result.andThen]
  rfl
theorem Rf (w : World) (O W M : Nat) (seen : Array Nat) (es : Array MapEntry) (G : Nat) (e : MapEntry) (hi : w.heap[O]? = some (.mapIter (some W) M (seen.push e.born) G)) (hb : w.heap[W]? = some (.map es G))
  (he : e ∈ es.toList) (Y : (es.toList.map (·.born)).Nodup) : (Instr.entry (.pointer (some ⟨O, 0, none⟩))).run P w = .ok (.tuple #[e.key, e.val]) w := by
 have X : es.find? (·.born == e.born) = some e := by rw [← Array.find?_toList]; exact find_born e es.toList Y he
 simp only [Instr.entry, getObj, Sem.run_bind, Sem.run, hi, hb, Result.andThen, Array.back?_push, bne_self_eq_false, Bool.false_eq_true, if_false, X]
 rfl
end
section
variable {E : Env} {n : Nat} {C : Ctx} {σ : St} {s : Ak} {ob : List Ob} {dst : Option Tmp} {ty : TypeId} {pos : String} {aft : Array Edge} {g : Option (Nat × Bool)} {R : St → Prop}
theorem AX.range {α : Type} (q : Nat) {f : α → Value} {t : TypeId} {x : Operand} {b : Nat} {l : List (Int × α)} {ti : TI} {kt W : Nat}
  (ht : E.tab t = some ti) (hk : ti.kind = .map kt W) (hx : Ap σ.slots x = some (.v (.map (some b)))) (ho : σ.objs[q]? = some (.raw b (Cc f l))) (hd : ∀ d, dst = some d → d < n)
  (k : ∀ O, R ⟨Dq σ.slots dst (.v (.pointer (some ⟨O, 0, none⟩))), σ.objs ++ [.raw O (.mapIter (some b) l.length #[] l.length)]⟩) :
  AX E n C [] ⟨dst, .range t x, ty, pos, aft, g⟩ σ R := by
 refine iC fun H a w G => ?_
 have Z : w.heap[b]? = some (Cc f l) := G.objs _ (mg ho)
 have M : OR H (w.alloc (.mapIter (some b) l.length #[] l.length)) (.raw w.heap.size (.mapIter (some b) l.length #[] l.length)) := heap_alloc_new w _
 refine ⟨.pointer (some ⟨w.heap.size, 0, none⟩), w.alloc (.mapIter (some b) l.length #[] l.length), _, H, ?_, k w.heap.size, ?_, fun _ _ h => h, ?_⟩
 ·simp only [execOp, G.sr.evalv hx, Sem.run_bind, run_range_map w t kt W b _ _ (Ln (E.ok _ _ ht) hk) Z, Result.andThen_ok, Sem.run_pure]
 ·have := (G.alloc M rfl).put (dst := dst) (.v (.pointer (some ⟨w.heap.size, 0, none⟩))) hd
  cases dst <;> exact this
 ·intro i p X _
  exact ⟨Dp X, fun c Y => heap_alloc_old w _ ((G.objs p (mg X)).lt c Y)⟩
theorem AX.next {α : Type} (q p : Nat) {f : α → Value} {x : Operand} {b M : Nat} {l : List (Int × α)} {seen : Array Nat}
  (G : Ap σ.slots x = some (.v (.pointer (some ⟨M, 0, none⟩)))) (ho : σ.objs[q]? = some (.raw b (Cc f l))) (hp : σ.objs[p]? = some (.raw M (.mapIter (some b) l.length seen l.length)))
  (hd : ∀ d, dst = some d → d < n)
  (k1 : (∀ j, j < l.length → seen.contains j = true) → R ⟨Dq σ.slots dst (.tup [.v (.bool false)]), σ.objs⟩)
  (k2 : ∀ j (kx : Int × α), l[j]? = some kx → seen.contains j = false →
   R ⟨Dq σ.slots dst (.tup [.v (.bool true), .v (.int .i64 kx.1), .v (f kx.2)]), σ.objs.set p (.raw M (.mapIter (some b) l.length (seen.push j) l.length))⟩) :
  AX E n C [p] ⟨dst, .next x false, ty, pos, aft, g⟩ σ R := by
 refine iC fun H a w O => ?_
 have hh : w.heap[b]? = some (Cc f l) := O.objs _ (mg ho)
 have hi : w.heap[M]? = some (.mapIter (some b) l.length seen l.length) := O.objs _ (mg hp)
 have Z : ∀ x ∈ (Cj f l 0).toArray.toList, x.born < l.length := fun e he => by
  obtain ⟨y, hy, _⟩ := Ot (by simpa using he)
  exact (gs hy).1
 rcases S0 (P := E.P) w ty M b l.length l.length seen (Cj f l 0).toArray l.length hi hh Z (Nat.le_refl _) with ⟨h0, hr⟩ | ⟨e, he, w1, ab, hr⟩
 ·refine ⟨.tuple #[.bool false], w, _, H, ?_, k1 fun j hj => ?_, ?_, fun _ _ h => h, fun i o ho _ => ⟨ho, fun _ _ => rfl⟩⟩
  rotate_left
  rotate_left
  ·have := O.put (dst := dst) (v := .tuple #[.bool false]) (x := .tup [.v (.bool false)]) (.tup _ _ (by simp) fun j x G => by
    match j, G with
    | 0, G => simp at G; subst G; exact .v _) hd
   cases dst <;> exact this
  ·simp only [execOp, O.sr.evalv G, Sem.run_bind, hr, Result.andThen_ok, Sem.run_pure]
  ·cases W : seen.contains j with
   | true => rfl
   | false =>
    exfalso
    obtain ⟨y, hy⟩ : ∃ y, l[j]? = some y := ⟨_, gq hj⟩
    have hm : (Cj f l 0)[j]? = some { key := .int .i64 y.1, val := f y.2, born := j } := by rw [Hq, hy]; simp
    have : ({ key := .int .i64 y.1, val := f y.2, born := j } : MapEntry) ∈ (leftOf (Cj f l 0).toArray seen).toList := by
     simp only [leftOf, Array.toList_filter, List.mem_filter, Bool.not_eq_true']
     exact ⟨mg hm, W⟩
    have h1 := List.length_pos_of_mem this
    simp only [Array.length_toList] at h1
    omega
 ·have hm : e ∈ Cj f l 0 ∧ seen.contains e.born = false := by
   simpa only [leftOf, Array.toList_filter, List.mem_filter, Bool.not_eq_true'] using he
  obtain ⟨y, hy, hey⟩ := Ot hm.1
  have hk2 := k2 e.born y hy hm.2
  have hbl : M < w.heap.size := (Array.getElem?_eq_some_iff.1 hi).1
  have gm1 : Gam n C σ H a w1 := by
   rcases ab with rfl | rfl
   ·exact O
   ·exact O.drew
  have aa : w1.heap = w.heap := by rcases ab with rfl | rfl <;> rfl
  have hor : OR H { w1 with heap := w1.heap.setIfInBounds M (.mapIter (some b) l.length (seen.push e.born) l.length) } (.raw M (.mapIter (some b) l.length (seen.push e.born) l.length)) := by
   show (w1.heap.setIfInBounds M _)[M]? = _
   rw [aa, Array.getElem?_setIfInBounds_self_of_lt hbl]
  refine ⟨.tuple #[.bool true, .int .i64 y.1, f y.2], { w1 with heap := w1.heap.setIfInBounds M (.mapIter (some b) l.length (seen.push e.born) l.length) }, _, H, ?_, hk2, ?_, fun _ _ h => h, ?_⟩
  rotate_left
  ·have := (gm1.set (k := p) (o := .raw M (.mapIter (some b) l.length seen l.length)) (w' := { w1 with heap := w1.heap.setIfInBounds M (.mapIter (some b) l.length (seen.push e.born) l.length) }) hp ⟨rfl, rfl, rfl⟩ (by simp)
    (fun i _ hni => Array.getElem?_setIfInBounds_ne (fun h => hni (by simp [Ob.fp, h]))) hor (fun c W => .inr W) (by simp [Ob.fp])).put (dst := dst) (v := .tuple #[.bool true, .int .i64 y.1, f y.2]) (x := .tup [.v (.bool true), .v (.int .i64 y.1), .v (f y.2)])
    (.tup _ _ (by simp) fun j x G => by
     match j, G with
     | 0, G => simp at G; subst G; exact .v _
     | 1, G => simp at G; subst G; exact .v _
     | 2, G => simp at G; subst G; exact .v _) hd
   cases dst <;> exact this
  ·intro i o X hmd
   have Y : i ≠ p := fun h => by subst h; simp at hmd
   refine ⟨by dsimp only; rw [List.getElem?_set_ne (Ne.symm Y)]; exact X, fun c W => ?_⟩
   have hne : M ≠ c := fun h => by
    subst h
    exact O.apart hp X (Ne.symm Y) _ W (by simp [Ob.fp])
   show (w1.heap.setIfInBounds M _)[c]? = _
   rw [aa, Array.getElem?_setIfInBounds_ne hne]
  ·have : (Value.tuple #[.bool true, e.key, e.val]) = .tuple #[.bool true, .int .i64 y.1, f y.2] := by rw [hey]
   rw [← this]
   simp only [execOp, O.sr.evalv G, Sem.run_bind, hr, Result.andThen_ok, Sem.run_pure]
theorem Yd.entry {α : Type} (q p : Nat) {f : α → Value} {x : Operand} {b O : Nat} {l : List (Int × α)} {seen : Array Nat} {j : Nat} {M : Int × α}
  (G : Ap s x = some (.v (.pointer (some ⟨O, 0, none⟩)))) (ho : ob[q]? = some (.raw b (Cc f l))) (hp : ob[p]? = some (.raw O (.mapIter (some b) l.length (seen.push j) l.length))) (hj : l[j]? = some M) :
  Yd E.P n s ob ⟨dst, .entry x, ty, pos, aft, g⟩ (.tup [.v (.int .i64 M.1), .v (f M.2)]) := by
 intro H a w sr wr
 have hh : w.heap[b]? = some (Cc f l) := wr.objs _ (mg ho)
 have hi : w.heap[O]? = some (.mapIter (some b) l.length (seen.push j) l.length) := wr.objs _ (mg hp)
 refine ⟨.tuple #[.int .i64 M.1, f M.2], .tup _ _ (by simp) fun i x G => by
   match i, G with
   | 0, G => simp at G; subst G; exact .v _
   | 1, G => simp at G; subst G; exact .v _, fun Y Z => ?_⟩
 have W : Y.heap[b]? = some (Cc f l) := (Z.2 _ (mg ho) b (by simp [Ob.fp])).trans hh
 have X : Y.heap[O]? = some (.mapIter (some b) l.length (seen.push j) l.length) := (Z.2 _ (mg hp) O (by simp [Ob.fp])).trans hi
 have hm : ({ key := .int .i64 M.1, val := f M.2, born := j } : MapEntry) ∈ Cj f l 0 := mg (i := j) (by rw [Hq, hj]; simp)
 have := Rf (P := E.P) Y O b l.length seen (Cj f l 0).toArray l.length { key := .int .i64 M.1, val := f M.2, born := j } X W (by simpa using hm) (by simpa using S3 f l)
 simp only [execOp, sr.evalv G, Sem.run_bind, this, Result.andThen_ok, Sem.run_pure]
end
def Kd {β : Type} (g : β → β) (seen : Array Nat) (l : List (Int × β)) : List (Int × β) := l.mapIdx fun j G => if seen.contains j then (G.1, g G.2) else G
theorem E0 {β : Type} (g : β → β) (seen : Array Nat) (l : List (Int × β)) (j : Nat) : (Kd g seen l)[j]? = (l[j]?).map fun kx => if seen.contains j then (kx.1, g kx.2) else kx := by
 simp [Kd, List.getElem?_mapIdx]
theorem Qu {β : Type} (g : β → β) (seen : Array Nat) (l : List (Int × β)) : (Kd g seen l).length = l.length := by simp [Kd]
theorem cH {β : Type} (g : β → β) (l : List (Int × β)) : Kd g #[] l = l := by
 refine List.ext_getElem? fun j => ?_
 rw [E0]; simp
theorem cK {β : Type} {g : β → β} {seen : Array Nat} {l : List (Int × β)} (h : ∀ j, j < l.length → seen.contains j = true) : Kd g seen l = l.map fun G => (G.1, g G.2) := by
 refine List.ext_getElem? fun j => ?_
 rw [E0, List.getElem?_map]
 cases hj : l[j]? with
 | none => rfl
 | some G => simp only [Option.map_some, h j (gs hj).1, if_true]
theorem Jh {seen : Array Nat} {i j : Nat} : (seen.push i).contains j = (seen.contains j || i == j) := by
 rw [Bool.eq_iff_iff]
 simp only [Array.contains_eq_mem, Bool.or_eq_true, decide_eq_true_eq, Array.mem_push, beq_iff_eq]
 constructor <;> (rintro (h | h)) <;> first | exact .inl h | exact .inr h.symm
theorem Zt {β : Type} {g : β → β} {seen : Array Nat} {l : List (Int × β)} {j : Nat} {M : Int × β} (O : l[j]? = some M) (h : g M.2 = M.2) : Kd g (seen.push j) l = Kd g seen l := by
 refine List.ext_getElem? fun i => ?_
 rw [E0, E0, Jh]
 by_cases G : j = i
 ·subst G; rw [O]; cases hs : seen.contains j <;> simp [hs, h]
 ·have : (j == i) = false := by simpa using G
  rw [this, Bool.or_false]
theorem Uy {β : Type} : ∀ {l : List (Int × β)} {j : Nat} {k : Int} {x : β} (y : β), (l.map Prod.fst).Nodup → l[j]? = some (k, x) → Kg l k y = l.set j (k, y)
 | [], j, k, x, y, _, h => by simp at h
 | (k0, x0) :: l, 0, k, x, y, hn, h => by simp at h; obtain ⟨rfl, rfl⟩ := h; simp [Kg]
 | (k0, x0) :: l, j + 1, k, x, y, hn, h => by
  simp only [List.map_cons, List.nodup_cons] at hn
  have M : l[j]? = some (k, x) := by simpa using h
  have G : k0 ≠ k := fun O => hn.1 (by subst O; exact List.mem_map.2 ⟨_, mg M, rfl⟩)
  simp [Kg, G, Uy y hn.2 M]
theorem U8 {β : Type} : ∀ {l : List (Int × β)} {j : Nat} {k : Int} {x : β}, l[j]? = some (k, x) → (Cs l k).isSome = true
 | [], j, k, x, h => by simp at h
 | (k0, x0) :: l, j, k, x, h => by
  simp only [Cs]
  split
  ·rfl
  ·rename_i G
   cases j with
   | zero => simp at h; exact absurd h.1 G
   | succ j => exact U8 (l := l) (j := j) (by simpa using h)
theorem cJ {β : Type} (g : β → β) (seen : Array Nat) (l : List (Int × β)) : (Kd g seen l).map Prod.fst = l.map Prod.fst := by
 refine List.ext_getElem? fun j => ?_
 rw [List.getElem?_map, List.getElem?_map, E0]
 cases l[j]? with
 | none => rfl
 | some kx => simp only [Option.map_some]; split <;> rfl
theorem Uz {β : Type} {g : β → β} {seen : Array Nat} {l : List (Int × β)} {j : Nat} {M : Int × β} (Y : (l.map Prod.fst).Nodup) (W : l[j]? = some M) (Z : seen.contains j = false) :
  Gu (Kd g seen l) M.1 (g M.2) = Kd g (seen.push j) l := by
 have O : (Kd g seen l)[j]? = some (M.1, M.2) := by rw [E0, W]; simp only [Option.map_some, Z, Bool.false_eq_true, if_false]
 unfold Gu
 rw [if_pos (U8 O), Uy _ (by rw [cJ]; exact Y) O]
 refine List.ext_getElem? fun i => ?_
 rw [E0, Jh]
 by_cases G : j = i
 ·subst G
  have X : j < (Kd g seen l).length := (gs O).1
  rw [List.getElem?_set_self X, W]; simp
 ·rw [List.getElem?_set_ne G, E0]
  have : (j == i) = false := by simpa using G
  rw [this, Bool.or_false]
def Th (seen : Array Nat) (n : Nat) : Nat := ((List.range n).filter fun j => !seen.contains j).length
theorem Ha {seen : Array Nat} {n j : Nat} (M : j < n) (O : seen.contains j = false) : Th (seen.push j) n < Th seen n :=
 filter_lt (fun j => !seen.contains j) (fun i => !(seen.push j).contains i) (fun x G => by rw [Jh] at G; simp only [Bool.not_eq_true', Bool.or_eq_false_iff] at G ⊢; exact G.1) j (by rw [O]; rfl) (by rw [Jh]; simp) _ (by simpa using M)
end Go.Aw
