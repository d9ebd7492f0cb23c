/- Comparisons of structs, arrays and slices with nil; a copy of a slice; pieces of arrays. No condition. -/
import Derived.Test.YtncfbhnecmnfpaaGreatDoorBwLift
import Derived.Laws.StructEq
import Derived.Lib.LazyBuf
namespace Go.Aw
set_option linter.unusedVariables false
set_option linter.unusedSimpArgs false

def eqOk (P : Program) (t : TypeId) : Bool :=
  match P.underlying t with
  | some (.struct ff) => ff.toList.all (fun f => f.name != "_") && !(P.stoodInHeld t) && !(P.eqGuardType P.depth t)
  | _ => false
def eqOkA (P : Program) (t : TypeId) : Bool := !(P.eqGuardType P.depth t)

def eqS (k : K) : T → T → Option Bool
  | .v (.int k1 a), .v (.int k2 b) => match k with | .int _ => (bif decide (k1 = k2) then some (a == b) else none) | _ => none
  | .v (.bool a), .v (.bool b) => match k with | .bool => some (a == b) | _ => none
  | .v (.string a), .v (.string b) => match k with | .string => some (sEq a b) | _ => none
  | _, _ => none

def eqFs (tab : Nat → Option TI) (cs ds : List T) : List (Nat × Nat) → Option Bool
  | [] => some true
  | (off, t) :: l => match tab t, cs[off]?, ds[off]?, eqFs tab cs ds l with
    | some ti, some x, some y, some r => match eqS ti.kind x y with
      | some b => some (b && r)
      | none => none
    | _, _, _, _ => none

section
variable {E : Env} {n : Nat} {C : Ctx} {s : Slots} {ob : List Ob} {R : St → Prop} {dst : Option Tmp} {ty : TypeId} {pos : String} {aft : Array Edge} {g : Option (Nat × Bool)}

theorem und_bool {P : Program} {t : TypeId} {i : TI} (h : tiOf P t = some i) (hk : i.kind = .bool) : P.underlying t = some .bool := by
  obtain ⟨d, h1, h2⟩ := und_ti h
  rw [hk] at h2
  cases d <;> simp [K.of] at h2
  exact h1
theorem und_int {P : Program} {t : TypeId} {i : TI} {k : IntKind} (h : tiOf P t = some i) (hk : i.kind = .int k) : P.underlying t = some (.int k) := by
  obtain ⟨d, h1, h2⟩ := und_ti h
  rw [hk] at h2
  cases d <;> simp [K.of] at h2
  subst h2; exact h1

theorem eqS_run {t : TypeId} {ti : TI} (ht : E.tab t = some ti) {x y : T} {b : Bool} (h : eqS ti.kind x y = some b) {H : GH} {v u : Value} (hv : VR H v x) (hu : VR H u y) (d : Nat) (w : World) :
    ti.isAgg = false ∧ (Op.equalIn (d + 1) t v u).run E.P w = .ok b w := by
  unfold eqS at h
  split at h
  · rename_i k1 a k2 b'
    have := hv.v_eq; subst this
    have := hu.v_eq; subst this
    split at h
    · rename_i kk hk
      cases hd : decide (k1 = k2) with
      | false => rw [hd] at h; cases h
      | true =>
        rw [hd] at h
        have := of_decide_eq_true hd
        subst this
        cases h
        exact ⟨by simp [TI.isAgg, hk], run_equalIn_int w d t k1 kk a b' (und_int (E.ok _ _ ht) hk)⟩
    · cases h
  · have := hv.v_eq; subst this
    have := hu.v_eq; subst this
    split at h
    · rename_i hk
      cases h
      exact ⟨by simp [TI.isAgg, hk], run_equalIn_bool' w d t _ _ (und_bool (E.ok _ _ ht) hk)⟩
    · cases h
  · have := hv.v_eq; subst this
    have := hu.v_eq; subst this
    split at h
    · rename_i hk
      cases h
      exact ⟨by simp [TI.isAgg, hk], run_equalIn_string w d t _ _ (und_string (E.ok _ _ ht) hk)⟩
    · cases h
  · cases h

theorem part_run {t : TypeId} {ti : TI} (ht : E.tab t = some ti) (ha : ti.isAgg = false) {H : GH} {xs : Array Value} {cs : List T} (h : VR H (.agg xs) (.agg cs)) {off : Nat} {x : T} (hx : cs[off]? = some x) :
    ∃ v, VR H v x ∧ ∀ w, (part t xs off).run E.P w = .ok v w := by
  have hp : partT ti cs off = some x := by simp [partT, ha, hx]
  exact partT_spec h (E.ok _ _ ht) hp

theorem eqFs_run {H : GH} {xs ys : Array Value} {cs ds : List T} (hx : VR H (.agg xs) (.agg cs)) (hy : VR H (.agg ys) (.agg ds)) (d : Nat) (w : World) : ∀ (ff : List Field) (r : Bool), ff.all (fun f => f.name != "_") = true →
    eqFs E.tab cs ds (ff.map fun f => (f.offset, f.type)) = some r → (Op.eqFields (d + 1) xs ys ff).run E.P w = .ok r w
  | [], r, _, h => by simp only [List.map_nil, eqFs, Option.some.injEq] at h; subst h; simp [Op.eqFields]
  | f :: ff, r, hn, h => by
    simp only [List.all_cons, Bool.and_eq_true] at hn
    simp only [List.map_cons, eqFs] at h
    split at h
    · rename_i ti x y r' h1 h2 h3 h4
      split at h
      · rename_i b hb
        simp only [Option.some.injEq] at h
        subst h
        have hag : ti.isAgg = false := by
          unfold eqS at hb
          unfold TI.isAgg
          cases hk : ti.kind <;> rw [hk] at hb <;> first | rfl | (simp at hb; split at hb <;> simp at hb)
        obtain ⟨v, hv, hvr⟩ := part_run h1 hag hx h2
        obtain ⟨u, hu, hur⟩ := part_run h1 hag hy h3
        have he := (eqS_run h1 hb hv hu d w).2
        have ih := eqFs_run hx hy d w ff r' hn.2 h4
        have hne : f.name ≠ "_" := by simpa using hn.1
        simp only [Op.eqFields, if_pos hne, Sem.run_bind, hvr, hur, Result.andThen_ok, he]
        cases b with
        | true => simpa using ih
        | false => simp
      · cases h
    · cases h

theorem eqOk_spec {P : Program} {t : TypeId} (h : eqOk P t = true) : ∃ ff : Array Field, P.underlying t = some (.struct ff) ∧ P.fieldsOf t = ff ∧ ff.toList.all (fun f => f.name != "_") = true ∧ P.stoodInHeld t = false ∧ P.eqGuardType P.depth t = false := by
  unfold eqOk at h
  split at h
  · rename_i ff hu
    simp only [Bool.and_eq_true, Bool.not_eq_true'] at h
    exact ⟨ff, hu, by simp [Program.fieldsOf, hu], h.1.1, h.1.2, h.2⟩
  · cases h

theorem Yp.eqStruct {op : BinOp} {t t' : TypeId} {x y : Operand} {ti : TI} {fs : List (Nat × Nat)} {cs ds : List T} {r q : Bool} (ht : E.tab t = some ti) (hk : ti.kind = .struct fs) (he : eqOk E.P t = true)
    (hx : evalT s x = some (.agg cs)) (hy : evalT s y = some (.agg ds)) (hr : eqFs E.tab cs ds fs = some r) (hq : (match op with | .eql => some r | .neq => some (!r) | _ => none) = some q) :
    Yp E.P n s ⟨dst, .binOp op t x y t', ty, pos, aft, g⟩ (.v (.bool q)) := by
  intro H A sr
  obtain ⟨ff, h1, h2, h3, h4, h5⟩ := eqOk_spec he
  obtain ⟨ff', u1, u2⟩ := und_struct (E.ok _ _ ht) hk
  rw [h1] at u1
  cases u1
  have vx := sr.eval hx
  have vy := sr.eval hy
  generalize hvx : A.eval x = a at vx
  generalize hvy : A.eval y = b at vy
  refine ⟨_, .v _, fun w => ?_⟩
  cases vx with
  | agg xs _ hl1 hc1 hv1 =>
    cases vy with
    | agg ys _ hl2 hc2 hv2 =>
      have hf := eqFs_run (E := E) (.agg xs cs hl1 hc1 hv1) (.agg ys ds hl2 hc2 hv2) 9998 w ff.toList r h3 (by rw [u2]; exact hr)
      have hst : (Op.equalIn 10000 t (.agg xs) (.agg ys)).run E.P w = .ok r w := by
        rw [show (10000 : Nat) = 9999 + 1 from rfl, run_equalIn_struct w 9999 t xs ys (by rw [h2]; exact h1) h4, h2]; exact hf
      cases op <;> simp only [Option.some.injEq, reduceCtorEq] at hq <;> subst hq
      · simp only [execOp, hvx, hvy, Sem.run_bind, run_eqGuard_agg w _ t x y xs ys h5, Result.andThen_ok, run_eql_struct, hst, Sem.run_pure]
      · simp only [execOp, hvx, hvy, Sem.run_bind, run_eqGuard_agg w _ t x y xs ys h5, Result.andThen_ok, run_neq_struct, hst, Sem.run_pure]

/-! ### Structs with a struct in them -/

def eqF (tab : Nat → Option TI) (ok : Nat → Bool) (cs ds : List T) (off t : Nat) : Option Bool :=
  match tab t with
  | some ti => match ti.kind with
    | .struct fs => bif ok t && Nat.ble (off + ti.size) cs.length && Nat.ble (off + ti.size) ds.length then eqFs tab ((cs.drop off).take ti.size) ((ds.drop off).take ti.size) fs else none
    | k => match cs[off]?, ds[off]? with
      | some x, some y => eqS k x y
      | _, _ => none
  | none => none
def eqG (tab : Nat → Option TI) (ok : Nat → Bool) (cs ds : List T) : List (Nat × Nat) → Option Bool
  | [] => some true
  | (off, t) :: l => match eqF tab ok cs ds off t, eqG tab ok cs ds l with
    | some b, some r => some (b && r)
    | _, _ => none

theorem partT_agg {ti : TI} {cs : List T} {off : Nat} (ha : ti.isAgg = true) (h : off + ti.size ≤ cs.length) : partT ti cs off = some (.agg ((cs.drop off).take ti.size)) := by
  unfold partT
  rw [ha, cond_true]
  cases hb : (Nat.beq off 0 && Nat.beq ti.size cs.length) with
  | true =>
    rw [cond_true]
    rw [Bool.and_eq_true] at hb
    have e1 := Nat.eq_of_beq_eq_true hb.1
    have e2 := Nat.eq_of_beq_eq_true hb.2
    rw [e1, List.drop_zero, List.take_of_length_le (by omega)]
  | false => rw [cond_false, Nat.ble_eq_true_of_le h]; rfl

theorem eqF_run {ok : Nat → Bool} (hok : ∀ t, ok t = true → eqOk E.P t = true) {H : GH} {xs ys : Array Value} {cs ds : List T} (hx : VR H (.agg xs) (.agg cs)) (hy : VR H (.agg ys) (.agg ds)) (d : Nat) (w : World) {off t : Nat} {b : Bool}
    (h : eqF E.tab ok cs ds off t = some b) : ∃ u v, (∀ w, (part t xs off).run E.P w = .ok u w) ∧ (∀ w, (part t ys off).run E.P w = .ok v w) ∧ (Op.equalIn (d + 2) t u v).run E.P w = .ok b w := by
  unfold eqF at h
  split at h
  · rename_i ti ht
    split at h
    · rename_i fs hk
      cases hc : (ok t && Nat.ble (off + ti.size) cs.length && Nat.ble (off + ti.size) ds.length) with
      | false => rw [hc] at h; cases h
      | true =>
        rw [hc, cond_true] at h
        simp only [Bool.and_eq_true] at hc
        have ha : ti.isAgg = true := by simp [TI.isAgg, hk]
        obtain ⟨u, hu, hur⟩ := partT_spec hx (E.ok _ _ ht) (partT_agg ha (Nat.le_of_ble_eq_true hc.1.2))
        obtain ⟨v, hv, hvr⟩ := partT_spec hy (E.ok _ _ ht) (partT_agg ha (Nat.le_of_ble_eq_true hc.2))
        refine ⟨u, v, hur, hvr, ?_⟩
        obtain ⟨ff, h1, h2, h3, h4, h5⟩ := eqOk_spec (hok t hc.1.1)
        obtain ⟨ff', u1, u2⟩ := und_struct (E.ok _ _ ht) hk
        rw [h1] at u1
        cases u1
        cases hu with
        | agg xs' _ hl1 hc1 hv1 =>
          cases hv with
          | agg ys' _ hl2 hc2 hv2 =>
            have hf := eqFs_run (E := E) (.agg xs' _ hl1 hc1 hv1) (.agg ys' _ hl2 hc2 hv2) d w ff.toList b h3 (by rw [u2]; exact h)
            rw [show d + 2 = (d + 1) + 1 from rfl, run_equalIn_struct w (d + 1) t xs' ys' (by rw [h2]; exact h1) h4, h2]; exact hf
    · rename_i k hk
      split at h
      · rename_i x y h2 h3
        have hag : ti.isAgg = false := by
          unfold eqS at h
          unfold TI.isAgg
          cases hk : ti.kind <;> rw [hk] at h <;> first | rfl | (simp at h; split at h <;> simp at h)
        obtain ⟨v, hv, hvr⟩ := part_run ht hag hx h2
        obtain ⟨u, hu, hur⟩ := part_run ht hag hy h3
        exact ⟨v, u, hvr, hur, (eqS_run ht h hv hu (d + 1) w).2⟩
      · cases h
  · cases h

theorem eqG_run {ok : Nat → Bool} (hok : ∀ t, ok t = true → eqOk E.P t = true) {H : GH} {xs ys : Array Value} {cs ds : List T} (hx : VR H (.agg xs) (.agg cs)) (hy : VR H (.agg ys) (.agg ds)) (d : Nat) (w : World) : ∀ (ff : List Field) (r : Bool), ff.all (fun f => f.name != "_") = true →
    eqG E.tab ok cs ds (ff.map fun f => (f.offset, f.type)) = some r → (Op.eqFields (d + 2) xs ys ff).run E.P w = .ok r w
  | [], r, _, h => by simp only [List.map_nil, eqG, Option.some.injEq] at h; subst h; simp [Op.eqFields]
  | f :: ff, r, hn, h => by
    simp only [List.all_cons, Bool.and_eq_true] at hn
    simp only [List.map_cons, eqG] at h
    split at h
    · rename_i b r' h1 h4
      simp only [Option.some.injEq] at h
      subst h
      obtain ⟨u, v, hu, hv, he⟩ := eqF_run hok hx hy d w h1
      have ih := eqG_run hok hx hy d w ff r' hn.2 h4
      have hne : f.name ≠ "_" := by simpa using hn.1
      simp only [Op.eqFields, if_pos hne, Sem.run_bind, hu, hv, Result.andThen_ok, he]
      cases b with
      | true => simpa using ih
      | false => simp
    · cases h

theorem Yp.eqStruct2 {op : BinOp} {t t' : TypeId} {x y : Operand} {ti : TI} {fs : List (Nat × Nat)} {cs ds : List T} {r q : Bool} (ok : Nat → Bool) (hok : ∀ t, ok t = true → eqOk E.P t = true) (ht : E.tab t = some ti) (hk : ti.kind = .struct fs) (he : eqOk E.P t = true)
    (hx : evalT s x = some (.agg cs)) (hy : evalT s y = some (.agg ds)) (hr : eqG E.tab ok cs ds fs = some r) (hq : (match op with | .eql => some r | .neq => some (!r) | _ => none) = some q) :
    Yp E.P n s ⟨dst, .binOp op t x y t', ty, pos, aft, g⟩ (.v (.bool q)) := by
  intro H A sr
  obtain ⟨ff, h1, h2, h3, h4, h5⟩ := eqOk_spec he
  obtain ⟨ff', u1, u2⟩ := und_struct (E.ok _ _ ht) hk
  rw [h1] at u1
  cases u1
  have vx := sr.eval hx
  have vy := sr.eval hy
  generalize hvx : A.eval x = a at vx
  generalize hvy : A.eval y = b at vy
  refine ⟨_, .v _, fun w => ?_⟩
  cases vx with
  | agg xs _ hl1 hc1 hv1 =>
    cases vy with
    | agg ys _ hl2 hc2 hv2 =>
      have hf := eqG_run (E := E) hok (.agg xs cs hl1 hc1 hv1) (.agg ys ds hl2 hc2 hv2) 9997 w ff.toList r h3 (by rw [u2]; exact hr)
      have hst : (Op.equalIn 10000 t (.agg xs) (.agg ys)).run E.P w = .ok r w := by
        rw [show (10000 : Nat) = 9999 + 1 from rfl, run_equalIn_struct w 9999 t xs ys (by rw [h2]; exact h1) h4, h2]; exact hf
      cases op <;> simp only [Option.some.injEq, reduceCtorEq] at hq <;> subst hq
      · simp only [execOp, hvx, hvy, Sem.run_bind, run_eqGuard_agg w _ t x y xs ys h5, Result.andThen_ok, run_eql_struct, hst, Sem.run_pure]
      · simp only [execOp, hvx, hvy, Sem.run_bind, run_eqGuard_agg w _ t x y xs ys h5, Result.andThen_ok, run_neq_struct, hst, Sem.run_pure]

/-! ### Arrays of numbers -/

theorem eqArr_loop {H : GH} {xs ys : Array Value} {a b : List Int} (hx : VR H (.agg xs) (.agg (a.map cI))) (hy : VR H (.agg ys) (.agg (b.map cI))) {el : Nat} {ei : TI} (he : E.tab el = some ei) (hke : ei.kind = .int .i64) (w : World) (d : Nat) (hl : a.length = b.length) :
    ∀ (m k : Nat), k + m = a.length →
    (forIn (List.range' k m) ((none, ()) : Option Bool × Unit) (fun i _ => do
      let p ← part el xs (i * 1)
      let q ← part el ys (i * 1)
      let r ← Op.equalIn (d + 1) el p q
      if !r then pure (ForInStep.done (some false, ())) else pure (ForInStep.yield (none, ()))) : Sem (Option Bool × Unit)).run E.P w =
      .ok (if a.drop k = b.drop k then none else some false, ()) w
  | 0, k, hk => by
    have h1 : a.drop k = [] := List.drop_eq_nil_of_le (by omega)
    have h2 : b.drop k = [] := List.drop_eq_nil_of_le (by omega)
    simp [h1, h2]
  | m + 1, k, hk => by
    have hag : ei.isAgg = false := by simp [TI.isAgg, hke]
    have ha : a[k]? = some a[k] := List.getElem?_eq_getElem (by omega)
    have hb : b[k]? = some b[k] := List.getElem?_eq_getElem (by omega)
    obtain ⟨v, hv, hvr⟩ := part_run (E := E) he hag hx (off := k) (x := cI a[k]) (by simp [ha])
    obtain ⟨u, hu, hur⟩ := part_run (E := E) he hag hy (off := k) (x := cI b[k]) (by simp [hb])
    have := hv.v_eq; subst this
    have := hu.v_eq; subst this
    have heq := run_equalIn_int (P := E.P) w d el .i64 .i64 a[k] b[k] (und_int (E.ok _ _ he) hke)
    have ih := eqArr_loop hx hy he hke w d hl m (k + 1) (by omega)
    rw [List.range'_succ, List.forIn_cons]
    simp only [Sem.run_bind, Nat.mul_one, hvr, hur, Result.andThen_ok, heq]
    have hda : a.drop k = a[k] :: a.drop (k + 1) := List.drop_eq_getElem_cons (by omega)
    have hdb : b.drop k = b[k] :: b.drop (k + 1) := List.drop_eq_getElem_cons (by omega)
    rw [hda, hdb]
    by_cases h : a[k] = b[k]
    · have hbq : (a[k] == b[k]) = true := by simp [h]
      simp only [hbq, Bool.not_true, Bool.false_eq_true, if_false, Sem.run_pure, Result.andThen_ok]
      simp only [Nat.mul_one] at ih
      have hiff : (a[k] :: a.drop (k + 1) = b[k] :: b.drop (k + 1)) ↔ (a.drop (k + 1) = b.drop (k + 1)) := by rw [List.cons.injEq]; exact ⟨fun h => h.2, fun h' => ⟨h, h'⟩⟩
      rw [ih]
      simp only [hiff]
    · have hbq : (a[k] == b[k]) = false := by simp [h]
      simp only [hbq, Bool.not_false, if_true, Sem.run_pure, Result.andThen_ok]
      have hne : ¬ (a[k] :: a.drop (k + 1) = b[k] :: b.drop (k + 1)) := fun he => h (List.cons.inj he).1
      simp only [hne, if_false]

theorem Yp.eqArr {op : BinOp} {t t' : TypeId} {x y : Operand} {ti ei : TI} {len el : Nat} {a b : Arr Int len} {q : Bool} (ht : E.tab t = some ti) (hk : ti.kind = .array len el) (he : E.tab el = some ei) (hke : ei.kind = .int .i64) (hsz : ei.size = 1) (hg : eqOkA E.P t = true)
    (hx : evalT s x = some (.agg (a.l.map cI))) (hy : evalT s y = some (.agg (b.l.map cI))) (hq : (match op with | .eql => some (decide (a = b)) | .neq => some (!decide (a = b)) | _ => none) = some q) :
    Yp E.P n s ⟨dst, .binOp op t x y t', ty, pos, aft, g⟩ (.v (.bool q)) := by
  intro H A sr
  have hg' : E.P.eqGuardType E.P.depth t = false := by simpa [eqOkA] using hg
  have vx := sr.eval hx
  have vy := sr.eval hy
  generalize hvx : A.eval x = u at vx
  generalize hvy : A.eval y = v at vy
  refine ⟨_, .v _, fun w => ?_⟩
  have hab : decide (a.l = b.l) = decide (a = b) := decide_eq_decide.2 ⟨Arr.ext', fun h => by rw [h]⟩
  cases vx with
  | agg xs _ hl1 hc1 hv1 =>
    cases vy with
    | agg ys _ hl2 hc2 hv2 =>
      have hloop := eqArr_loop (E := E) (.agg xs _ hl1 hc1 hv1) (.agg ys _ hl2 hc2 hv2) he hke w 9998 (by rw [a.h, b.h]) len 0 (by rw [a.h]; omega)
      have hst : (Op.equalIn 10000 t (.agg xs) (.agg ys)).run E.P w = .ok (decide (a = b)) w := by
        obtain ⟨D, hD⟩ : ∃ D, D = 9999 := ⟨_, rfl⟩
        rw [show (10000 : Nat) = D + 1 by omega]
        rw [show (9998 : Nat) + 1 = D by omega] at hloop
        clear hD
        simp only [Op.equalIn, Sem.run_bind, run_underlying (und_array (E.ok _ _ ht) hk), Result.andThen_ok, run_sizeOf_ti (E.ok _ _ he), hsz]
        rw [Std.Legacy.Range.forIn_eq_forIn_range']
        simp only [Std.Legacy.Range.size, Nat.sub_zero, Nat.add_sub_cancel, Nat.div_one]
        simp only [List.drop_zero] at hloop
        refine (congrArg (fun r => Result.andThen r _) hloop).trans ?_
        rw [← hab]
        by_cases h : a.l = b.l <;> simp [h]
      cases op <;> simp only [Option.some.injEq, reduceCtorEq] at hq <;> subst hq
      · simp only [execOp, hvx, hvy, Sem.run_bind, run_eqGuard_agg w _ t x y xs ys hg', Result.andThen_ok, run_eql_struct, hst, Sem.run_pure]
      · simp only [execOp, hvx, hvy, Sem.run_bind, run_eqGuard_agg w _ t x y xs ys hg', Result.andThen_ok, run_neq_struct, hst, Sem.run_pure]

/-! ### A slice against nil -/

theorem AX.eqNil {t t' : TypeId} {x : Operand} {ti : TI} {e sz : Nat} {es : List (List T)} (ht : E.tab t = some ti) (hk : ti.kind = .slice e) (hx : evalT s x = some (.list sz es)) (hd : ∀ d, dst = some d → d < n)
    (k : ∀ b : Bool, (b = true → es = []) → R ⟨putS s dst (.v (.bool b)), ob⟩) : AX E n C [] ⟨dst, .binOp .eql t x (.const (.slice none 0 0)) t', ty, pos, aft, g⟩ ⟨s, ob⟩ R := by
  refine AX.value fun H a w gm => ?_
  have h := gm.sr.eval hx
  generalize hv : a.eval x = v at h
  have hr : ∃ ad l c, v = .slice ad l c ∧ (ad.isNone = true → es = []) := by
    cases h with
    | empty a cap sz => exact ⟨a, 0, cap, rfl, fun _ => rfl⟩
    | list b off cap sz es cs ty fr hb hcap hmax hsz hel h1 hvs => exact ⟨_, _, _, rfl, fun h => by simp at h⟩
  obtain ⟨ad, l, c, rfl, hn⟩ := hr
  refine ⟨.bool ad.isNone, w, _, H, ?_, k ad.isNone hn, ?_, fun _ _ h => h, fun i p hp _ => ⟨hp, fun _ _ => rfl⟩⟩
  · have := run_eql_slice_nil (P := E.P) w t e ad l c (und_slice (E.ok _ _ ht) hk)
    have hc : a.eval (.const (.slice none 0 0)) = .slice none 0 0 := rfl
    simp only [execOp, hv, hc, Sem.run_bind, eqGuard, Sem.run_pure, Result.andThen_ok, this]
    simp [this]
  · have := gm.put (dst := dst) (.v (.bool ad.isNone)) hd
    cases dst <;> exact this

/-! ### Pieces of rows -/

/-! ### What a slice of the call's own looks like -/

theorem AW.form {α : Type} {f : α → List T} {c : Code} {Q : Exit → St → Prop} (q m : Nat) {v : Value} {tt sz : Nat} {l : List α} {x : α} (hq : ob[q]? = some (.us v tt sz (l.map f))) (hm : l[m]? = some x)
    (k : (∃ c, v = .slice (some ⟨blk v, 0, none⟩) l.length c) → AW E n C c ⟨s, ob⟩ Q) : AW E n C c ⟨s, ob⟩ Q := by
  intro H a w gm
  have hor : UsR H w v tt sz (l.map f) := gm.objs _ (List.mem_of_getElem? hq)
  obtain ⟨c, cap, hv, _⟩ := hor.arr (map_get (f := f) hm)
  rw [List.length_map] at hv
  exact k ⟨c, hv⟩ H a w gm
theorem AW.formL {α : Type} {f : α → List T} {c : Code} {Q : Exit → St → Prop} (q : Nat) {v : Value} {tt sz : Nat} {l : List α} (hq : ob[q]? = some (.us v tt sz (l.map f)))
    (k : (∃ a c, v = .slice a l.length c) → AW E n C c ⟨s, ob⟩ Q) : AW E n C c ⟨s, ob⟩ Q := by
  intro H a w gm
  have hor : UsR H w v tt sz (l.map f) := gm.objs _ (List.mem_of_getElem? hq)
  refine k ?_ H a w gm
  rcases hor with ⟨rfl, he⟩ | ⟨b, c, cap, rfl, _⟩
  · have : l = [] := by simpa using he
    subst this; exact ⟨none, 0, rfl⟩
  · exact ⟨some ⟨b, 0, none⟩, c, by rw [List.length_map]⟩
theorem Yp.indexUf {α : Type} {t : TypeId} {x y : Operand} {kk : IntKind} {i : Int} {m : Nat} {v : Value} {sz : Nat} {l : List α} {e : α} {ti fi : TI} {el : Nat}
    (ht : E.tab t = some ti) (hk : ti.kind = .slice el) (hel : E.tab el = some fi) (hsz : fi.size = sz)
    (hx : evalT s x = some (.v v)) (hv : ∃ c, v = .slice (some ⟨blk v, 0, none⟩) l.length c) (hy : evalT s y = some (.v (.int kk i))) (hi : i = (m : Int)) (hm : l[m]? = some e) :
    Yp E.P n s ⟨dst, .indexAddr t x y, ty, pos, aft, g⟩ (.v (.pointer (some ⟨blk v, m * sz, none⟩))) := by
  obtain ⟨c, hv⟩ := hv
  have hx' : evalT s x = some (.v (.slice (some ⟨blk v, 0, none⟩) l.length c)) := by rw [← hv]; exact hx
  have := Yp.indexS (E := E) (n := n) (dst := dst) (ty := ty) (pos := pos) (aft := aft) (g := g) ht hk hel hx' hy hi (List.getElem?_eq_some_iff.1 hm).1
  rwa [hsz, Nat.zero_add] at this
theorem Yp.lenUf {α : Type} {x : Operand} {t : TypeId} {v : Value} {l : List α} {ti : TI} {e : Nat} (ht : E.tab t = some ti) (hk : ti.kind = .slice e) (hx : evalT s x = some (.v v))
    (hv : ∃ a c, v = .slice a l.length c) : Yp E.P n s ⟨dst, .call { callee := .builtin .len, args := #[x], argTypes := #[t] }, ty, pos, aft, g⟩ (.v (.int .i64 (l.length : Int))) := by
  obtain ⟨a, c, rfl⟩ := hv
  exact Yp.lenSlice ht hk hx

/-! ### A string of bytes -/

def bytes? (l : List Int) : Option ByteArray := if (l.all fun x => decide (0 ≤ x ∧ x < 256)) = true then some ⟨(l.map fun x => UInt8.ofNat x.toNat).toArray⟩ else none
theorem bytes_rows {l : List Int} (h : (l.all fun x => decide (0 ≤ x ∧ x < 256)) = true) : byteRows (l.map fun x => UInt8.ofNat x.toNat) = l.map (rK .u8) := by
  unfold byteRows
  rw [List.map_map]
  refine List.map_congr_left fun x hx => ?_
  have := List.all_eq_true.1 h x hx
  have := of_decide_eq_true this
  simp only [Function.comp_apply, rK]
  have h2 : ((UInt8.ofNat x.toNat).toNat : Int) = x := by
    rw [UInt8.toNat_ofNat']
    omega
  rw [h2]
theorem AX.bytesX (q : Nat) {t t' : TypeId} {x : Operand} {ti ti' ei : TI} {e tt : Nat} {l : List Int} {v : Value} {r : ByteArray} (hr : bytes? l = some r) (ht : E.tab t = some ti) (hk : ti.kind = .slice e) (he : E.tab e = some ei) (hke : ei.kind = .int .u8) (ht' : E.tab t' = some ti') (hk' : ti'.kind = .string)
    (hx : evalT s x = some (.v v)) (hq : ob[q]? = some (.us v tt 1 (l.map (rK .u8)))) (hd : ∀ d, dst = some d → d < n) (k : R ⟨putS s dst (.v (.string r)), ob⟩) : AX E n C [] ⟨dst, .convert t t' x, ty, pos, aft, g⟩ ⟨s, ob⟩ R := by
  unfold bytes? at hr
  split at hr
  · rename_i hall
    cases hr
    exact AX.bytesStr ht hk he hke ht' hk' (by rw [bytes_rows hall]; exact AppSrc.own q hx hq) hd k
  · cases hr

theorem UsR.one {H : GH} {w : World} {v : Value} {tt sz : Nat} {es : List (List T)} (h : UsR H w v tt sz es) : v.oneCell' = true := by
  rcases h with ⟨rfl, _⟩ | ⟨_, _, _, rfl, _⟩ <;> rfl
theorem AO.one {ops : Array Oper} {l : List Oper} (q : Nat) {v : Value} {tt sz : Nat} {es : List (List T)} (hq : ob[q]? = some (.us v tt sz es)) (k : v.oneCell' = true → AO E n C ops l ⟨s, ob⟩ R) : AO E n C ops l ⟨s, ob⟩ R :=
  fun H a w gm => k (UsR.one (show UsR H w v tt sz es from gm.objs _ (List.mem_of_getElem? hq))) H a w gm
theorem AP.one {ops : Array Oper} {pl : PL} {so : Slots} {prot : List Nat} {pobjs : List Ob} (q : Nat) {v : Value} {tt sz : Nat} {es : List (List T)} (hq : ob[q]? = some (.us v tt sz es)) (k : v.oneCell' = true → AP E n C ops prot pobjs pl so ⟨s, ob⟩ R) : AP E n C ops prot pobjs pl so ⟨s, ob⟩ R :=
  fun Hs ws H a w sr wr ag hH hpp gm => k (UsR.one (show UsR H w v tt sz es from gm.objs _ (List.mem_of_getElem? hq))) Hs ws H a w sr wr ag hH hpp gm
theorem AO.oneW {ops : Array Oper} {l : List Oper} (q : Nat) {v : Value} {tt tyi szi : Nat} {vs : List Value} {L : List (Option (List (List T)))} (hq : ob[q]? = some (.uss v tt tyi szi vs L)) (k : v.oneCell' = true → AO E n C ops l ⟨s, ob⟩ R) : AO E n C ops l ⟨s, ob⟩ R :=
  fun H a w gm => k (UsR.one (show OR H w (.uss v tt tyi szi vs L) from gm.objs _ (List.mem_of_getElem? hq)).2.1) H a w gm
theorem AP.oneW {ops : Array Oper} {pl : PL} {so : Slots} {prot : List Nat} {pobjs : List Ob} (q : Nat) {v : Value} {tt tyi szi : Nat} {vs : List Value} {L : List (Option (List (List T)))} (hq : ob[q]? = some (.uss v tt tyi szi vs L)) (k : v.oneCell' = true → AP E n C ops prot pobjs pl so ⟨s, ob⟩ R) : AP E n C ops prot pobjs pl so ⟨s, ob⟩ R :=
  fun Hs ws H a w sr wr ag hH hpp gm => k (UsR.one (show OR H w (.uss v tt tyi szi vs L) from gm.objs _ (List.mem_of_getElem? hq)).2.1) Hs ws H a w sr wr ag hH hpp gm
theorem cells_v {v : Value} (h : v.oneCell' = true) : cellsT (.v v) = some [.v v] := by simp [cellsT, h]
theorem fill_nil {place : Nat → Option (Nat × Nat)} {l : List T} : fillT s place l [] = some l := rfl
theorem fill_step {place : Nat → Option (Nat × Nat)} {l l' : List T} {i off size : Nat} {x : Operand} {r : List (Nat × Operand)} {c : T} {cs : List T} (hp : place i = some (off, size)) (hx : evalT s x = some c) (hc : cellsT c = some cs)
    (hb : (Nat.beq cs.length size && Nat.ble (off + cs.length) l.length) = true) (hr : fillT s place (setC l off cs) r = some l') : fillT s place l ((i, x) :: r) = some l' := by
  simp only [fillT, hp, hx, Option.bind_some, hc, hb, cond_true]; exact hr

theorem setC_all : ∀ {l cs : List T}, l.length = cs.length → setC l 0 cs = cs
  | [], [], _ => rfl
  | [], _ :: _, h => by simp at h
  | _ :: _, [], h => by simp at h
  | x :: l, c :: cs, h => by simp only [setC]; rw [setC_all (by simpa using h)]
theorem map_setC {α : Type} {f : α → T} {l : List α} {i : Nat} {y : α} (hi : i < l.length) : setC (l.map f) i [f y] = (l.set i y).map f := by
  have := seg_set_here (f := f) (post := []) (y := y) hi
  simpa using this
theorem get_lt {α : Type} {l : List α} {i : Nat} {x : α} (h : l[i]? = some x) : i < l.length := (List.getElem?_eq_some_iff.1 h).1
theorem arr_lt {α : Type} {k : Nat} {a : Arr α k} {i : Nat} {x : α} (h : a.l[i]? = some x) : i < k := by have := get_lt h; rwa [a.h] at this
theorem seg_len {i k : Nat} {off : Nat} {e : List T} (hi : i < k) (he : off + k ≤ e.length) : off + i + 1 ≤ e.length := by omega
theorem part_all {fi : TI} {cs : List T} (ha : fi.isAgg = true) (h : fi.size = cs.length) : partT fi cs 0 = some (.agg cs) := by simp [partT, ha, h]
theorem part_here {fi : TI} {l post : List T} (ha : fi.isAgg = true) (h : l.length = fi.size) : partT fi (l ++ post) 0 = some (.agg l) := by
  unfold partT
  rw [ha, cond_true]
  cases hb : (Nat.beq 0 0 && Nat.beq fi.size (l ++ post).length) with
  | true =>
    simp only [Bool.and_eq_true] at hb
    have := Nat.eq_of_beq_eq_true hb.2
    rw [List.length_append] at this
    have : post = [] := List.length_eq_zero_iff.1 (by omega)
    subst this
    simp
  | false =>
    rw [cond_false]
    have : Nat.ble (0 + fi.size) (l ++ post).length = true := by
      rw [Nat.zero_add]; exact Nat.ble_eq_true_of_le (by simp; omega)
    rw [this, cond_true, List.drop_zero, ← h, List.take_left]
theorem part_skip {fi : TI} {pre post : List T} {k i j : Nat} {l : List T} (ha : fi.isAgg = true) (hj : j = k + i) (hk : pre.length = k) (h : partT fi post i = some (.agg l)) (hpos : 0 < k := by decide) : partT fi (pre ++ post) j = some (.agg l) := by
  subst hj hk
  unfold partT at h ⊢
  rw [ha, cond_true] at h ⊢
  have h1 : Nat.beq (pre.length + i) 0 = false := by
    cases hb : Nat.beq (pre.length + i) 0 with
    | false => rfl
    | true => have := Nat.eq_of_beq_eq_true hb; omega
  rw [h1, Bool.false_and, cond_false]
  cases hb : (Nat.beq i 0 && Nat.beq fi.size post.length) with
  | true =>
    rw [hb, cond_true] at h
    simp only [Bool.and_eq_true] at hb
    have h2 := Nat.eq_of_beq_eq_true hb.1
    have h3 := Nat.eq_of_beq_eq_true hb.2
    cases h
    have : Nat.ble (pre.length + i + fi.size) (pre ++ post).length = true := Nat.ble_eq_true_of_le (by simp; omega)
    rw [this, cond_true, h2, Nat.add_zero, List.drop_left, h3, List.take_length]
  | false =>
    rw [hb, cond_false] at h
    cases hc : Nat.ble (i + fi.size) post.length with
    | false => rw [hc] at h; cases h
    | true =>
      rw [hc, cond_true] at h
      cases h
      have := Nat.le_of_ble_eq_true hc
      have : Nat.ble (pre.length + i + fi.size) (pre ++ post).length = true := Nat.ble_eq_true_of_le (by simp; omega)
      rw [this, cond_true]
      rw [List.drop_append, show (pre.drop (pre.length + i)) = [] from List.drop_eq_nil_of_le (by omega), List.nil_append, Nat.add_sub_cancel_left]
theorem Yp.indexAgM {α : Type} {ff : α → T} {t : TypeId} {x y : Operand} {k : IntKind} {i : Int} {m len el : Nat} {l : List α} {z : α} {ti fi : TI} (ht : E.tab t = some ti) (hk : ti.kind = .array len el) (hel : E.tab el = some fi) (h1 : fi.size = 1) (hag : fi.isAgg = false)
    (hx : evalT s x = some (.agg (l.map ff))) (hy : evalT s y = some (.v (.int k i))) (hi : i = (m : Int)) (hm : l[m]? = some z) (hlen : l.length = len := by first | rfl | exact Arr.h _) :
    Yp E.P n s ⟨dst, .index t x y, ty, pos, aft, g⟩ (ff z) :=
  Yp.indexAg ht hk hel hx hy hi (by have := get_lt hm; omega) (by rw [h1, Nat.mul_one]; simp [partT, hag, hm])

def sub3? {α : Type} (l : List α) (a b c : Int) : Option (List α) := if 0 ≤ a ∧ a ≤ b ∧ b ≤ c ∧ c ≤ (l.length : Int) then some ((l.drop a.toNat).take (b.toNat - a.toNat)) else none
theorem sub3_some {α : Type} {l r : List α} {a b c : Int} (h : sub3? l a b c = some r) : ∃ x y z : Nat, a = (x : Int) ∧ b = (y : Int) ∧ c = (z : Int) ∧ x ≤ y ∧ y ≤ z ∧ z ≤ l.length ∧ (l.drop x).take (y - x) = r := by
  unfold sub3? at h
  split at h
  · exact ⟨a.toNat, b.toNat, c.toNat, by omega, by omega, by omega, by omega, by omega, by omega, by cases h; rfl⟩
  · cases h
theorem Yp.subL3 {α : Type} {f : α → List T} {x : Operand} {t : TypeId} {lo hi : Option Operand} {mx : Operand} {sz : Nat} {l r : List α} {ti ei : TI} {e : Nat} (a b m : Nat)
    (ht : E.tab t = some ti) (hk : ti.kind = .slice e) (he : E.tab e = some ei) (hsz : ei.size = sz) (hx : evalT s x = some (.list sz (l.map f)))
    (h1 : bnd s lo 0 a) (h2 : bnd s hi l.length b) (h3 : ∃ k i, evalT s mx = some (.v (.int k i)) ∧ i = (m : Int)) (hn : hi = none → False) (hlh : a ≤ b) (hbm : b ≤ m) (hm : m ≤ l.length) (hr : (l.drop a).take (b - a) = r) :
    Yp E.P n s ⟨dst, .slice t x lo hi (some mx), ty, pos, aft, g⟩ (.list sz (r.map f)) := by
  have := Yp.sliceL (E := E) (n := n) (dst := dst) (ty := ty) (pos := pos) (aft := aft) (g := g) (mx := some mx) a b m ht hk he hsz hx h1 (by rw [List.length_map]; exact h2)
    (fun cap hcap => ⟨m, h3, hbm, by rw [List.length_map] at hcap; omega⟩) (fun h => (hn h).elim) hlh (by rw [List.length_map]; omega)
  rwa [sub_map hr] at this
theorem bnd0 {x : Nat} (h : (0 : Int) = (x : Int)) : bnd s none 0 x := by show x = 0; omega
theorem bndL {l y : Nat} (h : (l : Int) = (y : Int)) : bnd s none l y := by show y = l; omega

end
end Go.Aw
