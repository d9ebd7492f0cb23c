/- The rules in the form in which proofs use them. No condition. -/
import Derived.Test.YtnmiidccebhiaaaAwCall
namespace Go.Aw

theorem w64 {x : Int} (h : -9223372036854775808 ≤ x ∧ x ≤ 9223372036854775807) : IntKind.i64.wrap x = x := by
  rw [IntKind.wrap_i64]; omega

theorem w8 {x : Int} (h : 0 ≤ x ∧ x ≤ 255) : IntKind.u8.wrap x = x := by
  have : (2 : Int) ^ IntKind.u8.bits = 256 := by decide
  unfold IntKind.wrap
  simp only [this, IntKind.signed]
  simp
  omega

section
variable {E : Env} {n : Nat} {C : Ctx} {s : Slots} {ob : List (Nat × Ob)} {Q : Exit → St → Prop} {ops : Array Oper} {R : St → Prop}

theorem AO.d {d : Nat} {op : Op} {ty : TypeId} {pos : String} {aft : Array Edge} {l : List Oper} {x : T} (hy : Yd E.P n s ob ⟨some d, op, ty, pos, aft, none⟩ x) (hd : Nat.blt d n = true)
    (k : AO E n C ops l ⟨(d, x) :: s, ob⟩ R) : AO E n C ops (⟨some d, op, ty, pos, aft, none⟩ :: l) ⟨s, ob⟩ R :=
  AO.still hy rfl (dst_some hd) k

theorem AO.p {d : Nat} {op : Op} {ty : TypeId} {pos : String} {aft : Array Edge} {l : List Oper} {x : T} (hy : Yp E.P n s ⟨some d, op, ty, pos, aft, none⟩ x) (hd : Nat.blt d n = true)
    (k : AO E n C ops l ⟨(d, x) :: s, ob⟩ R) : AO E n C ops (⟨some d, op, ty, pos, aft, none⟩ :: l) ⟨s, ob⟩ R :=
  AO.still hy.yd rfl (dst_some hd) k

theorem get_put_same {t : Nat} {x : T} (h : get s t = some x) : ∀ i y, get ((t, x) :: s) i = some y → get s i = some y := by
  intro i y hy
  simp only [get] at hy
  cases hb : Nat.beq t i with
  | true =>
    have := Nat.eq_of_beq_eq_true hb
    subst this
    simp only [hb, cond_true, Option.some.injEq] at hy
    subst hy; exact h
  | false => simpa only [hb, cond_false] using hy

theorem Gam.same {C : Ctx} {H : GH} {a : Act} {w : World} (gm : Gam n C ⟨s, ob⟩ H a w) {t : Nat} {x : T} (h : get s t = some x) : Gam n C ⟨(t, x) :: s, ob⟩ H a w :=
  { gm with slots := fun i y hy => gm.slots i y (get_put_same h i y hy) }

/-- A guarded operation: both ways. -/
theorem AO.g {d : Option Nat} {op : Op} {ty : TypeId} {pos : String} {aft : Array Edge} {l : List Oper} {j : Nat} {want b : Bool} {t : Tmp}
    (hj : (ops[j]?).bind (·.dst) = some t) (hs : get s t = some (.v (.bool b))) (hd : ∀ d', d = some d' → d' < n)
    (h1 : b = want → AO E n C ops (⟨d, op, ty, pos, aft, none⟩ :: l) ⟨(t, .v (.bool want)) :: s, ob⟩ R)
    (h2 : b = !want → AO E n C ops l ⟨putS ((t, .v (.bool (!want))) :: s) d (.v undef), ob⟩ R) : AO E n C ops (⟨d, op, ty, pos, aft, some (j, want)⟩ :: l) ⟨s, ob⟩ R := by
  refine AO.guard hj hs hd (fun hb H a w gm => ?_) (fun hb H a w gm => ?_)
  · subst hb; exact h1 rfl H a w (gm.same hs)
  · subst hb
    refine h2 rfl H a w ?_
    cases d with
    | none => exact gm.same hs
    | some d =>
      refine { gm with slots := fun i y hy => ?_ }
      simp only [putS, get] at hy
      have hg : get ((d, T.v undef) :: s) i = some y := by
        simp only [get]
        cases hb : Nat.beq d i with
        | true => simpa only [hb, cond_true] using hy
        | false =>
          simp only [hb, cond_false] at hy ⊢
          exact get_put_same hs i y (by simpa only [get] using hy)
      exact gm.slots i y hg

/-- A known bool, put down as such. -/
theorem AO.known {l : List Oper} {b c : Bool} (t : Nat) (hs : get s t = some (.v (.bool b))) (hb : b = c) (k : AO E n C ops l ⟨(t, .v (.bool c)) :: s, ob⟩ R) : AO E n C ops l ⟨s, ob⟩ R :=
  fun H a w gm => by subst hb; exact k H a w (gm.same hs)

theorem AP.o {prot : List Nat} {pobjs : List (Nat × Ob)} {so : Slots} {i : Nat} {r : PL} {d : Nat} {op : Op} {ty : TypeId} {pos : String} {aft : Array Edge} {x : T} (ho : ops[i]? = some ⟨some d, op, ty, pos, aft, none⟩)
    (hy : Yd E.P n so pobjs ⟨some d, op, ty, pos, aft, none⟩ x) (hd : Nat.blt d n = true) (k : AP E n C ops prot pobjs r ((d, x) :: so) ⟨(d, x) :: s, ob⟩ R) :
    AP E n C ops prot pobjs (.still i r) so ⟨s, ob⟩ R :=
  AP.old ho hy rfl (dst_some hd) k

theorem AP.op {prot : List Nat} {pobjs : List (Nat × Ob)} {so : Slots} {i : Nat} {r : PL} {d : Nat} {op : Op} {ty : TypeId} {pos : String} {aft : Array Edge} {x : T} (ho : ops[i]? = some ⟨some d, op, ty, pos, aft, none⟩)
    (hy : Yp E.P n so ⟨some d, op, ty, pos, aft, none⟩ x) (hd : Nat.blt d n = true) (k : AP E n C ops prot pobjs r ((d, x) :: so) ⟨(d, x) :: s, ob⟩ R) :
    AP E n C ops prot pobjs (.still i r) so ⟨s, ob⟩ R :=
  AP.old ho hy.yd rfl (dst_some hd) k

theorem AP.p {prot : List Nat} {pobjs : List (Nat × Ob)} {so : Slots} {i : Nat} {r : PL} {d : Nat} {op : Op} {ty : TypeId} {pos : String} {aft : Array Edge} {x : T} (ho : ops[i]? = some ⟨some d, op, ty, pos, aft, none⟩)
    (hy : Yp E.P n s ⟨some d, op, ty, pos, aft, none⟩ x) (hd : Nat.blt d n = true) (k : AP E n C ops prot pobjs r (era so (some d)) ⟨(d, x) :: s, ob⟩ R) :
    AP E n C ops prot pobjs (.still i r) so ⟨s, ob⟩ R :=
  AP.new ho hy rfl (dst_some hd) k

theorem AP.split {pl : PL} {so : Slots} {prot : List Nat} {pobjs : List (Nat × Ob)} {b : Bool} (t : Nat) (hs : get s t = some (.v (.bool b)))
    (h1 : b = true → AP E n C ops prot pobjs pl (era so (some t)) ⟨(t, .v (.bool true)) :: s, ob⟩ R) (h2 : b = false → AP E n C ops prot pobjs pl (era so (some t)) ⟨(t, .v (.bool false)) :: s, ob⟩ R) :
    AP E n C ops prot pobjs pl so ⟨s, ob⟩ R := by
  intro Hs ws H a w sr wr ag hH hp gm
  have hsr : SR n (era so (some t)) Hs a := ⟨sr.size, fun i x h => sr.slots i x (get_filter_ne h).2⟩
  cases b with
  | true => exact h1 rfl Hs ws H a w hsr wr ag hH hp (gm.same hs)
  | false => exact h2 rfl Hs ws H a w hsr wr ag hH hp (gm.same hs)

/-- A condition that is known. -/
theorem AW.condK {c : Operand} {x y : Code} {t : Nat} {b v : Bool} (hs : get s t = some (.v (.bool b))) (hb : b = v) (h : AW E n C (match v with | true => x | false => y) ⟨s, ob⟩ Q) (hc : c = .tmp t := by rfl) : AW E n C (.cond c x y) ⟨s, ob⟩ Q := by
  subst hb
  refine AW.cond hc hs (fun hb => ?_) (fun hb => ?_)
  · subst hb; exact h
  · subst hb; exact h

/-- nil is the empty list. -/
theorem Gam.nilL {C : Ctx} {H : GH} {a : Act} {w : World} (gm : Gam n C ⟨s, ob⟩ H a w) {t : Nat} (sz : Nat) (h : get s t = some (.v (.slice none 0 0))) : Gam n C ⟨(t, .list sz []) :: s, ob⟩ H a w := by
  refine { gm with slots := fun i y hy => ?_ }
  simp only [get] at hy
  cases hb : Nat.beq t i with
  | true =>
    have := Nat.eq_of_beq_eq_true hb
    subst this
    simp only [hb, cond_true, Option.some.injEq] at hy
    subst hy
    have := (gm.slots _ _ h).v_eq
    rw [this]; exact .empty _ _ _
  | false => simp only [hb, cond_false] at hy; exact gm.slots i y hy

theorem AW.nilL {c : Code} (t sz : Nat) (h : get s t = some (.v (.slice none 0 0))) (k : AW E n C c ⟨(t, .list sz []) :: s, ob⟩ Q) : AW E n C c ⟨s, ob⟩ Q := fun H a w gm => k H a w (gm.nilL sz h)
theorem AO.nilL {l : List Oper} (t sz : Nat) (h : get s t = some (.v (.slice none 0 0))) (k : AO E n C ops l ⟨(t, .list sz []) :: s, ob⟩ R) : AO E n C ops l ⟨s, ob⟩ R := fun H a w gm => k H a w (gm.nilL sz h)

/-- An own slice becomes a list: in slot t, the object at place k goes. -/
theorem Gam.frz {C : Ctx} {H : GH} {a : Act} {w : World} (gm : Gam n C ⟨s, ob⟩ H a w) {t k b tt sz cap c m : Nat} {es : List (List T)} (hk : ob[k]? = some (b, .arr tt sz cap es)) (h : get s t = some (.v (.slice (some ⟨b, 0, none⟩) m c))) (hm : m = es.length) (hc : m ≤ c) :
    ∃ H', Gam n C ⟨(t, .list sz es) :: s, ob.eraseIdx k⟩ H' a w := by
  subst hm
  obtain ⟨H', h1, h2, h3⟩ := gm.freeze hk
  refine ⟨H', { h2 with slots := fun i y hy => ?_ }⟩
  simp only [get] at hy
  cases hb : Nat.beq t i with
  | true =>
    have := Nat.eq_of_beq_eq_true hb
    subst this
    simp only [hb, cond_true, Option.some.injEq] at hy
    subst hy
    have := (gm.slots _ _ h).v_eq
    rw [this]; exact h3 c hc
  | false => simp only [hb, cond_false] at hy; exact (gm.slots i y hy).mono h1

theorem AW.frz {c' : Code} (t k : Nat) {b tt sz cap c m : Nat} {es : List (List T)} (hk : ob[k]? = some (b, .arr tt sz cap es)) (h : get s t = some (.v (.slice (some ⟨b, 0, none⟩) m c))) (hm : m = es.length) (hc : m ≤ c)
    (kk : AW E n C c' ⟨(t, .list sz es) :: s, ob.eraseIdx k⟩ Q) : AW E n C c' ⟨s, ob⟩ Q := fun H a w gm => let ⟨H', g⟩ := gm.frz hk h hm hc; kk H' a w g
theorem AO.frz {l : List Oper} (t k : Nat) {b tt sz cap c m : Nat} {es : List (List T)} (hk : ob[k]? = some (b, .arr tt sz cap es)) (h : get s t = some (.v (.slice (some ⟨b, 0, none⟩) m c))) (hm : m = es.length) (hc : m ≤ c)
    (kk : AO E n C ops l ⟨(t, .list sz es) :: s, ob.eraseIdx k⟩ R) : AO E n C ops l ⟨s, ob⟩ R := fun H a w gm => let ⟨H', g⟩ := gm.frz hk h hm hc; kk H' a w g

theorem erase_lt {l : List (Nat × Ob)} {i k : Nat} {p : Nat × Ob} (h : l[i]? = some p) (hi : i < k) : (l.eraseIdx k)[i]? = some p := by
  rw [List.getElem?_eraseIdx, if_pos hi]; exact h

theorem AP.frz {pl : PL} {so : Slots} {prot : List Nat} {pobjs : List (Nat × Ob)} (t k : Nat) {b tt sz cap c m : Nat} {es : List (List T)} (hk : ob[k]? = some (b, .arr tt sz cap es)) (hp : (prot.all fun i => Nat.blt i k) = true)
    (h : get s t = some (.v (.slice (some ⟨b, 0, none⟩) m c))) (hm : m = es.length) (hc : m ≤ c)
    (kk : AP E n C ops prot pobjs pl (era so (some t)) ⟨(t, .list sz es) :: s, ob.eraseIdx k⟩ R) : AP E n C ops prot pobjs pl so ⟨s, ob⟩ R := by
  intro Hs ws H a w sr wr ag hH hpp gm
  subst hm
  obtain ⟨H', h1, h2, h3⟩ := gm.freeze hk
  refine kk Hs ws H' a w ⟨sr.size, fun i x h => sr.slots i x (get_filter_ne h).2⟩ wr ag (fun b o hb => h1 _ _ (hH _ _ hb)) (fun p hpm => ?_) { h2 with slots := fun i y hy => ?_ }
  · obtain ⟨i, hi, he⟩ := hpp p hpm
    have := List.all_eq_true.1 hp i (by simpa using hi)
    exact ⟨i, hi, erase_lt he (Nat.le_of_ble_eq_true this)⟩
  · simp only [get] at hy
    cases hb : Nat.beq t i with
    | true =>
      have := Nat.eq_of_beq_eq_true hb
      subst this
      simp only [hb, cond_true, Option.some.injEq] at hy
      subst hy
      have := (gm.slots _ _ h).v_eq
      rw [this]; exact h3 c hc
    | false => simp only [hb, cond_false] at hy; exact (gm.slots i y hy).mono h1

theorem Sub.append : ∀ {l1 l2 s : Slots}, Sub l1 s → Sub l2 s → Sub (l1 ++ l2) s
  | [], _, _, _, h2 => h2
  | (_, _) :: _, _, _, h1, h2 => ⟨h1.1, Sub.append h1.2 h2⟩

/-- A loop: ks are slots that it does not write; J holds at the head of each round of the slots that it writes and the objects, with a number that falls. -/
theorem AW.loopK {c : Code} (ks : Slots) (hk : Sub ks s) (J : Nat → Slots → List (Nat × Ob) → Prop) {m : Nat} {s0 : Slots} {ob0 : List (Nat × Ob)} (h0 : J m s0 ob0) (hs : Sub s0 s) (ho : ob0.Sublist ob)
    (round : ∀ m s ob, J m s ob → AW E n C c ⟨s ++ ks, ob⟩ (Then (fun σ' => ∃ m' s' ob', m' < m ∧ J m' s' ob' ∧ Sub (s' ++ ks) σ'.slots ∧ ob'.Sublist σ'.objs) Q)) : AW E n C (.loop c) ⟨s, ob⟩ Q := by
  refine AW.loop (fun m σ => ∃ s' ob', J m s' ob' ∧ Sub (s' ++ ks) σ.slots ∧ ob'.Sublist σ.objs) (m := m) ⟨s0, ob0, h0, Sub.append hs hk, ho⟩ ?_
  rintro m σ ⟨s', ob', hJ, h1, h2⟩
  refine AW.weaken h1 h2 (AW.mono (round m s' ob' hJ) ?_)
  intro e σ' q
  cases e with
  | normal => obtain ⟨m', s', ob', q1, q2, q3, q4⟩ := q; exact ⟨m', q1, s', ob', q2, q3, q4⟩
  | _ => exact q

/-- A cut between two pieces of code. -/
theorem AW.cutK {x y : Code} (M : Slots → List (Nat × Ob) → Prop) (ks : Slots) (hk : Sub ks s)
    (h : AW E n C x ⟨s, ob⟩ (Then (fun σ' => ∃ s' ob', M s' ob' ∧ Sub (s' ++ ks) σ'.slots ∧ ob'.Sublist σ'.objs) Q)) (k : ∀ s' ob', M s' ob' → AW E n C y ⟨s' ++ ks, ob'⟩ Q) : AW E n C (.seq x y) ⟨s, ob⟩ Q :=
  AW.cut _ h (fun _ ⟨_, _, q1, q2, q3⟩ => AW.weaken q2 q3 (k _ _ q1))

theorem map_get {α β : Type} {f : α → β} {l : List α} {k : Nat} {x : α} (h : l[k]? = some x) : (l.map f)[k]? = some (f x) := by simp [h]

theorem get_ex {α : Type} {l : List α} {k : Nat} (h : k < l.length) : ∃ x, l[k]? = some x := ⟨l[k], List.getElem?_eq_getElem h⟩

theorem eq_of_bne {α : Type} [BEq α] [LawfulBEq α] {a b : α} (h : (a != b) = false) : a = b := by simpa using h

theorem app_le {x : Nat} (h : x ≤ 140737488355328) : x ≤ maxL := h

theorem split_b {s : Slots} {t : Nat} {b : Bool} {p : Prop} (_ : get s t = some (.v (.bool b))) (w : Bool) (h1 : b = w → p) (h2 : b = !w → p) : p := by
  by_cases h : b = w
  · exact h1 h
  · exact h2 (by cases b <;> cases w <;> simp_all)

theorem le_ble {a b : Nat} (h : Nat.ble a b = true) : a ≤ b := Nat.le_of_ble_eq_true h

/-- Division of numbers that are not negative. -/
theorem Yp.quoN {dst : Option Tmp} {ty : TypeId} {pos : String} {aft : Array Edge} {g : Option (Nat × Bool)} {t t' : TypeId} {x y : Operand} {a b : Int} (hx : evalT s x = some (.v (.int .i64 a))) (hy : evalT s y = some (.v (.int .i64 b)))
    (ha : 0 ≤ a ∧ a ≤ 9223372036854775807) (hb : 0 < b) : Yp E.P n s ⟨dst, .binOp .quo t x y t', ty, pos, aft, g⟩ (.v (.int .i64 (a / b))) := by
  have h1 : a.tdiv b = a / b := Int.tdiv_eq_ediv_of_nonneg ha.1
  have h2 : 0 ≤ a / b := Int.ediv_nonneg ha.1 (by omega)
  have h3 : a / b ≤ a := Int.ediv_le_self b ha.1
  exact Yp.binI hx hy ⟨by omega, by rw [h1]; exact w64 (by omega)⟩

theorem Yp.remN {dst : Option Tmp} {ty : TypeId} {pos : String} {aft : Array Edge} {g : Option (Nat × Bool)} {t t' : TypeId} {x y : Operand} {k : IntKind} {a b : Int} (hx : evalT s x = some (.v (.int k a))) (hy : evalT s y = some (.v (.int k b)))
    (ha : 0 ≤ a) (hb : 0 < b) : Yp E.P n s ⟨dst, .binOp .rem t x y t', ty, pos, aft, g⟩ (.v (.int k (a % b))) :=
  Yp.binI hx hy ⟨by omega, Int.tmod_eq_emod_of_nonneg ha⟩

theorem bool_eq {a b : Bool} (h : a = true ↔ b = true) : resV [T.v (.bool a)] = T.v (.bool b) := by rw [Bool.eq_iff_iff.2 h]; rfl

theorem sl_c {a b : Nat × Ob} {l m : List (Nat × Ob)} (h : a = b) (t : l.Sublist m) : (a :: l).Sublist (b :: m) := h ▸ t.cons_cons a
theorem sl_d {b : Nat × Ob} {l m : List (Nat × Ob)} (t : l.Sublist m) : l.Sublist (b :: m) := t.cons b
theorem sl_n {l : List (Nat × Ob)} : ([] : List (Nat × Ob)).Sublist l := List.nil_sublist l
theorem ob_es {b ty sz cap : Nat} {es es' : List (List T)} (h : es = es') : (b, Ob.arr ty sz cap es) = (b, Ob.arr ty sz cap es') := by rw [h]

theorem get_t_ {k : IntKind} {a b : Int} (h : a = b) : resV [T.v (.int k a)] = T.v (.int k b) := by rw [h]; rfl

theorem get_i {k : IntKind} {a b : Int} (h : a = b) : some (T.v (.int k a)) = some (T.v (.int k b)) := by rw [h]
theorem get_b {a b : Bool} (h : a = b) : some (T.v (.bool a)) = some (T.v (.bool b)) := by rw [h]
theorem get_t {a b : T} (h : a = b) : some a = some b := by rw [h]

end
end Go.Aw
