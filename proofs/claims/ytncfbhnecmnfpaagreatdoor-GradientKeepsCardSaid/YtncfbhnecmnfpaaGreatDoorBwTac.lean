/- The rules in the form in which proofs use them. No condition. -/
import Derived.Test.YtncfbhnecmnfpaaGreatDoorBwCall
namespace Go.Aw
set_option linter.unusedVariables false
set_option linter.unusedSimpArgs false

theorem w64 {x : Int} (h : -9223372036854775808 ≤ x ∧ x ≤ 9223372036854775807) : IntKind.i64.wrap x = x := by
  rw [IntKind.wrap_i64]; omega

theorem w8 {x : Int} (h : 0 ≤ x ∧ x ≤ 255) : IntKind.u8.wrap x = x := by
  have : (2 : Int) ^ IntKind.u8.bits = 256 := by decide
  unfold IntKind.wrap
  simp only [this, IntKind.signed]
  simp
  omega

section
variable {E : Env} {n : Nat} {C : Ctx} {s : Slots} {ob : List Ob} {Q : Exit → St → Prop} {ops : Array Oper} {R : St → Prop}

theorem AO.d {d : Nat} {op : Op} {ty : TypeId} {pos : String} {aft : Array Edge} {l : List Oper} {x : T} (hy : Yd E.P n s ob ⟨some d, op, ty, pos, aft, none⟩ x) (hd : Nat.blt d n = true)
    (k : AO E n C ops l ⟨(d, x) :: s, ob⟩ R) : AO E n C ops (⟨some d, op, ty, pos, aft, none⟩ :: l) ⟨s, ob⟩ R :=
  AO.still hy rfl (dst_some hd) k

theorem AO.p {d : Nat} {op : Op} {ty : TypeId} {pos : String} {aft : Array Edge} {l : List Oper} {x : T} (hy : Yp E.P n s ⟨some d, op, ty, pos, aft, none⟩ x) (hd : Nat.blt d n = true)
    (k : AO E n C ops l ⟨(d, x) :: s, ob⟩ R) : AO E n C ops (⟨some d, op, ty, pos, aft, none⟩ :: l) ⟨s, ob⟩ R :=
  AO.still hy.yd rfl (dst_some hd) k

theorem get_put_same {t : Nat} {x : T} (h : get s t = some x) : ∀ i y, get ((t, x) :: s) i = some y → get s i = some y := by
  intro i y hy
  simp only [get] at hy
  cases hb : Nat.beq t i with
  | true =>
    have := Nat.eq_of_beq_eq_true hb
    subst this
    simp only [hb, cond_true, Option.some.injEq] at hy
    subst hy; exact h
  | false => simpa only [hb, cond_false] using hy

theorem Gam.same {C : Ctx} {H : GH} {a : Act} {w : World} (gm : Gam n C ⟨s, ob⟩ H a w) {t : Nat} {x : T} (h : get s t = some x) : Gam n C ⟨(t, x) :: s, ob⟩ H a w :=
  { gm with slots := fun i y hy => gm.slots i y (get_put_same h i y hy) }

/-- A guarded operation: both ways. -/
theorem AO.g {d : Option Nat} {op : Op} {ty : TypeId} {pos : String} {aft : Array Edge} {l : List Oper} {j : Nat} {want b : Bool} {t : Tmp}
    (hj : (ops[j]?).bind (·.dst) = some t) (hs : get s t = some (.v (.bool b))) (hd : ∀ d', d = some d' → d' < n)
    (h1 : b = want → AO E n C ops (⟨d, op, ty, pos, aft, none⟩ :: l) ⟨(t, .v (.bool want)) :: s, ob⟩ R)
    (h2 : b = !want → AO E n C ops l ⟨putS ((t, .v (.bool (!want))) :: s) d (.v undef), ob⟩ R) : AO E n C ops (⟨d, op, ty, pos, aft, some (j, want)⟩ :: l) ⟨s, ob⟩ R := by
  refine AO.guard hj hs hd (fun hb H a w gm => ?_) (fun hb H a w gm => ?_)
  · subst hb; exact h1 rfl H a w (gm.same hs)
  · subst hb
    refine h2 rfl H a w ?_
    cases d with
    | none => exact gm.same hs
    | some d =>
      refine { gm with slots := fun i y hy => ?_ }
      simp only [putS, get] at hy
      have hg : get ((d, T.v undef) :: s) i = some y := by
        simp only [get]
        cases hb : Nat.beq d i with
        | true => simpa only [hb, cond_true] using hy
        | false =>
          simp only [hb, cond_false] at hy ⊢
          exact get_put_same hs i y (by simpa only [get] using hy)
      exact gm.slots i y hg

/-- A guarded operation that is known to be carried out, and one that is known not to be. -/
theorem AO.gt {d : Nat} {op : Op} {ty : TypeId} {pos : String} {aft : Array Edge} {l : List Oper} {j : Nat} {want : Bool} {t : Tmp}
    (hj : (ops[j]?).bind (·.dst) = some t) (hs : get s t = some (.v (.bool want))) (hd : Nat.blt d n = true)
    (k : AO E n C ops (⟨some d, op, ty, pos, aft, none⟩ :: l) ⟨(t, .v (.bool want)) :: s, ob⟩ R) : AO E n C ops (⟨some d, op, ty, pos, aft, some (j, want)⟩ :: l) ⟨s, ob⟩ R :=
  AO.g hj hs (dst_some hd) (fun _ => k) (fun h => by cases want <;> cases h)
theorem AO.gf {d : Nat} {op : Op} {ty : TypeId} {pos : String} {aft : Array Edge} {l : List Oper} {j : Nat} {want : Bool} {t : Tmp}
    (hj : (ops[j]?).bind (·.dst) = some t) (hs : get s t = some (.v (.bool (!want)))) (hd : Nat.blt d n = true)
    (k : AO E n C ops l ⟨putS ((t, .v (.bool (!want))) :: s) (some d) (.v undef), ob⟩ R) : AO E n C ops (⟨some d, op, ty, pos, aft, some (j, want)⟩ :: l) ⟨s, ob⟩ R :=
  AO.g hj hs (dst_some hd) (fun h => by cases want <;> cases h) (fun _ => k)
theorem AO.m {d : Nat} {x : Operand} {y : T} {ty : TypeId} {pos : String} {aft : Array Edge} {l : List Oper} (hx : evalT s x = some y) (hd : Nat.blt d n = true)
    (k : AO E n C ops l ⟨(d, y) :: s, ob⟩ R) : AO E n C ops (⟨some d, .move x, ty, pos, aft, none⟩ :: l) ⟨s, ob⟩ R := AO.p (Yp.move hx) hd k
theorem AO.a {d : Nat} {x : Operand} {y : T} {ty : TypeId} {pos : String} {aft : Array Edge} {l : List Oper} (hx : evalT s x = some y) (hd : Nat.blt d n = true)
    (k : AO E n C ops l ⟨(d, y) :: s, ob⟩ R) : AO E n C ops (⟨some d, .assign x, ty, pos, aft, none⟩ :: l) ⟨s, ob⟩ R := AO.p (Yp.assign hx) hd k
/-- A short word for what holds by computation. -/
theorem I {α : Type} {a : α} : a = a := rfl

/-- A known bool, put down as such. -/
theorem AO.known {l : List Oper} {b c : Bool} (t : Nat) (hs : get s t = some (.v (.bool b))) (hb : b = c) (k : AO E n C ops l ⟨(t, .v (.bool c)) :: s, ob⟩ R) : AO E n C ops l ⟨s, ob⟩ R :=
  fun H a w gm => by subst hb; exact k H a w (gm.same hs)

theorem AP.o {prot : List Nat} {pobjs : List Ob} {so : Slots} {i : Nat} {r : PL} {d : Nat} {op : Op} {ty : TypeId} {pos : String} {aft : Array Edge} {x : T} (ho : ops[i]? = some ⟨some d, op, ty, pos, aft, none⟩)
    (hy : Yd E.P n so pobjs ⟨some d, op, ty, pos, aft, none⟩ x) (hd : Nat.blt d n = true) (k : AP E n C ops prot pobjs r ((d, x) :: so) ⟨(d, x) :: s, ob⟩ R) :
    AP E n C ops prot pobjs (.still i r) so ⟨s, ob⟩ R :=
  AP.old ho hy rfl (dst_some hd) k

theorem AP.op {prot : List Nat} {pobjs : List Ob} {so : Slots} {i : Nat} {r : PL} {d : Nat} {op : Op} {ty : TypeId} {pos : String} {aft : Array Edge} {x : T} (ho : ops[i]? = some ⟨some d, op, ty, pos, aft, none⟩)
    (hy : Yp E.P n so ⟨some d, op, ty, pos, aft, none⟩ x) (hd : Nat.blt d n = true) (k : AP E n C ops prot pobjs r ((d, x) :: so) ⟨(d, x) :: s, ob⟩ R) :
    AP E n C ops prot pobjs (.still i r) so ⟨s, ob⟩ R :=
  AP.old ho hy.yd rfl (dst_some hd) k

theorem AP.p {prot : List Nat} {pobjs : List Ob} {so : Slots} {i : Nat} {r : PL} {d : Nat} {op : Op} {ty : TypeId} {pos : String} {aft : Array Edge} {x : T} (ho : ops[i]? = some ⟨some d, op, ty, pos, aft, none⟩)
    (hy : Yp E.P n s ⟨some d, op, ty, pos, aft, none⟩ x) (hd : Nat.blt d n = true) (k : AP E n C ops prot pobjs r so ⟨(d, x) :: s, ob⟩ R) (hf : free so (some d) = true := by rfl) :
    AP E n C ops prot pobjs (.still i r) so ⟨s, ob⟩ R :=
  AP.new ho hy rfl (dst_some hd) k hf

theorem AP.split {pl : PL} {so : Slots} {prot : List Nat} {pobjs : List Ob} {b : Bool} (t : Nat) (hs : get s t = some (.v (.bool b)))
    (h1 : b = true → AP E n C ops prot pobjs pl so ⟨(t, .v (.bool true)) :: s, ob⟩ R) (h2 : b = false → AP E n C ops prot pobjs pl so ⟨(t, .v (.bool false)) :: s, ob⟩ R) :
    AP E n C ops prot pobjs pl so ⟨s, ob⟩ R := by
  intro Hs ws H a w sr wr ag hH hp gm
  cases b with
  | true => exact h1 rfl Hs ws H a w sr wr ag hH hp (gm.same hs)
  | false => exact h2 rfl Hs ws H a w sr wr ag hH hp (gm.same hs)

/-- A condition that is known. -/
theorem AW.condK {c : Operand} {x y : Code} {t : Nat} {b v : Bool} (hs : get s t = some (.v (.bool b))) (hb : b = v) (h : AW E n C (match v with | true => x | false => y) ⟨s, ob⟩ Q) (hc : c = .tmp t := by rfl) : AW E n C (.cond c x y) ⟨s, ob⟩ Q := by
  subst hb
  refine AW.cond hc hs (fun hb => ?_) (fun hb => ?_)
  · subst hb; exact h
  · subst hb; exact h

/-! ### Ghost steps -/

/-- Another view of the slots and objects, in the same world: what is known is as good, what nobody writes may grow. -/
def Ghost (n : Nat) (C : Ctx) (s : Slots) (ob : List Ob) (s' : Slots) (ob' : List Ob) : Prop :=
  ∀ (H : GH) (a : Act) (w : World), Gam n C ⟨s, ob⟩ H a w → ∃ H', (∀ b o, H b = some o → H' b = some o) ∧ Gam n C ⟨s', ob'⟩ H' a w

theorem AW.ghost {c : Code} {s' : Slots} {ob' : List Ob} (h : Ghost n C s ob s' ob') (k : AW E n C c ⟨s', ob'⟩ Q) : AW E n C c ⟨s, ob⟩ Q := fun H a w gm => let ⟨H', _, g⟩ := h H a w gm; k H' a w g
theorem AO.ghost {l : List Oper} {s' : Slots} {ob' : List Ob} (h : Ghost n C s ob s' ob') (k : AO E n C ops l ⟨s', ob'⟩ R) : AO E n C ops l ⟨s, ob⟩ R := fun H a w gm => let ⟨H', _, g⟩ := h H a w gm; k H' a w g
theorem AP.ghost {pl : PL} {so so' : Slots} {prot : List Nat} {pobjs : List Ob} {s' : Slots} {ob' : List Ob} (h : Ghost n C s ob s' ob') (hp : prot.map (fun i => ob'[i]?) = prot.map (fun i => ob[i]?)) (hso : Sub so' so)
    (k : AP E n C ops prot pobjs pl so' ⟨s', ob'⟩ R) : AP E n C ops prot pobjs pl so ⟨s, ob⟩ R := by
  intro Hs ws H a w sr wr ag hH hpp gm
  obtain ⟨H', h1, g⟩ := h H a w gm
  refine k Hs ws H' a w ⟨sr.size, fun i x hx => sr.slots i x (hso.get i x hx)⟩ wr ag (fun b o hb => h1 _ _ (hH _ _ hb)) (fun p hpm => ?_) g
  obtain ⟨i, hi, he⟩ := hpp p hpm
  have hi' : i ∈ prot := by simpa using hi
  have : ob'[i]? = ob[i]? := List.map_inj_left.1 hp i hi'
  exact ⟨i, hi, this.trans he⟩

theorem Ghost.trans {s' s'' : Slots} {ob' ob'' : List Ob} (h1 : Ghost n C s ob s' ob') (h2 : Ghost n C s' ob' s'' ob'') : Ghost n C s ob s'' ob'' := fun H a w gm =>
  let ⟨H1, m1, g1⟩ := h1 H a w gm
  let ⟨H2, m2, g2⟩ := h2 H1 a w g1
  ⟨H2, fun b o hb => m2 _ _ (m1 _ _ hb), g2⟩

theorem Ghost.weaken {s' : Slots} {ob' : List Ob} (hs : Sub s' s) (ho : ob'.Sublist ob) : Ghost n C s ob s' ob' := fun H _ _ gm => ⟨H, fun _ _ h => h, gm.weaken hs ho⟩

/-- A new object that has no block. -/
theorem Ghost.more0 {o : Ob} (hf : o.fp = []) (ho : ∀ H w, OR H w o) : Ghost n C s ob s (ob ++ [o]) := fun H a w gm =>
  ⟨H, fun _ _ h => h, gm.more (ob := o) ⟨rfl, rfl, rfl⟩ (Nat.le_refl _) (fun _ _ => rfl) (ho H w) (by rw [hf]; simp) (by rw [hf]; simp)⟩

theorem Ghost.nilU (ty sz : Nat) : Ghost n C s ob s (ob ++ [.us (.slice none 0 0) ty sz []]) := Ghost.more0 rfl (fun _ _ => .inl ⟨rfl, rfl⟩)
theorem Ghost.nilUss (ty tyi szi : Nat) : Ghost n C s ob s (ob ++ [.uss (.slice none 0 0) ty tyi szi [] []]) := Ghost.more0 rfl (fun _ _ => ⟨rfl, .inl ⟨rfl, rfl⟩, by simp⟩)

/-- An object in other words. -/
theorem Ghost.recell (k : Nat) {o o' : Ob} (hk : ob[k]? = some o) (h : ∀ H w, OR H w o → OR H w o') (hf : o'.fp = o.fp) : Ghost n C s ob s (ob.set k o') := fun H a w gm =>
  ⟨H, fun _ _ h => h, gm.set hk ⟨rfl, rfl, rfl⟩ (Nat.le_refl _) (fun _ _ _ => rfl) (h H w (gm.objs _ (List.mem_of_getElem? hk))) (fun b hb => .inr (hf ▸ hb)) (by rw [hf]; exact (nodup_places.1 gm.nodup).1 k o hk)⟩

theorem ussIn_rep (m : Nat) : ussIn (List.replicate m (.slice none 0 0)) (List.replicate m (some [])) = [] := by
  induction m with
  | zero => rfl
  | succ m ih => simp [List.replicate_succ, ussIn, ih, bls]

/-- A slice of nils as a slice of slices of the call's own. -/
theorem Ghost.toUss (k m tyi szi : Nat) {v : Value} {ty : Nat} (hk : ob[k]? = some (.us v ty 1 (List.replicate m [.v (.slice none 0 0)]))) :
    Ghost n C s ob s (ob.set k (.uss v ty tyi szi (List.replicate m (.slice none 0 0)) (List.replicate m (some [])))) := by
  refine Ghost.recell k hk (fun H w h => ⟨by simp, by have h : UsR H w v ty 1 _ := h; simpa [List.map_replicate] using h, fun i x es hx he => .inl ?_⟩) (by simp [Ob.fp, ussIn_rep])
  simp only [List.getElem?_replicate] at hx he
  split at hx
  · rename_i hi
    simp only [Option.some.injEq] at hx
    rw [if_pos hi] at he
    simp only [Option.some.injEq] at he
    exact ⟨hx.symm, he.symm⟩
  · cases hx

/-- An inner slice is taken out. -/
theorem ussIn_set : ∀ {vs : List Value} {L : List (Option (List (List T)))} {m : Nat} {es : List (List T)}, vs.length = L.length → L[m]? = some (some es) →
    (∀ b, b ∈ ussIn vs (L.set m none) → b ∈ ussIn vs L) ∧ (∀ b, b ∈ bls (vs.getD m undef) → b ∈ ussIn vs L) ∧ ((ussIn vs L).Nodup → (ussIn vs (L.set m none)).Nodup ∧ ∀ b, b ∈ bls (vs.getD m undef) → b ∉ ussIn vs (L.set m none))
  | [], L, m, es, hl, h => by have := (List.getElem?_eq_some_iff.1 h).1; simp at hl; omega
  | v :: vs, [], m, es, hl, h => by simp at h
  | v :: vs, y :: L, 0, es, hl, h => by
    simp at h
    subst h
    simp only [List.set_cons_zero, ussIn, List.mem_append, List.nodup_append, List.getD, List.getElem?_cons_zero, Option.getD_some]
    exact ⟨fun b hb => .inr hb, fun b hb => .inl hb, fun ⟨_, h2, h3⟩ => ⟨h2, fun b hb hb' => h3 b hb b hb' rfl⟩⟩
  | v :: vs, none :: L, m + 1, es, hl, h => by
    have ih := ussIn_set (vs := vs) (L := L) (m := m) (es := es) (by simpa using hl) (by simpa using h)
    simpa [ussIn, List.getD] using ih
  | v :: vs, some z :: L, m + 1, es, hl, h => by
    obtain ⟨h1, h2, h3⟩ := ussIn_set (vs := vs) (L := L) (m := m) (es := es) (by simpa using hl) (by simpa using h)
    have hg : (v :: vs).getD (m + 1) undef = vs.getD m undef := by simp [List.getD]
    rw [hg]
    simp only [List.set_cons_succ, ussIn, List.mem_append, List.nodup_append]
    refine ⟨fun b hb => hb.imp id (h1 b), fun b hb => .inr (h2 b hb), fun ⟨q1, q2, q3⟩ => ?_⟩
    obtain ⟨r1, r2⟩ := h3 q2
    refine ⟨⟨q1, r1, fun x hx y hy => q3 x hx y (h1 y hy)⟩, fun b hb hb' => ?_⟩
    rcases hb' with hb' | hb'
    · exact q3 b hb' b (h2 b hb) rfl
    · exact r2 b hb hb'

theorem Ghost.take (k m : Nat) {v : Value} {ty tyi szi : Nat} {vs : List Value} {L : List (Option (List (List T)))} {es : List (List T)} (hk : ob[k]? = some (.uss v ty tyi szi vs L)) (hm : L[m]? = some (some es)) :
    Ghost n C s ob s (ob.set k (.uss v ty tyi szi vs (L.set m none)) ++ [.us (vs.getD m undef) tyi szi es]) := by
  intro H a w gm
  have hor : OR H w (.uss v ty tyi szi vs L) := gm.objs _ (List.mem_of_getElem? hk)
  obtain ⟨h0, h1, h2⟩ := hor
  have hn0 := (nodup_places.1 gm.nodup).1 k _ hk
  obtain ⟨u1, u2, u3⟩ := ussIn_set h0 hm
  simp only [Ob.fp, List.nodup_append] at hn0
  obtain ⟨n1, n2, n3⟩ := hn0
  obtain ⟨u4, u5⟩ := u3 n2
  have hml := (List.getElem?_eq_some_iff.1 hm).1
  have hvm : vs[m]? = some (vs.getD m undef) := by
    have : m < vs.length := by omega
    simp [List.getD, this]
  refine ⟨H, fun _ _ h => h, gm.world (fun _ => False) ⟨rfl, rfl, rfl⟩ (Nat.le_refl _) (fun _ _ _ => rfl) (fun _ h => h.elim) ?_ ?_⟩
  · intro p hp
    rcases List.mem_append.1 hp with hp | hp
    · rcases List.mem_or_eq_of_mem_set hp with hp | rfl
      · exact .inl ⟨hp, fun _ _ h => h⟩
      · refine .inr ⟨⟨by simpa using h0, h1, fun i x es' hx he => ?_⟩, fun b hb => .inr ⟨_, List.mem_of_getElem? hk, ?_⟩⟩
        · rw [List.getElem?_set] at he
          split at he
          · cases he
          · exact h2 i x es' hx he
        · simp only [Ob.fp, List.mem_append] at hb ⊢
          exact hb.imp id (u1 b)
    · simp only [List.mem_singleton] at hp
      subst hp
      refine .inr ⟨h2 m _ es hvm hm, fun b hb => .inr ⟨_, List.mem_of_getElem? hk, ?_⟩⟩
      simp only [Ob.fp, List.mem_append] at hb ⊢
      exact .inr (u2 b hb)
  · rw [List.flatMap_append, List.nodup_append]
    have hsub : ∀ b, b ∈ (Ob.uss v ty tyi szi vs (L.set m none)).fp → b ∈ (Ob.uss v ty tyi szi vs L).fp := fun b hb => by
      simp only [Ob.fp, List.mem_append] at hb ⊢
      exact hb.imp id (u1 b)
    refine ⟨nodup_at gm.nodup hk ?_ (fun b hb => .inl (hsub b hb)), by simpa [Ob.fp] using bls_nodup _, ?_⟩
    · simp only [Ob.fp, List.nodup_append]
      exact ⟨n1, u4, fun x hx y hy => n3 x hx y (u1 y hy)⟩
    · intro x hx y hy hxy
      subst hxy
      simp only [List.flatMap_cons, List.flatMap_nil, List.append_nil, Ob.fp] at hy
      obtain ⟨p, hp, hbp⟩ := List.mem_flatMap.1 hx
      obtain ⟨i, hi⟩ := List.mem_iff_getElem?.1 hp
      by_cases hki : k = i
      · subst hki
        rw [List.getElem?_set_self (List.getElem?_eq_some_iff.1 hk).1] at hi
        cases hi
        simp only [Ob.fp, List.mem_append] at hbp
        rcases hbp with hbp | hbp
        · exact n3 x hbp x (u2 x hy) rfl
        · exact u5 x hy hbp
      · rw [List.getElem?_set_ne hki] at hi
        exact gm.apart hk hi hki x hbp (by simp only [Ob.fp, List.mem_append]; exact .inr (u2 x hy))

/-! ### Freezing -/

def eraseAll (ob : List Ob) (ks : List Nat) : List Ob := (ob.zipIdx.filter fun p => !ks.contains p.2).map Prod.fst

/-- Slots of another view. -/
def LendS (K : List Ob) (s : Slots) : Slots → Prop
  | [] => True
  | (t, y) :: l => (∃ x, get s t = some x ∧ Lend K x y) ∧ LendS K s l

theorem LendS.get {K : List Ob} {s : Slots} : ∀ {l : Slots}, LendS K s l → ∀ i y, Aw.get l i = some y → ∃ x, Aw.get s i = some x ∧ Lend K x y
  | [], _, i, y, h => by simp [Aw.get] at h
  | (t, z) :: l, hl, i, y, h => by
    obtain ⟨h1, h2⟩ := hl
    simp only [Aw.get] at h
    cases hb : Nat.beq t i with
    | true =>
      have := Nat.eq_of_beq_eq_true hb
      subst this
      simp only [hb, cond_true, Option.some.injEq] at h
      subst h; exact h1
    | false => simp only [hb, cond_false] at h; exact LendS.get h2 i y h

inductive LendO (K : List Ob) : Ob → Ob → Prop
  | same (o : Ob) : LendO K o o
  | arr {b ty sz cap : Nat} {e e' : List T} (h : LendL K e e') : LendO K (.arr b ty sz cap [e]) (.arr b ty sz cap [e'])

inductive LendOs (K : List Ob) : List Ob → List Ob → Prop
  | nil : LendOs K [] []
  | cons {x y : Ob} {l m : List Ob} (h : LendO K x y) (t : LendOs K l m) : LendOs K (x :: l) (y :: m)
  | rest (l : List Ob) : LendOs K l l

theorem LendO.fp {K : List Ob} {x y : Ob} (h : LendO K x y) : y.fp = x.fp := by cases h <;> rfl
theorem LendOs.fp {K : List Ob} {l m : List Ob} (h : LendOs K l m) : m.flatMap Ob.fp = l.flatMap Ob.fp := by
  induction h with
  | nil => rfl
  | cons h _ ih => simp [h.fp, ih]
  | rest => rfl
theorem LendOs.mem {K : List Ob} {l m : List Ob} (h : LendOs K l m) : ∀ y, y ∈ m → ∃ x, x ∈ l ∧ LendO K x y := by
  induction h with
  | nil => intro y hy; simp at hy
  | cons h _ ih =>
    intro z hz
    rcases List.mem_cons.1 hz with rfl | hz
    · exact ⟨_, by simp, h⟩
    · obtain ⟨x, hx, hl⟩ := ih z hz; exact ⟨x, by simp [hx], hl⟩
  | rest => intro y hy; exact ⟨y, hy, .same y⟩

/-- Objects that are not written any more: those at the places ks. -/
theorem Ghost.freeze (ks : List Nat) {K : List Ob} (hK : pickAll ob ks = some K) (cs : Slots) (hc : LendS K s cs) {ob' : List Ob} (ho : LendOs K (eraseAll ob ks) ob') : Ghost n C s ob (cs ++ s) ob' := by
  intro H a w gm
  obtain ⟨p1, p2⟩ := pickAll_mem hK
  have hmem : ∀ p, p ∈ K → ∃ k, k ∈ ks ∧ ob[k]? = some p := by
    intro p hp
    obtain ⟨i, hi⟩ := List.mem_iff_getElem?.1 hp
    have hil := (List.getElem?_eq_some_iff.1 hi).1
    obtain ⟨o, h1, h2⟩ := p2 i ks[i] (List.getElem?_eq_getElem (by omega))
    rw [hi] at h2
    cases h2
    exact ⟨ks[i], List.getElem_mem _, h1⟩
  have hKob : ∀ p, p ∈ K → p ∈ ob := fun p hp => by obtain ⟨k, _, h⟩ := hmem p hp; exact List.mem_of_getElem? h
  have hown : ∀ b o, H b = some o → b ∉ K.flatMap Ob.fp := fun b o hb hm => by
    obtain ⟨p, hp, hbp⟩ := List.mem_flatMap.1 hm
    rw [gm.free p (hKob p hp) b hbp] at hb; cases hb
  obtain ⟨H1, hH1⟩ : ∃ H1 : GH, H1 = fun b => if b ∈ K.flatMap Ob.fp then w.heap[b]? else H b := ⟨_, rfl⟩
  have hm1 : ∀ b o, H b = some o → H1 b = some o := fun b o hb => by rw [hH1]; simp only [hown b o hb, if_false]; exact hb
  have ho1 : ∀ p, p ∈ K → OR H1 w p := fun p hp => (gm.objs p (hKob p hp)).mono hm1 (fun _ _ => rfl)
  have hb1 : ∀ p, p ∈ K → ∀ b, b ∈ p.fp → H1 b = w.heap[b]? := fun p hp b hb => by
    rw [hH1]; simp only [List.mem_flatMap.2 ⟨p, hp, hb⟩, if_true]
  have hkept : ∀ p, p ∈ eraseAll ob ks → ∃ i, i ∉ ks ∧ ob[i]? = some p := by
    intro p hp
    simp only [eraseAll, List.mem_map, List.mem_filter] at hp
    obtain ⟨⟨q, i⟩, ⟨h1, h2⟩, rfl⟩ := hp
    exact ⟨i, by simpa using h2, by have := List.mem_zipIdx_iff_getElem?.1 h1; simpa using this⟩
  have hout : ∀ p, p ∈ eraseAll ob ks → p ∈ ob ∧ ∀ b, b ∈ p.fp → b ∉ K.flatMap Ob.fp := by
    intro p hp
    obtain ⟨i, hi, hp'⟩ := hkept p hp
    refine ⟨List.mem_of_getElem? hp', fun b hb hm => ?_⟩
    obtain ⟨q, hq, hbq⟩ := List.mem_flatMap.1 hm
    obtain ⟨k, hk, hq'⟩ := hmem q hq
    exact at_ne gm.nodup hp' hq' (fun he => hi (he ▸ hk)) b hb hbq
  have hsubl : (eraseAll ob ks).Sublist ob := by
    have h1 : ((ob.zipIdx.filter fun p => !ks.contains p.2).map Prod.fst).Sublist (ob.zipIdx.map Prod.fst) := List.Sublist.map _ List.filter_sublist
    have h2 : ob.zipIdx.map Prod.fst = ob := by simp
    rw [h2] at h1
    exact h1
  refine ⟨H1, hm1, gm.defers, gm.size, ?_, ?_, ?_, ?_, ?_, ?_, ?_, gm.heap, ?_, gm.env⟩
  · intro i x hx
    have hx' : (get cs i = some x) ∨ get s i = some x := by
      have : ∀ (l : Slots), get (l ++ s) i = some x → get l i = some x ∨ get s i = some x := by
        intro l
        induction l with
        | nil => exact fun h => .inr h
        | cons p l ih =>
          obtain ⟨t, y⟩ := p
          simp only [List.cons_append, get]
          cases Nat.beq t i with
          | true => exact fun h => .inl h
          | false => exact ih
      exact this cs hx
    rcases hx' with hx' | hx'
    · obtain ⟨y, hy, hl⟩ := hc.get i x hx'
      exact Lend.vr ho1 hb1 hm1 hl (gm.slots i y hy)
    · exact (gm.slots i x hx').mono hm1
  · intro p hp
    obtain ⟨q, hq, hl⟩ := ho.mem p hp
    have hor := (gm.objs q (hout q hq).1)
    cases hl with
    | same => exact hor.mono hm1 (fun _ _ => rfl)
    | arr h =>
      obtain ⟨cur, a1, a2, a3, a4, a5, a6⟩ := hor
      refine ⟨cur, a1, a2, a3, a4, fun i e he => ?_, fun i e he j x hx => ?_⟩
      · cases i with
        | zero => simp at he; subst he; rw [← h.length]; exact a5 0 _ rfl
        | succ i => simp at he
      · cases i with
        | zero =>
          simp at he; subst he
          obtain ⟨z, hz, _⟩ := h.get j x hx
          exact ⟨(a6 0 _ rfl j z hz).1, LendL.vr ho1 hb1 hm1 h j x hx (fun z' hz' => (a6 0 _ rfl j z' hz').2)⟩
        | succ i => simp at he
  · intro p hp b hb
    obtain ⟨q, hq, hl⟩ := ho.mem p hp
    rw [hl.fp] at hb
    obtain ⟨h1, h2⟩ := hout q hq
    rw [hH1]; simp only [h2 b hb, if_false]; exact gm.free q h1 b hb
  · intro p hp b hb
    obtain ⟨q, hq, hl⟩ := ho.mem p hp
    rw [hl.fp] at hb
    exact gm.new q (hout q hq).1 b hb
  · show (ob'.flatMap Ob.fp).Nodup
    rw [ho.fp]; exact (sublist_flatMap hsubl).nodup gm.nodup
  · intro b o hb
    rw [hH1] at hb
    dsimp only at hb
    split at hb
    · exact hb
    · exact gm.held b o hb
  · intro b o hb; exact hm1 _ _ (gm.grow _ _ hb)
  · intro b hb hf
    obtain ⟨h1, h2⟩ := gm.frame b hb hf
    refine ⟨h1, ?_⟩
    have : b ∉ K.flatMap Ob.fp := fun hm => by
      obtain ⟨q, hq, hbq⟩ := List.mem_flatMap.1 hm
      rcases gm.new q (hKob q hq) b hbq with h | h
      · omega
      · exact hf h
    rw [hH1]; simp only [this, if_false]; exact h2

theorem eraseAll_last (x : Ob) : eraseAll (ob ++ [x]) [ob.length] = ob := by
  unfold eraseAll
  rw [List.zipIdx_append, List.filter_append, List.map_append]
  have h1 : ob.zipIdx.filter (fun p => !([ob.length].contains p.2)) = ob.zipIdx := by
    rw [List.filter_eq_self]
    rintro ⟨y, i⟩ h
    have := List.mem_zipIdx_iff_getElem?.1 h
    have := (List.getElem?_eq_some_iff.1 this).1
    simp only at this
    simp; omega
  rw [h1]
  simp

theorem pickAll_last (x : Ob) : pickAll (ob ++ [x]) [ob.length] = some [x] := by simp [pickAll]

/-- A literal that nobody writes. -/
theorem AX.litF {d : Nat} {ty : TypeId} {pos : String} {aft : Array Edge} {g : Option (Nat × Bool)} {t : TypeId} {m : Nat} {parts : Array (Nat × Operand)} {ti ei : TI} {e : Nat} {z : Value} {l : List T} {sz : Nat} {es : List (List T)}
    (ht : E.tab t = some ti) (hk : ti.kind = .slice e) (he : E.tab e = some ei) (hz : ei.zero = some z) (h1 : z.cells.toList.all (·.oneCell') = true) (hsz : ei.size = sz) (hzs : z.cells.size = sz) (hb : Nat.ble (m * sz) 16777216 = true)
    (hm : Nat.ble m 16777216 = true) (hf : fillT s (fun i => some (i * sz, sz)) (repT (zeroT z) m) parts.toList = some l) (hr : rows sz m l = es)
    (hd : ∀ d', some d = some d' → d' < n) (k : R ⟨(d, .list sz es) :: s, ob⟩) :
    AX E n C [] ⟨some d, .buildSlice t m parts, ty, pos, aft, g⟩ ⟨s, ob⟩ R := by
  intro H a w gm
  refine Oper.wp_monoQ ?_ (fun _ _ _ h => h) (AX.buildSlice (R := fun σ' => ∃ b, σ' = ⟨(d, .v b) :: s, ob ++ [.us b e sz es]⟩) ht hk he hz h1 hsz hzs hb hm hf hr hd (fun b => ⟨b, rfl⟩) H a w gm)
  rintro a' w' ⟨_, H', v, ⟨b, rfl⟩, gm', ha, hHH, hfr⟩
  obtain ⟨H'', h2, gm''⟩ := Ghost.freeze [ob.length] (K := [.us b e sz es]) (pickAll_last _) [(d, .list sz es)] ⟨⟨_, by simp [get], .us 0 rfl⟩, trivial⟩ (ob' := ob) (by rw [eraseAll_last]; exact .rest _) H' a' w' gm'
  refine ⟨⟨(d, .list sz es) :: s, ob⟩, H'', v, k, { gm'' with slots := ?_ }, ha, fun b o h => h2 _ _ (hHH _ _ h), fun i p hp hm => ⟨hp, (hfr i p hp hm).2⟩⟩
  intro i x hx
  refine gm''.slots i x ?_
  show get ((d, .list sz es) :: (d, .v b) :: s) i = some x
  simp only [get] at hx ⊢
  cases hbq : Nat.beq d i with
  | true => rw [hbq] at hx; exact hx
  | false => rw [hbq] at hx; simpa using hx

theorem Sub.append : ∀ {l1 l2 s : Slots}, Sub l1 s → Sub l2 s → Sub (l1 ++ l2) s
  | [], _, _, _, h2 => h2
  | (_, _) :: _, _, _, h1, h2 => ⟨h1.1, Sub.append h1.2 h2⟩

/-- A loop: ks are slots that it does not write; J holds at the head of each round of the slots that it writes and the objects, with a number that falls. -/
theorem AW.loopK {c : Code} (ks : Slots) (hk : Sub ks s) (J : Nat → Slots → List Ob → Prop) {m : Nat} {s0 : Slots} {ob0 : List Ob} (h0 : J m s0 ob0) (hs : Sub s0 s) (ho : ob0.Sublist ob)
    (round : ∀ m s ob, J m s ob → AW E n C c ⟨s ++ ks, ob⟩ (Then (fun σ' => ∃ m' s' ob', m' < m ∧ J m' s' ob' ∧ Sub (s' ++ ks) σ'.slots ∧ ob'.Sublist σ'.objs) Q)) : AW E n C (.loop c) ⟨s, ob⟩ Q := by
  refine AW.loop (fun m σ => ∃ s' ob', J m s' ob' ∧ Sub (s' ++ ks) σ.slots ∧ ob'.Sublist σ.objs) (m := m) ⟨s0, ob0, h0, Sub.append hs hk, ho⟩ ?_
  rintro m σ ⟨s', ob', hJ, h1, h2⟩
  refine AW.weaken h1 h2 (AW.mono (round m s' ob' hJ) ?_)
  intro e σ' q
  cases e with
  | normal => obtain ⟨m', s', ob', q1, q2, q3, q4⟩ := q; exact ⟨m', q1, s', ob', q2, q3, q4⟩
  | _ => exact q

/-- A cut between two pieces of code. -/
theorem AW.cutK {x y : Code} (M : Slots → List Ob → Prop) (ks : Slots) (hk : Sub ks s)
    (h : AW E n C x ⟨s, ob⟩ (Then (fun σ' => ∃ s' ob', M s' ob' ∧ Sub (s' ++ ks) σ'.slots ∧ ob'.Sublist σ'.objs) Q)) (k : ∀ s' ob', M s' ob' → AW E n C y ⟨s' ++ ks, ob'⟩ Q) : AW E n C (.seq x y) ⟨s, ob⟩ Q :=
  AW.cut _ h (fun _ ⟨_, _, q1, q2, q3⟩ => AW.weaken q2 q3 (k _ _ q1))

theorem map_get {α β : Type} {f : α → β} {l : List α} {k : Nat} {x : α} (h : l[k]? = some x) : (l.map f)[k]? = some (f x) := by simp [h]

theorem get_ex {α : Type} {l : List α} {k : Nat} (h : k < l.length) : ∃ x, l[k]? = some x := ⟨l[k], List.getElem?_eq_getElem h⟩

theorem eq_of_bne {α : Type} [BEq α] [LawfulBEq α] {a b : α} (h : (a != b) = false) : a = b := by simpa using h

theorem app_le {x : Nat} (h : x ≤ 140737488355328) : x ≤ maxL := h

theorem split_b {s : Slots} {t : Nat} {b : Bool} {p : Prop} (_ : get s t = some (.v (.bool b))) (w : Bool) (h1 : b = w → p) (h2 : b = !w → p) : p := by
  by_cases h : b = w
  · exact h1 h
  · exact h2 (by cases b <;> cases w <;> simp_all)

theorem le_ble {a b : Nat} (h : Nat.ble a b = true) : a ≤ b := Nat.le_of_ble_eq_true h

/-- Division of numbers that are not negative. -/
theorem Yp.quoN {dst : Option Tmp} {ty : TypeId} {pos : String} {aft : Array Edge} {g : Option (Nat × Bool)} {t t' : TypeId} {x y : Operand} {a b : Int} (hx : evalT s x = some (.v (.int .i64 a))) (hy : evalT s y = some (.v (.int .i64 b)))
    (ha : 0 ≤ a ∧ a ≤ 9223372036854775807) (hb : 0 < b) : Yp E.P n s ⟨dst, .binOp .quo t x y t', ty, pos, aft, g⟩ (.v (.int .i64 (a / b))) := by
  have h1 : a.tdiv b = a / b := Int.tdiv_eq_ediv_of_nonneg ha.1
  have h2 : 0 ≤ a / b := Int.ediv_nonneg ha.1 (by omega)
  have h3 : a / b ≤ a := Int.ediv_le_self b ha.1
  exact Yp.binI hx hy ⟨by omega, by rw [h1]; exact w64 (by omega)⟩

theorem Yp.remN {dst : Option Tmp} {ty : TypeId} {pos : String} {aft : Array Edge} {g : Option (Nat × Bool)} {t t' : TypeId} {x y : Operand} {k : IntKind} {a b : Int} (hx : evalT s x = some (.v (.int k a))) (hy : evalT s y = some (.v (.int k b)))
    (ha : 0 ≤ a) (hb : 0 < b) : Yp E.P n s ⟨dst, .binOp .rem t x y t', ty, pos, aft, g⟩ (.v (.int k (a % b))) :=
  Yp.binI hx hy ⟨by omega, Int.tmod_eq_emod_of_nonneg ha⟩

theorem bool_eq {a b : Bool} (h : a = true ↔ b = true) : resV [T.v (.bool a)] = T.v (.bool b) := by rw [Bool.eq_iff_iff.2 h]; rfl

theorem sl_c {a b : Ob} {l m : List Ob} (h : a = b) (t : l.Sublist m) : (a :: l).Sublist (b :: m) := h ▸ t.cons_cons a
theorem sl_d {b : Ob} {l m : List Ob} (t : l.Sublist m) : l.Sublist (b :: m) := t.cons b
theorem sl_n {l : List Ob} : ([] : List Ob).Sublist l := List.nil_sublist l

theorem get_t_ {k : IntKind} {a b : Int} (h : a = b) : resV [T.v (.int k a)] = T.v (.int k b) := by rw [h]; rfl

theorem get_i {k : IntKind} {a b : Int} (h : a = b) : some (T.v (.int k a)) = some (T.v (.int k b)) := by rw [h]
theorem get_b {a b : Bool} (h : a = b) : some (T.v (.bool a)) = some (T.v (.bool b)) := by rw [h]
theorem get_t {a b : T} (h : a = b) : some a = some b := by rw [h]

end
end Go.Aw
