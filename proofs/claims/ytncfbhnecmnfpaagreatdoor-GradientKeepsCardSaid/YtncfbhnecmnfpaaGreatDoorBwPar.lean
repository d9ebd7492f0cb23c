/- The part of a region that draws its order in which many operations are ready at once: each is shown once, whatever came up before it. No condition. -/
import Derived.Test.YtncfbhnecmnfpaaGreatDoorBwTac
namespace Go.Aw
set_option linter.unusedVariables false
set_option linter.unusedSimpArgs false
section
variable {E : Env} {n : Nat} {C : Ctx} {ops : Array Oper} {s : Slots} {ob : List Ob} {R : St → Prop} {dst : Option Tmp} {ty : TypeId} {pos : String} {aft : Array Edge} {g : Option (Nat × Bool)}

/-- What was made last, and is a slice of a slot, becomes a list. -/
theorem AX.frzLast {md : List Nat} {o : Oper} {t : Nat}
    (h : AX E n C md o ⟨s, ob⟩ (fun σ' => ∃ v tt sz es, σ' = ⟨(t, .v v) :: s, ob ++ [.us v tt sz es]⟩ ∧ R ⟨(t, .list sz es) :: s, ob⟩)) :
    AX E n C md o ⟨s, ob⟩ R := by
  intro H a w gm
  refine Oper.wp_monoQ ?_ (fun _ _ _ h => h) (h H a w gm)
  rintro a' w' ⟨σ', H', v', ⟨v, tt, sz, es, rfl, hR⟩, gm', ha', hHH, hfr⟩
  obtain ⟨H2, g1, g2, g3, g4⟩ := gm'.hold (k := ob.length) (o := .us v tt sz es) (by simp)
  have he : (ob ++ [Ob.us v tt sz es]).eraseIdx ob.length = ob := by rw [List.eraseIdx_append_of_length_le (Nat.le_refl _)]; simp
  dsimp only at g2
  rw [he] at g2
  refine ⟨_, H2, v', hR, { g2 with slots := fun i y hy => ?_ }, ha', fun b o hb => g1 _ _ (hHH _ _ hb), fun i p hp hm => ⟨hp, (hfr i p hp hm).2⟩⟩
  simp only [get] at hy
  cases hb : Nat.beq t i with
  | true =>
    have := Nat.eq_of_beq_eq_true hb
    subst this
    simp only [hb, cond_true, Option.some.injEq] at hy
    subst hy
    have := (gm'.slots t (.v v) (by simp [get])).v_eq
    rw [this]
    exact UsR.list (w := w') g4 (fun b hb => g3 b hb)
  | false =>
    simp only [hb, cond_false] at hy
    exact (gm'.slots i y (by simp [get, hb, hy])).mono g1

theorem AX.of_yp {o : Oper} {x : T} (hy : Yp E.P n s o x) {d : Tmp} (hod : o.dst = some d) (hd : ∀ d', some d = some d' → d' < n) (k : R ⟨(d, x) :: s, ob⟩) : AX E n C [] o ⟨s, ob⟩ R := by
  intro H a w gm
  obtain ⟨v, hv, hrun⟩ := hy H a gm.sr
  simp only [Oper.wp, hrun w, Oper.upon]
  refine ⟨_, H, v, k, ?_, rfl, fun _ _ h => h, fun i p hp _ => ⟨hp, by intros; trivial⟩⟩
  rw [hod]
  exact gm.put (dst := some d) hv hd

/-- A slice of some values that nobody will write. -/
theorem AX.bsF {t : TypeId} {m : Nat} {parts : Array (Nat × Operand)} {ti ei : TI} {e : Nat} {z : Value} {l : List T} {sz : Nat} {es : List (List T)} {d : Tmp}
    (ht : E.tab t = some ti) (hk : ti.kind = .slice e) (he : E.tab e = some ei) (hz : ei.zero = some z) (h1 : z.cells.toList.all (·.oneCell') = true) (hsz : ei.size = sz) (hzs : z.cells.size = sz) (hb : Nat.ble (m * sz) 16777216 = true)
    (hm : Nat.ble m 16777216 = true) (hf : fillT s (fun i => some (i * sz, sz)) (repT (zeroT z) m) parts.toList = some l) (hr : rows sz m l = es) (hd : d < n)
    (k : R ⟨(d, .list sz es) :: s, ob⟩) :
    AX E n C [] ⟨some d, .buildSlice t m parts, ty, pos, aft, g⟩ ⟨s, ob⟩ R :=
  AX.frzLast (t := d) (AX.buildSlice ht hk he hz h1 hsz hzs hb hm hf hr (fun _ h => by cases h; exact hd) (fun b => ⟨b, e, sz, es, rfl, k⟩))

def PAll (F : Nat × List Nat → Prop) : List (Nat × List Nat) → Prop
  | [] => True
  | p :: l => F p ∧ PAll F l

theorem PAll.get {F : Nat × List Nat → Prop} : ∀ {l : List (Nat × List Nat)}, PAll F l → ∀ p, p ∈ l → F p
  | [], _, _, h => by simp at h
  | q :: l, ⟨h1, h2⟩, p, h => by
    rcases List.mem_cons.1 h with rfl | h
    · exact h1
    · exact PAll.get h2 p h

theorem get_done {A : List (Nat × List Nat)} {dst : Nat → Tmp} {vals : Nat → T} {s : Slots} (hj : (A.all fun p => A.all fun q => Nat.beq p.1 q.1 || !Nat.beq (dst p.1) (dst q.1)) = true) :
    ∀ (D : List Nat), (∀ d, d ∈ D → ∃ p, p ∈ A ∧ p.1 = d) → ∀ d, d ∈ D → get (D.map (fun d => (dst d, vals d)) ++ s) (dst d) = some (vals d)
  | [], _, d, h => by simp at h
  | d0 :: D, hA, d, h => by
    simp only [List.map_cons, List.cons_append, get]
    cases hb : Nat.beq (dst d0) (dst d) with
    | true =>
      obtain ⟨p, hp, rfl⟩ := hA d0 (by simp)
      obtain ⟨q, hq, rfl⟩ := hA d h
      have := List.all_eq_true.1 (List.all_eq_true.1 hj p hp) q hq
      rw [hb] at this
      have : p.1 = q.1 := Nat.eq_of_beq_eq_true (by simpa using this)
      rw [this]; rfl
    | false =>
      have hne : d ≠ d0 := fun he => by rw [he] at hb; simp at hb
      rw [cond_false]
      exact get_done hj D (fun x hx => hA x (by simp [hx])) d (by simpa [hne] using h)

theorem get_base {A : List (Nat × List Nat)} {dst : Nat → Tmp} {vals : Nat → T} {s : Slots} (hs : (A.all fun p => (get s (dst p.1)).isNone) = true) :
    ∀ (D : List Nat), (∀ d, d ∈ D → ∃ p, p ∈ A ∧ p.1 = d) → ∀ i x, get s i = some x → get (D.map (fun d => (dst d, vals d)) ++ s) i = some x
  | [], _, i, x, h => by simpa using h
  | d0 :: D, hA, i, x, h => by
    simp only [List.map_cons, List.cons_append, get]
    cases hb : Nat.beq (dst d0) i with
    | true =>
      obtain ⟨p, hp, rfl⟩ := hA d0 (by simp)
      have := List.all_eq_true.1 hs p hp
      rw [Nat.eq_of_beq_eq_true hb, h] at this
      simp at this
    | false => rw [cond_false]; exact get_base hs D (fun x hx => hA x (by simp [hx])) i x h

theorem Sub.of_get : ∀ {l s : Slots}, (∀ p, p ∈ l → Aw.get s p.1 = some p.2) → Sub l s
  | [], _, _ => trivial
  | (i, x) :: _, _, h => ⟨h (i, x) (by simp), Sub.of_get fun p hp => h p (by simp [hp])⟩

/-- Sub of a list of slots with names that are not hidden. -/
theorem Sub.deps {A : List (Nat × List Nat)} {dst : Nat → Tmp} {vals : Nat → T} {s : Slots} (hj : (A.all fun p => A.all fun q => Nat.beq p.1 q.1 || !Nat.beq (dst p.1) (dst q.1)) = true)
    {D ds : List Nat} (hD : ∀ d, d ∈ D → ∃ p, p ∈ A ∧ p.1 = d) (hds : ∀ d, d ∈ ds → d ∈ D) : Sub (ds.map fun d => (dst d, vals d)) (D.map (fun d => (dst d, vals d)) ++ s) := by
  refine Sub.of_get fun p hp => ?_
  obtain ⟨d, hd, rfl⟩ := List.mem_map.1 hp
  exact get_done hj D hD d (hds d hd)

theorem AP.par {A : List (Nat × List Nat)} {r : PL} {so : Slots} {prot : List Nat} {pobjs : List Ob} (dst : Nat → Tmp) (Φ : Nat → T → Prop) (Inv : List Ob → Prop)
    (hj : (A.all fun p => A.all fun q => Nat.beq p.1 q.1 || !Nat.beq (dst p.1) (dst q.1)) = true)
    (s1 : Slots) (hs1 : ∀ i x, get s1 i = some x → get s i = some x) (hs : (A.all fun p => (get s1 (dst p.1)).isNone) = true)
    (h0 : Inv ob) (hI : ∀ ob, Inv ob → ∀ p, p ∈ pobjs → ∃ i, prot.contains i = true ∧ ob[i]? = some p)
    (hstep : PAll (fun p => ∃ o md, ops[p.1]? = some o ∧ o.guard = none ∧ o.dst = some (dst p.1) ∧ (prot.all fun i => !md.contains i) = true ∧
      ∀ (vals : Nat → T) (ob : List Ob), Inv ob → (∀ d, d ∈ p.2 → Φ d (vals d)) → AX E n C md o ⟨p.2.map (fun d => (dst d, vals d)) ++ s1, ob⟩ (fun σ' => ∃ x, get σ'.slots (dst p.1) = some x ∧ Φ p.1 x ∧ Inv σ'.objs)) A)
    (k : ∀ (vals : Nat → T) ob', Inv ob' → (∀ p, p ∈ A → Φ p.1 (vals p.1)) → AP E n C ops prot pobjs r [] ⟨A.map (fun p => (dst p.1, vals p.1)) ++ s1, ob'⟩ R) :
    AP E n C ops prot pobjs (.par A r) so ⟨s, ob⟩ R := by
  intro Hs ws H a w sr wr ag hH hpp gm
  refine ⟨fun D a w => ∃ (vals : Nat → T) (ob : List Ob) (H : GH), Inv ob ∧ (∀ d, d ∈ D → Φ d (vals d)) ∧ (∀ d, d ∈ D → ∃ p, p ∈ A ∧ p.1 = d) ∧ (∀ b o, Hs b = some o → H b = some o) ∧
    Gam n C ⟨D.map (fun d => (dst d, vals d)) ++ s1, ob⟩ H a w ∧ Agree Hs pobjs ws w, ?_, ?_, ?_⟩
  · exact ⟨fun _ => .tup [], ob, H, h0, by simp, by simp, hH, { gm with slots := fun i x h => gm.slots i x (hs1 i x (by simpa using h)) }, ag⟩
  · rintro D j ds a w hm hds hjD ⟨vals, ob, H, hi, hΦ, hDA, hH, gm, ag⟩
    obtain ⟨o, md, ho, hg, hdst, hmd, hax⟩ := hstep.get _ hm
    have hmd' : ∀ i, prot.contains i = true → md.contains i = false := fun i hi => by
      have := (List.all_eq_true.1 hmd) i (by simpa using hi)
      simpa using this
    have hsub : ∀ i x, get (ds.map (fun d => (dst d, vals d)) ++ s1) i = some x → get (D.map (fun d => (dst d, vals d)) ++ s1) i = some x := by
      intro i x h
      have hb := get_base (vals := vals) hs D hDA
      have hd := Sub.deps (vals := vals) (s := s1) hj hDA hds
      generalize ds.map (fun d => (dst d, vals d)) = l at h hd
      induction l with
      | nil => exact hb i x (by simpa using h)
      | cons p l ih =>
        obtain ⟨q, y⟩ := p
        obtain ⟨h1, h2⟩ := hd
        simp only [List.cons_append, get] at h
        cases hbq : Nat.beq q i with
        | true =>
          rw [hbq, cond_true] at h
          cases h
          rw [← Nat.eq_of_beq_eq_true hbq]; exact h1
        | false => rw [hbq, cond_false] at h; exact ih h h2
    have hax := hax vals ob hi (fun d hd => hΦ d (hds d hd)) H a w { gm with slots := fun i x h => gm.slots i x (hsub i x h) }
    simp only [wpOp, ho]
    rw [if_pos (by simp [Region.wanted, hg])]
    refine .inl (Oper.wp_monoQ ?_ (fun _ _ _ h => h.elim) hax)
    rintro a' w' ⟨σ', H', v, ⟨x, hget, hx, hi'⟩, gm', ha', hHH, hfr⟩
    have ag' : Agree Hs pobjs ws w' := by
      refine ⟨fun b o hb => gm'.held _ _ (hHH _ _ (hH _ _ hb)), fun p hpp b hb => ?_⟩
      obtain ⟨i, hpi, hoi⟩ := hI ob hi p hpp
      exact ((hfr i p hoi (hmd' i hpi)).2 b hb).trans (ag.2 p hpp b hb)
    have hcong : D.map (fun d => (dst d, if d = j then x else vals d)) = D.map (fun d => (dst d, vals d)) := by
      refine List.map_congr_left fun d hd => ?_
      rw [if_neg (show ¬ d = j from fun h => hjD (by rw [← h]; exact hd))]
    refine ⟨ag', fun d => if d = j then x else vals d, σ'.objs, H', hi', ?_, ?_, fun b o hb => hHH _ _ (hH _ _ hb), { gm' with slots := ?_ }, ag'⟩
    · intro d hd
      rcases List.mem_cons.1 hd with rfl | hd
      · simpa using hx
      · dsimp only
        rw [if_neg (show ¬ d = j from fun h => hjD (by rw [← h]; exact hd))]; exact hΦ d hd
    · intro d hd
      rcases List.mem_cons.1 hd with rfl | hd
      · exact ⟨_, hm, rfl⟩
      · exact hDA d hd
    · intro i y hy
      simp only [List.map_cons, List.cons_append, get, if_pos] at hy
      rw [hcong] at hy
      cases hb : Nat.beq (dst j) i with
      | true =>
        rw [hb, cond_true] at hy
        cases hy
        rw [← Nat.eq_of_beq_eq_true hb]
        exact gm'.slots _ _ hget
      | false =>
        rw [hb, cond_false] at hy
        have hne : dst j ≠ i := fun h => by rw [h] at hb; simp at hb
        rw [ha', hdst]
        simp only [Act.put]
        have he : (a.tmps.setIfInBounds (dst j) v).getD i undef = a.tmps.getD i undef := by
          simp [Array.getD_eq_getD_getElem?, Array.getElem?_setIfInBounds_ne hne]
        rw [he]; exact (gm.slots i y hy).mono hHH
  · rintro D a w hall ⟨vals, ob, H, hi, hΦ, hDA, hH, gm, ag⟩
    refine k vals ob hi (fun p hp => hΦ _ (hall p hp)) Hs ws H a w ⟨gm.size, fun i x h => by simp [get] at h⟩ wr ag hH (hI ob hi) { gm with slots := fun i x h => gm.slots i x ?_ }
    have hb := get_base (vals := vals) hs D hDA
    have hd : Sub (A.map fun p => (dst p.1, vals p.1)) (D.map (fun d => (dst d, vals d)) ++ s1) := Sub.of_get fun q hq => by
      obtain ⟨p, hp, rfl⟩ := List.mem_map.1 hq
      exact get_done hj D hDA p.1 (hall p hp)
    generalize A.map (fun p => (dst p.1, vals p.1)) = l at h hd
    induction l with
    | nil => exact hb i x (by simpa using h)
    | cons p l ih =>
      obtain ⟨q, y⟩ := p
      obtain ⟨h1, h2⟩ := hd
      simp only [List.cons_append, get] at h
      cases hbq : Nat.beq q i with
      | true =>
        rw [hbq, cond_true] at h
        cases h
        rw [← Nat.eq_of_beq_eq_true hbq]; exact h1
      | false => rw [hbq, cond_false] at h; exact ih h h2

end
end Go.Aw
