/- What operations that read or change memory do, at abstract values; regions in order and regions that draw their order. No condition. -/
import Derived.Test.YtnmiidccebhiaaaAwPure
import Derived.Laws.MakeOwn
import Derived.Laws.CopyRow
import Derived.Laws.AppendOwn
import Derived.Laws.AppendOwnNone
namespace Go.Aw

section
variable {E : Env} {n : Nat} {C : Ctx} {σ : St} {dst : Option Tmp} {ty : TypeId} {pos : String} {aft : Array Edge} {g : Option (Nat × Bool)}

theorem Gam.sr {H : GH} {a : Act} {w : World} (h : Gam n C σ H a w) : SR n σ.slots H a := ⟨h.size, h.slots⟩
theorem Gam.wr {H : GH} {a : Act} {w : World} (h : Gam n C σ H a w) : WR σ.objs H w := ⟨h.objs, h.held⟩

/-! ### Loads -/

theorem partT_cells {H : GH} {cs : Array Value} {base : Nat} {e : List T} {fi : TI} {j : Nat} {y : T} (hsz : base + e.length ≤ cs.size)
    (h1 : ∀ (j : Nat) (x : T), e[j]? = some x → (cs.getD (base + j) undef).oneCell' = true) (hv : ∀ (j : Nat) (x : T), e[j]? = some x → VR H (cs.getD (base + j) undef) x)
    (hp : partT fi e j = some y) :
    (fi.isAgg = true → j + fi.size ≤ e.length ∧ VR H (.agg ((List.range fi.size).map fun i => cs.getD (base + j + i) undef).toArray) y) ∧
    (fi.isAgg = false → j < e.length ∧ VR H (cs.getD (base + j) undef) y) := by
  unfold partT at hp
  refine ⟨fun ha => ?_, fun ha => ?_⟩
  · simp only [ha, cond_true] at hp
    have key : j + fi.size ≤ e.length ∧ y = .agg ((e.drop j).take fi.size) := by
      cases hb : (Nat.beq j 0 && Nat.beq fi.size e.length) with
      | true =>
        simp only [hb, cond_true, Option.some.injEq] at hp
        simp only [Bool.and_eq_true] at hb
        have h0 := Nat.eq_of_beq_eq_true hb.1
        have h2 := Nat.eq_of_beq_eq_true hb.2
        subst h0
        exact ⟨by omega, by rw [← hp, h2]; simp⟩
      | false =>
        simp only [hb, cond_false] at hp
        cases hc : Nat.ble (j + fi.size) e.length with
        | false => simp [hc] at hp
        | true =>
          simp only [hc, cond_true, Option.some.injEq] at hp
          exact ⟨Nat.le_of_ble_eq_true hc, hp.symm⟩
    obtain ⟨k1, rfl⟩ := key
    refine ⟨k1, .agg _ _ (by simp; omega) ?_ ?_⟩
    all_goals
      intro i x hx
      have hi : i < fi.size := by
        have := (List.getElem?_eq_some_iff.1 hx).1
        simp at this; omega
      rw [List.getElem?_take_of_lt hi, List.getElem?_drop] at hx
      have he : (((List.range fi.size).map fun i => cs.getD (base + j + i) undef).toArray).getD i undef = cs.getD (base + (j + i)) undef := by
        simp [Array.getD_eq_getD_getElem?, hi, Nat.add_assoc]
      rw [he]
      first | exact h1 _ _ hx | exact hv _ _ hx
  · simp only [ha, cond_false] at hp
    exact ⟨(List.getElem?_eq_some_iff.1 hp).1, hv _ _ hp⟩

def loadVal (fi : TI) (cs : Array Value) (o : Nat) : Value :=
  if fi.isAgg then .agg ((List.range fi.size).map fun i => cs.getD (o + i) undef).toArray else cs.getD o undef

theorem cell?_of {w : World} {b o : Nat} {cs : Array Value} {ty : TypeId} {fr : Nat × Nat} (h : w.heap[b]? = some (.cells cs ty fr)) (ho : o < cs.size) :
    w.cell? ⟨b, o, none⟩ = some (cs.getD o undef) := by
  simp [World.cell?, h, Array.getD, ho]

theorem run_loadVar_part {P : Program} {H : GH} {w : World} {t : TypeId} {fi : TI} (ht : tiOf P t = some fi) {b base j : Nat} {cs : Array Value} {ty : TypeId} {fr : Nat × Nat} {e : List T} {y : T}
    (hb : w.heap[b]? = some (.cells cs ty fr)) (hsz : base + e.length ≤ cs.size)
    (h1 : ∀ (j : Nat) (x : T), e[j]? = some x → (cs.getD (base + j) undef).oneCell' = true) (hv : ∀ (j : Nat) (x : T), e[j]? = some x → VR H (cs.getD (base + j) undef) x)
    (hp : partT fi e j = some y) : (loadVar t ⟨b, base + j, none⟩).run P w = .ok (loadVal fi cs (base + j)) w := by
  unfold loadVal
  obtain ⟨p1, p2⟩ := partT_cells hsz h1 hv hp
  cases ha : fi.isAgg with
  | true =>
    obtain ⟨k1, _⟩ := p1 ha
    have hl := run_loadCells (P := P) w ⟨b, base + j, none⟩ fi.size (fun i => cs.getD (base + j + i) undef) (fun i hi => by
      rw [Addr.add_mk]; exact cell?_of hb (by omega))
    simp [loadVar, run_isAgg_ti ht, ha, run_sizeOf_ti ht, hl]
  | false =>
    obtain ⟨k1, _⟩ := p2 ha
    simp [loadVar, run_isAgg_ti ht, ha, cell?_of hb (show base + j < cs.size by omega)]

theorem Yd.loadE {t : TypeId} {x : Operand} {cs : List T} {fi : TI} {y : T} {objs : List (Nat × Ob)} {s : Slots} (ht : E.tab t = some fi) (hx : evalT s x = some (.eptr cs)) (hp : partT fi cs 0 = some y) :
    Yd E.P n s objs ⟨dst, .load t x, ty, pos, aft, g⟩ y := by
  intro H a w r wr
  have h := r.eval hx
  generalize hv : a.eval x = v at h
  cases h with
  | eptr b off l cs' ty' fr hb hsz h1 hvs =>
    obtain ⟨p1, p2⟩ := partT_cells hsz h1 hvs hp
    refine ⟨loadVal fi cs' off, ?_, fun w' ag => ?_⟩
    rotate_left
    · have := run_loadVar_part (j := 0) (E.ok _ _ ht) (ag.1 _ _ hb) hsz h1 hvs hp
      simp only [execOp, hv, Instr.loadAt, Instr.sureAddr, Sem.run_bind, Sem.run_pure, Result.andThen_ok]
      simp only [Nat.add_zero] at this
      rw [this]
      first | done | rfl
    · cases ha : fi.isAgg with
      | true => simpa [loadVal, ha] using (p1 ha).2
      | false => simpa [loadVal, ha] using (p2 ha).2

theorem OR.cells {H : GH} {w : World} {b tt sz cap : Nat} {es : List (List T)} (h : OR H w b (.arr tt sz cap es)) {i : Nat} {e : List T} (he : es[i]? = some e) :
    ∃ cs, w.heap[b]? = some (.cells cs tt (0, 0)) ∧ i * sz + e.length ≤ cs.size ∧ e.length = sz ∧
      (∀ (j : Nat) (x : T), e[j]? = some x → (cs.getD (i * sz + j) undef).oneCell' = true) ∧ (∀ (j : Nat) (x : T), e[j]? = some x → VR H (cs.getD (i * sz + j) undef) x) := by
  obtain ⟨cs, a1, a2, a3, a4, a5, a6⟩ := h
  refine ⟨cs, a1, ?_, a5 i e he, fun j x hx => (a6 i e he j x hx).1, fun j x hx => (a6 i e he j x hx).2⟩
  have hi : i < es.length := (List.getElem?_eq_some_iff.1 he).1
  have : (i + 1) * sz ≤ cap * sz := Nat.mul_le_mul_right _ (by omega)
  rw [Nat.succ_mul] at this
  rw [a5 i e he, a2]; exact this

theorem Yd.loadO (k : Nat) {t : TypeId} {x : Operand} {fi : TI} {y : T} {objs : List (Nat × Ob)} {s : Slots} {b off tt sz cap : Nat} {es : List (List T)} (i j : Nat) {e : List T}
    (ht : E.tab t = some fi) (hx : evalT s x = some (.v (.pointer (some ⟨b, off, none⟩))))
    (hk : objs[k]? = some (b, .arr tt sz cap es)) (he : es[i]? = some e) (ho : off = i * sz + j) (hp : partT fi e j = some y) :
    Yd E.P n s objs ⟨dst, .load t x, ty, pos, aft, g⟩ y := by
  intro H a w r wr
  have hv := r.evalv hx
  have hor := wr.objs _ (List.mem_of_getElem? hk)
  obtain ⟨cs, a1, a2, a3, h1, hvs⟩ := OR.cells hor he
  obtain ⟨p1, p2⟩ := partT_cells a2 h1 hvs hp
  subst ho
  refine ⟨loadVal fi cs (i * sz + j), ?_, fun w' ag => ?_⟩
  rotate_left
  · have hb := ag.2 _ (List.mem_of_getElem? hk)
    have := run_loadVar_part (j := j) (E.ok _ _ ht) (hb.trans a1) a2 h1 hvs hp
    simp only [execOp, hv, Instr.loadAt, Instr.sureAddr, Sem.run_bind, Sem.run_pure, Result.andThen_ok, this]
    first | done | rfl
  · cases ha : fi.isAgg with
    | true => simpa [loadVal, ha] using (p1 ha).2
    | false => simpa [loadVal, ha] using (p2 ha).2

/-! ### Regions in the order of the text -/

theorem AO.still {ops : Array Oper} {o : Oper} {l : List Oper} {R : St → Prop} {x : T} (hy : Yd E.P n σ.slots σ.objs o x) (hg : o.guard = none) (hd : ∀ d, o.dst = some d → d < n)
    (k : AO E n C ops l (σ.put o.dst x) R) : AO E n C ops (o :: l) σ R := by
  intro H a w gm
  obtain ⟨v, hv, hr⟩ := hy H a w gm.sr gm.wr
  simp only [wpL]
  rw [if_pos (by simp [Region.wanted, hg])]
  simp only [Oper.wp, hr w ⟨gm.held, fun _ _ => rfl⟩, Oper.upon]
  exact k H _ w (gm.put hv hd)

theorem dst_none {n : Nat} : ∀ d, (none : Option Tmp) = some d → d < n := fun _ h => by cases h
theorem dst_some {n d : Nat} (h : Nat.blt d n = true) : ∀ d', some d = some d' → d' < n := fun d' he => by
  cases he; exact Nat.le_of_ble_eq_true h

theorem yielded_of {H : GH} {a : Act} {s : Slots} (r : SR n s H a) {ops : Array Oper} {j : Nat} {t : Tmp} {b : Bool} (hj : (ops[j]?).bind (·.dst) = some t) (hs : get s t = some (.v (.bool b))) :
    yielded ops a.tmps j = some b := by
  have hv := (r.slots t _ hs).v_eq
  have ht : t < a.tmps.size := by
    apply Classical.byContradiction
    intro hc
    rw [Array.getD_eq_getD_getElem?, Array.getElem?_eq_none (Nat.le_of_not_lt hc)] at hv
    simp [undef] at hv
  have : a.tmps[t]? = some (.bool b) := by
    rw [Array.getD_eq_getD_getElem?, Array.getElem?_eq_getElem ht] at hv
    rw [Array.getElem?_eq_getElem ht]; simpa using hv
  simp [yielded, hj, this]

/-- A guarded operation in the order of the text: the case in which it is carried out (stated for the operation without its guard), and the other. -/
theorem AO.guard {ops : Array Oper} {op : Op} {l : List Oper} {R : St → Prop} {j : Nat} {want b : Bool} {t : Tmp}
    (hj : (ops[j]?).bind (·.dst) = some t) (hs : get σ.slots t = some (.v (.bool b))) (hd : ∀ d, dst = some d → d < n)
    (h1 : b = want → AO E n C ops (⟨dst, op, ty, pos, aft, none⟩ :: l) σ R)
    (h2 : b = !want → AO E n C ops l (σ.put dst (.v undef)) R) : AO E n C ops (⟨dst, op, ty, pos, aft, some (j, want)⟩ :: l) σ R := by
  intro H a w gm
  have hy := yielded_of gm.sr hj hs
  simp only [wpL]
  by_cases hb : b = want
  · rw [if_pos (by simp [Region.wanted, hy, hb])]
    have := h1 hb H a w gm
    simp only [wpL] at this
    rw [if_pos (by simp [Region.wanted])] at this
    exact this
  · rw [if_neg (by simp [Region.wanted, hy, hb])]
    have hb' : b = !want := by cases b <;> cases want <;> simp_all
    exact h2 hb' H _ w (gm.put (.v _) hd)

/-! ### Regions that draw their order: a plan -/

/-- The order in which the operations are gone through: one that only computes or reads may be taken first; one that acts is taken where no other is ready, or both orders are gone through. -/
inductive PL where
  | nil
  | still (i : Nat) (r : PL)
  | act (i : Nat) (r : PL)
  | two (i j : Nat) (r1 r2 : PL)

def planOk (ops : Array Oper) : PL → Array Bool → Bool
  | .nil, listed => (Region.ready .any ops listed).isEmpty
  | .still i r, listed => Region.free .any ops listed i && (Region.ready .any ops listed).contains i && planOk ops r (listed.setIfInBounds i true)
  | .act i r, listed => Region.ready .any ops listed == [i] && planOk ops r (listed.setIfInBounds i true)
  | .two i j r1 r2, listed => Region.ready .any ops listed == [i, j] && planOk ops r1 (listed.setIfInBounds i true) && planOk ops r2 (listed.setIfInBounds j true)

def PL.depth : PL → Nat
  | .nil => 0
  | .still _ r => r.depth + 1
  | .act _ r => r.depth + 1
  | .two _ _ r1 r2 => max r1.depth r2.depth + 1

def planB (ops : Array Oper) (pl : PL) : Bool :=
  Region.noSelect ops && Nat.ble pl.depth ops.size && planOk ops pl (Array.replicate ops.size false)

def wpPlan (P : Program) (ops : Array Oper) (Q : Exit → Act → World → Prop) (S : World → Prop) : PL → Act → World → Prop
  | .nil, a, w => Q .normal a w
  | .still i r, a, w => ∃ o v, ops[i]? = some o ∧ YieldsIf P ops S o v a ∧ S w ∧ wpPlan P ops Q S r (a.put o.dst v) w
  | .act i r, a, w => wpOp P ops Q i (fun a' w' => S w' ∧ wpPlan P ops Q S r a' w') a w
  | .two i j r1 r2, a, w => wpOp P ops Q i (fun a' w' => S w' ∧ wpPlan P ops Q S r1 a' w') a w ∧ wpOp P ops Q j (fun a' w' => S w' ∧ wpPlan P ops Q S r2 a' w') a w

theorem wpAnyH_plan {P : Program} {ops : Array Oper} {Q : Exit → Act → World → Prop} {S : World → Prop} (hsel : Region.noSelect ops = true) (hQ : ∀ c a w, ¬ Q (.panic c) a w) :
    ∀ (pl : PL) (fuel : Nat) (listed : Array Bool) (a : Act) (w : World), pl.depth ≤ fuel → planOk ops pl listed = true → wpPlan P ops Q S pl a w → wpAnyH P .any ops Q S fuel listed a w := by
  intro pl
  induction pl with
  | nil =>
    intro fuel listed a w _ hp h
    exact wpAnyH_done (by simpa [planOk] using hp) h fuel
  | still i r ih =>
    intro fuel listed a w hl hp h
    cases fuel with
    | zero => simp [PL.depth] at hl
    | succ fuel =>
      simp only [planOk, Bool.and_eq_true] at hp
      obtain ⟨⟨hf, hr⟩, hp'⟩ := hp
      obtain ⟨o, v, ho, hy, hS, hrest⟩ := h
      exact wpAnyH_take ho hsel hf hr (fun c a w hq => absurd hq (hQ _ _ _)) hy hS (ih fuel _ _ _ (by simp [PL.depth] at hl; omega) hp' hrest)
  | act i r ih =>
    intro fuel listed a w hl hp h
    cases fuel with
    | zero => simp [PL.depth] at hl
    | succ fuel =>
      simp only [planOk, Bool.and_eq_true, beq_iff_eq] at hp
      obtain ⟨hr, hp'⟩ := hp
      refine wpAnyH_all hr (by simp) (fun j hj => ?_)
      simp only [List.mem_singleton] at hj
      subst hj
      exact wpOp_mono (fun a' w' h' => ⟨h'.1, ih fuel _ _ _ (by simp [PL.depth] at hl; omega) hp' h'.2⟩) h
  | two i j r1 r2 ih1 ih2 =>
    intro fuel listed a w hl hp h
    cases fuel with
    | zero => simp [PL.depth] at hl
    | succ fuel =>
      simp only [planOk, Bool.and_eq_true, beq_iff_eq] at hp
      obtain ⟨⟨hr, hp1⟩, hp2⟩ := hp
      simp only [PL.depth] at hl
      refine wpAnyH_all hr (by simp) (fun k hk => ?_)
      simp only [List.mem_cons, List.not_mem_nil, or_false] at hk
      rcases hk with rfl | rfl
      · exact wpOp_mono (fun a' w' h' => ⟨h'.1, ih1 fuel _ _ _ (by omega) hp1 h'.2⟩) h.1
      · exact wpOp_mono (fun a' w' h' => ⟨h'.1, ih2 fuel _ _ _ (by omega) hp2 h'.2⟩) h.2

theorem wp_region_plan {P : Program} {id : Nat} {ops : Array Oper} {Q : Exit → Act → World → Prop} {S : World → Prop} {a : Act} {w : World} (hm : P.follows .mixedOrders = true) (pl : PL)
    (hB : planB ops pl = true) (hQ : ∀ c a w, ¬ Q (.panic c) a w) (h : wpPlan P ops Q S pl a w.drew) : (Code.region id ops true).wp P Q a w := by
  simp only [planB, Bool.and_eq_true] at hB
  obtain ⟨⟨h1, h2⟩, h3⟩ := hB
  exact wp_region_held hm (wpAnyH_plan h1 hQ pl ops.size _ a _ (Nat.le_of_ble_eq_true h2) h3 h)

def era (s : Slots) : Option Tmp → Slots
  | none => s
  | some d => s.filter fun p => !Nat.beq p.1 d

theorem get_filter_ne {d i : Nat} : ∀ {s : Slots} {x : T}, get (s.filter fun p => !Nat.beq p.1 d) i = some x → i ≠ d ∧ get s i = some x
  | [], x, h => by simp [get] at h
  | (k, y) :: l, x, h => by
    cases hk : Nat.beq k d with
    | true =>
      simp only [List.filter, hk, Bool.not_true] at h
      obtain ⟨h1, h2⟩ := get_filter_ne h
      have : k = d := Nat.eq_of_beq_eq_true hk
      refine ⟨h1, ?_⟩
      have hki : Nat.beq k i = false := by
        cases hb : Nat.beq k i with
        | false => rfl
        | true => exact absurd (by rw [← this, Nat.eq_of_beq_eq_true hb]) h1
      simp [get, hki, h2]
    | false =>
      simp only [List.filter, hk, Bool.not_false, get] at h
      cases hb : Nat.beq k i with
      | true =>
        simp only [hb, cond_true] at h
        have hki := Nat.eq_of_beq_eq_true hb
        refine ⟨fun he => ?_, by simp [get, hb, h]⟩
        rw [← he, ← hki] at hk
        simp at hk
      | false =>
        simp only [hb, cond_false] at h
        obtain ⟨h1, h2⟩ := get_filter_ne h
        exact ⟨h1, by simp [get, hb, h2]⟩

theorem SR.era {s : Slots} {H : GH} {a : Act} (r : SR n s H a) (dst : Option Tmp) (v : Value) : SR n (era s dst) H (a.put dst v) := by
  cases dst with
  | none => exact r
  | some d =>
    refine ⟨by simp [Act.put, r.size], fun i x h => ?_⟩
    obtain ⟨h1, h2⟩ := get_filter_ne h
    have he : (a.tmps.setIfInBounds d v).getD i undef = a.tmps.getD i undef := by
      simp [Array.getD_eq_getD_getElem?, Array.getElem?_setIfInBounds_ne (Ne.symm h1)]
    simp only [Act.put]
    rw [he]; exact r.slots i x h2

def putS (s : Slots) (dst : Option Tmp) (x : T) : Slots :=
  match dst with
  | none => s
  | some d => (d, x) :: s

theorem SR.put {s : Slots} {H : GH} {a : Act} (r : SR n s H a) {dst : Option Tmp} {v : Value} {x : T} (hv : VR H v x) (hd : ∀ d, dst = some d → d < n) : SR n (putS s dst x) H (a.put dst v) := by
  cases dst with
  | none => exact r
  | some d =>
    refine ⟨by simp [Act.put, r.size], fun i y h => ?_⟩
    simp only [putS, get] at h
    simp only [Act.put]
    cases hb : Nat.beq d i with
    | true =>
      have := Nat.eq_of_beq_eq_true hb
      subst this
      simp only [hb, cond_true, Option.some.injEq] at h
      subst h
      have : d < a.tmps.size := by rw [r.size]; exact hd d rfl
      simpa [Array.getD, this] using hv
    | false =>
      simp only [hb, cond_false] at h
      have hne : d ≠ i := fun h => by rw [h] at hb; simp at hb
      have he : (a.tmps.setIfInBounds d v).getD i undef = a.tmps.getD i undef := by
        simp [Array.getD_eq_getD_getElem?, Array.getElem?_setIfInBounds_ne hne]
      rw [he]; exact r.slots i y h

/-- The rest of a plan: so are the slots as they were known at the region's beginning, pobjs the objects (at the places prot) that nothing in the region changes. -/
def AP (E : Env) (n : Nat) (C : Ctx) (ops : Array Oper) (prot : List Nat) (pobjs : List (Nat × Ob)) (pl : PL) (so : Slots) (σ : St) (R : St → Prop) : Prop :=
  ∀ Hs ws H a w, SR n so Hs a → WR pobjs Hs ws → Agree Hs pobjs ws w → (∀ b o, Hs b = some o → H b = some o) →
    (∀ p, p ∈ pobjs → ∃ i, prot.contains i = true ∧ σ.objs[i]? = some p) → Gam n C σ H a w →
    wpPlan E.P ops (fun e a' w' => e = .normal ∧ ∃ σ' H', R σ' ∧ Gam n C σ' H' a' w') (Agree Hs pobjs ws) pl a w

theorem AP.nil {ops : Array Oper} {prot : List Nat} {pobjs : List (Nat × Ob)} {so : Slots} {R : St → Prop} (h : R σ) : AP E n C ops prot pobjs .nil so σ R :=
  fun _ _ H _ _ _ _ _ _ _ gm => ⟨rfl, σ, H, h, gm⟩

theorem AP.old {ops : Array Oper} {prot : List Nat} {pobjs : List (Nat × Ob)} {so : Slots} {R : St → Prop} {i : Nat} {r : PL} {o : Oper} {x : T} (ho : ops[i]? = some o)
    (hy : Yd E.P n so pobjs o x) (hg : o.guard = none) (hd : ∀ d, o.dst = some d → d < n) (k : AP E n C ops prot pobjs r (putS so o.dst x) (σ.put o.dst x) R) :
    AP E n C ops prot pobjs (.still i r) so σ R := by
  intro Hs ws H a w sr wr ag hH hp gm
  obtain ⟨v, hv, hrun⟩ := hy Hs a ws sr wr
  refine ⟨o, v, ho, .inl ⟨by simp [Region.wanted, hg], hrun⟩, ag, ?_⟩
  exact k Hs ws H _ w (sr.put hv hd) wr ag hH (by cases h : o.dst <;> simpa [St.put, h] using hp) (gm.put (hv.mono hH) hd)

theorem AP.new {ops : Array Oper} {prot : List Nat} {pobjs : List (Nat × Ob)} {so : Slots} {R : St → Prop} {i : Nat} {r : PL} {o : Oper} {x : T} (ho : ops[i]? = some o)
    (hy : Yp E.P n σ.slots o x) (hg : o.guard = none) (hd : ∀ d, o.dst = some d → d < n) (k : AP E n C ops prot pobjs r (era so o.dst) (σ.put o.dst x) R) :
    AP E n C ops prot pobjs (.still i r) so σ R := by
  intro Hs ws H a w sr wr ag hH hp gm
  obtain ⟨v, hv, hrun⟩ := hy H a gm.sr
  refine ⟨o, v, ho, .inl ⟨by simp [Region.wanted, hg], fun w' _ => hrun w'⟩, ag, ?_⟩
  exact k Hs ws H _ w (sr.era _ _) wr ag hH (by cases h : o.dst <;> simpa [St.put, h] using hp) (gm.put hv hd)

theorem AP.act {ops : Array Oper} {prot : List Nat} {pobjs : List (Nat × Ob)} {so : Slots} {R : St → Prop} {i : Nat} {r : PL} {o : Oper} (md : List Nat) (ho : ops[i]? = some o)
    (hg : o.guard = none) (hm : (prot.all fun i => !md.contains i) = true) (h : AX E n C md o σ (fun σ' => AP E n C ops prot pobjs r (era so o.dst) σ' R)) :
    AP E n C ops prot pobjs (.act i r) so σ R := by
  intro Hs ws H a w sr wr ag hH hp gm
  have hmd : ∀ i, prot.contains i = true → md.contains i = false := fun i hi => by
    have := (List.all_eq_true.1 hm) i (by simpa using hi)
    simpa using this
  simp only [wpPlan, wpOp, ho]
  rw [if_pos (by simp [Region.wanted, hg])]
  refine .inl (Oper.wp_monoQ ?_ (fun _ _ _ h => h.elim) (h H a w gm))
  rintro a' w' ⟨σ', H', v, hr, gm', ha', hHH, hfr⟩
  have ag' : Agree Hs pobjs ws w' := by
    refine ⟨fun b o hb => gm'.held _ _ (hHH _ _ (hH _ _ hb)), fun p hpp => ?_⟩
    obtain ⟨i, hi, hoi⟩ := hp p hpp
    rw [(hfr i p hoi (hmd i hi)).2]; exact ag.2 p hpp
  refine ⟨ag', hr Hs ws H' a' w' (by rw [ha']; exact sr.era _ _) wr ag' (fun b o hb => hHH _ _ (hH _ _ hb)) (fun p hpp => ?_) gm'⟩
  obtain ⟨i, hi, hoi⟩ := hp p hpp
  exact ⟨i, hi, (hfr i p hoi (hmd i hi)).1⟩

/-- A guarded operation of a plan that is not carried out. -/
theorem AP.skip {ops : Array Oper} {prot : List Nat} {pobjs : List (Nat × Ob)} {so : Slots} {R : St → Prop} {i : Nat} {r : PL} {o : Oper} {j : Nat} {want b : Bool} {t : Tmp} (ho : ops[i]? = some o)
    (hg : o.guard = some (j, want)) (hj : (ops[j]?).bind (·.dst) = some t) (hs : get σ.slots t = some (.v (.bool b))) (hb : b = !want) (hd : ∀ d, o.dst = some d → d < n)
    (k : AP E n C ops prot pobjs r (era so o.dst) (σ.put o.dst (.v undef)) R) : AP E n C ops prot pobjs (.still i r) so σ R := by
  intro Hs ws H a w sr wr ag hH hp gm
  have hy := yielded_of gm.sr hj hs
  have hw : Region.wanted o (yielded ops a.tmps) = false := by subst hb; cases want <;> simp [Region.wanted, hg, hy]
  have hk := k Hs ws H _ w (sr.era o.dst undef) wr ag hH (by cases h : o.dst <;> simpa [St.put, h] using hp) (gm.put (.v undef) hd)
  exact ⟨o, undef, ho, .inr ⟨hw, rfl⟩, ag, hk⟩

theorem AP.skipA {ops : Array Oper} {prot : List Nat} {pobjs : List (Nat × Ob)} {so : Slots} {R : St → Prop} {i : Nat} {r : PL} {o : Oper} {j : Nat} {want b : Bool} {t : Tmp} (ho : ops[i]? = some o)
    (hg : o.guard = some (j, want)) (hj : (ops[j]?).bind (·.dst) = some t) (hs : get σ.slots t = some (.v (.bool b))) (hb : b = !want) (hd : ∀ d, o.dst = some d → d < n)
    (k : AP E n C ops prot pobjs r (era so o.dst) (σ.put o.dst (.v undef)) R) : AP E n C ops prot pobjs (.act i r) so σ R := by
  intro Hs ws H a w sr wr ag hH hp gm
  have hy := yielded_of gm.sr hj hs
  have hw : Region.wanted o (yielded ops a.tmps) = false := by subst hb; cases want <;> simp [Region.wanted, hg, hy]
  have hk := k Hs ws H _ w (sr.era o.dst undef) wr ag hH (by cases h : o.dst <;> simpa [St.put, h] using hp) (gm.put (.v undef) hd)
  simp only [wpPlan, wpOp, ho]
  rw [if_neg (by simp [hw])]
  exact ⟨ag, hk⟩

theorem AP.two {ops : Array Oper} {prot : List Nat} {pobjs : List (Nat × Ob)} {so : Slots} {R : St → Prop} {i j : Nat} {r1 r2 : PL} (h1 : AP E n C ops prot pobjs (.act i r1) so σ R) (h2 : AP E n C ops prot pobjs (.act j r2) so σ R) :
    AP E n C ops prot pobjs (.two i j r1 r2) so σ R :=
  fun Hs ws H a w sr wr ag hH hp gm => ⟨h1 Hs ws H a w sr wr ag hH hp gm, h2 Hs ws H a w sr wr ag hH hp gm⟩

theorem AP.weaken {ops : Array Oper} {pl : PL} {so : Slots} {R : St → Prop} {s : Slots} {ob : List (Nat × Ob)} (hs : Sub s σ.slots) (ho : ob.Sublist σ.objs) (h : AP E n C ops [] [] pl so ⟨s, ob⟩ R) :
    AP E n C ops [] [] pl so σ R :=
  fun Hs ws H a w sr wr ag hH _ gm => h Hs ws H a w sr wr ag hH (by simp) (gm.weaken hs ho)

/-- A guarded operation of a plan that is carried out: as without its guard. -/
theorem AP.oldG {ops : Array Oper} {prot : List Nat} {pobjs : List (Nat × Ob)} {so : Slots} {R : St → Prop} {i : Nat} {r : PL} {op : Op} {x : T} {j : Nat} {want b : Bool} {t : Tmp}
    (ho : ops[i]? = some ⟨dst, op, ty, pos, aft, some (j, want)⟩)
    (hj : (ops[j]?).bind (·.dst) = some t) (hs : get σ.slots t = some (.v (.bool b))) (hb : b = want)
    (hy : Yd E.P n so pobjs ⟨dst, op, ty, pos, aft, none⟩ x) (hd : ∀ d, dst = some d → d < n) (k : AP E n C ops prot pobjs r (putS so dst x) (σ.put dst x) R) :
    AP E n C ops prot pobjs (.still i r) so σ R := by
  intro Hs ws H a w sr wr ag hH hp gm
  obtain ⟨v, hv, hrun⟩ := hy Hs a ws sr wr
  have hyi := yielded_of gm.sr hj hs
  refine ⟨_, v, ho, .inl ⟨by simp [Region.wanted, hyi, hb], hrun⟩, ag, ?_⟩
  exact k Hs ws H _ w (sr.put hv hd) wr ag hH (by cases dst <;> simpa [St.put] using hp) (gm.put (hv.mono hH) hd)

theorem AP.newG {ops : Array Oper} {prot : List Nat} {pobjs : List (Nat × Ob)} {so : Slots} {R : St → Prop} {i : Nat} {r : PL} {op : Op} {x : T} {j : Nat} {want b : Bool} {t : Tmp}
    (ho : ops[i]? = some ⟨dst, op, ty, pos, aft, some (j, want)⟩)
    (hj : (ops[j]?).bind (·.dst) = some t) (hs : get σ.slots t = some (.v (.bool b))) (hb : b = want)
    (hy : Yp E.P n σ.slots ⟨dst, op, ty, pos, aft, none⟩ x) (hd : ∀ d, dst = some d → d < n) (k : AP E n C ops prot pobjs r (era so dst) (σ.put dst x) R) :
    AP E n C ops prot pobjs (.still i r) so σ R := by
  intro Hs ws H a w sr wr ag hH hp gm
  obtain ⟨v, hv, hrun⟩ := hy H a gm.sr
  have hyi := yielded_of gm.sr hj hs
  refine ⟨_, v, ho, .inl ⟨by simp [Region.wanted, hyi, hb], fun w' _ => hrun w'⟩, ag, ?_⟩
  exact k Hs ws H _ w (sr.era _ _) wr ag hH (by cases dst <;> simpa [St.put] using hp) (gm.put hv hd)

theorem AP.actG {ops : Array Oper} {prot : List Nat} {pobjs : List (Nat × Ob)} {so : Slots} {R : St → Prop} {i : Nat} {r : PL} {op : Op} {j : Nat} {want b : Bool} {t : Tmp} (md : List Nat)
    (ho : ops[i]? = some ⟨dst, op, ty, pos, aft, some (j, want)⟩)
    (hj : (ops[j]?).bind (·.dst) = some t) (hs : get σ.slots t = some (.v (.bool b))) (hb : b = want) (hm : (prot.all fun i => !md.contains i) = true)
    (h : AX E n C md ⟨dst, op, ty, pos, aft, none⟩ σ (fun σ' => AP E n C ops prot pobjs r (era so dst) σ' R)) :
    AP E n C ops prot pobjs (.act i r) so σ R := by
  intro Hs ws H a w sr wr ag hH hp gm
  have hmd : ∀ i, prot.contains i = true → md.contains i = false := fun i hi => by
    have := (List.all_eq_true.1 hm) i (by simpa using hi)
    simpa using this
  have hyi := yielded_of gm.sr hj hs
  simp only [wpPlan, wpOp, ho]
  rw [if_pos (by simp [Region.wanted, hyi, hb])]
  have e : ∀ K Q, Oper.wp E.P ⟨dst, op, ty, pos, aft, some (j, want)⟩ a w K Q = Oper.wp E.P ⟨dst, op, ty, pos, aft, none⟩ a w K Q := fun _ _ => rfl
  rw [e]
  refine .inl (Oper.wp_monoQ ?_ (fun _ _ _ h => h.elim) (h H a w gm))
  rintro a' w' ⟨σ', H', v, hr, gm', ha', hHH, hfr⟩
  have ag' : Agree Hs pobjs ws w' := by
    refine ⟨fun b o hb => gm'.held _ _ (hHH _ _ (hH _ _ hb)), fun p hpp => ?_⟩
    obtain ⟨i, hi, hoi⟩ := hp p hpp
    rw [(hfr i p hoi (hmd i hi)).2]; exact ag.2 p hpp
  refine ⟨ag', hr Hs ws H' a' w' (by rw [ha']; exact sr.era _ _) wr ag' (fun b o hb => hHH _ _ (hH _ _ hb)) (fun p hpp => ?_) gm'⟩
  obtain ⟨i, hi, hoi⟩ := hp p hpp
  exact ⟨i, hi, (hfr i p hoi (hmd i hi)).1⟩

theorem Gam.drew {H : GH} {a : Act} {w : World} (gm : Gam n C σ H a w) : Gam n C σ H a w.drew :=
  { gm with
    objs := fun p hp => OR.mono (fun _ _ h => h) rfl (gm.objs p hp)
    held := gm.held, heap := gm.heap, frame := gm.frame }

/-- A region that draws its order. pobjs: the objects that its reads need, at the places prot. -/
theorem AW.regionD {id : Nat} {ops : Array Oper} {Q : Exit → St → Prop} (pl : PL) (prot : List Nat) (pobjs : List (Nat × Ob)) (hB : planB ops pl = true)
    (hp : prot.map (fun i => σ.objs[i]?) = pobjs.map some)
    (h : AP E n C ops prot pobjs pl σ.slots σ (fun σ' => Q .normal σ')) : AW E n C (.region id ops true) σ Q := by
  intro H a w gm
  have hpp : ∀ p, p ∈ pobjs → ∃ i, prot.contains i = true ∧ σ.objs[i]? = some p := by
    intro p hpm
    have : some p ∈ prot.map (fun i => σ.objs[i]?) := by rw [hp]; exact List.mem_map_of_mem hpm
    obtain ⟨i, hi, he⟩ := List.mem_map.1 this
    exact ⟨i, by simpa using hi, he⟩
  refine wp_mono (wp_region_plan (S := Agree H pobjs w.drew) E.mixed pl hB (Q := fun e a' w' => e = .normal ∧ ∃ σ' H', Q .normal σ' ∧ Gam n C σ' H' a' w') ?_ ?_) ?_
  · rintro c a w ⟨h, _⟩; cases h
  · have gd := gm.drew
    exact h H w.drew H a w.drew gd.sr ⟨fun p hpm => by obtain ⟨i, _, he⟩ := hpp p hpm; exact gd.objs p (List.mem_of_getElem? he), gd.held⟩ ⟨gd.held, fun _ _ => rfl⟩ (fun _ _ h => h) hpp gd
  · rintro e a' w' ⟨rfl, σ', H', q, g'⟩
    exact ⟨σ', H', q, g'⟩

end
end Go.Aw
